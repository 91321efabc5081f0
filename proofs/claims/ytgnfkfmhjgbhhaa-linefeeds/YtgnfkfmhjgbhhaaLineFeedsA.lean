/- Part of the value machine, or of a walk by it: lemmas that the claim's last text uses. No conditions. -/
import Derived.Test.YtgnfkfmhjgbhhaaLinePiecesA
import Derived.Test.YtgnfkfmhjgbhhaaLinePassA
import Derived.Test.YtgnfkfmhjgbhhaaChecked
import Derived.KernelRfl
import Derived.Test.YtgnfkfmhjgbhhaaLineC
set_option linter.unusedVariables false
set_option linter.unusedSimpArgs false
set_option linter.unnecessarySimpa false
namespace Go.Ln
open Go Go.Vm
set_option linter.unusedVariables false
/-- a byte of a command, or a literal, as the reference keeps them -/
inductive El where
  | b (c : Nat)
  | l (t : List Nat)
def bsE (t : List Nat) : List El := t.map El.b
def stE (st : St) : List El := bsE st.cur ++ st.rest.flatMap fun p => El.l p.1 :: bsE p.2
theorem stE_cons (c : Nat) (s : List Nat) (r : List (List Nat × List Nat)) : stE ⟨c :: s, r⟩ = .b c :: stE ⟨s, r⟩ := rfl
theorem stE_lit (l t : List Nat) (r : List (List Nat × List Nat)) : stE ⟨[], (l, t) :: r⟩ = .l l :: stE ⟨t, r⟩ := by simp [stE, bsE]
theorem stE_nil : stE ⟨[], []⟩ = [] := rfl
/-- texts with literals between -/
def inter : List (List Nat) → List (List Nat) → List El
  | [], _ => []
  | t :: ts, [] => bsE t ++ inter ts []
  | t :: ts, l :: ls => bsE t ++ .l l :: inter ts ls
theorem inter_put : ∀ {ts ls : List (List Nat)} (a : List Nat), ts.length = ls.length → inter (ts ++ [a]) ls = inter ts ls ++ bsE a
  | [], [], a, _ => by simp [inter]
  | [], _ :: _, a, h => by simp at h
  | _ :: _, [], a, h => by simp at h
  | t :: ts, l :: ls, a, h => by
    have := inter_put (ts := ts) (ls := ls) a (by simpa using h)
    rw [List.cons_append, inter, inter, this]
    simp
theorem inter_lit : ∀ {ts ls : List (List Nat)} (x : List Nat), ts.length = ls.length + 1 → inter ts (ls ++ [x]) = inter ts ls ++ [.l x]
  | [], ls, x, h => by simp at h
  | [t], [], x, _ => by simp [inter]
  | t :: t' :: ts, [], x, h => by simp at h
  | [t], l :: ls, x, h => by simp at h
  | t :: t' :: ts, l :: ls, x, h => by
    have := inter_lit (ts := t' :: ts) (ls := ls) x (by simpa using h)
    rw [List.cons_append, inter, this, inter]
    simp
theorem inter_stE : ∀ {t : List Nat} {ts ls : List (List Nat)}, ts.length = ls.length → inter (t :: ts) ls = stE ⟨t, ls.zip ts⟩
  | t, [], [], _ => by simp [inter, stE]
  | t, [], _ :: _, h => by simp at h
  | t, _ :: _, [], h => by simp at h
  | t, u :: ts, l :: ls, h => by
    have := inter_stE (t := u) (ts := ts) (ls := ls) (by simpa using h)
    rw [inter, this]
    simp [stE]
/-! where literals may stand -/
def pvP (L : List El) (i : Nat) : Bool := match i with
  | 0 => true
  | i + 1 => (match L[i]? with | some (.b d) => decide (d = 32 ∨ d = 40) | _ => false)
/-- the literals from a place on, up to another one, stand where they may -/
def OKP (L : List El) (i j : Nat) : Prop := ∀ k t, i ≤ k → k < j → L[k]? = some (.l t) → pvP L k = true
theorem OKP.nil (L : List El) (i : Nat) : OKP L i i := fun k t h1 h2 => by omega
theorem OKP.trans {L : List El} {i j k : Nat} (a : OKP L i j) (b : OKP L j k) : OKP L i k := fun m t h1 h2 h3 => by
  by_cases h : m < j
  · exact a m t h1 h h3
  · exact b m t (by omega) h2 h3
theorem OKP.bytes {L : List El} {i j : Nat} (h : ∀ k, i ≤ k → k < j → ∃ c, L[k]? = some (.b c)) : OKP L i j := fun k t h1 h2 h3 => by
  obtain ⟨c, hc⟩ := h k h1 h2
  rw [hc] at h3; cases h3
theorem bsE_get {t : List Nat} {k : Nat} (h : k < t.length) : (bsE t)[k]? = some (.b t[k]) := by simp [bsE, h]
theorem bsE_len (t : List Nat) : (bsE t).length = t.length := by simp [bsE]
/-- all of them do, if the parser's first look says so -/
theorem places_ok : ∀ {ts ls : List (List Nat)} (pre : List El) (first : Bool), ts.length = ls.length + 1 → (first = true ↔ pre = []) → (pre ≠ [] → ∃ p x, pre = p ++ [.l x]) →
    (placesM first ts ls = true ↔ OKP (pre ++ inter ts ls) pre.length (pre ++ inter ts ls).length)
  | [], ls, pre, first, h, _, _ => by simp at h
  | [t], [], pre, first, _, _, _ => by
    constructor
    · intro _
      refine OKP.bytes fun k h1 h2 => ?_
      simp only [inter, List.append_nil, List.length_append, bsE_len] at h2 ⊢
      rw [List.getElem?_append_right h1, bsE_get (by omega)]
      exact ⟨_, rfl⟩
    · intro _; rfl
  | t :: t' :: ts, [], pre, first, h, _, _ => by simp at h
  | [t], l :: ls, pre, first, h, _, _ => by simp at h
  | t :: t' :: ts, l :: ls, pre, first, h, hf, hp => by
    have ih := places_ok (ts := t' :: ts) (ls := ls) (pre ++ bsE t ++ [.l l]) false (by simpa using h) (by simp) (fun _ => ⟨pre ++ bsE t, l, rfl⟩)
    have e1 : pre ++ inter (t :: t' :: ts) (l :: ls) = pre ++ bsE t ++ [.l l] ++ inter (t' :: ts) ls := by simp [inter]
    have hm : placesM first (t :: t' :: ts) (l :: ls) = ((match t.getLast? with | none => first | some c => decide (c = 32 ∨ c = 40)) && placesM false (t' :: ts) ls) := rfl
    rw [hm, e1, Bool.and_eq_true, ih]
    have hlen : (pre ++ bsE t ++ [El.l l]).length = pre.length + t.length + 1 := by simp [bsE_len]; omega
    obtain ⟨R, hR⟩ : ∃ R, R = inter (t' :: ts) ls := ⟨_, rfl⟩
    rw [← hR]
    have gpre : ∀ k, k < pre.length → (pre ++ bsE t ++ [.l l] ++ R)[k]? = pre[k]? := fun k hk => by
      rw [List.append_assoc, List.append_assoc, List.getElem?_append_left hk]
    have gt : ∀ k (hk : k < t.length), (pre ++ bsE t ++ [.l l] ++ R)[pre.length + k]? = some (.b t[k]) := fun k hk => by
      rw [List.append_assoc, List.append_assoc, List.getElem?_append_right (by omega), Nat.add_sub_cancel_left, List.getElem?_append_left (by rw [bsE_len]; exact hk), bsE_get hk]
    have gl : (pre ++ bsE t ++ [.l l] ++ R)[pre.length + t.length]? = some (.l l) := by
      rw [List.getElem?_append_left (by rw [hlen]; omega), List.getElem?_append_right (by simp [bsE_len])]
      simp [bsE_len]
    have key : (match t.getLast? with | none => first | some c => decide (c = 32 ∨ c = 40)) = pvP (pre ++ bsE t ++ [.l l] ++ R) (pre.length + t.length) := by
      cases ht : t.length with
      | zero =>
        have : t = [] := List.length_eq_zero_iff.1 ht
        subst this
        cases hpl : pre.length with
        | zero =>
          have : pre = [] := List.length_eq_zero_iff.1 hpl
          show first = true
          exact hf.2 this
        | succ n =>
          have hne : pre ≠ [] := fun e => by rw [e] at hpl; simp at hpl
          obtain ⟨p, x, hx⟩ := hp hne
          have hfirst : first = false := by
            cases hfi : first with
            | false => rfl
            | true => exact absurd (hf.1 hfi) hne
          have hlast : pre[n]? = some (.l x) := by
            rw [hx] at hpl ⊢
            simp only [List.length_append, List.length_cons, List.length_nil] at hpl
            rw [List.getElem?_append_right (by omega), show n - p.length = 0 by omega]
            rfl
          show first = (match (pre ++ bsE [] ++ [El.l l] ++ R)[n + 0]? with | some (El.b d) => decide (d = 32 ∨ d = 40) | _ => false)
          rw [Nat.add_zero, gpre n (by omega), hlast, hfirst]
      | succ m =>
        have hg := gt m (by omega)
        have hl : t.getLast? = some t[m] := by rw [List.getLast?_eq_getElem?, show t.length - 1 = m by omega, List.getElem?_eq_getElem (by omega)]
        rw [hl]
        show decide (t[m] = 32 ∨ t[m] = 40) = (match (pre ++ bsE t ++ [El.l l] ++ R)[pre.length + m]? with | some (El.b d) => decide (d = 32 ∨ d = 40) | _ => false)
        rw [hg]
    rw [key]
    constructor
    · rintro ⟨a1, a2⟩ k u h1 h2 h3
      by_cases hk1 : k < pre.length + t.length
      · have := gt (k - pre.length) (by omega)
        rw [show pre.length + (k - pre.length) = k by omega] at this
        rw [this] at h3; cases h3
      · by_cases hk2 : k = pre.length + t.length
        · rw [hk2]; exact a1
        · exact a2 k u (by rw [hlen]; omega) h2 h3
    · intro a
      refine ⟨a _ l (by omega) (by simp only [List.length_append, bsE_len, List.length_cons, List.length_nil]; omega) gl, fun k u h1 h2 h3 => a k u (by rw [hlen] at h1; omega) h2 h3⟩
/-- the parser's answer, said by the list as a whole -/
theorem parse_some {t : List Nat} {ts ls : List (List Nat)} {ws : Wds} (hn : ts.length = ls.length) (h1 : loopW (wordM 8) (St.size ⟨t, ls.zip ts⟩ + 1) ⟨t, ls.zip ts⟩ = some (ws, ⟨[], []⟩)) (h2 : OKP (inter (t :: ts) ls) 0 (inter (t :: ts) ls).length) : parseM (t :: ts) ls = some ws := by
  have hp := (places_ok (ts := t :: ts) (ls := ls) [] true (by simp [hn]) (by simp) (fun h => absurd rfl h)).2 (by simpa using h2)
  unfold parseM
  simp only []
  rw [if_pos hp, h1]
  simp
theorem parse_none {t : List Nat} {ts ls : List (List Nat)} (hn : ts.length = ls.length) (h : loopW (wordM 8) (St.size ⟨t, ls.zip ts⟩ + 1) ⟨t, ls.zip ts⟩ = none ∨ (∃ ws st, loopW (wordM 8) (St.size ⟨t, ls.zip ts⟩ + 1) ⟨t, ls.zip ts⟩ = some (ws, st) ∧ stE st ≠ []) ∨ ¬ OKP (inter (t :: ts) ls) 0 (inter (t :: ts) ls).length) : parseM (t :: ts) ls = none := by
  have hp := places_ok (ts := t :: ts) (ls := ls) [] true (by simp [hn]) (by simp) (fun h => absurd rfl h)
  unfold parseM
  simp only []
  by_cases hpl : placesM true (t :: ts) ls = true
  · rw [if_pos hpl]
    rcases h with h | ⟨ws, st, h, hst⟩ | h
    · rw [h]
    · rw [h]
      simp only []
      rw [if_neg]
      rintro ⟨h1, h2⟩
      obtain ⟨cur, rest⟩ := st
      simp only [] at h1 h2
      subst h1; subst h2
      exact hst rfl
    · exact absurd (by simpa using hp.1 hpl) h
  · rw [if_neg hpl]
end Go.Ln

noncomputable section
namespace Go.Proofs.Ytgnfkfmhjgbhhaa
open Go Go.Proofs Go.Vm
set_option linter.unusedVariables false
set_option maxRecDepth 100000
/-! 38: pillarbox/pillarboxref1.Number -/
def Tryk38 : Nat → Bool := fun t => memN t [0, 2, 3, 4, 5, 22, 26, 38, 48]
def Tryr38_0 (fr : F) (h : Hp) : Out :=
  Out.nor (T.set (some (.bool false)) (Pos.of 3) (T.set (some (.int .i64 0)) (Pos.of 2) fr)) h
def Tryr38_1 (fr : F) (h : Hp) : Out :=
  gtO (T.get fr (Pos.of 0)) fun v0 => bndO (oBin .eql .none v0 (.str []) h) fun v7 h1 =>
  ifB v7 (Out.nor (T.set (some (.bool true)) (Pos.of 22) fr) h1) (bndO (oLenK 1 v0 h1) fun v10 h4 =>
  bndO (oBin .gtr .none v10 (.int .i64 10) h4) fun v11 h5 =>
  ifB v11 (Out.nor (T.set (some (.bool true)) (Pos.of 22) fr) h5) (bndO (oLenK 1 v0 h5) fun v15 h9 =>
  bndO (oBin .gtr .none v15 (.int .i64 1) h9) fun v16 h10 =>
  ifB v16 (bndO (oIdxStr v0 (.int .i64 0) h10) fun v19 h13 =>
  bndO (oBin .eql .none v19 (.int .u8 48) h13) fun v20 h14 =>
  Out.nor (T.set (some v20) (Pos.of 22) fr) h14) (Out.nor (T.set (some (.bool false)) (Pos.of 22) fr) h10)))
def Tryr38_2 (fr : F) (h : Hp) : Out :=
  Out.nor (T.set (some (.bool false)) (Pos.of 3) (T.set (some (.int .i64 0)) (Pos.of 2) fr)) h
def Tryr38_3 (fr : F) (h : Hp) : Out :=
  Out.nor (T.set (some (.int .i64 0)) (Pos.of 4) fr) h
def Tryr38_4 (fr : F) (h : Hp) : Out :=
  Out.nor (T.set (some (.int .i64 0)) (Pos.of 5) fr) h
def Tryr38_5 (fr : F) (h : Hp) : Out :=
  gtO (T.get fr (Pos.of 5)) fun v5 => gtO (T.get fr (Pos.of 0)) fun v0 => bndO (oLenK 1 v0 h) fun v25 h2 =>
  bndO (oBin .lss .none v5 v25 h2) fun v26 h3 =>
  Out.nor (T.set (some v26) (Pos.of 26) fr) h3
def Tryr38_7 (fr : F) (h : Hp) : Out :=
  gtO (T.get fr (Pos.of 0)) fun v0 => gtO (T.get fr (Pos.of 5)) fun v5 => bndO (oIdxStr v0 v5 h) fun v31 h2 =>
  bndO (oBin .lss .none v31 (.int .u8 48) h2) fun v32 h3 =>
  ifB v32 (Out.nor (T.set (some (.bool true)) (Pos.of 38) fr) h3) (bndO (oIdxStr v0 v5 h3) fun v36 h7 =>
  bndO (oBin .gtr .none v36 (.int .u8 57) h7) fun v37 h8 =>
  Out.nor (T.set (some v37) (Pos.of 38) fr) h8)
def Tryr38_8 (fr : F) (h : Hp) : Out :=
  Out.nor (T.set (some (.bool false)) (Pos.of 3) (T.set (some (.int .i64 0)) (Pos.of 2) fr)) h
def Tryr38_9 (fr : F) (h : Hp) : Out :=
  gtO (T.get fr (Pos.of 4)) fun v4 => bndO (oBin .mul .none (.int .i64 10) v4 h) fun v40 h1 =>
  gtO (T.get fr (Pos.of 0)) fun v0 => gtO (T.get fr (Pos.of 5)) fun v5 => bndO (oIdxStr v0 v5 h1) fun v43 h4 =>
  bndO (oBin .sub .none v43 (.int .u8 48) h4) fun v44 h5 =>
  bndO (oConvInt .i64 v44 h5) fun v45 h6 =>
  bndO (oBin .add .none v40 v45 h6) fun v46 h7 =>
  Out.nor (T.set (some v46) (Pos.of 4) fr) h7
def Tryr38_6 (fr : F) (h : Hp) : Out :=
  gtO (T.get fr (Pos.of 5)) fun v5 => bndO (oBin .add .none v5 (.int .i64 1) h) fun v28 h1 =>
  Out.nor (T.set (some v28) (Pos.of 5) fr) h1
def Tryr38_10 (fr : F) (h : Hp) : Out :=
  gtO (T.get fr (Pos.of 4)) fun v4 => bndO (oBin .gtr .none v4 (.int .i64 4294967295) h) fun v48 h1 =>
  Out.nor (T.set (some v48) (Pos.of 48) fr) h1
def Tryr38_11 (fr : F) (h : Hp) : Out :=
  Out.nor (T.set (some (.bool false)) (Pos.of 3) (T.set (some (.int .i64 0)) (Pos.of 2) fr)) h
def Tryr38_12 (fr : F) (h : Hp) : Out :=
  gtO (T.get fr (Pos.of 4)) fun v4 => Out.nor (T.set (some (.bool true)) (Pos.of 3) (T.set (some v4) (Pos.of 2) fr)) h
def Tryb38_5 : F → Hp → Out := (seqO (seqO Tryr38_5 (cndX (.tmp 26) Out.nor (Out.ex 0))) (seqO (blkO 1 (seqO (seqO Tryr38_7 (cndX (.tmp 38) (seqO Tryr38_8 Out.ret) Out.nor)) Tryr38_9)) Tryr38_6))
def Tryd38 : F → Hp → Out := (seqO Tryr38_0 (seqO (seqO Tryr38_1 (cndX (.tmp 22) (seqO Tryr38_2 Out.ret) Out.nor)) (seqO Tryr38_3 (seqO (seqO Tryr38_4 (blkO 0 (loopO Tryb38_5 lf))) (seqO (seqO Tryr38_10 (cndX (.tmp 48) (seqO Tryr38_11 Out.ret) Out.nor)) (seqO Tryr38_12 Out.ret))))))
def Trye38 : FuncId → Option Fun := fun f => none
def Tryp38 : Plans := fun id => none
def TryF38 : Fun := funX Try.prog 0 Tryk38 Trye38 Tryp38 lf Try.f38
theorem TryD38 : denX Try.prog 0 Try.f38.ntmps Tryk38 Trye38 Tryp38 lf (codeOf Try.f38) = Tryd38 := by kernel_rfl
theorem TryF38_eq (x0 : V) (h : Hp) : TryF38 [x0] h = outR Try.prog [.tmp 2, .tmp 3] (Tryd38 (T.set (some x0) (Pos.of 0) T.nil) h) := funX_eq (by kernel_rfl) TryD38 (by kernel_rfl) h
theorem Tryc38 : CallOk Try.prog 0 38 TryF38 := funX_ok Trymix callsOk_0 Try.func38 (by kernel_rfl)

/-! 29: pillarbox/pillarboxref22.literal -/
def Tryk29 : Nat → Bool := fun t => memN t [0, 2, 3, 4, 5, 6, 7, 8, 9, 10, 20, 31, 35, 53]
def Tryr29_0 (fr : F) (h : Hp) : Out :=
  Out.nor (T.set (some (.bool false)) (Pos.of 5) (T.set (some (.int .i64 0)) (Pos.of 4) (T.set (some (.bool false)) (Pos.of 3) (T.set (some (.int .i64 0)) (Pos.of 2) fr)))) h
def Tryr29_1 (fr : F) (h : Hp) : Out :=
  gtO (T.get fr (Pos.of 0)) fun v0 => bndO (oBin .eql .none v0 (.str []) h) fun v12 h1 =>
  ifB v12 (Out.nor (T.set (some (.bool true)) (Pos.of 20) fr) h1) (bndO (oLenK 1 v0 h1) fun v16 h5 =>
  bndO (oBin .sub .none v16 (.int .i64 1) h5) fun v17 h6 =>
  bndO (oIdxStr v0 v17 h6) fun v18 h7 =>
  bndO (oBin .neq .none v18 (.int .u8 125) h7) fun v19 h8 =>
  Out.nor (T.set (some v19) (Pos.of 20) fr) h8)
def Tryr29_2 (fr : F) (h : Hp) : Out :=
  Out.nor (T.set (some (.bool false)) (Pos.of 5) (T.set (some (.int .i64 0)) (Pos.of 4) (T.set (some (.bool false)) (Pos.of 3) (T.set (some (.int .i64 0)) (Pos.of 2) fr)))) h
def Tryr29_3 (fr : F) (h : Hp) : Out :=
  gtO (T.get fr (Pos.of 0)) fun v0 => bndO (oLenK 1 v0 h) fun v22 h1 =>
  bndO (oBin .sub .none v22 (.int .i64 1) h1) fun v23 h2 =>
  Out.nor (T.set (some v23) (Pos.of 6) fr) h2
def Tryr29_4 (fr : F) (h : Hp) : Out :=
  gtO (T.get fr (Pos.of 6)) fun v6 => bndO (oBin .geq .none v6 (.int .i64 0) h) fun v25 h1 =>
  ifB v25 (gtO (T.get fr (Pos.of 0)) fun v0 => bndO (oIdxStr v0 v6 h1) fun v29 h5 =>
  bndO (oBin .neq .none v29 (.int .u8 123) h5) fun v30 h6 =>
  Out.nor (T.set (some v30) (Pos.of 31) fr) h6) (Out.nor (T.set (some (.bool false)) (Pos.of 31) fr) h1)
def Tryr29_5 (fr : F) (h : Hp) : Out :=
  gtO (T.get fr (Pos.of 6)) fun v6 => bndO (oBin .sub .none v6 (.int .i64 1) h) fun v33 h1 =>
  Out.nor (T.set (some v33) (Pos.of 6) fr) h1
def Tryr29_6 (fr : F) (h : Hp) : Out :=
  gtO (T.get fr (Pos.of 6)) fun v6 => bndO (oBin .lss .none v6 (.int .i64 0) h) fun v35 h1 =>
  Out.nor (T.set (some v35) (Pos.of 35) fr) h1
def Tryr29_7 (fr : F) (h : Hp) : Out :=
  Out.nor (T.set (some (.bool false)) (Pos.of 5) (T.set (some (.int .i64 0)) (Pos.of 4) (T.set (some (.bool false)) (Pos.of 3) (T.set (some (.int .i64 0)) (Pos.of 2) fr)))) h
def Tryr29_8 (fr : F) (h : Hp) : Out :=
  gtO (T.get fr (Pos.of 0)) fun v0 => gtO (T.get fr (Pos.of 6)) fun v6 => bndO (oBin .add .none v6 (.int .i64 1) h) fun v38 h2 =>
  bndO (oLenK 1 v0 h2) fun v40 h4 =>
  bndO (oBin .sub .none v40 (.int .i64 1) h4) fun v41 h5 =>
  bndO (oSliceStr v0 (some v38) (some v41) h5) fun v42 h6 =>
  Out.nor (T.set (some v42) (Pos.of 7) fr) h6
def Tryr29_9 (fr : F) (h : Hp) : Out :=
  gtO (T.get fr (Pos.of 7)) fun v7 => bndO (oBin .neq .none v7 (.str []) h) fun v44 h1 =>
  ifB v44 (bndO (oLenK 1 v7 h1) fun v48 h5 =>
  bndO (oBin .sub .none v48 (.int .i64 1) h5) fun v49 h6 =>
  bndO (oIdxStr v7 v49 h6) fun v50 h7 =>
  bndO (oBin .eql .none v50 (.int .u8 43) h7) fun v51 h8 =>
  Out.nor (T.set (some v51) (Pos.of 8) fr) h8) (Out.nor (T.set (some (.bool false)) (Pos.of 8) fr) h1)
def Tryr29_10 (fr : F) (h : Hp) : Out :=
  gtO (T.get fr (Pos.of 8)) fun v8 => Out.nor (T.set (some v8) (Pos.of 53) fr) h
def Tryr29_11 (fr : F) (h : Hp) : Out :=
  gtO (T.get fr (Pos.of 7)) fun v7 => bndO (oLenK 1 v7 h) fun v56 h2 =>
  bndO (oBin .sub .none v56 (.int .i64 1) h2) fun v57 h3 =>
  bndO (oSliceStr v7 none (some v57) h3) fun v58 h4 =>
  Out.nor (T.set (some v58) (Pos.of 7) fr) h4
def Tryr29_12 (fr : F) (h : Hp) : Out :=
  gtO (T.get fr (Pos.of 7)) fun v7 => bndO (TryF38 [v7] h) fun v61 h1 =>
  bndO (oExtract 0 v61 h1) fun v62 h3 =>
  bndO (oExtract 1 v61 h3) fun v63 h4 =>
  Out.nor (T.set (some v63) (Pos.of 10) (T.set (some v62) (Pos.of 9) fr)) h4
def Tryr29_13 (fr : F) (h : Hp) : Out :=
  gtO (T.get fr (Pos.of 9)) fun v9 => gtO (T.get fr (Pos.of 8)) fun v8 => gtO (T.get fr (Pos.of 6)) fun v6 => gtO (T.get fr (Pos.of 10)) fun v10 => Out.nor (T.set (some v10) (Pos.of 5) (T.set (some v6) (Pos.of 4) (T.set (some v8) (Pos.of 3) (T.set (some v9) (Pos.of 2) fr)))) h
def Tryb29_4 : F → Hp → Out := (seqO (seqO Tryr29_4 (cndX (.tmp 31) Out.nor (Out.ex 0))) (blkO 1 Tryr29_5))
def Tryd29 : F → Hp → Out := (seqO Tryr29_0 (seqO (seqO Tryr29_1 (cndX (.tmp 20) (seqO Tryr29_2 Out.ret) Out.nor)) (seqO Tryr29_3 (seqO (blkO 0 (loopO Tryb29_4 lf)) (seqO (seqO Tryr29_6 (cndX (.tmp 35) (seqO Tryr29_7 Out.ret) Out.nor)) (seqO Tryr29_8 (seqO Tryr29_9 (seqO (seqO Tryr29_10 (cndX (.tmp 53) Tryr29_11 Out.nor)) (seqO Tryr29_12 (seqO Tryr29_13 Out.ret))))))))))
def Trye29 : FuncId → Option Fun := fun f => match Nat.beq f 38 with | true => some TryF38 | false => none
def Tryp29 : Plans := fun id => none
def TryF29 : Fun := funX Try.prog 0 Tryk29 Trye29 Tryp29 lf Try.f29
theorem TryD29 : denX Try.prog 0 Try.f29.ntmps Tryk29 Trye29 Tryp29 lf (codeOf Try.f29) = Tryd29 := by kernel_rfl
theorem TryF29_eq (x0 : V) (h : Hp) : TryF29 [x0] h = outR Try.prog [.tmp 2, .tmp 3, .tmp 4, .tmp 5] (Tryd29 (T.set (some x0) (Pos.of 0) T.nil) h) := funX_eq (by kernel_rfl) TryD29 (by kernel_rfl) h
theorem Tryc29 : CallOk Try.prog 0 29 TryF29 := funX_ok Trymix (callsOk_cons Tryc38 callsOk_0) Try.func29 (by kernel_rfl)

/-! 30: (*pillarbox/pillarboxref22.Reader).put -/
def Tryk30 : Nat → Bool := fun t => memN t [0, 1, 4, 8]
def Tryr30_0 (fr : F) (h : Hp) : Out :=
  Out.nor (T.set (some (.int .i64 0)) (Pos.of 4) fr) h
def Tryr30_1 (fr : F) (h : Hp) : Out :=
  gtO (T.get fr (Pos.of 4)) fun v4 => gtO (T.get fr (Pos.of 1)) fun v1 => bndO (oLenK 1 v1 h) fun v7 h2 =>
  bndO (oBin .lss .none v4 v7 h2) fun v8 h3 =>
  Out.nor (T.set (some v8) (Pos.of 8) fr) h3
def Tryr30_3 (fr : F) (h : Hp) : Out :=
  gtO (T.get fr (Pos.of 0)) fun w1_0 => bndO (oNilCheck w1_0 (bumpH 1 h)) fun v13 _ =>
  bndO (oFieldAddr 2 v13 (bumpH 1 h)) fun v14 _ =>
  bndO (oLoad1 v14 (bumpH 1 h)) fun v15 _ =>
  gtO (T.get fr (Pos.of 1)) fun w5_1 => gtO (T.get fr (Pos.of 4)) fun w6_4 => bndO (oIdxStr w5_1 w6_4 (bumpH 1 h)) fun v18 _ =>
  bndO (oBuild [(.int .u8 0), (.bool false), (.str [])] [(0, 1, v18)] (bumpH 1 h)) fun v19 _ =>
  alcO (aBuildSlice [(.int .u8 0), (.bool false), (.str [])] 1 [(0, 3, v19)]) fun ob9 mk9 =>
  bndO (oAppend 3 24 v15 (mk9 (Hp.next h)) (Hp.put (bumpH 1 h) (Hp.next h) (some ob9))) fun v21 h10 =>
  gtO (T.get fr (Pos.of 0)) fun w0_0 => bndO (oNilCheck w0_0 h10) fun v22 _ =>
  bndO (oFieldAddr 2 v22 h10) fun v23 _ =>
  bndO (oStore 1 v23 v21 h10) fun _u13 h13 =>
  Out.nor fr h13
def Tryr30_2 (fr : F) (h : Hp) : Out :=
  gtO (T.get fr (Pos.of 4)) fun v4 => bndO (oBin .add .none v4 (.int .i64 1) h) fun v10 h1 =>
  Out.nor (T.set (some v10) (Pos.of 4) fr) h1
def Tryb30_1 : F → Hp → Out := (seqO (seqO Tryr30_1 (cndX (.tmp 8) Out.nor (Out.ex 0))) (seqO (blkO 1 Tryr30_3) Tryr30_2))
def Tryd30 : F → Hp → Out := (seqO Tryr30_0 (blkO 0 (loopO Tryb30_1 lf)))
def Trye30 : FuncId → Option Fun := fun f => none
def Tryp30 : Plans := fun id => match Nat.beq id 3 with | true => some ([0, 0, 2, 6, 14, 0, 0, 96, 224, 480, 1022, 2047, 4095, 8191], [(1, .pure), (2, .pure), (3, .pure), (4, .read 0), (5, .pure), (6, .pure), (7, .pure), (8, .pure), (9, .alloc), (10, .heavy), (0, .pure), (11, .pure), (12, .pure), (13, .heavy)]) | false => none
def TryF30 : Fun := funX Try.prog 0 Tryk30 Trye30 Tryp30 lf Try.f30
theorem TryD30 : denX Try.prog 0 Try.f30.ntmps Tryk30 Trye30 Tryp30 lf (codeOf Try.f30) = Tryd30 := by kernel_rfl
theorem TryF30_eq (x0 x1 : V) (h : Hp) : TryF30 [x0, x1] h = outR Try.prog [] (Tryd30 (T.set (some x1) (Pos.of 1) (T.set (some x0) (Pos.of 0) T.nil)) h) := funX_eq (by kernel_rfl) TryD30 (by kernel_rfl) h
theorem Tryc30 : CallOk Try.prog 0 30 TryF30 := funX_ok Trymix callsOk_0 Try.func30 (by kernel_rfl)

/-! 40: (*pillarbox/pillarboxref22.parser).is -/
def Tryk40 : Nat → Bool := fun t => memN t [0, 1, 4]
def Tryr40_0 (fr : F) (h : Hp) : Out :=
  Out.nor (T.set (some (.bool false)) (Pos.of 4) fr) h
def Tryr40_1 (fr : F) (h : Hp) : Out :=
  gtO (T.get fr (Pos.of 0)) fun w0_0 => bndO (oNilCheck w0_0 (bumpH 0 h)) fun v6 _ =>
  bndO (oFieldAddr 1 v6 (bumpH 0 h)) fun v7 _ =>
  bndO (oLoad1 v7 (bumpH 0 h)) fun v8 _ =>
  gtO (T.get fr (Pos.of 0)) fun w4_0 => bndO (oNilCheck w4_0 (bumpH 0 h)) fun v10 _ =>
  bndO (oFieldAddr 0 v10 (bumpH 0 h)) fun v11 _ =>
  bndO (oLoad1 v11 (bumpH 0 h)) fun v12 _ =>
  bndO (oLenK 2 v12 (bumpH 0 h)) fun v13 _ =>
  bndO (oBin .lss .none v8 v13 (bumpH 0 h)) fun v14 _ =>
  ifB v14 (gtO (T.get fr (Pos.of 0)) fun w11_0 => bndO (oNilCheck w11_0 (bumpH 0 h)) fun v17 _ =>
  bndO (oFieldAddr 0 v17 (bumpH 0 h)) fun v18 _ =>
  bndO (oLoad1 v18 (bumpH 0 h)) fun v19 _ =>
  gtO (T.get fr (Pos.of 0)) fun w15_0 => bndO (oNilCheck w15_0 (bumpH 0 h)) fun v21 _ =>
  bndO (oFieldAddr 1 v21 (bumpH 0 h)) fun v22 _ =>
  bndO (oLoad1 v22 (bumpH 0 h)) fun v23 _ =>
  bndO (oIdxS 3 v19 v23 (bumpH 0 h)) fun v24 _ =>
  bndO (oFieldAddr 1 v24 (bumpH 0 h)) fun v25 _ =>
  bndO (oLoad1 v25 (bumpH 0 h)) fun v26 _ =>
  bndO (oUn .not v26 (bumpH 0 h)) fun v27 _ =>
  ifB v27 (gtO (T.get fr (Pos.of 0)) fun w25_0 => bndO (oNilCheck w25_0 (bumpH 0 h)) fun v31 _ =>
  bndO (oFieldAddr 0 v31 (bumpH 0 h)) fun v32 _ =>
  bndO (oLoad1 v32 (bumpH 0 h)) fun v33 _ =>
  gtO (T.get fr (Pos.of 0)) fun w29_0 => bndO (oNilCheck w29_0 (bumpH 0 h)) fun v35 _ =>
  bndO (oFieldAddr 1 v35 (bumpH 0 h)) fun v36 _ =>
  bndO (oLoad1 v36 (bumpH 0 h)) fun v37 _ =>
  bndO (oIdxS 3 v33 v37 (bumpH 0 h)) fun v38 _ =>
  bndO (oFieldAddr 0 v38 (bumpH 0 h)) fun v39 _ =>
  bndO (oLoad1 v39 (bumpH 0 h)) fun v40 _ =>
  gtO (T.get fr (Pos.of 1)) fun w36_1 => bndO (oBin .eql .none v40 w36_1 (bumpH 0 h)) fun v42 _ =>
  Out.nor (T.set (some v42) (Pos.of 4) fr) (bumpH 0 h)) (Out.nor (T.set (some (.bool false)) (Pos.of 4) fr) (bumpH 0 h))) (Out.nor (T.set (some (.bool false)) (Pos.of 4) fr) (bumpH 0 h))
def Tryd40 : F → Hp → Out := (seqO Tryr40_0 (seqO Tryr40_1 Out.ret))
def Trye40 : FuncId → Option Fun := fun f => none
def Tryp40 : Plans := fun id => match Nat.beq id 1 with | true => some ([0, 1, 3, 7, 0, 16, 48, 112, 240, 511, 1023, 2047, 4095, 8191, 16383, 2047, 34815, 100351, 231423, 524287, 1048575, 2097151, 4194303, 8388607, 16777215, 33554431, 67108863, 134217727, 268435455, 33554431, 570425343, 1644167167, 3791650815, 8589934591, 17179869183, 34359738367, 33554431, 137438953471, 274877906943, 549755813887], [(0, .pure), (1, .pure), (2, .pure), (3, .read 0), (4, .pure), (5, .pure), (6, .pure), (7, .read 0), (8, .pure), (9, .pure), (10, .pure), (11, .pure), (12, .pure), (13, .pure), (14, .read 0), (15, .pure), (16, .pure), (17, .pure), (18, .read 0), (19, .pure), (20, .pure), (21, .read 0), (22, .pure), (23, .pure), (24, .pure), (25, .pure), (26, .pure), (27, .pure), (28, .read 0), (29, .pure), (30, .pure), (31, .pure), (32, .read 0), (33, .pure), (34, .pure), (35, .read 0), (36, .pure), (37, .pure), (38, .pure), (39, .pure)]) | false => none
def TryF40 : Fun := funX Try.prog 0 Tryk40 Trye40 Tryp40 lf Try.f40
theorem TryD40 : denX Try.prog 0 Try.f40.ntmps Tryk40 Trye40 Tryp40 lf (codeOf Try.f40) = Tryd40 := by kernel_rfl
theorem TryF40_eq (x0 x1 : V) (h : Hp) : TryF40 [x0, x1] h = outR Try.prog [.tmp 4] (Tryd40 (T.set (some x1) (Pos.of 1) (T.set (some x0) (Pos.of 0) T.nil)) h) := funX_eq (by kernel_rfl) TryD40 (by kernel_rfl) h
theorem Tryc40 : CallOk Try.prog 0 40 TryF40 := funX_ok Trymix callsOk_0 Try.func40 (by kernel_rfl)

/-! 47: pillarbox/pillarboxref22.atom -/
def Tryk47 : Nat → Bool := fun t => memN t [0, 2]
def Tryr47_0 (fr : F) (h : Hp) : Out :=
  Out.nor (T.set (some (.bool false)) (Pos.of 2) fr) h
def Tryr47_1 (fr : F) (h : Hp) : Out :=
  gtO (T.get fr (Pos.of 0)) fun v0 => bndO (oBin .geq .none v0 (.int .u8 33) h) fun v4 h1 =>
  ifB v4 (bndO (oBin .leq .none v0 (.int .u8 126) h1) fun v7 h4 =>
  ifB v7 (bndO (oBin .neq .none v0 (.int .u8 40) h4) fun v11 h8 =>
  ifB v11 (bndO (oBin .neq .none v0 (.int .u8 41) h8) fun v15 h12 =>
  ifB v15 (bndO (oBin .neq .none v0 (.int .u8 34) h12) fun v19 h16 =>
  ifB v19 (bndO (oBin .neq .none v0 (.int .u8 123) h16) fun v23 h20 =>
  Out.nor (T.set (some v23) (Pos.of 2) fr) h20) (Out.nor (T.set (some (.bool false)) (Pos.of 2) fr) h16)) (Out.nor (T.set (some (.bool false)) (Pos.of 2) fr) h12)) (Out.nor (T.set (some (.bool false)) (Pos.of 2) fr) h8)) (Out.nor (T.set (some (.bool false)) (Pos.of 2) fr) h4)) (Out.nor (T.set (some (.bool false)) (Pos.of 2) fr) h1)
def Tryd47 : F → Hp → Out := (seqO Tryr47_0 (seqO Tryr47_1 Out.ret))
def Trye47 : FuncId → Option Fun := fun f => none
def Tryp47 : Plans := fun id => none
def TryF47 : Fun := funX Try.prog 0 Tryk47 Trye47 Tryp47 lf Try.f47
theorem TryD47 : denX Try.prog 0 Try.f47.ntmps Tryk47 Trye47 Tryp47 lf (codeOf Try.f47) = Tryd47 := by kernel_rfl
theorem TryF47_eq (x0 : V) (h : Hp) : TryF47 [x0] h = outR Try.prog [.tmp 2] (Tryd47 (T.set (some x0) (Pos.of 0) T.nil) h) := funX_eq (by kernel_rfl) TryD47 (by kernel_rfl) h
theorem Tryc47 : CallOk Try.prog 0 47 TryF47 := funX_ok Trymix callsOk_0 Try.func47 (by kernel_rfl)

/-! 46: (*pillarbox/pillarboxref22.parser).quoted -/
def Tryk46 : Nat → Bool := fun t => memN t [0, 2, 3, 4, 49, 62, 77, 93, 110]
def Tryr46_0 (fr : F) (h : Hp) : Out :=
  bndO (oNew [(.int .i64 0), (.str []), .nils] h) fun v2 h0 =>
  Out.nor (T.set (some v2) (Pos.of 2) fr) h0
def Tryr46_1 (fr : F) (h : Hp) : Out :=
  Out.nor (T.set (some .nils) (Pos.of 3) fr) h
def Tryr46_2 (fr : F) (h : Hp) : Out :=
  gtO (T.get fr (Pos.of 0)) fun v0 => bndO (oNilCheck v0 h) fun v6 h1 =>
  bndO (oFieldAddr 1 v6 h1) fun v7 h2 =>
  bndO (oLoad1 v7 h2) fun v8 h3 =>
  bndO (oBin .add .none v8 (.int .i64 1) h3) fun v9 h4 =>
  bndO (oNilCheck v0 h4) fun v10 h5 =>
  bndO (oFieldAddr 1 v10 h5) fun v11 h6 =>
  bndO (oStore 1 v11 v9 h6) fun _u7 h7 =>
  Out.nor fr h7
def Tryr46_3 (fr : F) (h : Hp) : Out :=
  gtO (T.get fr (Pos.of 0)) fun w0_0 => bndO (oNilCheck w0_0 (bumpH 0 h)) fun v13 _ =>
  bndO (oFieldAddr 1 v13 (bumpH 0 h)) fun v14 _ =>
  bndO (oLoad1 v14 (bumpH 0 h)) fun v15 _ =>
  gtO (T.get fr (Pos.of 0)) fun w4_0 => bndO (oNilCheck w4_0 (bumpH 0 h)) fun v17 _ =>
  bndO (oFieldAddr 0 v17 (bumpH 0 h)) fun v18 _ =>
  bndO (oLoad1 v18 (bumpH 0 h)) fun v19 _ =>
  bndO (oLenK 2 v19 (bumpH 0 h)) fun v20 _ =>
  bndO (oBin .lss .none v15 v20 (bumpH 0 h)) fun v21 _ =>
  ifB v21 (gtO (T.get fr (Pos.of 0)) fun w11_0 => bndO (oNilCheck w11_0 (bumpH 0 h)) fun v24 _ =>
  bndO (oFieldAddr 0 v24 (bumpH 0 h)) fun v25 _ =>
  bndO (oLoad1 v25 (bumpH 0 h)) fun v26 _ =>
  gtO (T.get fr (Pos.of 0)) fun w15_0 => bndO (oNilCheck w15_0 (bumpH 0 h)) fun v28 _ =>
  bndO (oFieldAddr 1 v28 (bumpH 0 h)) fun v29 _ =>
  bndO (oLoad1 v29 (bumpH 0 h)) fun v30 _ =>
  bndO (oIdxS 3 v26 v30 (bumpH 0 h)) fun v31 _ =>
  bndO (oFieldAddr 1 v31 (bumpH 0 h)) fun v32 _ =>
  bndO (oLoad1 v32 (bumpH 0 h)) fun v33 _ =>
  bndO (oUn .not v33 (bumpH 0 h)) fun v34 _ =>
  ifB v34 (gtO (T.get fr (Pos.of 0)) fun w25_0 => bndO (oNilCheck w25_0 (bumpH 0 h)) fun v38 _ =>
  bndO (oFieldAddr 0 v38 (bumpH 0 h)) fun v39 _ =>
  bndO (oLoad1 v39 (bumpH 0 h)) fun v40 _ =>
  gtO (T.get fr (Pos.of 0)) fun w29_0 => bndO (oNilCheck w29_0 (bumpH 0 h)) fun v42 _ =>
  bndO (oFieldAddr 1 v42 (bumpH 0 h)) fun v43 _ =>
  bndO (oLoad1 v43 (bumpH 0 h)) fun v44 _ =>
  bndO (oIdxS 3 v40 v44 (bumpH 0 h)) fun v45 _ =>
  bndO (oFieldAddr 0 v45 (bumpH 0 h)) fun v46 _ =>
  bndO (oLoad1 v46 (bumpH 0 h)) fun v47 _ =>
  bndO (oBin .neq .none v47 (.int .u8 34) (bumpH 0 h)) fun v48 _ =>
  Out.nor (T.set (some v48) (Pos.of 49) fr) (bumpH 0 h)) (Out.nor (T.set (some (.bool false)) (Pos.of 49) fr) (bumpH 0 h))) (Out.nor (T.set (some (.bool false)) (Pos.of 49) fr) (bumpH 0 h))
def Tryr46_4 (fr : F) (h : Hp) : Out :=
  gtO (T.get fr (Pos.of 0)) fun w0_0 => bndO (oNilCheck w0_0 (bumpH 0 h)) fun v51 _ =>
  bndO (oFieldAddr 0 v51 (bumpH 0 h)) fun v52 _ =>
  bndO (oLoad1 v52 (bumpH 0 h)) fun v53 _ =>
  gtO (T.get fr (Pos.of 0)) fun w4_0 => bndO (oNilCheck w4_0 (bumpH 0 h)) fun v55 _ =>
  bndO (oFieldAddr 1 v55 (bumpH 0 h)) fun v56 _ =>
  bndO (oLoad1 v56 (bumpH 0 h)) fun v57 _ =>
  bndO (oIdxS 3 v53 v57 (bumpH 0 h)) fun v58 _ =>
  bndO (oFieldAddr 0 v58 (bumpH 0 h)) fun v59 _ =>
  bndO (oLoad1 v59 (bumpH 0 h)) fun v60 _ =>
  Out.nor (T.set (some v60) (Pos.of 4) fr) (bumpH 0 h)
def Tryr46_5 (fr : F) (h : Hp) : Out :=
  gtO (T.get fr (Pos.of 4)) fun v4 => bndO (oBin .eql .none v4 (.int .u8 92) h) fun v62 h1 =>
  Out.nor (T.set (some v62) (Pos.of 62) fr) h1
def Tryr46_6 (fr : F) (h : Hp) : Out :=
  gtO (T.get fr (Pos.of 0)) fun v0 => bndO (oNilCheck v0 h) fun v64 h1 =>
  bndO (oFieldAddr 1 v64 h1) fun v65 h2 =>
  bndO (oLoad1 v65 h2) fun v66 h3 =>
  bndO (oBin .add .none v66 (.int .i64 1) h3) fun v67 h4 =>
  bndO (oNilCheck v0 h4) fun v68 h5 =>
  bndO (oFieldAddr 1 v68 h5) fun v69 h6 =>
  bndO (oStore 1 v69 v67 h6) fun _u7 h7 =>
  Out.nor fr h7
def Tryr46_7 (fr : F) (h : Hp) : Out :=
  gtO (T.get fr (Pos.of 0)) fun v0 => bndO (TryF40 [v0, (.int .u8 34)] h) fun v71 h1 =>
  bndO (oUn .not v71 h1) fun v72 h2 =>
  ifB v72 (bndO (TryF40 [v0, (.int .u8 92)] h2) fun v75 h5 =>
  bndO (oUn .not v75 h5) fun v76 h6 =>
  Out.nor (T.set (some v76) (Pos.of 77) fr) h6) (Out.nor (T.set (some (.bool false)) (Pos.of 77) fr) h2)
def Tryr46_8 (fr : F) (h : Hp) : Out :=
  gtO (T.get fr (Pos.of 0)) fun v0 => bndO (oNilCheck v0 h) fun v79 h1 =>
  bndO (oFieldAddr 2 v79 h1) fun v80 h2 =>
  bndO (oStore 1 v80 (.bool true) h2) fun _u3 h3 =>
  Out.nor fr h3
def Tryr46_9 (fr : F) (h : Hp) : Out :=
  gtO (T.get fr (Pos.of 0)) fun w0_0 => bndO (oNilCheck w0_0 (bumpH 0 h)) fun v82 _ =>
  bndO (oFieldAddr 0 v82 (bumpH 0 h)) fun v83 _ =>
  bndO (oLoad1 v83 (bumpH 0 h)) fun v84 _ =>
  gtO (T.get fr (Pos.of 0)) fun w4_0 => bndO (oNilCheck w4_0 (bumpH 0 h)) fun v86 _ =>
  bndO (oFieldAddr 1 v86 (bumpH 0 h)) fun v87 _ =>
  bndO (oLoad1 v87 (bumpH 0 h)) fun v88 _ =>
  bndO (oIdxS 3 v84 v88 (bumpH 0 h)) fun v89 _ =>
  bndO (oFieldAddr 0 v89 (bumpH 0 h)) fun v90 _ =>
  bndO (oLoad1 v90 (bumpH 0 h)) fun v91 _ =>
  Out.nor (T.set (some v91) (Pos.of 4) fr) (bumpH 0 h)
def Tryr46_10 (fr : F) (h : Hp) : Out :=
  gtO (T.get fr (Pos.of 4)) fun v4 => bndO (oBin .eql .none v4 (.int .u8 13) h) fun v93 h1 =>
  Out.nor (T.set (some v93) (Pos.of 93) fr) h1
def Tryr46_11 (fr : F) (h : Hp) : Out :=
  gtO (T.get fr (Pos.of 0)) fun v0 => bndO (oNilCheck v0 h) fun v95 h1 =>
  bndO (oFieldAddr 2 v95 h1) fun v96 h2 =>
  bndO (oStore 1 v96 (.bool true) h2) fun _u3 h3 =>
  Out.nor fr h3
def Tryr46_12 (fr : F) (h : Hp) : Out :=
  gtO (T.get fr (Pos.of 3)) fun v3 => gtO (T.get fr (Pos.of 4)) fun v4 => bndO (oBuildSlice [(.int .u8 0)] 1 [(0, 1, v4)] h) fun v99 h2 =>
  bndO (oAppend 1 1 v3 v99 h2) fun v100 h3 =>
  Out.nor (T.set (some v100) (Pos.of 3) fr) h3
def Tryr46_13 (fr : F) (h : Hp) : Out :=
  gtO (T.get fr (Pos.of 0)) fun v0 => bndO (oNilCheck v0 h) fun v102 h1 =>
  bndO (oFieldAddr 1 v102 h1) fun v103 h2 =>
  bndO (oLoad1 v103 h2) fun v104 h3 =>
  bndO (oBin .add .none v104 (.int .i64 1) h3) fun v105 h4 =>
  bndO (oNilCheck v0 h4) fun v106 h5 =>
  bndO (oFieldAddr 1 v106 h5) fun v107 h6 =>
  bndO (oStore 1 v107 v105 h6) fun _u7 h7 =>
  Out.nor fr h7
def Tryr46_14 (fr : F) (h : Hp) : Out :=
  gtO (T.get fr (Pos.of 0)) fun v0 => bndO (TryF40 [v0, (.int .u8 34)] h) fun v109 h1 =>
  bndO (oUn .not v109 h1) fun v110 h2 =>
  Out.nor (T.set (some v110) (Pos.of 110) fr) h2
def Tryr46_15 (fr : F) (h : Hp) : Out :=
  gtO (T.get fr (Pos.of 0)) fun v0 => bndO (oNilCheck v0 h) fun v112 h1 =>
  bndO (oFieldAddr 2 v112 h1) fun v113 h2 =>
  bndO (oStore 1 v113 (.bool true) h2) fun _u3 h3 =>
  Out.nor fr h3
def Tryr46_16 (fr : F) (h : Hp) : Out :=
  gtO (T.get fr (Pos.of 0)) fun v0 => bndO (oNilCheck v0 h) fun v115 h1 =>
  bndO (oFieldAddr 1 v115 h1) fun v116 h2 =>
  bndO (oLoad1 v116 h2) fun v117 h3 =>
  bndO (oBin .add .none v117 (.int .i64 1) h3) fun v118 h4 =>
  bndO (oNilCheck v0 h4) fun v119 h5 =>
  bndO (oFieldAddr 1 v119 h5) fun v120 h6 =>
  bndO (oStore 1 v120 v118 h6) fun _u7 h7 =>
  Out.nor fr h7
def Tryr46_17 (fr : F) (h : Hp) : Out :=
  gtO (T.get fr (Pos.of 3)) fun v3 => bndO (oBytesStr v3 h) fun v122 h1 =>
  bndO (oBuild [(.int .i64 0), (.str []), .nils] [(0, 1, (.int .i64 2)), (1, 1, v122)] h1) fun v123 h2 =>
  gtO (T.get fr (Pos.of 2)) fun v2 => bndO (oStore 3 v2 v123 h2) fun _u3 h3 =>
  Out.nor fr h3
def Tryb46_3 : F → Hp → Out := (seqO (seqO Tryr46_3 (cndX (.tmp 49) Out.nor (Out.ex 0))) (blkO 1 (seqO Tryr46_4 (seqO (seqO Tryr46_5 (cndX (.tmp 62) (seqO Tryr46_6 (seqO (seqO Tryr46_7 (cndX (.tmp 77) (seqO Tryr46_8 (Out.ex 0)) Out.nor)) Tryr46_9)) Out.nor)) (seqO (seqO Tryr46_10 (cndX (.tmp 93) Tryr46_11 Out.nor)) (seqO Tryr46_12 Tryr46_13))))))
def Tryd46 : F → Hp → Out := (seqO Tryr46_0 (seqO Tryr46_1 (seqO Tryr46_2 (seqO (blkO 0 (loopO Tryb46_3 lf)) (seqO (seqO Tryr46_14 (cndX (.tmp 110) Tryr46_15 Out.nor)) (seqO Tryr46_16 (seqO Tryr46_17 Out.ret)))))))
def Trye46 : FuncId → Option Fun := fun f => match Nat.beq f 40 with | true => some TryF40 | false => none
def Tryp46 : Plans := fun id => match Nat.beq id 3 with | true => some ([0, 1, 3, 7, 0, 16, 48, 112, 240, 511, 1023, 2047, 4095, 8191, 16383, 2047, 34815, 100351, 231423, 524287, 1048575, 2097151, 4194303, 8388607, 16777215, 33554431, 67108863, 134217727, 268435455, 33554431, 570425343, 1644167167, 3791650815, 8589934591, 17179869183, 34359738367, 68719476735, 137438953471], [(0, .pure), (1, .pure), (2, .pure), (3, .read 0), (4, .pure), (5, .pure), (6, .pure), (7, .read 0), (8, .pure), (9, .pure), (10, .pure), (11, .pure), (12, .pure), (13, .pure), (14, .read 0), (15, .pure), (16, .pure), (17, .pure), (18, .read 0), (19, .pure), (20, .pure), (21, .read 0), (22, .pure), (23, .pure), (24, .pure), (25, .pure), (26, .pure), (27, .pure), (28, .read 0), (29, .pure), (30, .pure), (31, .pure), (32, .read 0), (33, .pure), (34, .pure), (35, .read 0), (36, .pure), (37, .pure)]) | false => match Nat.beq id 4 with | true => some ([0, 1, 3, 7, 0, 16, 48, 112, 255, 511, 1023, 2047], [(0, .pure), (1, .pure), (2, .pure), (3, .read 0), (4, .pure), (5, .pure), (6, .pure), (7, .read 0), (8, .pure), (9, .pure), (10, .read 0), (11, .pure)]) | false => match Nat.beq id 9 with | true => some ([0, 1, 3, 7, 0, 16, 48, 112, 255, 511, 1023, 2047], [(0, .pure), (1, .pure), (2, .pure), (3, .read 0), (4, .pure), (5, .pure), (6, .pure), (7, .read 0), (8, .pure), (9, .pure), (10, .read 0), (11, .pure)]) | false => none
def TryF46 : Fun := funX Try.prog 0 Tryk46 Trye46 Tryp46 lf Try.f46
theorem TryD46 : denX Try.prog 0 Try.f46.ntmps Tryk46 Trye46 Tryp46 lf (codeOf Try.f46) = Tryd46 := by kernel_rfl
theorem TryF46_eq (x0 : V) (h : Hp) : TryF46 [x0] h = outR Try.prog [.cell 2 43] (Tryd46 (T.set (some x0) (Pos.of 0) T.nil) h) := funX_eq (by kernel_rfl) TryD46 (by kernel_rfl) h
theorem Tryc46 : CallOk Try.prog 0 46 TryF46 := funX_ok Trymix (callsOk_cons Tryc40 callsOk_0) Try.func46 (by kernel_rfl)

/-! 39: (*pillarbox/pillarboxref22.parser).word -/
def Tryk39 : Nat → Bool := fun t => memN t [0, 1, 4, 5, 6, 7, 23, 38, 89, 103, 108, 122, 130, 142, 185]
def Tryr39_0 (V31 : Fun) (fr : F) (h : Hp) : Out :=
  bndO (oNew [(.int .i64 0), (.str []), .nils] h) fun v4 h0 =>
  Out.nor (T.set (some v4) (Pos.of 4) fr) h0
def Tryr39_1 (V31 : Fun) (fr : F) (h : Hp) : Out :=
  gtO (T.get fr (Pos.of 0)) fun w0_0 => bndO (oNilCheck w0_0 (bumpH 0 h)) fun v9 _ =>
  bndO (oFieldAddr 2 v9 (bumpH 0 h)) fun v10 _ =>
  bndO (oLoad1 v10 (bumpH 0 h)) fun v11 _ =>
  ifB v11 (Out.nor (T.set (some (.bool true)) (Pos.of 23) fr) (bumpH 0 h)) (gtO (T.get fr (Pos.of 0)) fun w5_0 => bndO (oNilCheck w5_0 (bumpH 0 h)) fun v14 _ =>
  bndO (oFieldAddr 1 v14 (bumpH 0 h)) fun v15 _ =>
  bndO (oLoad1 v15 (bumpH 0 h)) fun v16 _ =>
  gtO (T.get fr (Pos.of 0)) fun w9_0 => bndO (oNilCheck w9_0 (bumpH 0 h)) fun v18 _ =>
  bndO (oFieldAddr 0 v18 (bumpH 0 h)) fun v19 _ =>
  bndO (oLoad1 v19 (bumpH 0 h)) fun v20 _ =>
  bndO (oLenK 2 v20 (bumpH 0 h)) fun v21 _ =>
  bndO (oBin .geq .none v16 v21 (bumpH 0 h)) fun v22 _ =>
  Out.nor (T.set (some v22) (Pos.of 23) fr) (bumpH 0 h))
def Tryr39_2 (V31 : Fun) (fr : F) (h : Hp) : Out :=
  gtO (T.get fr (Pos.of 0)) fun v0 => bndO (oNilCheck v0 h) fun v25 h1 =>
  bndO (oFieldAddr 2 v25 h1) fun v26 h2 =>
  bndO (oStore 1 v26 (.bool true) h2) fun _u3 h3 =>
  Out.nor fr h3
def Tryr39_3 (V31 : Fun) (fr : F) (h : Hp) : Out :=
  bndO (oBuild [(.int .i64 0), (.str []), .nils] [] h) fun v27 h0 =>
  gtO (T.get fr (Pos.of 4)) fun v4 => bndO (oStore 3 v4 v27 h0) fun _u1 h1 =>
  Out.nor fr h1
def Tryr39_4 (V31 : Fun) (fr : F) (h : Hp) : Out :=
  gtO (T.get fr (Pos.of 0)) fun w0_0 => bndO (oNilCheck w0_0 (bumpH 1 h)) fun v29 _ =>
  bndO (oFieldAddr 0 v29 (bumpH 1 h)) fun v30 _ =>
  bndO (oLoad1 v30 (bumpH 1 h)) fun v31 _ =>
  gtO (T.get fr (Pos.of 0)) fun w4_0 => bndO (oNilCheck w4_0 (bumpH 1 h)) fun v33 _ =>
  bndO (oFieldAddr 1 v33 (bumpH 1 h)) fun v34 _ =>
  bndO (oLoad1 v34 (bumpH 1 h)) fun v35 _ =>
  bndO (oIdxS 3 v31 v35 (bumpH 1 h)) fun v36 _ =>
  bndO (oLoadN 3 v36 (bumpH 1 h)) fun v37 _ =>
  alcO (aNew [(.int .u8 0), (.bool false), (.str [])]) fun ob10 mk10 =>
  bndO (oStore 3 (mk10 (Hp.next h)) v37 (Hp.put (bumpH 1 h) (Hp.next h) (some ob10))) fun _u11 h11 =>
  Out.nor (T.set (some (mk10 (Hp.next h))) (Pos.of 5) fr) h11
def Tryr39_5 (V31 : Fun) (fr : F) (h : Hp) : Out :=
  gtO (T.get fr (Pos.of 5)) fun v5 => bndO (oFieldAddr 1 v5 h) fun v39 h0 =>
  bndO (oLoad1 v39 h0) fun v40 h1 =>
  Out.nor (T.set (some v40) (Pos.of 38) fr) h1
def Tryr39_6 (V31 : Fun) (fr : F) (h : Hp) : Out :=
  gtO (T.get fr (Pos.of 0)) fun w0_0 => bndO (oNilCheck w0_0 (bumpH 0 h)) fun v42 _ =>
  bndO (oFieldAddr 1 v42 (bumpH 0 h)) fun v43 _ =>
  bndO (oLoad1 v43 (bumpH 0 h)) fun v44 _ =>
  bndO (oBin .gtr .none v44 (.int .i64 0) (bumpH 0 h)) fun v45 _ =>
  ifB v45 (gtO (T.get fr (Pos.of 0)) fun w6_0 => bndO (oNilCheck w6_0 (bumpH 0 h)) fun v48 _ =>
  bndO (oFieldAddr 0 v48 (bumpH 0 h)) fun v49 _ =>
  bndO (oLoad1 v49 (bumpH 0 h)) fun v50 _ =>
  gtO (T.get fr (Pos.of 0)) fun w10_0 => bndO (oNilCheck w10_0 (bumpH 0 h)) fun v52 _ =>
  bndO (oFieldAddr 1 v52 (bumpH 0 h)) fun v53 _ =>
  bndO (oLoad1 v53 (bumpH 0 h)) fun v54 _ =>
  bndO (oBin .sub .none v54 (.int .i64 1) (bumpH 0 h)) fun v55 _ =>
  bndO (oIdxS 3 v50 v55 (bumpH 0 h)) fun v56 _ =>
  bndO (oFieldAddr 1 v56 (bumpH 0 h)) fun v57 _ =>
  bndO (oLoad1 v57 (bumpH 0 h)) fun v58 _ =>
  ifB v58 (Out.nor (T.set (some (.bool true)) (Pos.of 89) fr) (bumpH 0 h)) (gtO (T.get fr (Pos.of 0)) fun w19_0 => bndO (oNilCheck w19_0 (bumpH 0 h)) fun v61 _ =>
  bndO (oFieldAddr 0 v61 (bumpH 0 h)) fun v62 _ =>
  bndO (oLoad1 v62 (bumpH 0 h)) fun v63 _ =>
  gtO (T.get fr (Pos.of 0)) fun w23_0 => bndO (oNilCheck w23_0 (bumpH 0 h)) fun v65 _ =>
  bndO (oFieldAddr 1 v65 (bumpH 0 h)) fun v66 _ =>
  bndO (oLoad1 v66 (bumpH 0 h)) fun v67 _ =>
  bndO (oBin .sub .none v67 (.int .i64 1) (bumpH 0 h)) fun v68 _ =>
  bndO (oIdxS 3 v63 v68 (bumpH 0 h)) fun v69 _ =>
  bndO (oFieldAddr 0 v69 (bumpH 0 h)) fun v70 _ =>
  bndO (oLoad1 v70 (bumpH 0 h)) fun v71 _ =>
  bndO (oBin .neq .none v71 (.int .u8 32) (bumpH 0 h)) fun v72 _ =>
  ifB v72 (gtO (T.get fr (Pos.of 0)) fun w33_0 => bndO (oNilCheck w33_0 (bumpH 0 h)) fun v75 _ =>
  bndO (oFieldAddr 0 v75 (bumpH 0 h)) fun v76 _ =>
  bndO (oLoad1 v76 (bumpH 0 h)) fun v77 _ =>
  gtO (T.get fr (Pos.of 0)) fun w37_0 => bndO (oNilCheck w37_0 (bumpH 0 h)) fun v79 _ =>
  bndO (oFieldAddr 1 v79 (bumpH 0 h)) fun v80 _ =>
  bndO (oLoad1 v80 (bumpH 0 h)) fun v81 _ =>
  bndO (oBin .sub .none v81 (.int .i64 1) (bumpH 0 h)) fun v82 _ =>
  bndO (oIdxS 3 v77 v82 (bumpH 0 h)) fun v83 _ =>
  bndO (oFieldAddr 0 v83 (bumpH 0 h)) fun v84 _ =>
  bndO (oLoad1 v84 (bumpH 0 h)) fun v85 _ =>
  bndO (oBin .neq .none v85 (.int .u8 40) (bumpH 0 h)) fun v86 _ =>
  Out.nor (T.set (some v86) (Pos.of 89) fr) (bumpH 0 h)) (Out.nor (T.set (some (.bool false)) (Pos.of 89) fr) (bumpH 0 h)))) (Out.nor (T.set (some (.bool false)) (Pos.of 89) fr) (bumpH 0 h))
def Tryr39_7 (V31 : Fun) (fr : F) (h : Hp) : Out :=
  gtO (T.get fr (Pos.of 0)) fun v0 => bndO (oNilCheck v0 h) fun v91 h1 =>
  bndO (oFieldAddr 2 v91 h1) fun v92 h2 =>
  bndO (oStore 1 v92 (.bool true) h2) fun _u3 h3 =>
  Out.nor fr h3
def Tryr39_8 (V31 : Fun) (fr : F) (h : Hp) : Out :=
  gtO (T.get fr (Pos.of 0)) fun v0 => bndO (oNilCheck v0 h) fun v94 h1 =>
  bndO (oFieldAddr 1 v94 h1) fun v95 h2 =>
  bndO (oLoad1 v95 h2) fun v96 h3 =>
  bndO (oBin .add .none v96 (.int .i64 1) h3) fun v97 h4 =>
  bndO (oNilCheck v0 h4) fun v98 h5 =>
  bndO (oFieldAddr 1 v98 h5) fun v99 h6 =>
  bndO (oStore 1 v99 v97 h6) fun _u7 h7 =>
  Out.nor fr h7
def Tryr39_9 (V31 : Fun) (fr : F) (h : Hp) : Out :=
  gtO (T.get fr (Pos.of 5)) fun v5 => bndO (oFieldAddr 2 v5 h) fun v100 h0 =>
  bndO (oLoad1 v100 h0) fun v101 h1 =>
  bndO (oBuild [(.int .i64 0), (.str []), .nils] [(0, 1, (.int .i64 2)), (1, 1, v101)] h1) fun v102 h2 =>
  gtO (T.get fr (Pos.of 4)) fun v4 => bndO (oStore 3 v4 v102 h2) fun _u3 h3 =>
  Out.nor fr h3
def Tryr39_10 (V31 : Fun) (fr : F) (h : Hp) : Out :=
  gtO (T.get fr (Pos.of 5)) fun v5 => bndO (oFieldAddr 0 v5 h) fun v104 h0 =>
  bndO (oLoad1 v104 h0) fun v105 h1 =>
  bndO (oBin .eql .none v105 (.int .u8 40) h1) fun v106 h2 =>
  Out.nor (T.set (some v106) (Pos.of 103) fr) h2
def Tryr39_11 (V31 : Fun) (fr : F) (h : Hp) : Out :=
  gtO (T.get fr (Pos.of 1)) fun v1 => bndO (oBin .geq .none v1 (.int .i64 8) h) fun v108 h1 =>
  Out.nor (T.set (some v108) (Pos.of 108) fr) h1
def Tryr39_12 (V31 : Fun) (fr : F) (h : Hp) : Out :=
  gtO (T.get fr (Pos.of 0)) fun v0 => bndO (oNilCheck v0 h) fun v110 h1 =>
  bndO (oFieldAddr 2 v110 h1) fun v111 h2 =>
  bndO (oStore 1 v111 (.bool true) h2) fun _u3 h3 =>
  Out.nor fr h3
def Tryr39_13 (V31 : Fun) (fr : F) (h : Hp) : Out :=
  gtO (T.get fr (Pos.of 0)) fun v0 => bndO (oNilCheck v0 h) fun v113 h1 =>
  bndO (oFieldAddr 1 v113 h1) fun v114 h2 =>
  bndO (oLoad1 v114 h2) fun v115 h3 =>
  bndO (oBin .add .none v115 (.int .i64 1) h3) fun v116 h4 =>
  bndO (oNilCheck v0 h4) fun v117 h5 =>
  bndO (oFieldAddr 1 v117 h5) fun v118 h6 =>
  bndO (oStore 1 v118 v116 h6) fun _u7 h7 =>
  Out.nor fr h7
def Tryr39_14 (V31 : Fun) (fr : F) (h : Hp) : Out :=
  bndO (oBuild [(.int .i64 0), (.str []), .nils] [(0, 1, (.int .i64 3))] h) fun v119 h0 =>
  bndO (oNew [(.int .i64 0), (.str []), .nils] h0) fun v6 h1 =>
  bndO (oStore 3 v6 v119 h1) fun _u2 h2 =>
  Out.nor (T.set (some v6) (Pos.of 6) fr) h2
def Tryr39_15 (V31 : Fun) (fr : F) (h : Hp) : Out :=
  gtO (T.get fr (Pos.of 0)) fun v0 => bndO (TryF40 [v0, (.int .u8 41)] h) fun v121 h1 =>
  bndO (oUn .not v121 h1) fun v122 h2 =>
  Out.nor (T.set (some v122) (Pos.of 122) fr) h2
def Tryr39_16 (V31 : Fun) (fr : F) (h : Hp) : Out :=
  gtO (T.get fr (Pos.of 0)) fun v0 => gtO (T.get fr (Pos.of 1)) fun v1 => bndO (oBin .add .none v1 (.int .i64 1) h) fun v125 h2 =>
  bndO (V31 [v0, v125] h2) fun v126 h3 =>
  gtO (T.get fr (Pos.of 6)) fun v6 => bndO (oFieldAddr 2 v6 h3) fun v127 h4 =>
  bndO (oStore 1 v127 v126 h4) fun _u5 h5 =>
  Out.nor fr h5
def Tryr39_17 (V31 : Fun) (fr : F) (h : Hp) : Out :=
  gtO (T.get fr (Pos.of 0)) fun v0 => bndO (TryF40 [v0, (.int .u8 41)] h) fun v129 h1 =>
  bndO (oUn .not v129 h1) fun v130 h2 =>
  Out.nor (T.set (some v130) (Pos.of 130) fr) h2
def Tryr39_18 (V31 : Fun) (fr : F) (h : Hp) : Out :=
  gtO (T.get fr (Pos.of 0)) fun v0 => bndO (oNilCheck v0 h) fun v132 h1 =>
  bndO (oFieldAddr 2 v132 h1) fun v133 h2 =>
  bndO (oStore 1 v133 (.bool true) h2) fun _u3 h3 =>
  Out.nor fr h3
def Tryr39_19 (V31 : Fun) (fr : F) (h : Hp) : Out :=
  gtO (T.get fr (Pos.of 0)) fun v0 => bndO (oNilCheck v0 h) fun v135 h1 =>
  bndO (oFieldAddr 1 v135 h1) fun v136 h2 =>
  bndO (oLoad1 v136 h2) fun v137 h3 =>
  bndO (oBin .add .none v137 (.int .i64 1) h3) fun v138 h4 =>
  bndO (oNilCheck v0 h4) fun v139 h5 =>
  bndO (oFieldAddr 1 v139 h5) fun v140 h6 =>
  bndO (oStore 1 v140 v138 h6) fun _u7 h7 =>
  Out.nor fr h7
def Tryr39_20 (V31 : Fun) (fr : F) (h : Hp) : Out :=
  gtO (T.get fr (Pos.of 6)) fun v6 => bndO (oLoadN 3 v6 h) fun v141 h0 =>
  gtO (T.get fr (Pos.of 4)) fun v4 => bndO (oStore 3 v4 v141 h0) fun _u1 h1 =>
  Out.nor fr h1
def Tryr39_21 (V31 : Fun) (fr : F) (h : Hp) : Out :=
  gtO (T.get fr (Pos.of 5)) fun v5 => bndO (oFieldAddr 0 v5 h) fun v143 h0 =>
  bndO (oLoad1 v143 h0) fun v144 h1 =>
  bndO (oBin .eql .none v144 (.int .u8 34) h1) fun v145 h2 =>
  Out.nor (T.set (some v145) (Pos.of 142) fr) h2
def Tryr39_22 (V31 : Fun) (fr : F) (h : Hp) : Out :=
  gtO (T.get fr (Pos.of 0)) fun v0 => bndO (TryF46 [v0] h) fun v147 h1 =>
  gtO (T.get fr (Pos.of 4)) fun v4 => bndO (oStore 3 v4 v147 h1) fun _u2 h2 =>
  Out.nor fr h2
def Tryr39_23 (V31 : Fun) (fr : F) (h : Hp) : Out :=
  Out.nor (T.set (some .nils) (Pos.of 7) fr) h
def Tryr39_24 (V31 : Fun) (fr : F) (h : Hp) : Out :=
  gtO (T.get fr (Pos.of 0)) fun w0_0 => bndO (oNilCheck w0_0 (bumpH 0 h)) fun v149 _ =>
  bndO (oFieldAddr 1 v149 (bumpH 0 h)) fun v150 _ =>
  bndO (oLoad1 v150 (bumpH 0 h)) fun v151 _ =>
  gtO (T.get fr (Pos.of 0)) fun w4_0 => bndO (oNilCheck w4_0 (bumpH 0 h)) fun v153 _ =>
  bndO (oFieldAddr 0 v153 (bumpH 0 h)) fun v154 _ =>
  bndO (oLoad1 v154 (bumpH 0 h)) fun v155 _ =>
  bndO (oLenK 2 v155 (bumpH 0 h)) fun v156 _ =>
  bndO (oBin .lss .none v151 v156 (bumpH 0 h)) fun v157 _ =>
  ifB v157 (gtO (T.get fr (Pos.of 0)) fun w11_0 => bndO (oNilCheck w11_0 (bumpH 0 h)) fun v160 _ =>
  bndO (oFieldAddr 0 v160 (bumpH 0 h)) fun v161 _ =>
  bndO (oLoad1 v161 (bumpH 0 h)) fun v162 _ =>
  gtO (T.get fr (Pos.of 0)) fun w15_0 => bndO (oNilCheck w15_0 (bumpH 0 h)) fun v164 _ =>
  bndO (oFieldAddr 1 v164 (bumpH 0 h)) fun v165 _ =>
  bndO (oLoad1 v165 (bumpH 0 h)) fun v166 _ =>
  bndO (oIdxS 3 v162 v166 (bumpH 0 h)) fun v167 _ =>
  bndO (oFieldAddr 1 v167 (bumpH 0 h)) fun v168 _ =>
  bndO (oLoad1 v168 (bumpH 0 h)) fun v169 _ =>
  bndO (oUn .not v169 (bumpH 0 h)) fun v170 _ =>
  ifB v170 (gtO (T.get fr (Pos.of 0)) fun w25_0 => bndO (oNilCheck w25_0 (bumpH 0 h)) fun v174 _ =>
  bndO (oFieldAddr 0 v174 (bumpH 0 h)) fun v175 _ =>
  bndO (oLoad1 v175 (bumpH 0 h)) fun v176 _ =>
  gtO (T.get fr (Pos.of 0)) fun w29_0 => bndO (oNilCheck w29_0 (bumpH 0 h)) fun v178 _ =>
  bndO (oFieldAddr 1 v178 (bumpH 0 h)) fun v179 _ =>
  bndO (oLoad1 v179 (bumpH 0 h)) fun v180 _ =>
  bndO (oIdxS 3 v176 v180 (bumpH 0 h)) fun v181 _ =>
  bndO (oFieldAddr 0 v181 (bumpH 0 h)) fun v182 _ =>
  bndO (oLoad1 v182 (bumpH 0 h)) fun v183 _ =>
  bndO (TryF47 [v183] (bumpH 0 h)) fun v184 h36 =>
  Out.nor (T.set (some v184) (Pos.of 185) fr) h36) (Out.nor (T.set (some (.bool false)) (Pos.of 185) fr) (bumpH 0 h))) (Out.nor (T.set (some (.bool false)) (Pos.of 185) fr) (bumpH 0 h))
def Tryr39_25 (V31 : Fun) (fr : F) (h : Hp) : Out :=
  gtO (T.get fr (Pos.of 7)) fun w0_7 => gtO (T.get fr (Pos.of 0)) fun w1_0 => bndO (oNilCheck w1_0 (bumpH 1 h)) fun v188 _ =>
  bndO (oFieldAddr 0 v188 (bumpH 1 h)) fun v189 _ =>
  bndO (oLoad1 v189 (bumpH 1 h)) fun v190 _ =>
  gtO (T.get fr (Pos.of 0)) fun w5_0 => bndO (oNilCheck w5_0 (bumpH 1 h)) fun v192 _ =>
  bndO (oFieldAddr 1 v192 (bumpH 1 h)) fun v193 _ =>
  bndO (oLoad1 v193 (bumpH 1 h)) fun v194 _ =>
  bndO (oIdxS 3 v190 v194 (bumpH 1 h)) fun v195 _ =>
  bndO (oFieldAddr 0 v195 (bumpH 1 h)) fun v196 _ =>
  bndO (oLoad1 v196 (bumpH 1 h)) fun v197 _ =>
  alcO (aBuildSlice [(.int .u8 0)] 1 [(0, 1, v197)]) fun ob12 mk12 =>
  bndO (oAppend 1 1 w0_7 (mk12 (Hp.next h)) (Hp.put (bumpH 1 h) (Hp.next h) (some ob12))) fun v199 h13 =>
  Out.nor (T.set (some v199) (Pos.of 7) fr) h13
def Tryr39_26 (V31 : Fun) (fr : F) (h : Hp) : Out :=
  gtO (T.get fr (Pos.of 0)) fun v0 => bndO (oNilCheck v0 h) fun v201 h1 =>
  bndO (oFieldAddr 1 v201 h1) fun v202 h2 =>
  bndO (oLoad1 v202 h2) fun v203 h3 =>
  bndO (oBin .add .none v203 (.int .i64 1) h3) fun v204 h4 =>
  bndO (oNilCheck v0 h4) fun v205 h5 =>
  bndO (oFieldAddr 1 v205 h5) fun v206 h6 =>
  bndO (oStore 1 v206 v204 h6) fun _u7 h7 =>
  Out.nor fr h7
def Tryr39_27 (V31 : Fun) (fr : F) (h : Hp) : Out :=
  gtO (T.get fr (Pos.of 0)) fun v0 => bndO (oNilCheck v0 h) fun v209 h2 =>
  bndO (oFieldAddr 2 v209 h2) fun v210 h3 =>
  bndO (oLoad1 v210 h3) fun v211 h4 =>
  ifB v211 (bndO (oNilCheck v0 h4) fun v217 h10 =>
  bndO (oFieldAddr 2 v217 h10) fun v218 h11 =>
  bndO (oStore 1 v218 (.bool true) h11) fun _u12 h12 =>
  Out.nor fr h12) (gtO (T.get fr (Pos.of 7)) fun v7 => bndO (oLenK 2 v7 h4) fun v214 h7 =>
  bndO (oBin .eql .none v214 (.int .i64 0) h7) fun v215 h8 =>
  bndO (oNilCheck v0 h8) fun v217 h10 =>
  bndO (oFieldAddr 2 v217 h10) fun v218 h11 =>
  bndO (oStore 1 v218 v215 h11) fun _u12 h12 =>
  Out.nor fr h12)
def Tryr39_28 (V31 : Fun) (fr : F) (h : Hp) : Out :=
  gtO (T.get fr (Pos.of 7)) fun v7 => bndO (oBytesStr v7 h) fun v220 h1 =>
  bndO (oBuild [(.int .i64 0), (.str []), .nils] [(0, 1, (.int .i64 1)), (1, 1, v220)] h1) fun v221 h2 =>
  gtO (T.get fr (Pos.of 4)) fun v4 => bndO (oStore 3 v4 v221 h2) fun _u3 h3 =>
  Out.nor fr h3
def Tryb39_24 (V31 : Fun) : F → Hp → Out := (seqO (seqO (Tryr39_24 V31) (cndX (.tmp 185) Out.nor (Out.ex 1))) (blkO 2 (seqO (Tryr39_25 V31) (Tryr39_26 V31))))
def Tryd39 (V31 : Fun) : F → Hp → Out := (seqO (Tryr39_0 V31) (seqO (seqO (Tryr39_1 V31) (cndX (.tmp 23) (seqO (Tryr39_2 V31) (seqO (Tryr39_3 V31) Out.ret)) Out.nor)) (seqO (Tryr39_4 V31) (seqO (blkO 0 (seqO (Tryr39_5 V31) (cndX (.tmp 38) (seqO (seqO (Tryr39_6 V31) (cndX (.tmp 89) (Tryr39_7 V31) Out.nor)) (seqO (Tryr39_8 V31) (seqO (Tryr39_9 V31) Out.ret))) (seqO (Tryr39_10 V31) (cndX (.tmp 103) (seqO (seqO (Tryr39_11 V31) (cndX (.tmp 108) (Tryr39_12 V31) Out.nor)) (seqO (Tryr39_13 V31) (seqO (Tryr39_14 V31) (seqO (seqO (Tryr39_15 V31) (cndX (.tmp 122) (Tryr39_16 V31) Out.nor)) (seqO (seqO (Tryr39_17 V31) (cndX (.tmp 130) (Tryr39_18 V31) Out.nor)) (seqO (Tryr39_19 V31) (seqO (Tryr39_20 V31) Out.ret))))))) (seqO (Tryr39_21 V31) (cndX (.tmp 142) (seqO (Tryr39_22 V31) Out.ret) Out.nor))))))) (seqO (Tryr39_23 V31) (seqO (blkO 1 (loopO (Tryb39_24 V31) lf)) (seqO (Tryr39_27 V31) (seqO (Tryr39_28 V31) Out.ret))))))))
def Trye39 (V31 : Fun) : FuncId → Option Fun := fun f => match Nat.beq f 40 with | true => some TryF40 | false => match Nat.beq f 31 with | true => some V31 | false => match Nat.beq f 46 with | true => some TryF46 | false => match Nat.beq f 47 with | true => some TryF47 | false => none
def Tryp39 : Plans := fun id => match Nat.beq id 1 with | true => some ([0, 1, 3, 7, 15, 31, 63, 127, 255, 31, 543, 1567, 3615, 7711, 16383, 32767], [(0, .pure), (1, .pure), (2, .pure), (3, .read 0), (4, .pure), (5, .pure), (6, .pure), (7, .pure), (8, .read 0), (9, .pure), (10, .pure), (11, .pure), (12, .read 0), (13, .pure), (14, .pure), (15, .pure)]) | false => match Nat.beq id 4 with | true => some ([0, 1, 3, 7, 0, 16, 48, 112, 255, 511, 0, 2047], [(0, .pure), (1, .pure), (2, .pure), (3, .read 0), (4, .pure), (5, .pure), (6, .pure), (7, .read 0), (8, .pure), (9, .read 0), (10, .alloc), (11, .heavy)]) | false => match Nat.beq id 6 with | true => some ([0, 1, 3, 7, 15, 31, 63, 127, 255, 511, 63, 1087, 3135, 7231, 15423, 32767, 65535, 131071, 262143, 524287, 1048575, 2097151, 4194303, 524287, 8912895, 25690111, 59244543, 126353407, 268435455, 536870911, 1073741823, 2147483647, 4294967295, 8589934591, 17179869183, 34359738367, 68719476735, 8589934591, 146028888063, 420906795007, 970662608895, 2070174236671, 4398046511103, 8796093022207, 17592186044415, 35184372088831, 70368744177663, 140737488355327, 281474976710655], [(0, .pure), (1, .pure), (2, .pure), (3, .read 0), (4, .pure), (5, .pure), (6, .pure), (7, .pure), (8, .pure), (9, .read 0), (10, .pure), (11, .pure), (12, .pure), (13, .read 0), (14, .pure), (15, .pure), (16, .pure), (17, .read 0), (18, .pure), (19, .pure), (20, .pure), (21, .pure), (22, .read 0), (23, .pure), (24, .pure), (25, .pure), (26, .read 0), (27, .pure), (28, .pure), (29, .pure), (30, .read 0), (31, .pure), (32, .pure), (33, .pure), (34, .pure), (35, .pure), (36, .read 0), (37, .pure), (38, .pure), (39, .pure), (40, .read 0), (41, .pure), (42, .pure), (43, .pure), (44, .read 0), (45, .pure), (46, .pure), (47, .pure), (48, .pure)]) | false => match Nat.beq id 24 with | true => some ([0, 1, 3, 7, 0, 16, 48, 112, 240, 511, 1023, 2047, 4095, 8191, 16383, 2047, 34815, 100351, 231423, 524287, 1048575, 2097151, 4194303, 8388607, 16777215, 33554431, 67108863, 134217727, 268435455, 33554431, 570425343, 1644167167, 3791650815, 8589934591, 17179869183, 34359738367, 68719476735, 137438953471], [(0, .pure), (1, .pure), (2, .pure), (3, .read 0), (4, .pure), (5, .pure), (6, .pure), (7, .read 0), (8, .pure), (9, .pure), (10, .pure), (11, .pure), (12, .pure), (13, .pure), (14, .read 0), (15, .pure), (16, .pure), (17, .pure), (18, .read 0), (19, .pure), (20, .pure), (21, .read 0), (22, .pure), (23, .pure), (24, .pure), (25, .pure), (26, .pure), (27, .pure), (28, .read 0), (29, .pure), (30, .pure), (31, .pure), (32, .read 0), (33, .pure), (34, .pure), (35, .read 0), (36, .heavy), (37, .pure)]) | false => match Nat.beq id 25 with | true => some ([0, 0, 2, 6, 14, 0, 32, 96, 224, 510, 1022, 2046, 4094, 8191, 16383], [(0, .pure), (1, .pure), (2, .pure), (3, .pure), (4, .read 0), (5, .pure), (6, .pure), (7, .pure), (8, .read 0), (9, .pure), (10, .pure), (11, .read 0), (12, .alloc), (13, .heavy), (14, .pure)]) | false => none
def TryF39 (V31 : Fun) : Fun := funX Try.prog 0 Tryk39 (Trye39 V31) Tryp39 lf Try.f39
theorem TryD39 (V31 : Fun) : denX Try.prog 0 Try.f39.ntmps Tryk39 (Trye39 V31) Tryp39 lf (codeOf Try.f39) = (Tryd39 V31) := by kernel_rfl
theorem TryF39_eq (V31 : Fun) (x0 x1 : V) (h : Hp) : (TryF39 V31) [x0, x1] h = outR Try.prog [.cell 4 43] ((Tryd39 V31) (T.set (some x1) (Pos.of 1) (T.set (some x0) (Pos.of 0) T.nil)) h) := funX_eq (by kernel_rfl) (TryD39 V31) (by kernel_rfl) h
theorem Tryc39 (V31 : Fun) (H31 : CallOk Try.prog 0 31 V31) : CallOk Try.prog 0 39 (TryF39 V31) := funX_ok Trymix (callsOk_cons Tryc40 (callsOk_cons H31 (callsOk_cons Tryc46 (callsOk_cons Tryc47 callsOk_0)))) Try.func39 (by kernel_rfl)

/-! 31: (*pillarbox/pillarboxref22.parser).words -/
def Tryk31 : Nat → Bool := fun t => memN t [0, 1, 4, 5, 10, 19]
def Tryr31_0 (V39 : Fun) (fr : F) (h : Hp) : Out :=
  Out.nor (T.set (some .nils) (Pos.of 4) fr) h
def Tryr31_1 (V39 : Fun) (fr : F) (h : Hp) : Out :=
  Out.nor (T.set (some .nils) (Pos.of 5) fr) h
def Tryr31_2 (V39 : Fun) (fr : F) (h : Hp) : Out :=
  gtO (T.get fr (Pos.of 0)) fun v0 => bndO (oNilCheck v0 h) fun v7 h1 =>
  bndO (oFieldAddr 2 v7 h1) fun v8 h2 =>
  bndO (oLoad1 v8 h2) fun v9 h3 =>
  bndO (oUn .not v9 h3) fun v10 h4 =>
  Out.nor (T.set (some v10) (Pos.of 10) fr) h4
def Tryr31_3 (V39 : Fun) (fr : F) (h : Hp) : Out :=
  gtO (T.get fr (Pos.of 5)) fun v5 => gtO (T.get fr (Pos.of 0)) fun v0 => gtO (T.get fr (Pos.of 1)) fun v1 => bndO (V39 [v0, v1] h) fun v14 h3 =>
  bndO (oBuildSlice [(.int .i64 0), (.str []), .nils] 1 [(0, 3, v14)] h3) fun v15 h4 =>
  bndO (oAppend 3 48 v5 v15 h4) fun v16 h5 =>
  Out.nor (T.set (some v16) (Pos.of 5) fr) h5
def Tryr31_4 (V39 : Fun) (fr : F) (h : Hp) : Out :=
  gtO (T.get fr (Pos.of 0)) fun v0 => bndO (TryF40 [v0, (.int .u8 32)] h) fun v18 h1 =>
  bndO (oUn .not v18 h1) fun v19 h2 =>
  Out.nor (T.set (some v19) (Pos.of 19) fr) h2
def Tryr31_5 (V39 : Fun) (fr : F) (h : Hp) : Out :=
  gtO (T.get fr (Pos.of 0)) fun v0 => bndO (oNilCheck v0 h) fun v21 h1 =>
  bndO (oFieldAddr 1 v21 h1) fun v22 h2 =>
  bndO (oLoad1 v22 h2) fun v23 h3 =>
  bndO (oBin .add .none v23 (.int .i64 1) h3) fun v24 h4 =>
  bndO (oNilCheck v0 h4) fun v25 h5 =>
  bndO (oFieldAddr 1 v25 h5) fun v26 h6 =>
  bndO (oStore 1 v26 v24 h6) fun _u7 h7 =>
  Out.nor fr h7
def Tryr31_6 (V39 : Fun) (fr : F) (h : Hp) : Out :=
  gtO (T.get fr (Pos.of 5)) fun v5 => Out.nor (T.set (some v5) (Pos.of 4) fr) h
def Tryb31_2 (V39 : Fun) : F → Hp → Out := (seqO (seqO (Tryr31_2 V39) (cndX (.tmp 10) Out.nor (Out.ex 0))) (blkO 1 (seqO (Tryr31_3 V39) (seqO (seqO (Tryr31_4 V39) (cndX (.tmp 19) (Out.ex 0) Out.nor)) (Tryr31_5 V39)))))
def Tryd31 (V39 : Fun) : F → Hp → Out := (seqO (Tryr31_0 V39) (seqO (Tryr31_1 V39) (seqO (blkO 0 (loopO (Tryb31_2 V39) lf)) (seqO (Tryr31_6 V39) Out.ret))))
def Trye31 (V39 : Fun) : FuncId → Option Fun := fun f => match Nat.beq f 39 with | true => some V39 | false => match Nat.beq f 40 with | true => some TryF40 | false => none
def Tryp31 : Plans := fun id => none
def TryF31 (V39 : Fun) : Fun := funX Try.prog 0 Tryk31 (Trye31 V39) Tryp31 lf Try.f31
theorem TryD31 (V39 : Fun) : denX Try.prog 0 Try.f31.ntmps Tryk31 (Trye31 V39) Tryp31 lf (codeOf Try.f31) = (Tryd31 V39) := by kernel_rfl
theorem TryF31_eq (V39 : Fun) (x0 x1 : V) (h : Hp) : (TryF31 V39) [x0, x1] h = outR Try.prog [.tmp 4] ((Tryd31 V39) (T.set (some x1) (Pos.of 1) (T.set (some x0) (Pos.of 0) T.nil)) h) := funX_eq (by kernel_rfl) (TryD31 V39) (by kernel_rfl) h
theorem Tryc31 (V39 : Fun) (H39 : CallOk Try.prog 0 39 V39) : CallOk Try.prog 0 31 (TryF31 V39) := funX_ok Trymix (callsOk_cons H39 (callsOk_cons Tryc40 callsOk_0)) Try.func31 (by kernel_rfl)

/-- the reference's words, where n lists may still be opened -/
def TryX : Nat → Fun
  | 0 => fun _ _ => .bad
  | n + 1 => TryF39 (TryF31 (TryX n))
theorem TryX_ok : ∀ n, CallOk Try.prog 0 39 (TryX n)
  | 0 => fun _ _ _ _ _ _ _ e => by cases e
  | n + 1 => Tryc39 _ (Tryc31 _ (TryX_ok n))
def TryF31r : Fun := TryF31 (TryX 20)
theorem Tryc31r : CallOk Try.prog 0 31 TryF31r := Tryc31 _ (TryX_ok 20)
/-! 25: (*pillarbox/pillarboxref22.Reader).reset -/
def Tryk25 : Nat → Bool := fun t => memN t [0]
def Tryr25_0 (fr : F) (h : Hp) : Out :=
  gtO (T.get fr (Pos.of 0)) fun v0 => bndO (oNilCheck v0 h) fun v3 h1 =>
  bndO (oFieldAddr 1 v3 h1) fun v4 h2 =>
  bndO (oStore 1 v4 .nils h2) fun _u3 h3 =>
  Out.nor fr h3
def Tryr25_1 (fr : F) (h : Hp) : Out :=
  gtO (T.get fr (Pos.of 0)) fun v0 => bndO (oNilCheck v0 h) fun v6 h1 =>
  bndO (oFieldAddr 2 v6 h1) fun v7 h2 =>
  bndO (oStore 1 v7 .nils h2) fun _u3 h3 =>
  Out.nor fr h3
def Tryr25_2 (fr : F) (h : Hp) : Out :=
  gtO (T.get fr (Pos.of 0)) fun v0 => bndO (oNilCheck v0 h) fun v9 h1 =>
  bndO (oFieldAddr 3 v9 h1) fun v10 h2 =>
  bndO (oStore 1 v10 (.int .i64 0) h2) fun _u3 h3 =>
  Out.nor fr h3
def Tryr25_3 (fr : F) (h : Hp) : Out :=
  gtO (T.get fr (Pos.of 0)) fun v0 => bndO (oNilCheck v0 h) fun v12 h1 =>
  bndO (oFieldAddr 4 v12 h1) fun v13 h2 =>
  bndO (oStore 1 v13 (.int .i64 0) h2) fun _u3 h3 =>
  Out.nor fr h3
def Tryr25_4 (fr : F) (h : Hp) : Out :=
  gtO (T.get fr (Pos.of 0)) fun v0 => bndO (oNilCheck v0 h) fun v15 h1 =>
  bndO (oFieldAddr 5 v15 h1) fun v16 h2 =>
  bndO (oStore 1 v16 (.int .i64 0) h2) fun _u3 h3 =>
  Out.nor fr h3
def Tryr25_5 (fr : F) (h : Hp) : Out :=
  gtO (T.get fr (Pos.of 0)) fun v0 => bndO (oNilCheck v0 h) fun v18 h1 =>
  bndO (oFieldAddr 6 v18 h1) fun v19 h2 =>
  bndO (oStore 1 v19 .nils h2) fun _u3 h3 =>
  Out.nor fr h3
def Tryr25_6 (fr : F) (h : Hp) : Out :=
  gtO (T.get fr (Pos.of 0)) fun v0 => bndO (oNilCheck v0 h) fun v21 h1 =>
  bndO (oFieldAddr 7 v21 h1) fun v22 h2 =>
  bndO (oStore 1 v22 (.bool false) h2) fun _u3 h3 =>
  Out.nor fr h3
def Tryd25 : F → Hp → Out := (seqO Tryr25_0 (seqO Tryr25_1 (seqO Tryr25_2 (seqO Tryr25_3 (seqO Tryr25_4 (seqO Tryr25_5 Tryr25_6))))))
def Trye25 : FuncId → Option Fun := fun f => none
def Tryp25 : Plans := fun id => none
def TryF25 : Fun := funX Try.prog 0 Tryk25 Trye25 Tryp25 lf Try.f25
theorem TryD25 : denX Try.prog 0 Try.f25.ntmps Tryk25 Trye25 Tryp25 lf (codeOf Try.f25) = Tryd25 := by kernel_rfl
theorem TryF25_eq (x0 : V) (h : Hp) : TryF25 [x0] h = outR Try.prog [] (Tryd25 (T.set (some x0) (Pos.of 0) T.nil) h) := funX_eq (by kernel_rfl) TryD25 (by kernel_rfl) h
theorem Tryc25 : CallOk Try.prog 0 25 TryF25 := funX_ok Trymix callsOk_0 Try.func25 (by kernel_rfl)

/-! 23: (*pillarbox/pillarboxref22.Reader).filled -/
def Tryk23 : Nat → Bool := fun t => memN t [0, 17]
def Tryr23_0 (fr : F) (h : Hp) : Out :=
  gtO (T.get fr (Pos.of 0)) fun w0_0 => bndO (oNilCheck w0_0 (bumpH 0 h)) fun v3 _ =>
  bndO (oFieldAddr 7 v3 (bumpH 0 h)) fun v4 _ =>
  bndO (oLoad1 v4 (bumpH 0 h)) fun v5 _ =>
  ifB v5 (gtO (T.get fr (Pos.of 0)) fun w5_0 => bndO (oNilCheck w5_0 (bumpH 0 h)) fun v8 _ =>
  bndO (oFieldAddr 6 v8 (bumpH 0 h)) fun v9 _ =>
  bndO (oLoad1 v9 (bumpH 0 h)) fun v10 _ =>
  bndO (oLenK 2 v10 (bumpH 0 h)) fun v11 _ =>
  gtO (T.get fr (Pos.of 0)) fun w10_0 => bndO (oNilCheck w10_0 (bumpH 0 h)) fun v13 _ =>
  bndO (oFieldAddr 5 v13 (bumpH 0 h)) fun v14 _ =>
  bndO (oLoad1 v14 (bumpH 0 h)) fun v15 _ =>
  bndO (oBin .eql .none v11 v15 (bumpH 0 h)) fun v16 _ =>
  Out.nor (T.set (some v16) (Pos.of 17) fr) (bumpH 0 h)) (Out.nor (T.set (some (.bool false)) (Pos.of 17) fr) (bumpH 0 h))
def Tryr23_1 (fr : F) (h : Hp) : Out :=
  gtO (T.get fr (Pos.of 0)) fun w1_0 => bndO (oNilCheck w1_0 (bumpH 1 h)) fun v20 _ =>
  bndO (oFieldAddr 2 v20 (bumpH 1 h)) fun v21 _ =>
  bndO (oLoad1 v21 (bumpH 1 h)) fun v22 _ =>
  gtO (T.get fr (Pos.of 0)) fun w5_0 => bndO (oNilCheck w5_0 (bumpH 1 h)) fun v24 _ =>
  bndO (oFieldAddr 6 v24 (bumpH 1 h)) fun v25 _ =>
  bndO (oLoad1 v25 (bumpH 1 h)) fun v26 _ =>
  bndO (oBytesStr v26 (bumpH 1 h)) fun v27 _ =>
  bndO (oBuild [(.int .u8 0), (.bool false), (.str [])] [(1, 1, (.bool true)), (2, 1, v27)] (bumpH 1 h)) fun v28 _ =>
  alcO (aBuildSlice [(.int .u8 0), (.bool false), (.str [])] 1 [(0, 3, v28)]) fun ob11 mk11 =>
  bndO (oAppend 3 24 v22 (mk11 (Hp.next h)) (Hp.put (bumpH 1 h) (Hp.next h) (some ob11))) fun v30 h12 =>
  gtO (T.get fr (Pos.of 0)) fun w0_0 => bndO (oNilCheck w0_0 h12) fun v31 _ =>
  bndO (oFieldAddr 2 v31 h12) fun v32 _ =>
  bndO (oStore 1 v32 v30 h12) fun _u15 h15 =>
  Out.nor fr h15
def Tryr23_2 (fr : F) (h : Hp) : Out :=
  gtO (T.get fr (Pos.of 0)) fun v0 => bndO (oNilCheck v0 h) fun v34 h1 =>
  bndO (oFieldAddr 7 v34 h1) fun v35 h2 =>
  bndO (oStore 1 v35 (.bool false) h2) fun _u3 h3 =>
  Out.nor fr h3
def Tryd23 : F → Hp → Out := (seqO Tryr23_0 (cndX (.tmp 17) (seqO Tryr23_1 Tryr23_2) Out.nor))
def Trye23 : FuncId → Option Fun := fun f => none
def Tryp23 : Plans := fun id => match Nat.beq id 0 with | true => some ([0, 1, 3, 7, 15, 31, 63, 127, 255, 511, 31, 1055, 3103, 7199, 16383, 32767], [(0, .pure), (1, .pure), (2, .pure), (3, .read 0), (4, .pure), (5, .pure), (6, .pure), (7, .pure), (8, .read 0), (9, .pure), (10, .pure), (11, .pure), (12, .pure), (13, .read 0), (14, .pure), (15, .pure)]) | false => match Nat.beq id 1 with | true => some ([0, 0, 2, 6, 14, 0, 32, 96, 224, 480, 992, 2016, 4094, 8191, 16383, 32767], [(1, .pure), (2, .pure), (3, .pure), (4, .read 0), (5, .pure), (6, .pure), (7, .pure), (8, .read 0), (9, .read 0), (10, .pure), (11, .alloc), (12, .heavy), (0, .pure), (13, .pure), (14, .pure), (15, .heavy)]) | false => none
def TryF23 : Fun := funX Try.prog 0 Tryk23 Trye23 Tryp23 lf Try.f23
theorem TryD23 : denX Try.prog 0 Try.f23.ntmps Tryk23 Trye23 Tryp23 lf (codeOf Try.f23) = Tryd23 := by kernel_rfl
theorem TryF23_eq (x0 : V) (h : Hp) : TryF23 [x0] h = outR Try.prog [] (Tryd23 (T.set (some x0) (Pos.of 0) T.nil) h) := funX_eq (by kernel_rfl) TryD23 (by kernel_rfl) h
theorem Tryc23 : CallOk Try.prog 0 23 TryF23 := funX_ok Trymix callsOk_0 Try.func23 (by kernel_rfl)

/-! 24: (*pillarbox/pillarboxref22.Reader).line -/
def Tryk24 : Nat → Bool := fun t => memN t [0, 2, 3, 4, 5, 6, 7, 8, 9, 10, 25, 51, 54, 64, 104, 138]
def Tryr24_0 (fr : F) (h : Hp) : Out :=
  Out.nor (T.set (some .nils) (Pos.of 2) fr) h
def Tryr24_1 (fr : F) (h : Hp) : Out :=
  gtO (T.get fr (Pos.of 0)) fun v0 => bndO (oNilCheck v0 h) fun v12 h1 =>
  bndO (oFieldAddr 1 v12 h1) fun v13 h2 =>
  bndO (oLoad1 v13 h2) fun v14 h3 =>
  bndO (oBytesStr v14 h3) fun v15 h4 =>
  Out.nor (T.set (some v15) (Pos.of 3) fr) h4
def Tryr24_2 (fr : F) (h : Hp) : Out :=
  gtO (T.get fr (Pos.of 3)) fun v3 => bndO (oBin .neq .none v3 (.str []) h) fun v17 h1 =>
  ifB v17 (bndO (oLenK 1 v3 h1) fun v21 h5 =>
  bndO (oBin .sub .none v21 (.int .i64 1) h5) fun v22 h6 =>
  bndO (oIdxStr v3 v22 h6) fun v23 h7 =>
  bndO (oBin .eql .none v23 (.int .u8 13) h7) fun v24 h8 =>
  Out.nor (T.set (some v24) (Pos.of 25) fr) h8) (Out.nor (T.set (some (.bool false)) (Pos.of 25) fr) h1)
def Tryr24_3 (fr : F) (h : Hp) : Out :=
  gtO (T.get fr (Pos.of 3)) fun v3 => bndO (oLenK 1 v3 h) fun v28 h2 =>
  bndO (oBin .sub .none v28 (.int .i64 1) h2) fun v29 h3 =>
  bndO (oSliceStr v3 none (some v29) h3) fun v30 h4 =>
  Out.nor (T.set (some v30) (Pos.of 3) fr) h4
def Tryr24_4 (fr : F) (h : Hp) : Out :=
  gtO (T.get fr (Pos.of 3)) fun v3 => bndO (TryF29 [v3] h) fun v33 h1 =>
  bndO (oExtract 0 v33 h1) fun v34 h3 =>
  bndO (oExtract 1 v33 h3) fun v35 h4 =>
  bndO (oExtract 2 v33 h4) fun v36 h5 =>
  bndO (oExtract 3 v33 h5) fun v37 h6 =>
  Out.nor (T.set (some v37) (Pos.of 7) (T.set (some v36) (Pos.of 6) (T.set (some v35) (Pos.of 5) (T.set (some v34) (Pos.of 4) fr)))) h6
def Tryr24_5 (fr : F) (h : Hp) : Out :=
  gtO (T.get fr (Pos.of 7)) fun w0_7 => ifB w0_7 (gtO (T.get fr (Pos.of 4)) fun w2_4 => gtO (T.get fr (Pos.of 0)) fun w3_0 => bndO (oNilCheck w3_0 (bumpH 0 h)) fun v42 _ =>
  bndO (oFieldAddr 0 v42 (bumpH 0 h)) fun v43 _ =>
  bndO (oLoad1 v43 (bumpH 0 h)) fun v44 _ =>
  gtO (T.get fr (Pos.of 0)) fun w7_0 => bndO (oNilCheck w7_0 (bumpH 0 h)) fun v46 _ =>
  bndO (oFieldAddr 4 v46 (bumpH 0 h)) fun v47 _ =>
  bndO (oLoad1 v47 (bumpH 0 h)) fun v48 _ =>
  bndO (oBin .sub .none v44 v48 (bumpH 0 h)) fun v49 _ =>
  bndO (oBin .gtr .none w2_4 v49 (bumpH 0 h)) fun v50 _ =>
  Out.nor (T.set (some v50) (Pos.of 51) fr) (bumpH 0 h)) (Out.nor (T.set (some (.bool false)) (Pos.of 51) fr) (bumpH 0 h))
def Tryr24_6 (fr : F) (h : Hp) : Out :=
  gtO (T.get fr (Pos.of 0)) fun v0 => bndO (TryF25 [v0] h) fun v53 h1 =>
  Out.nor fr h1
def Tryr24_7 (fr : F) (h : Hp) : Out :=
  gtO (T.get fr (Pos.of 5)) fun v5 => Out.nor (T.set (some v5) (Pos.of 54) fr) h
def Tryr24_8 (fr : F) (h : Hp) : Out :=
  gtO (T.get fr (Pos.of 0)) fun v0 => gtO (T.get fr (Pos.of 4)) fun v4 => bndO (oNilCheck v0 h) fun v57 h2 =>
  bndO (oFieldAddr 8 v57 h2) fun v58 h3 =>
  bndO (oStore 1 v58 v4 h3) fun _u4 h4 =>
  Out.nor fr h4
def Tryr24_9 (fr : F) (h : Hp) : Out :=
  gtO (T.get fr (Pos.of 0)) fun v0 => bndO (oNilCheck v0 h) fun v60 h1 =>
  bndO (oFieldAddr 9 v60 h1) fun v61 h2 =>
  bndO (oStore 1 v61 (.bool true) h2) fun _u3 h3 =>
  Out.nor fr h3
def Tryr24_10 (fr : F) (h : Hp) : Out :=
  bndO (oBuild [(.int .i64 0), .nils] [(0, 1, (.int .i64 3))] h) fun v62 h0 =>
  bndO (oBuildSlice [(.int .i64 0), .nils] 1 [(0, 2, v62)] h0) fun v63 h1 =>
  Out.nor (T.set (some v63) (Pos.of 2) fr) h1
def Tryr24_11 (fr : F) (h : Hp) : Out :=
  gtO (T.get fr (Pos.of 7)) fun v7 => Out.nor (T.set (some v7) (Pos.of 64) fr) h
def Tryr24_12 (fr : F) (h : Hp) : Out :=
  gtO (T.get fr (Pos.of 0)) fun v0 => gtO (T.get fr (Pos.of 3)) fun v3 => gtO (T.get fr (Pos.of 6)) fun v6 => bndO (oSliceStr v3 none (some v6) h) fun v68 h3 =>
  bndO (TryF30 [v0, v68] h3) fun v69 h4 =>
  Out.nor fr h4
def Tryr24_13 (fr : F) (h : Hp) : Out :=
  gtO (T.get fr (Pos.of 0)) fun v0 => bndO (oNilCheck v0 h) fun v72 h2 =>
  bndO (oFieldAddr 3 v72 h2) fun v73 h3 =>
  bndO (oLoad1 v73 h3) fun v74 h4 =>
  gtO (T.get fr (Pos.of 3)) fun v3 => bndO (oLenK 1 v3 h4) fun v76 h6 =>
  bndO (oBin .add .none v74 v76 h6) fun v77 h7 =>
  bndO (oNilCheck v0 h7) fun v78 h8 =>
  bndO (oFieldAddr 3 v78 h8) fun v79 h9 =>
  bndO (oStore 1 v79 v77 h9) fun _u10 h10 =>
  Out.nor fr h10
def Tryr24_14 (fr : F) (h : Hp) : Out :=
  gtO (T.get fr (Pos.of 0)) fun v0 => bndO (oNilCheck v0 h) fun v82 h2 =>
  bndO (oFieldAddr 4 v82 h2) fun v83 h3 =>
  bndO (oLoad1 v83 h3) fun v84 h4 =>
  gtO (T.get fr (Pos.of 4)) fun v4 => bndO (oBin .add .none v84 v4 h4) fun v86 h6 =>
  bndO (oNilCheck v0 h6) fun v87 h7 =>
  bndO (oFieldAddr 4 v87 h7) fun v88 h8 =>
  bndO (oStore 1 v88 v86 h8) fun _u9 h9 =>
  Out.nor fr h9
def Tryr24_15 (fr : F) (h : Hp) : Out :=
  gtO (T.get fr (Pos.of 0)) fun v0 => bndO (oNilCheck v0 h) fun v90 h1 =>
  bndO (oFieldAddr 1 v90 h1) fun v91 h2 =>
  bndO (oStore 1 v91 .nils h2) fun _u3 h3 =>
  Out.nor fr h3
def Tryr24_16 (fr : F) (h : Hp) : Out :=
  gtO (T.get fr (Pos.of 0)) fun v0 => gtO (T.get fr (Pos.of 4)) fun v4 => bndO (oNilCheck v0 h) fun v94 h2 =>
  bndO (oFieldAddr 5 v94 h2) fun v95 h3 =>
  bndO (oStore 1 v95 v4 h3) fun _u4 h4 =>
  Out.nor fr h4
def Tryr24_17 (fr : F) (h : Hp) : Out :=
  gtO (T.get fr (Pos.of 0)) fun v0 => bndO (oNilCheck v0 h) fun v97 h1 =>
  bndO (oFieldAddr 6 v97 h1) fun v98 h2 =>
  bndO (oStore 1 v98 .nils h2) fun _u3 h3 =>
  Out.nor fr h3
def Tryr24_18 (fr : F) (h : Hp) : Out :=
  gtO (T.get fr (Pos.of 0)) fun v0 => bndO (oNilCheck v0 h) fun v100 h1 =>
  bndO (oFieldAddr 7 v100 h1) fun v101 h2 =>
  bndO (oStore 1 v101 (.bool true) h2) fun _u3 h3 =>
  Out.nor fr h3
def Tryr24_19 (fr : F) (h : Hp) : Out :=
  gtO (T.get fr (Pos.of 0)) fun v0 => bndO (TryF23 [v0] h) fun v103 h1 =>
  Out.nor fr h1
def Tryr24_20 (fr : F) (h : Hp) : Out :=
  gtO (T.get fr (Pos.of 5)) fun v5 => Out.nor (T.set (some v5) (Pos.of 104) fr) h
def Tryr24_21 (fr : F) (h : Hp) : Out :=
  Out.nor (T.set (some .nils) (Pos.of 2) fr) h
def Tryr24_22 (fr : F) (h : Hp) : Out :=
  bndO (oBuild [(.int .i64 0), .nils] [(0, 1, (.int .i64 2))] h) fun v105 h0 =>
  bndO (oBuildSlice [(.int .i64 0), .nils] 1 [(0, 2, v105)] h0) fun v106 h1 =>
  Out.nor (T.set (some v106) (Pos.of 2) fr) h1
def Tryr24_23 (fr : F) (h : Hp) : Out :=
  gtO (T.get fr (Pos.of 0)) fun v0 => gtO (T.get fr (Pos.of 3)) fun v3 => bndO (TryF30 [v0, v3] h) fun v109 h2 =>
  Out.nor fr h2
def Tryr24_24 (fr : F) (h : Hp) : Out :=
  gtO (T.get fr (Pos.of 0)) fun v0 => bndO (oNilCheck v0 h) fun v111 h1 =>
  bndO (oFieldAddr 2 v111 h1) fun v112 h2 =>
  bndO (oLoad1 v112 h2) fun v113 h3 =>
  bndO (oBuild [.nils, (.int .i64 0), (.bool false)] [(0, 1, v113)] h3) fun v114 h4 =>
  bndO (oBox v114 h4) fun v115 h5 =>
  Out.nor (T.set (some v115) (Pos.of 8) fr) h5
def Tryr24_25 (fr : F) (h : Hp) : Out :=
  gtO (T.get fr (Pos.of 8)) fun v8 => bndO (TryF31r [v8, (.int .i64 0)] h) fun v117 h1 =>
  Out.nor (T.set (some v117) (Pos.of 9) fr) h1
def Tryr24_26 (fr : F) (h : Hp) : Out :=
  gtO (T.get fr (Pos.of 8)) fun w0_8 => bndO (oNilCheck w0_8 (bumpH 0 h)) fun v119 _ =>
  bndO (oFieldAddr 2 v119 (bumpH 0 h)) fun v120 _ =>
  bndO (oLoad1 v120 (bumpH 0 h)) fun v121 _ =>
  bndO (oUn .not v121 (bumpH 0 h)) fun v122 _ =>
  ifB v122 (gtO (T.get fr (Pos.of 8)) fun w6_8 => bndO (oNilCheck w6_8 (bumpH 0 h)) fun v125 _ =>
  bndO (oFieldAddr 1 v125 (bumpH 0 h)) fun v126 _ =>
  bndO (oLoad1 v126 (bumpH 0 h)) fun v127 _ =>
  gtO (T.get fr (Pos.of 8)) fun w10_8 => bndO (oNilCheck w10_8 (bumpH 0 h)) fun v129 _ =>
  bndO (oFieldAddr 0 v129 (bumpH 0 h)) fun v130 _ =>
  bndO (oLoad1 v130 (bumpH 0 h)) fun v131 _ =>
  bndO (oLenK 2 v131 (bumpH 0 h)) fun v132 _ =>
  bndO (oBin .eql .none v127 v132 (bumpH 0 h)) fun v133 _ =>
  Out.nor (T.set (some v133) (Pos.of 10) fr) (bumpH 0 h)) (Out.nor (T.set (some (.bool false)) (Pos.of 10) fr) (bumpH 0 h))
def Tryr24_27 (fr : F) (h : Hp) : Out :=
  gtO (T.get fr (Pos.of 0)) fun v0 => bndO (TryF25 [v0] h) fun v136 h1 =>
  Out.nor fr h1
def Tryr24_28 (fr : F) (h : Hp) : Out :=
  gtO (T.get fr (Pos.of 10)) fun v10 => bndO (oUn .not v10 h) fun v138 h1 =>
  Out.nor (T.set (some v138) (Pos.of 138) fr) h1
def Tryr24_29 (fr : F) (h : Hp) : Out :=
  bndO (oBuild [(.int .i64 0), .nils] [(0, 1, (.int .i64 3))] h) fun v139 h0 =>
  bndO (oBuildSlice [(.int .i64 0), .nils] 1 [(0, 2, v139)] h0) fun v140 h1 =>
  Out.nor (T.set (some v140) (Pos.of 2) fr) h1
def Tryr24_30 (fr : F) (h : Hp) : Out :=
  gtO (T.get fr (Pos.of 9)) fun v9 => bndO (oBuild [(.int .i64 0), .nils] [(0, 1, (.int .i64 1)), (1, 1, v9)] h) fun v142 h1 =>
  bndO (oBuildSlice [(.int .i64 0), .nils] 1 [(0, 2, v142)] h1) fun v143 h2 =>
  Out.nor (T.set (some v143) (Pos.of 2) fr) h2
def Tryd24 : F → Hp → Out := (seqO Tryr24_0 (seqO Tryr24_1 (seqO (seqO Tryr24_2 (cndX (.tmp 25) Tryr24_3 Out.nor)) (seqO Tryr24_4 (seqO (seqO Tryr24_5 (cndX (.tmp 51) (seqO Tryr24_6 (seqO (seqO Tryr24_7 (cndX (.tmp 54) (seqO Tryr24_8 Tryr24_9) Out.nor)) (seqO Tryr24_10 Out.ret))) Out.nor)) (seqO (seqO Tryr24_11 (cndX (.tmp 64) (seqO Tryr24_12 (seqO Tryr24_13 (seqO Tryr24_14 (seqO Tryr24_15 (seqO Tryr24_16 (seqO Tryr24_17 (seqO Tryr24_18 (seqO Tryr24_19 (seqO (seqO Tryr24_20 (cndX (.tmp 104) (seqO Tryr24_21 Out.ret) Out.nor)) (seqO Tryr24_22 Out.ret)))))))))) Out.nor)) (seqO Tryr24_23 (seqO Tryr24_24 (seqO Tryr24_25 (seqO Tryr24_26 (seqO Tryr24_27 (seqO (seqO Tryr24_28 (cndX (.tmp 138) (seqO Tryr24_29 Out.ret) Out.nor)) (seqO Tryr24_30 Out.ret)))))))))))))
def Trye24 : FuncId → Option Fun := fun f => match Nat.beq f 29 with | true => some TryF29 | false => match Nat.beq f 25 with | true => some TryF25 | false => match Nat.beq f 30 with | true => some TryF30 | false => match Nat.beq f 23 with | true => some TryF23 | false => match Nat.beq f 31 with | true => some TryF31r | false => none
def Tryp24 : Plans := fun id => match Nat.beq id 5 with | true => some ([0, 1, 3, 3, 11, 27, 59, 3, 131, 387, 899, 2043, 4095, 8191], [(0, .pure), (1, .pure), (2, .pure), (3, .pure), (4, .pure), (5, .pure), (6, .read 0), (7, .pure), (8, .pure), (9, .pure), (10, .read 0), (11, .pure), (12, .pure), (13, .pure)]) | false => match Nat.beq id 26 with | true => some ([0, 1, 3, 7, 15, 31, 63, 127, 255, 511, 63, 1087, 3135, 7231, 15423, 32767, 65535, 131071], [(0, .pure), (1, .pure), (2, .pure), (3, .read 0), (4, .pure), (5, .pure), (6, .pure), (7, .pure), (8, .pure), (9, .read 0), (10, .pure), (11, .pure), (12, .pure), (13, .read 0), (14, .pure), (15, .pure), (16, .pure), (17, .pure)]) | false => none
def TryF24 : Fun := funX Try.prog 0 Tryk24 Trye24 Tryp24 lf Try.f24
theorem TryD24 : denX Try.prog 0 Try.f24.ntmps Tryk24 Trye24 Tryp24 lf (codeOf Try.f24) = Tryd24 := by kernel_rfl
theorem TryF24_eq (x0 : V) (h : Hp) : TryF24 [x0] h = outR Try.prog [.tmp 2] (Tryd24 (T.set (some x0) (Pos.of 0) T.nil) h) := funX_eq (by kernel_rfl) TryD24 (by kernel_rfl) h
theorem Tryc24 : CallOk Try.prog 0 24 TryF24 := funX_ok Trymix (callsOk_cons Tryc29 (callsOk_cons Tryc25 (callsOk_cons Tryc30 (callsOk_cons Tryc23 (callsOk_cons Tryc31r callsOk_0))))) Try.func24 (by kernel_rfl)

/-! 17: (*pillarbox/pillarboxref22.Reader).Feed -/
def Tryk17 : Nat → Bool := fun t => memN t [0, 1, 4, 5, 6, 7, 8, 12, 39, 59, 72, 82, 99]
def Tryr17_0 (fr : F) (h : Hp) : Out :=
  Out.nor (T.set (some .nils) (Pos.of 4) fr) h
def Tryr17_1 (fr : F) (h : Hp) : Out :=
  Out.nor (T.set (some .nils) (Pos.of 5) fr) h
def Tryr17_2 (fr : F) (h : Hp) : Out :=
  Out.nor (T.set (some (.int .i64 0)) (Pos.of 6) fr) h
def Tryr17_3 (fr : F) (h : Hp) : Out :=
  gtO (T.get fr (Pos.of 6)) fun v6 => gtO (T.get fr (Pos.of 1)) fun v1 => bndO (oLenK 2 v1 h) fun v11 h2 =>
  bndO (oBin .lss .none v6 v11 h2) fun v12 h3 =>
  Out.nor (T.set (some v12) (Pos.of 12) fr) h3
def Tryr17_5 (fr : F) (h : Hp) : Out :=
  gtO (T.get fr (Pos.of 1)) fun v1 => gtO (T.get fr (Pos.of 6)) fun v6 => bndO (oIdxS 1 v1 v6 h) fun v17 h2 =>
  bndO (oLoad1 v17 h2) fun v18 h3 =>
  Out.nor (T.set (some v18) (Pos.of 7) fr) h3
def Tryr17_12 (fr : F) (h : Hp) : Out :=
  gtO (T.get fr (Pos.of 0)) fun v0 => bndO (oNilCheck v0 h) fun v61 h1 =>
  bndO (oFieldAddr 8 v61 h1) fun v62 h2 =>
  bndO (oLoad1 v62 h2) fun v63 h3 =>
  bndO (oBin .gtr .none v63 (.int .i64 0) h3) fun v64 h4 =>
  Out.nor (T.set (some v64) (Pos.of 59) fr) h4
def Tryr17_13 (fr : F) (h : Hp) : Out :=
  gtO (T.get fr (Pos.of 0)) fun v0 => bndO (oNilCheck v0 h) fun v66 h1 =>
  bndO (oFieldAddr 8 v66 h1) fun v67 h2 =>
  bndO (oLoad1 v67 h2) fun v68 h3 =>
  bndO (oBin .sub .none v68 (.int .i64 1) h3) fun v69 h4 =>
  bndO (oNilCheck v0 h4) fun v70 h5 =>
  bndO (oFieldAddr 8 v70 h5) fun v71 h6 =>
  bndO (oStore 1 v71 v69 h6) fun _u7 h7 =>
  Out.nor fr h7
def Tryr17_14 (fr : F) (h : Hp) : Out :=
  gtO (T.get fr (Pos.of 0)) fun v0 => bndO (oNilCheck v0 h) fun v74 h1 =>
  bndO (oFieldAddr 9 v74 h1) fun v75 h2 =>
  bndO (oLoad1 v75 h2) fun v76 h3 =>
  Out.nor (T.set (some v76) (Pos.of 72) fr) h3
def Tryr17_15 (fr : F) (h : Hp) : Out :=
  gtO (T.get fr (Pos.of 0)) fun v0 => gtO (T.get fr (Pos.of 7)) fun v7 => bndO (oBin .neq .none v7 (.int .u8 10) h) fun v79 h2 =>
  bndO (oNilCheck v0 h2) fun v80 h3 =>
  bndO (oFieldAddr 9 v80 h3) fun v81 h4 =>
  bndO (oStore 1 v81 v79 h4) fun _u5 h5 =>
  Out.nor fr h5
def Tryr17_16 (fr : F) (h : Hp) : Out :=
  gtO (T.get fr (Pos.of 0)) fun v0 => bndO (oNilCheck v0 h) fun v84 h1 =>
  bndO (oFieldAddr 7 v84 h1) fun v85 h2 =>
  bndO (oLoad1 v85 h2) fun v86 h3 =>
  Out.nor (T.set (some v86) (Pos.of 82) fr) h3
def Tryr17_17 (fr : F) (h : Hp) : Out :=
  gtO (T.get fr (Pos.of 0)) fun v0 => bndO (oNilCheck v0 h) fun v89 h2 =>
  bndO (oFieldAddr 6 v89 h2) fun v90 h3 =>
  bndO (oLoad1 v90 h3) fun v91 h4 =>
  gtO (T.get fr (Pos.of 7)) fun v7 => bndO (oBuildSlice [(.int .u8 0)] 1 [(0, 1, v7)] h4) fun v93 h6 =>
  bndO (oAppend 1 1 v91 v93 h6) fun v94 h7 =>
  bndO (oNilCheck v0 h7) fun v95 h8 =>
  bndO (oFieldAddr 6 v95 h8) fun v96 h9 =>
  bndO (oStore 1 v96 v94 h9) fun _u10 h10 =>
  Out.nor fr h10
def Tryr17_18 (fr : F) (h : Hp) : Out :=
  gtO (T.get fr (Pos.of 0)) fun v0 => bndO (TryF23 [v0] h) fun v98 h1 =>
  Out.nor fr h1
def Tryr17_19 (fr : F) (h : Hp) : Out :=
  gtO (T.get fr (Pos.of 7)) fun v7 => bndO (oBin .eql .none v7 (.int .u8 10) h) fun v101 h1 =>
  Out.nor (T.set (some v101) (Pos.of 99) fr) h1
def Tryr17_20 (fr : F) (h : Hp) : Out :=
  gtO (T.get fr (Pos.of 5)) fun v5 => gtO (T.get fr (Pos.of 0)) fun v0 => bndO (TryF24 [v0] h) fun v104 h2 =>
  bndO (oAppend 2 32 v5 v104 h2) fun v105 h3 =>
  Out.nor (T.set (some v105) (Pos.of 5) fr) h3
def Tryr17_6 (fr : F) (h : Hp) : Out :=
  gtO (T.get fr (Pos.of 0)) fun w0_0 => bndO (oNilCheck w0_0 (bumpH 0 h)) fun v20 _ =>
  bndO (oFieldAddr 3 v20 (bumpH 0 h)) fun v21 _ =>
  bndO (oLoad1 v21 (bumpH 0 h)) fun v22 _ =>
  gtO (T.get fr (Pos.of 0)) fun w4_0 => bndO (oNilCheck w4_0 (bumpH 0 h)) fun v24 _ =>
  bndO (oFieldAddr 1 v24 (bumpH 0 h)) fun v25 _ =>
  bndO (oLoad1 v25 (bumpH 0 h)) fun v26 _ =>
  bndO (oLenK 2 v26 (bumpH 0 h)) fun v27 _ =>
  bndO (oBin .add .none v22 v27 (bumpH 0 h)) fun v28 _ =>
  bndO (oBin .add .none v28 (.int .i64 1) (bumpH 0 h)) fun v29 _ =>
  Out.nor (T.set (some v29) (Pos.of 8) fr) (bumpH 0 h)
def Tryr17_7 (fr : F) (h : Hp) : Out :=
  gtO (T.get fr (Pos.of 8)) fun v8 => bndO (oBin .gtr .none v8 (.int .i64 4097) h) fun v31 h1 =>
  ifB v31 (Out.nor (T.set (some (.bool true)) (Pos.of 39) fr) h1) (bndO (oBin .eql .none v8 (.int .i64 4097) h1) fun v34 h4 =>
  ifB v34 (gtO (T.get fr (Pos.of 7)) fun v7 => bndO (oBin .neq .none v7 (.int .u8 13) h4) fun v37 h7 =>
  Out.nor (T.set (some v37) (Pos.of 39) fr) h7) (Out.nor (T.set (some (.bool false)) (Pos.of 39) fr) h4))
def Tryr17_8 (fr : F) (h : Hp) : Out :=
  gtO (T.get fr (Pos.of 0)) fun v0 => bndO (TryF25 [v0] h) fun v41 h1 =>
  Out.nor fr h1
def Tryr17_9 (fr : F) (h : Hp) : Out :=
  gtO (T.get fr (Pos.of 0)) fun v0 => bndO (oNilCheck v0 h) fun v43 h1 =>
  bndO (oFieldAddr 9 v43 h1) fun v44 h2 =>
  bndO (oStore 1 v44 (.bool true) h2) fun _u3 h3 =>
  Out.nor fr h3
def Tryr17_10 (fr : F) (h : Hp) : Out :=
  gtO (T.get fr (Pos.of 5)) fun v5 => bndO (oBuild [(.int .i64 0), .nils] [(0, 1, (.int .i64 3))] h) fun v46 h1 =>
  bndO (oBuildSlice [(.int .i64 0), .nils] 1 [(0, 2, v46)] h1) fun v47 h2 =>
  bndO (oAppend 2 32 v5 v47 h2) fun v48 h3 =>
  Out.nor (T.set (some v48) (Pos.of 5) fr) h3
def Tryr17_11 (fr : F) (h : Hp) : Out :=
  gtO (T.get fr (Pos.of 0)) fun v0 => bndO (oNilCheck v0 h) fun v51 h2 =>
  bndO (oFieldAddr 1 v51 h2) fun v52 h3 =>
  bndO (oLoad1 v52 h3) fun v53 h4 =>
  gtO (T.get fr (Pos.of 7)) fun v7 => bndO (oBuildSlice [(.int .u8 0)] 1 [(0, 1, v7)] h4) fun v55 h6 =>
  bndO (oAppend 1 1 v53 v55 h6) fun v56 h7 =>
  bndO (oNilCheck v0 h7) fun v57 h8 =>
  bndO (oFieldAddr 1 v57 h8) fun v58 h9 =>
  bndO (oStore 1 v58 v56 h9) fun _u10 h10 =>
  Out.nor fr h10
def Tryr17_4 (fr : F) (h : Hp) : Out :=
  gtO (T.get fr (Pos.of 6)) fun v6 => bndO (oBin .add .none v6 (.int .i64 1) h) fun v14 h1 =>
  Out.nor (T.set (some v14) (Pos.of 6) fr) h1
def Tryr17_21 (fr : F) (h : Hp) : Out :=
  gtO (T.get fr (Pos.of 5)) fun v5 => Out.nor (T.set (some v5) (Pos.of 4) fr) h
def Tryb17_3 : F → Hp → Out := (seqO (seqO Tryr17_3 (cndX (.tmp 12) Out.nor (Out.ex 0))) (seqO (blkO 1 (seqO Tryr17_5 (blkO 2 (seqO Tryr17_12 (cndX (.tmp 59) Tryr17_13 (seqO Tryr17_14 (cndX (.tmp 72) Tryr17_15 (seqO Tryr17_16 (cndX (.tmp 82) (seqO Tryr17_17 Tryr17_18) (seqO Tryr17_19 (cndX (.tmp 99) Tryr17_20 (seqO Tryr17_6 (seqO Tryr17_7 (cndX (.tmp 39) (seqO Tryr17_8 (seqO Tryr17_9 Tryr17_10)) Tryr17_11)))))))))))))) Tryr17_4))
def Tryd17 : F → Hp → Out := (seqO Tryr17_0 (seqO Tryr17_1 (seqO (seqO Tryr17_2 (blkO 0 (loopO Tryb17_3 lf))) (seqO Tryr17_21 Out.ret))))
def Trye17 : FuncId → Option Fun := fun f => match Nat.beq f 23 with | true => some TryF23 | false => match Nat.beq f 24 with | true => some TryF24 | false => match Nat.beq f 25 with | true => some TryF25 | false => none
def Tryp17 : Plans := fun id => match Nat.beq id 6 with | true => some ([0, 1, 3, 7, 0, 16, 48, 112, 240, 511, 1023, 2047], [(0, .pure), (1, .pure), (2, .pure), (3, .read 0), (4, .pure), (5, .pure), (6, .pure), (7, .read 0), (8, .pure), (9, .pure), (10, .pure), (11, .pure)]) | false => none
def TryF17 : Fun := funX Try.prog 0 Tryk17 Trye17 Tryp17 lf Try.f17
theorem TryD17 : denX Try.prog 0 Try.f17.ntmps Tryk17 Trye17 Tryp17 lf (codeOf Try.f17) = Tryd17 := by kernel_rfl
theorem TryF17_eq (x0 x1 : V) (h : Hp) : TryF17 [x0, x1] h = outR Try.prog [.tmp 4] (Tryd17 (T.set (some x1) (Pos.of 1) (T.set (some x0) (Pos.of 0) T.nil)) h) := funX_eq (by kernel_rfl) TryD17 (by kernel_rfl) h
theorem Tryc17 : CallOk Try.prog 0 17 TryF17 := funX_ok Trymix (callsOk_cons Tryc23 (callsOk_cons Tryc24 (callsOk_cons Tryc25 callsOk_0))) Try.func17 (by kernel_rfl)

/-! 14: pillarbox/pillarboxref22.New -/
def Tryk14 : Nat → Bool := fun t => memN t [0, 2]
def Tryr14_0 (fr : F) (h : Hp) : Out :=
  Out.nor (T.set (some .nilp) (Pos.of 2) fr) h
def Tryr14_1 (fr : F) (h : Hp) : Out :=
  gtO (T.get fr (Pos.of 0)) fun v0 => bndO (oMax v0 (.int .i64 1) h) fun v4 h1 =>
  bndO (oBuild [(.int .i64 0), .nils, .nils, (.int .i64 0), (.int .i64 0), (.int .i64 0), .nils, (.bool false), (.int .i64 0), (.bool false)] [(0, 1, v4)] h1) fun v5 h2 =>
  bndO (oBox v5 h2) fun v6 h3 =>
  Out.nor (T.set (some v6) (Pos.of 2) fr) h3
def Tryd14 : F → Hp → Out := (seqO Tryr14_0 (seqO Tryr14_1 Out.ret))
def Trye14 : FuncId → Option Fun := fun f => none
def Tryp14 : Plans := fun id => none
def TryF14 : Fun := funX Try.prog 0 Tryk14 Trye14 Tryp14 lf Try.f14
theorem TryD14 : denX Try.prog 0 Try.f14.ntmps Tryk14 Trye14 Tryp14 lf (codeOf Try.f14) = Tryd14 := by kernel_rfl
theorem TryF14_eq (x0 : V) (h : Hp) : TryF14 [x0] h = outR Try.prog [.tmp 2] (Tryd14 (T.set (some x0) (Pos.of 0) T.nil) h) := funX_eq (by kernel_rfl) TryD14 (by kernel_rfl) h
theorem Tryc14 : CallOk Try.prog 0 14 TryF14 := funX_ok Trymix callsOk_0 Try.func14 (by kernel_rfl)

/-! 15: pillarbox/pillarboxlaw22.same -/
def Tryk15 : Nat → Bool := fun t => memN t [0, 1, 4, 5, 10, 14, 41]
def Tryr15_0 (fr : F) (h : Hp) : Out :=
  Out.nor (T.set (some (.bool false)) (Pos.of 4) fr) h
def Tryr15_1 (fr : F) (h : Hp) : Out :=
  gtO (T.get fr (Pos.of 0)) fun v0 => bndO (oLenK 2 v0 h) fun v7 h1 =>
  gtO (T.get fr (Pos.of 1)) fun v1 => bndO (oLenK 2 v1 h1) fun v9 h3 =>
  bndO (oBin .neq .none v7 v9 h3) fun v10 h4 =>
  Out.nor (T.set (some v10) (Pos.of 10) fr) h4
def Tryr15_2 (fr : F) (h : Hp) : Out :=
  Out.nor (T.set (some (.bool false)) (Pos.of 4) fr) h
def Tryr15_3 (fr : F) (h : Hp) : Out :=
  Out.nor (T.set (some (.int .i64 0)) (Pos.of 5) fr) h
def Tryr15_4 (fr : F) (h : Hp) : Out :=
  gtO (T.get fr (Pos.of 5)) fun v5 => gtO (T.get fr (Pos.of 0)) fun v0 => bndO (oLenK 2 v0 h) fun v13 h2 =>
  bndO (oBin .lss .none v5 v13 h2) fun v14 h3 =>
  Out.nor (T.set (some v14) (Pos.of 14) fr) h3
def Tryr15_6 (fr : F) (h : Hp) : Out :=
  gtO (T.get fr (Pos.of 0)) fun w0_0 => gtO (T.get fr (Pos.of 5)) fun w1_5 => bndO (oIdxS 2 w0_0 w1_5 (bumpH 0 h)) fun v19 _ =>
  bndO (oFieldAddr 0 v19 (bumpH 0 h)) fun v20 _ =>
  bndO (oLoad1 v20 (bumpH 0 h)) fun v21 _ =>
  gtO (T.get fr (Pos.of 1)) fun w5_1 => gtO (T.get fr (Pos.of 5)) fun w6_5 => bndO (oIdxS 2 w5_1 w6_5 (bumpH 0 h)) fun v24 _ =>
  bndO (oFieldAddr 0 v24 (bumpH 0 h)) fun v25 _ =>
  bndO (oLoad1 v25 (bumpH 0 h)) fun v26 _ =>
  bndO (oBin .neq .none v21 v26 (bumpH 0 h)) fun v27 _ =>
  ifB v27 (Out.nor (T.set (some (.bool true)) (Pos.of 41) fr) (bumpH 0 h)) (gtO (T.get fr (Pos.of 0)) fun w12_0 => gtO (T.get fr (Pos.of 5)) fun w13_5 => bndO (oIdxS 2 w12_0 w13_5 (bumpH 0 h)) fun v31 _ =>
  bndO (oFieldAddr 1 v31 (bumpH 0 h)) fun v32 _ =>
  bndO (oLoad1 v32 (bumpH 0 h)) fun v33 _ =>
  gtO (T.get fr (Pos.of 1)) fun w17_1 => gtO (T.get fr (Pos.of 5)) fun w18_5 => bndO (oIdxS 2 w17_1 w18_5 (bumpH 0 h)) fun v36 _ =>
  bndO (oFieldAddr 1 v36 (bumpH 0 h)) fun v37 _ =>
  bndO (oLoad1 v37 (bumpH 0 h)) fun v38 _ =>
  bndO (TryF18r [v33, v38] (bumpH 0 h)) fun v39 h22 =>
  bndO (oUn .not v39 h22) fun v40 _ =>
  Out.nor (T.set (some v40) (Pos.of 41) fr) h22)
def Tryr15_7 (fr : F) (h : Hp) : Out :=
  Out.nor (T.set (some (.bool false)) (Pos.of 4) fr) h
def Tryr15_5 (fr : F) (h : Hp) : Out :=
  gtO (T.get fr (Pos.of 5)) fun v5 => bndO (oBin .add .none v5 (.int .i64 1) h) fun v16 h1 =>
  Out.nor (T.set (some v16) (Pos.of 5) fr) h1
def Tryr15_8 (fr : F) (h : Hp) : Out :=
  Out.nor (T.set (some (.bool true)) (Pos.of 4) fr) h
def Tryb15_4 : F → Hp → Out := (seqO (seqO Tryr15_4 (cndX (.tmp 14) Out.nor (Out.ex 0))) (seqO (blkO 1 (seqO Tryr15_6 (cndX (.tmp 41) (seqO Tryr15_7 Out.ret) Out.nor))) Tryr15_5))
def Tryd15 : F → Hp → Out := (seqO Tryr15_0 (seqO (seqO Tryr15_1 (cndX (.tmp 10) (seqO Tryr15_2 Out.ret) Out.nor)) (seqO (seqO Tryr15_3 (blkO 0 (loopO Tryb15_4 lf))) (seqO Tryr15_8 Out.ret))))
def Trye15 : FuncId → Option Fun := fun f => match Nat.beq f 18 with | true => some TryF18r | false => none
def Tryp15 : Plans := fun id => match Nat.beq id 6 with | true => some ([0, 0, 3, 7, 15, 0, 0, 96, 224, 480, 1023, 2047, 4095, 4095, 16383, 32767, 65535, 4095, 4095, 397311, 921599, 1970175, 4194303, 8388607, 16777215], [(0, .pure), (1, .pure), (2, .pure), (3, .pure), (4, .read 0), (5, .pure), (6, .pure), (7, .pure), (8, .pure), (9, .read 0), (10, .pure), (11, .pure), (12, .pure), (13, .pure), (14, .pure), (15, .pure), (16, .read 0), (17, .pure), (18, .pure), (19, .pure), (20, .pure), (21, .read 0), (22, .heavy), (23, .pure), (24, .pure)]) | false => none
def TryF15 : Fun := funX Try.prog 0 Tryk15 Trye15 Tryp15 lf Try.f15
theorem TryD15 : denX Try.prog 0 Try.f15.ntmps Tryk15 Trye15 Tryp15 lf (codeOf Try.f15) = Tryd15 := by kernel_rfl
theorem TryF15_eq (x0 x1 : V) (h : Hp) : TryF15 [x0, x1] h = outR Try.prog [.tmp 4] (Tryd15 (T.set (some x1) (Pos.of 1) (T.set (some x0) (Pos.of 0) T.nil)) h) := funX_eq (by kernel_rfl) TryD15 (by kernel_rfl) h
theorem Tryc15 : CallOk Try.prog 0 15 TryF15 := funX_ok Trymix (callsOk_cons Tryc18r callsOk_0) Try.func15 (by kernel_rfl)

/-! 11: pillarbox/pillarboxlaw22.great -/
def Tryk11 : Nat → Bool := fun t => memN t [0, 2, 3, 4, 12]
def Tryr11_0 (fr : F) (h : Hp) : Out :=
  Out.nor (T.set (some (.bool false)) (Pos.of 2) fr) h
def Tryr11_1 (fr : F) (h : Hp) : Out :=
  Out.nor (T.set (some (.int .i64 0)) (Pos.of 3) fr) h
def Tryr11_2 (fr : F) (h : Hp) : Out :=
  Out.nor (T.set (some (.int .i64 0)) (Pos.of 4) fr) h
def Tryr11_3 (fr : F) (h : Hp) : Out :=
  gtO (T.get fr (Pos.of 4)) fun v4 => gtO (T.get fr (Pos.of 0)) fun v0 => bndO (oLenK 2 v0 h) fun v7 h2 =>
  bndO (oBin .lss .none v4 v7 h2) fun v8 h3 =>
  ifB v8 (gtO (T.get fr (Pos.of 3)) fun v3 => bndO (oBin .leq .none v3 (.int .i64 20000) h3) fun v11 h6 =>
  Out.nor (T.set (some v11) (Pos.of 12) fr) h6) (Out.nor (T.set (some (.bool false)) (Pos.of 12) fr) h3)
def Tryr11_5 (fr : F) (h : Hp) : Out :=
  gtO (T.get fr (Pos.of 3)) fun v3 => bndO (oBin .add .none v3 (.int .i64 1) h) fun v16 h1 =>
  gtO (T.get fr (Pos.of 0)) fun v0 => gtO (T.get fr (Pos.of 4)) fun v4 => bndO (oIdxS 1 v0 v4 h1) fun v19 h4 =>
  bndO (oLoad1 v19 h4) fun v20 h5 =>
  bndO (oLenK 2 v20 h5) fun v21 h6 =>
  bndO (oMin v21 (.int .i64 20001) h6) fun v22 h7 =>
  bndO (oBin .add .none v16 v22 h7) fun v23 h8 =>
  Out.nor (T.set (some v23) (Pos.of 3) fr) h8
def Tryr11_4 (fr : F) (h : Hp) : Out :=
  gtO (T.get fr (Pos.of 4)) fun v4 => bndO (oBin .add .none v4 (.int .i64 1) h) fun v14 h1 =>
  Out.nor (T.set (some v14) (Pos.of 4) fr) h1
def Tryr11_6 (fr : F) (h : Hp) : Out :=
  gtO (T.get fr (Pos.of 3)) fun v3 => bndO (oBin .gtr .none v3 (.int .i64 20000) h) fun v25 h1 =>
  Out.nor (T.set (some v25) (Pos.of 2) fr) h1
def Tryb11_3 : F → Hp → Out := (seqO (seqO Tryr11_3 (cndX (.tmp 12) Out.nor (Out.ex 0))) (seqO (blkO 1 Tryr11_5) Tryr11_4))
def Tryd11 : F → Hp → Out := (seqO Tryr11_0 (seqO Tryr11_1 (seqO (seqO Tryr11_2 (blkO 0 (loopO Tryb11_3 lf))) (seqO Tryr11_6 Out.ret))))
def Trye11 : FuncId → Option Fun := fun f => none
def Tryp11 : Plans := fun id => none
def TryF11 : Fun := funX Try.prog 0 Tryk11 Trye11 Tryp11 lf Try.f11
theorem TryD11 : denX Try.prog 0 Try.f11.ntmps Tryk11 Trye11 Tryp11 lf (codeOf Try.f11) = Tryd11 := by kernel_rfl
theorem TryF11_eq (x0 : V) (h : Hp) : TryF11 [x0] h = outR Try.prog [.tmp 2] (Tryd11 (T.set (some x0) (Pos.of 0) T.nil) h) := funX_eq (by kernel_rfl) TryD11 (by kernel_rfl) h
theorem Tryc11 : CallOk Try.prog 0 11 TryF11 := funX_ok Trymix callsOk_0 Try.func11 (by kernel_rfl)

/-! 3: pillarbox/pillarboxlaw22.LineFeeds -/
def Tryk3 : Nat → Bool := fun t => memN t [0, 1, 4, 5, 6, 7, 9, 16, 20, 36]
def Tryr3_0 (fr : F) (h : Hp) : Out :=
  Out.nor (T.set (some (.bool false)) (Pos.of 4) fr) h
def Tryr3_1 (fr : F) (h : Hp) : Out :=
  gtO (T.get fr (Pos.of 1)) fun v1 => bndO (TryF11 [v1] h) fun v9 h1 =>
  Out.nor (T.set (some v9) (Pos.of 9) fr) h1
def Tryr3_2 (fr : F) (h : Hp) : Out :=
  bndO (TryF12c [] h) fun v10 h0 =>
  Out.nor (T.set (some v10) (Pos.of 4) fr) h0
def Tryr3_3 (fr : F) (h : Hp) : Out :=
  gtO (T.get fr (Pos.of 0)) fun v0 => bndO (TryF13 [v0] h) fun v12 h1 =>
  bndO (TryF14 [v0] h1) fun v14 h3 =>
  Out.nor (T.set (some v14) (Pos.of 6) (T.set (some v12) (Pos.of 5) fr)) h3
def Tryr3_4 (fr : F) (h : Hp) : Out :=
  gtO (T.get fr (Pos.of 5)) fun v5 => bndO (oBin .eql (.ptr 11) v5 .nilp h) fun v16 h1 =>
  Out.nor (T.set (some v16) (Pos.of 16) fr) h1
def Tryr3_5 (fr : F) (h : Hp) : Out :=
  Out.nor (T.set (some (.bool false)) (Pos.of 4) fr) h
def Tryr3_6 (fr : F) (h : Hp) : Out :=
  Out.nor (T.set (some (.int .i64 0)) (Pos.of 7) fr) h
def Tryr3_7 (fr : F) (h : Hp) : Out :=
  gtO (T.get fr (Pos.of 7)) fun v7 => gtO (T.get fr (Pos.of 1)) fun v1 => bndO (oLenK 2 v1 h) fun v19 h2 =>
  bndO (oBin .lss .none v7 v19 h2) fun v20 h3 =>
  Out.nor (T.set (some v20) (Pos.of 20) fr) h3
def Tryr3_9 (fr : F) (h : Hp) : Out :=
  gtO (T.get fr (Pos.of 5)) fun w0_5 => gtO (T.get fr (Pos.of 1)) fun w1_1 => gtO (T.get fr (Pos.of 7)) fun w2_7 => bndO (oIdxS 1 w1_1 w2_7 (bumpH 0 h)) fun v26 _ =>
  bndO (oLoad1 v26 (bumpH 0 h)) fun v27 _ =>
  bndO (TryF16 [w0_5, v27] (bumpH 0 h)) fun v28 h5 =>
  gtO (T.get fr (Pos.of 6)) fun w6_6 => gtO (T.get fr (Pos.of 1)) fun w7_1 => gtO (T.get fr (Pos.of 7)) fun w8_7 => bndO (oIdxS 1 w7_1 w8_7 h5) fun v32 _ =>
  bndO (oLoad1 v32 h5) fun v33 _ => chk (fun h => oLoad1 v32 h) v33 (
  bndO (TryF17 [w6_6, v33] h5) fun v34 h11 =>
  bndO (TryF15 [v28, v34] h11) fun v35 h12 =>
  bndO (oUn .not v35 h12) fun v36 _ =>
  Out.nor (T.set (some v36) (Pos.of 36) fr) h12) 1 [(bumpH 0 h)]
def Tryr3_10 (fr : F) (h : Hp) : Out :=
  Out.nor (T.set (some (.bool false)) (Pos.of 4) fr) h
def Tryr3_8 (fr : F) (h : Hp) : Out :=
  gtO (T.get fr (Pos.of 7)) fun v7 => bndO (oBin .add .none v7 (.int .i64 1) h) fun v22 h1 =>
  Out.nor (T.set (some v22) (Pos.of 7) fr) h1
def Tryr3_11 (fr : F) (h : Hp) : Out :=
  bndO (TryF12c [] h) fun v37 h0 =>
  Out.nor (T.set (some v37) (Pos.of 4) fr) h0
def Tryb3_7 : F → Hp → Out := (seqO (seqO Tryr3_7 (cndX (.tmp 20) Out.nor (Out.ex 0))) (seqO (blkO 1 (seqO Tryr3_9 (cndX (.tmp 36) (seqO Tryr3_10 Out.ret) Out.nor))) Tryr3_8))
def Tryd3 : F → Hp → Out := (seqO Tryr3_0 (seqO (seqO Tryr3_1 (cndX (.tmp 9) (seqO Tryr3_2 Out.ret) Out.nor)) (seqO Tryr3_3 (seqO (seqO Tryr3_4 (cndX (.tmp 16) (seqO Tryr3_5 Out.ret) Out.nor)) (seqO (seqO Tryr3_6 (blkO 0 (loopO Tryb3_7 lf))) (seqO Tryr3_11 Out.ret))))))
def Trye3 : FuncId → Option Fun := fun f => match Nat.beq f 11 with | true => some TryF11 | false => match Nat.beq f 12 with | true => some TryF12c | false => match Nat.beq f 13 with | true => some TryF13 | false => match Nat.beq f 14 with | true => some TryF14 | false => match Nat.beq f 16 with | true => some TryF16 | false => match Nat.beq f 17 with | true => some TryF17 | false => match Nat.beq f 15 with | true => some TryF15 | false => none
def Tryp3 : Plans := fun id => match Nat.beq id 9 with | true => some ([0, 0, 0, 6, 14, 31, 0, 0, 0, 384, 896, 2047, 4095, 8191], [(0, .pure), (1, .pure), (2, .pure), (3, .pure), (4, .read 0), (5, .heavy), (6, .pure), (7, .pure), (8, .pure), (9, .pure), (10, .read 1), (11, .heavy), (12, .heavy), (13, .pure)]) | false => none
def TryF3 : Fun := funX Try.prog 0 Tryk3 Trye3 Tryp3 lf Try.f3
theorem TryD3 : denX Try.prog 0 Try.f3.ntmps Tryk3 Trye3 Tryp3 lf (codeOf Try.f3) = Tryd3 := by kernel_rfl
theorem TryF3_eq (x0 x1 : V) (h : Hp) : TryF3 [x0, x1] h = outR Try.prog [.tmp 4] (Tryd3 (T.set (some x1) (Pos.of 1) (T.set (some x0) (Pos.of 0) T.nil)) h) := funX_eq (by kernel_rfl) TryD3 (by kernel_rfl) h
theorem Tryc3 : CallOk Try.prog 0 3 TryF3 := funX_ok Trymix (callsOk_cons Tryc11 (callsOk_cons Tryc12c (callsOk_cons Tryc13 (callsOk_cons Tryc14 (callsOk_cons Tryc16 (callsOk_cons Tryc17 (callsOk_cons Tryc15 callsOk_0))))))) Try.func3 (by kernel_rfl)

end Go.Proofs.Ytgnfkfmhjgbhhaa

noncomputable section
namespace Go.Ln
/-- a byte stands at a place -/
def isP (L : List El) (i c : Nat) : Bool := match L[i]? with | some (.b d) => decide (d = c) | _ => false
theorem drop_cons {L r : List El} {i : Nat} {e : El} (h : L.drop i = e :: r) : L[i]? = some e ∧ L.drop (i + 1) = r ∧ i < L.length := by
  have hi : i < L.length := by
    rcases Nat.lt_or_ge i L.length with h1 | h1
    · exact h1
    · rw [List.drop_eq_nil_of_le h1] at h; cases h
  rw [List.drop_eq_getElem_cons hi] at h
  cases h
  exact ⟨List.getElem?_eq_getElem hi, rfl, hi⟩
theorem isP_lt {L : List El} {i c : Nat} (h : isP L i c = true) : i < L.length := by
  rcases Nat.lt_or_ge i L.length with h1 | h1
  · exact h1
  · unfold isP at h; rw [List.getElem?_eq_none h1] at h; cases h
theorem drop_nil {L : List El} {i : Nat} (h : L.drop i = []) : L.length ≤ i := List.drop_eq_nil_iff.1 h
theorem is_next {L : List El} {i c : Nat} {st : St} (h : L.drop i = stE st) : (isP L i c = true ∧ ∃ st', nextM c st = some st' ∧ L.drop (i + 1) = stE st' ∧ i < L.length ∧ L[i]? = some (.b c)) ∨ (isP L i c = false ∧ nextM c st = none) := by
  obtain ⟨cur, rest⟩ := st
  cases cur with
  | cons d s =>
    rw [stE_cons] at h
    obtain ⟨h1, h2, h3⟩ := drop_cons h
    by_cases hd : d = c
    · subst hd
      refine .inl ⟨by unfold isP; rw [h1]; simp, ⟨s, rest⟩, by simp [nextM], h2, h3, h1⟩
    · exact .inr ⟨by unfold isP; rw [h1]; simp [hd], by simp [nextM, hd]⟩
  | nil =>
    right
    refine ⟨?_, rfl⟩
    cases rest with
    | nil =>
      rw [stE_nil] at h
      unfold isP
      rw [List.getElem?_eq_none (drop_nil h)]
    | cons p r =>
      obtain ⟨l, t⟩ := p
      rw [stE_lit] at h
      obtain ⟨h1, -, -⟩ := drop_cons h
      unfold isP
      rw [h1]
end Go.Ln
namespace Go.Vm
def elC : Ln.El → List V
  | .b c => [.int .u8 (c : Int), .bool false, .str []]
  | .l t => [.int .u8 0, .bool true, .str t]
def elCs (L : List Ln.El) : List V := L.flatMap elC
theorem elC_len (e : Ln.El) : (elC e).length = 3 := by cases e <;> rfl
theorem elCs_len : ∀ L : List Ln.El, (elCs L).length = L.length * 3
  | [] => rfl
  | e :: L => by
    have := elCs_len L
    simp only [elCs, List.flatMap_cons, List.length_append, elC_len, List.length_cons] at this ⊢
    omega
theorem elCs_append (a b : List Ln.El) : elCs (a ++ b) = elCs a ++ elCs b := by simp [elCs]
theorem elCs_get : ∀ {L : List Ln.El} {k : Nat} {e : Ln.El} {f : Nat} {x : V}, L[k]? = some e → f < 3 → (elC e)[f]? = some x → (elCs L)[k * 3 + f]? = some x
  | [], k, e, f, x, h, _, _ => by cases h
  | e0 :: L, 0, e, f, x, h, hf, hx => by
    cases h
    rw [elCs, List.flatMap_cons, Nat.zero_mul, Nat.zero_add, List.getElem?_append_left (by rw [elC_len]; exact hf)]
    exact hx
  | e0 :: L, k + 1, e, f, x, h, hf, hx => by
    have := elCs_get (L := L) (k := k) h hf hx
    rw [elCs, List.flatMap_cons, List.getElem?_append_right (by rw [elC_len]; omega), elC_len, show (k + 1) * 3 + f - 3 = k * 3 + f by omega]
    exact this
theorem elCs_three {L : List Ln.El} {k : Nat} {e : Ln.El} (h : L[k]? = some e) : ((elCs L).drop (k * 3)).take 3 = elC e := by
  apply List.ext_getElem?
  intro m
  rw [List.getElem?_take]
  by_cases hm : m < 3
  · rw [if_pos hm, List.getElem?_drop]
    have hx : ∃ x, (elC e)[m]? = some x := ⟨(elC e)[m]'(by rw [elC_len]; exact hm), List.getElem?_eq_getElem _⟩
    obtain ⟨x, hx⟩ := hx
    rw [elCs_get h hm hx, hx]
  · rw [if_neg hm, List.getElem?_eq_none (by rw [elC_len]; omega)]
end Go.Vm
namespace Go.Proofs.Ytgnfkfmhjgbhhaa
open Go Go.Proofs Go.Vm Go.Ln
set_option linter.unusedVariables false
set_option maxRecDepth 100000
set_option linter.unusedSimpArgs false
/-- the reference's parser at p -/
structure RPs (b : Nat) (L : List El) (h : Hp) (p : Pos) (i : Nat) (bad : Bool) : Prop where
  ge : b ≤ p.nat
  lt : p.nat < h.next.nat
  is : ∃ vl, h.get p = some (.cells true [vl, .int .i64 (i : Int), .bool bad]) ∧ Sl b h 3 vl L.length (elCs L)
  small : L.length < 1000000000
  bytes : ∀ c, El.b c ∈ L → c < 256
variable {b : Nat} {L : List El} {h h' : Hp} {p : Pos} {i : Nat} {bad : Bool} {S : Pos → Prop}
theorem RPs.ch (a : RPs b L h p i bad) (c : Ch S h h') (hs : ∀ j : Pos, S j → p.nat < j.nat) : RPs b L h' p i bad := by
  obtain ⟨vl, hg, sl⟩ := a.is
  refine ⟨a.ge, Nat.lt_of_lt_of_le a.lt c.next, ⟨vl, ?_, sl.ch c (by have := a.ge; have := a.lt; omega) fun j hj q => ?_⟩, a.small, a.bytes⟩
  · rw [c.get p a.lt fun q => by have := hs p q; omega]; exact hg
  · have := sl.idlt hj; have := a.ge; have := hs j q; omega
/-- what can be seen of it -/
theorem RPs.see (a : RPs b L h p i bad) : ∃ vl, oLoad1 (.ptr p 0) h = .ok vl h ∧ oLoad1 (.ptr p 1) h = .ok (.int .i64 (i : Int)) h ∧ oLoad1 (.ptr p 2) h = .ok (.bool bad) h ∧ (∀ h', oLenK 2 vl h' = .ok (.int .i64 (L.length : Int)) h') ∧
    ∀ (k : Nat) (e : El), L[k]? = some e → ∃ j q, (∀ h', oIdxS 3 vl (.int .i64 (k : Int)) h' = .ok (.ptr j q) h') ∧ (∀ h', Ch (fun j => p.nat ≤ j.nat) h h' → (∀ f x, f < 3 → (elC e)[f]? = some x → oLoad1 (.ptr j (q + f)) h' = .ok x h') ∧ oLoadN 3 (.ptr j q) h' = .ok (.agg (V.ofList (elC e))) h') := by
  obtain ⟨vl, hg, sl⟩ := a.is
  refine ⟨vl, ld_get hg 0, ld_get hg 1, ld_get hg 2, fun h' => sl.length, fun k e hk => ?_⟩
  have hkl : k < L.length := (List.getElem?_eq_some_iff.1 hk).1
  obtain ⟨j, q, e1, hj, e2, e3⟩ := sl.atN hkl
  refine ⟨j, q, e1, fun h' c => ?_⟩
  have hc := c.get j (by have := a.ge; have := a.lt; omega) (fun q => by have := a.ge; omega)
  refine ⟨fun f x hf hx => e2 h' hc f x hf (elCs_get hk hf hx), ?_⟩
  rw [e3 h' hc, elCs_three hk]
theorem RPs.setI (a : RPs b L h p i bad) (k : Nat) : ∃ h', oStore 1 (.ptr p 1) (.int .i64 (k : Int)) h = .ok V.undef h' ∧ RPs b L h' p k bad ∧ Ch (fun j => j = p) h h' ∧ h'.next = h.next := by
  obtain ⟨vl, hg, sl⟩ := a.is
  have c : Ch (fun j => j = p) h (h.put p (some (.cells true [vl, .int .i64 (k : Int), .bool bad]))) := Ch.put h _ rfl
  refine ⟨_, st_get hg ⟨rfl, rfl⟩ (by simp), ⟨a.ge, a.lt, ⟨vl, put_self _ _ _, sl.ch c (by have := a.ge; have := a.lt; omega) fun j hj q => ?_⟩, a.small, a.bytes⟩, c, rfl⟩
  have := sl.idlt hj; have := a.ge; rw [q] at *; omega
theorem RPs.setBad (a : RPs b L h p i bad) (bad' : Bool) : ∃ h', oStore 1 (.ptr p 2) (.bool bad') h = .ok V.undef h' ∧ RPs b L h' p i bad' ∧ Ch (fun j => j = p) h h' ∧ h'.next = h.next := by
  obtain ⟨vl, hg, sl⟩ := a.is
  have c : Ch (fun j => j = p) h (h.put p (some (.cells true [vl, .int .i64 (i : Int), .bool bad']))) := Ch.put h _ rfl
  refine ⟨_, st_get hg ⟨rfl, rfl⟩ (by simp), ⟨a.ge, a.lt, ⟨vl, put_self _ _ _, sl.ch c (by have := a.ge; have := a.lt; omega) fun j hj q => ?_⟩, a.small, a.bytes⟩, c, rfl⟩
  have := sl.idlt hj; have := a.ge; rw [q] at *; omega
theorem is_ok (a : RPs b L h p i bad) (c : Nat) : TryF40 [.ptr p 0, .int .u8 (c : Int)] h = .ok (.bool (isP L i c)) h := by
  obtain ⟨vl, l0, l1, l2, ll, le⟩ := a.see
  have hsm := a.small
  rw [TryF40_eq]
  cases hk : L[i]? with
  | none =>
    have hi : ¬ (i : Int) < (L.length : Int) := by have := List.getElem?_eq_none_iff.1 hk; omega
    simp (disch := omega) only [seqO_eq, thenO_nor, gtO_some, bndO_ok, get_set_of, ifB_false, Nat.reduceEqDiff, Nat.zero_ne_one, reduceCtorEq, ↓reduceIte, oBin_lss, oFieldAddr_eq, bumpH_zero, oNilCheck_ptr, Nat.zero_add, bumpH_zero, decide_false, Tryd40, Tryr40_0, Tryr40_1, l0, l1, ll, hi, outR, resK, tupR]
    unfold isP; rw [hk]
  | some e =>
    have hil : i < L.length := (List.getElem?_eq_some_iff.1 hk).1
    have hi : (i : Int) < (L.length : Int) := by omega
    obtain ⟨j, q, e1, e2⟩ := le i e hk
    obtain ⟨e3, -⟩ := e2 h (Ch.refl _ _)
    cases e with
    | b d =>
      have x0 : oLoad1 (.ptr j q) h = .ok (.int .u8 (d : Int)) h := e3 0 (.int .u8 (d : Int)) (by omega) rfl
      have x1 := e3 1 (.bool false) (by omega) rfl
      simp (disch := omega) only [seqO_eq, thenO_nor, gtO_some, bndO_ok, get_set_of, ifB_true, Nat.reduceEqDiff, Nat.zero_ne_one, reduceCtorEq, ↓reduceIte, oBin_eql, oBin_lss, oUn_not, oFieldAddr_eq, bumpH_zero, Bool.not_false, oNilCheck_ptr, Nat.zero_add, bumpH_zero, decide_true, Tryd40, Tryr40_0, Tryr40_1, l0, l1, ll, hi, e1, x1, Nat.add_zero, x0, outR, resK, tupR]
      unfold isP; rw [hk]
      simp only []
      by_cases hd : d = c
      · subst hd; simp
      · have hd' : ¬ (d : Int) = (c : Int) := by omega
        simp [hd, hd']
    | l t =>
      have x1 := e3 1 (.bool true) (by omega) rfl
      simp (disch := omega) only [seqO_eq, thenO_nor, gtO_some, bndO_ok, get_set_of, ifB_true, ifB_false, Nat.reduceEqDiff, Nat.zero_ne_one, reduceCtorEq, ↓reduceIte, oBin_lss, oUn_not, oFieldAddr_eq, bumpH_zero, Bool.not_true, oNilCheck_ptr, Nat.zero_add, bumpH_zero, decide_true, Tryd40, Tryr40_0, Tryr40_1, l0, l1, ll, hi, e1, x1, outR, resK, tupR]
      unfold isP; rw [hk]
theorem ratom_ok {c : Nat} (h : Hp) : TryF47 [.int .u8 (c : Int)] h = .ok (.bool (atomC c)) h := by
  rw [TryF47_eq]
  unfold atomC
  by_cases h1 : 33 ≤ c
  · have h1' : (c : Int) ≥ 33 := by omega
    by_cases h2 : c ≤ 126
    · have h2' : (c : Int) ≤ 126 := by omega
      by_cases h3 : c = 40
      · have h3' : (c : Int) = 40 := by omega
        simp (disch := omega) only [seqO_eq, thenO_nor, gtO_some, bndO_ok, get_set_of, ifB_true, ifB_false, ifB_pos, reduceCtorEq, ↓reduceIte, oBin_neq, oBin_leq, oBin_geq, decide_true, decide_false, ne_eq, not_true, Tryd47, Tryr47_0, Tryr47_1, h1', h2', eq_true h3', outR, resK, tupR]
        rw [decide_eq_false (by omega)]
      · have h3' : ¬ (c : Int) = 40 := by omega
        by_cases h4 : c = 41
        · have h4' : (c : Int) = 41 := by omega
          simp (disch := omega) only [seqO_eq, thenO_nor, gtO_some, bndO_ok, get_set_of, ifB_true, ifB_false, ifB_pos, reduceCtorEq, ↓reduceIte, oBin_neq, oBin_leq, oBin_geq, decide_true, decide_false, ne_eq, not_true, not_false_eq_true, Tryd47, Tryr47_0, Tryr47_1, h1', h2', h3', eq_true h4', outR, resK, tupR]
          rw [decide_eq_false (by omega)]
        · have h4' : ¬ (c : Int) = 41 := by omega
          by_cases h5 : c = 34
          · have h5' : (c : Int) = 34 := by omega
            simp (disch := omega) only [seqO_eq, thenO_nor, gtO_some, bndO_ok, get_set_of, ifB_true, ifB_false, reduceCtorEq, ↓reduceIte, oBin_neq, oBin_leq, oBin_geq, decide_true, decide_false, ne_eq, not_true, not_false_eq_true, Tryd47, Tryr47_0, Tryr47_1, h1', h2', h3', h4', eq_true h5', outR, resK, tupR]
            rw [decide_eq_false (by omega)]
          · have h5' : ¬ (c : Int) = 34 := by omega
            by_cases h6 : c = 123
            · have h6' : (c : Int) = 123 := by omega
              simp (disch := omega) only [seqO_eq, thenO_nor, gtO_some, bndO_ok, get_set_of, ifB_true, reduceCtorEq, ↓reduceIte, oBin_neq, oBin_leq, oBin_geq, decide_true, decide_false, ne_eq, not_true, not_false_eq_true, Tryd47, Tryr47_0, Tryr47_1, h1', h2', h3', h4', h5', eq_true h6', outR, resK, tupR]
              rw [decide_eq_false (by omega)]
            · have h6' : ¬ (c : Int) = 123 := by omega
              simp (disch := omega) only [seqO_eq, thenO_nor, gtO_some, bndO_ok, get_set_of, ifB_true, reduceCtorEq, ↓reduceIte, oBin_neq, oBin_leq, oBin_geq, decide_true, ne_eq, not_false_eq_true, Tryd47, Tryr47_0, Tryr47_1, h1', h2', h3', h4', h5', h6', outR, resK, tupR]
              rw [decide_eq_true (by omega)]
    · have h2' : ¬ (c : Int) ≤ 126 := by omega
      simp (disch := omega) only [seqO_eq, thenO_nor, gtO_some, bndO_ok, get_set_of, ifB_true, ifB_false, ifB_pos, reduceCtorEq, ↓reduceIte, oBin_neq, oBin_leq, oBin_geq, decide_true, decide_false, ne_eq, Tryd47, Tryr47_0, Tryr47_1, h1', h2', outR, resK, tupR]
      rw [decide_eq_false (by omega)]
  · have h1' : ¬ (c : Int) ≥ 33 := by omega
    simp (disch := omega) only [seqO_eq, thenO_nor, gtO_some, bndO_ok, get_set_of, ifB_false, ifB_pos, reduceCtorEq, ↓reduceIte, oBin_neq, oBin_leq, oBin_geq, decide_false, ne_eq, Tryd47, Tryr47_0, Tryr47_1, h1', outR, resK, tupR]
    rw [decide_eq_false (by omega)]
end Go.Proofs.Ytgnfkfmhjgbhhaa

noncomputable section
namespace Go.Proofs.Ytgnfkfmhjgbhhaa
open Go Go.Proofs Go.Vm Go.Ln
set_option linter.unusedVariables false
set_option maxRecDepth 100000
set_option linter.unusedSimpArgs false
variable {b : Nat} {L : List El} {h h' g : Hp} {p : Pos} {i k i0 : Nat} {bad β : Bool} {S : Pos → Prop} {vo : V} {a s : List Nat} {r : List (List Nat × List Nat)}
theorem quotedM_nil : quotedM [] = none := by rw [quotedM.eq_def]
theorem quotedM_end (s : List Nat) : quotedM (34 :: s) = some ([], s) := by rw [quotedM.eq_def]; simp
theorem quotedM_bs (s : List Nat) : quotedM (92 :: s) = (match s with
      | d :: s' => if d = 34 ∨ d = 92 then (match quotedM s' with | some (t, r) => some (d :: t, r) | none => none) else none
      | [] => none) := by
  rw [quotedM.eq_def]
  simp only []
  rw [if_neg (by omega), if_neg (by omega), if_pos trivial]
  cases s <;> rfl
theorem quotedM_other {c : Nat} (s : List Nat) (h1 : c ≠ 34) (h2 : c ≠ 13) (h3 : c ≠ 92) : quotedM (c :: s) = (match quotedM s with | some (t, r) => some (c :: t, r) | none => none) := by
  rw [quotedM.eq_def]
  simp only []
  rw [if_neg h1, if_neg h2, if_neg h3]
  cases quotedM s with
  | none => rfl
  | some x => obtain ⟨t, z⟩ := x; rfl
/-- the parser, a row of bytes that grows, and a place for the word -/
structure Qst (b : Nat) (L : List El) (h : Hp) (p : Pos) (g : Hp) (k : Nat) (β : Bool) (vo : V) (a : List Nat) : Prop where
  ps : RPs b L g p k β
  plt : p.nat < h.next.nat
  own : Own 0 g 1 vo a.length (bys a)
  id : ∀ j, idOf vo = some j → h.next.nat + 1 ≤ j.nat
  ch : Ch (fun j => j = p) h g
  w : ∃ x y z, g.get h.next = some (.cells true [x, y, z])
  wl : h.next.nat < g.next.nat
  a256 : ∀ x ∈ a, x < 256
theorem Qst.turn {g' : Hp} {k' : Nat} {β' : Bool} (q : Qst b L h p g k β vo a) (ps : RPs b L g' p k' β') (c : Ch (fun j => j = p) g g') : Qst b L h p g' k' β' vo a := by
  obtain ⟨x, y, z, w⟩ := q.w
  have h1 := q.plt
  refine ⟨ps, h1, q.own.ch c fun j hj e => ?_, q.id, q.ch.trans c fun _ _ q => q, ⟨x, y, z, ?_⟩, Nat.lt_of_lt_of_le q.wl c.next, q.a256⟩
  · have := q.id j hj; rw [e] at this; omega
  · rw [c.get _ q.wl (fun e => by have := congrArg Pos.nat e; omega)]; exact w
theorem Qst.setI (q : Qst b L h p g k β vo a) (k' : Nat) : ∃ g', oStore 1 (.ptr p 1) (.int .i64 (k' : Int)) g = .ok V.undef g' ∧ Qst b L h p g' k' β vo a := by
  obtain ⟨g', e, ps, c, -⟩ := q.ps.setI k'
  exact ⟨g', e, q.turn ps c⟩
theorem Qst.setBad (q : Qst b L h p g k β vo a) (β' : Bool) : ∃ g', oStore 1 (.ptr p 2) (.bool β') g = .ok V.undef g' ∧ Qst b L h p g' k β' vo a := by
  obtain ⟨g', e, ps, c, -⟩ := q.ps.setBad β'
  exact ⟨g', e, q.turn ps c⟩
theorem Qst.push (q : Qst b L h p g k β vo a) {c : Nat} (hc : c < 256) (hl : a.length < 1000000000) : ∃ vo' g', oAppend 1 1 vo (.slice g.next 0 1 (.kn 1)) (g.new (.cells true [.int .u8 (c : Int)])) = .ok vo' g' ∧ Qst b L h p g' k β vo' (a ++ [c]) := by
  obtain ⟨vo', g', e1, e2, o, c1, -⟩ := app1_ok (bt := 1) (new := [V.int .u8 (c : Int)]) q.own rfl (by omega)
  obtain ⟨x, y, z, w⟩ := q.w
  have h1 := q.plt
  have h2 := q.wl
  refine ⟨vo', g', e1, q.ps.ch c1 fun j hj => ?_, h1, by rw [List.length_append, bys_append]; exact o, fun j hj => ?_, q.ch.trans c1 fun j hj hq => ?_, ⟨x, y, z, ?_⟩, Nat.lt_of_lt_of_le h2 c1.next, fun x hx => ?_⟩
  · have := q.id j hj; omega
  · rw [e2] at hj; cases hj; rw [Pos.nat_succ]; omega
  · have := q.id j hq; omega
  · rw [c1.get _ h2 (fun e => by have := q.id _ e; omega)]; exact w
  · rcases List.mem_append.1 hx with hx | hx
    · exact q.a256 x hx
    · rw [List.mem_singleton.1 hx]; exact hc
def QI (b : Nat) (L : List El) (h : Hp) (p : Pos) (i0 : Nat) (s : List Nat) (r : List (List Nat × List Nat)) (m : Nat) (fr : F) (g : Hp) : Prop :=
  ∃ k β vo a u, fr.get (Pos.of 0) = some (.ptr p 0) ∧ fr.get (Pos.of 2) = some (.ptr h.next 0) ∧ fr.get (Pos.of 3) = some vo ∧ Qst b L h p g k β vo a ∧ L.drop k = stE ⟨u, r⟩ ∧ u.length = m ∧ k ≤ L.length ∧ a.length < k ∧ i0 ≤ k ∧
    (β = false → quotedM s = (match quotedM u with | some (t, q) => some (a ++ t, q) | none => none)) ∧ (β = true → quotedM s = none) ∧ OKP L i0 k
def QA (b : Nat) (L : List El) (h : Hp) (p : Pos) (i0 : Nat) (s : List Nat) (r : List (List Nat × List Nat)) (fr : F) (g : Hp) : Prop :=
  ∃ k β vo a, fr.get (Pos.of 0) = some (.ptr p 0) ∧ fr.get (Pos.of 2) = some (.ptr h.next 0) ∧ fr.get (Pos.of 3) = some vo ∧ Qst b L h p g k β vo a ∧ k ≤ L.length ∧ i0 ≤ k ∧
    (β = true → quotedM s = none) ∧ (β = false → (isP L k 34 = false ∧ quotedM s = none) ∨ (isP L k 34 = true ∧ ∃ u, L.drop (k + 1) = stE ⟨u, r⟩ ∧ quotedM s = some (a, u) ∧ OKP L i0 (k + 1)))
theorem quoted_step (m : Nat) (fr : F) (g : Hp) (I : QI b L h p i0 s r m fr g) :
    LS 0 (fun fr g => ∃ m', m' < m ∧ QI b L h p i0 s r m' fr g) (QA b L h p i0 s r) (fun _ _ => False) (Tryb46_3 fr g) := by
  obtain ⟨k, β, vo, a, u, f0, f2, f3, q, hd, hu, hkL, hal, hik, hm0, hm1, hok⟩ := I
  obtain ⟨vl, l0, l1, l2, ll, le⟩ := q.ps.see
  have hsm := q.ps.small
  cases u with
  | nil =>
    -- the text, or all of it, has ended
    have hno : isP L k 34 = false := by
      rcases is_next (c := 34) hd with ⟨-, st', hn, -⟩ | ⟨hn, -⟩
      · simp [nextM] at hn
      · exact hn
    have fin : ∀ fr' : F, fr'.get (Pos.of 0) = some (.ptr p 0) → fr'.get (Pos.of 2) = some (.ptr h.next 0) → fr'.get (Pos.of 3) = some vo → QA b L h p i0 s r fr' g := fun fr' e0 e2 e3 =>
      ⟨k, β, vo, a, e0, e2, e3, q, hkL, hik, hm1, fun hβ => .inl ⟨hno, by rw [hm0 hβ, quotedM_nil]⟩⟩
    cases hk : L[k]? with
    | none =>
      have hlt : ¬ (k : Int) < (L.length : Int) := by have := List.getElem?_eq_none_iff.1 hk; omega
      simp (disch := omega) only [seqO_eq, thenO_nor, thenO_ex, gtO_some, bndO_ok, get_set_of, cndX_tmp, ifB_false, ↓reduceIte, oBin_lss, oFieldAddr_eq, bumpH_zero, oNilCheck_ptr, Nat.zero_add, bumpH_zero, decide_false, Tryb46_3, Tryr46_3, f0, l0, l1, ll, hlt]
      exact ⟨rfl, fin _ (by simp only [get_set_of, reduceCtorEq, ↓reduceIte, f0]) (by simp only [get_set_of, Nat.reduceEqDiff, ↓reduceIte, f2]) (by simp only [get_set_of, Nat.reduceEqDiff, ↓reduceIte, f3])⟩
    | some e =>
      have hkl : k < L.length := (List.getElem?_eq_some_iff.1 hk).1
      have hlt : (k : Int) < (L.length : Int) := by omega
      cases e with
      | b d =>
        exfalso
        rcases r with _ | ⟨⟨l, t⟩, r⟩
        · have := drop_nil hd; omega
        · rw [stE_lit] at hd
          rw [(drop_cons hd).1] at hk
          cases hk
      | l t =>
        obtain ⟨j, o, e1, e2⟩ := le k _ hk
        have x1 := (e2 g (Ch.refl _ _)).1 1 (.bool true) (by omega) rfl
        simp (disch := omega) only [seqO_eq, thenO_nor, thenO_ex, gtO_some, bndO_ok, get_set_of, cndX_tmp, ifB_true, ifB_false, ↓reduceIte, oBin_lss, oUn_not, oFieldAddr_eq, bumpH_zero, Bool.not_true, oNilCheck_ptr, Nat.zero_add, bumpH_zero, decide_true, Tryb46_3, Tryr46_3, f0, l0, l1, ll, hlt, e1, x1]
        exact ⟨rfl, fin _ (by simp only [get_set_of, reduceCtorEq, ↓reduceIte, f0]) (by simp only [get_set_of, Nat.reduceEqDiff, ↓reduceIte, f2]) (by simp only [get_set_of, Nat.reduceEqDiff, ↓reduceIte, f3])⟩
  | cons c u =>
    rw [stE_cons] at hd
    obtain ⟨hk, hd1, hkl⟩ := drop_cons hd
    have hlt : (k : Int) < (L.length : Int) := by omega
    obtain ⟨j, o, e1, e2⟩ := le k _ hk
    have e2g := (e2 g (Ch.refl _ _)).1
    have x0 := e2g 0 (.int .u8 (c : Int)) (by omega) rfl
    simp only [Nat.add_zero] at x0
    have x1 := e2g 1 (.bool false) (by omega) rfl
    have hc256 := q.ps.bytes c (List.mem_of_getElem? hk)
    simp only [List.length_cons] at hu
    have okc : OKP L i0 (k + 1) := hok.trans (OKP.bytes fun k' h1 h2 => ⟨c, by rw [show k' = k by omega]; exact hk⟩)
    have k1e : ((k : Int) + 1) = ((k + 1 : Nat) : Int) := by omega
    by_cases h34 : c = 34
    · have h34' : (c : Int) = 34 := by omega
      simp (disch := omega) only [seqO_eq, thenO_nor, thenO_ex, gtO_some, bndO_ok, get_set_of, cndX_tmp, ifB_true, ifB_false, ↓reduceIte, oBin_neq, oBin_lss, oUn_not, oFieldAddr_eq, bumpH_zero, Bool.not_false, oNilCheck_ptr, Nat.zero_add, bumpH_zero, decide_true, decide_false, ne_eq, not_true, Tryb46_3, Tryr46_3, f0, l0, l1, ll, hlt, e1, x1, Nat.add_zero, x0, eq_true h34']
      subst h34
      refine ⟨rfl, k, β, vo, a, by simp only [get_set_of, reduceCtorEq, ↓reduceIte, f0], by simp only [get_set_of, Nat.reduceEqDiff, ↓reduceIte, f2], by simp only [get_set_of, Nat.reduceEqDiff, ↓reduceIte, f3], q, hkL, hik, hm1, fun hβ => .inr ⟨by unfold isP; rw [hk]; simp, u, hd1, ?_, okc⟩⟩
      rw [hm0 hβ, quotedM_end]; simp
    · have h34' : ¬ (c : Int) = 34 := by omega
      by_cases h92 : c = 92
      · have h92' : (c : Int) = 92 := by omega
        obtain ⟨g1, s1, q1⟩ := q.setI (k + 1)
        obtain ⟨vl1, m0, m1, m2, ml, me⟩ := q1.ps.see
        have is34 := is_ok q1.ps 34
        have is92 := is_ok q1.ps 92
        replace is34 : TryF40 [.ptr p 0, .int .u8 34] g1 = .ok (.bool (isP L (k + 1) 34)) g1 := is34
        replace is92 : TryF40 [.ptr p 0, .int .u8 92] g1 = .ok (.bool (isP L (k + 1) 92)) g1 := is92
        -- a sign that is meant
        have esc : ∀ d, L[k + 1]? = some (.b d) → (d = 34 ∨ d = 92) → ∃ (j : Pos) (o : Nat) (v' : V) (g2 g3 : Hp) (u' : List Nat), u = d :: u' ∧ (∀ h', oIdxS 3 vl1 (.int .i64 ((k + 1 : Nat) : Int)) h' = .ok (.ptr j o) h') ∧ oLoad1 (.ptr j o) g1 = .ok (.int .u8 (d : Int)) g1 ∧
            oAppend 1 1 vo (.slice g1.next 0 1 (.kn 1)) (g1.new (.cells true [.int .u8 (d : Int)])) = .ok v' g2 ∧ oLoad1 (.ptr p 1) g2 = .ok (.int .i64 ((k + 1 : Nat) : Int)) g2 ∧ oStore 1 (.ptr p 1) (.int .i64 ((k + 2 : Nat) : Int)) g2 = .ok V.undef g3 ∧
            ∀ fr' : F, fr'.get (Pos.of 0) = some (.ptr p 0) → fr'.get (Pos.of 2) = some (.ptr h.next 0) → fr'.get (Pos.of 3) = some v' → QI b L h p i0 s r u'.length fr' g3 := fun d hkd hde => by
          obtain ⟨u', hu'⟩ : ∃ u', u = d :: u' := by
            cases u with
            | nil =>
              exfalso
              rcases r with _ | ⟨⟨l, t⟩, r⟩
              · have h1 := drop_nil hd1
                rw [List.getElem?_eq_none h1] at hkd; cases hkd
              · rw [stE_lit] at hd1
                rw [(drop_cons hd1).1] at hkd; cases hkd
            | cons d' u' =>
              rw [stE_cons] at hd1
              rw [(drop_cons hd1).1] at hkd
              cases hkd
              exact ⟨u', rfl⟩
          subst hu'
          rw [stE_cons] at hd1
          obtain ⟨-, hd2, hk2⟩ := drop_cons hd1
          obtain ⟨j1, o1, y1, y2⟩ := me (k + 1) _ hkd
          have y0 := (y2 g1 (Ch.refl _ _)).1 0 (.int .u8 (d : Int)) (by omega) rfl
          simp only [Nat.add_zero] at y0
          obtain ⟨v', g2, s2, q2⟩ := q1.push (c := d) (by omega) (by omega)
          obtain ⟨g3, s3, q3⟩ := q2.setI (k + 2)
          obtain ⟨-, -, n1, -⟩ := q2.ps.see
          refine ⟨j1, o1, v', g2, g3, u', rfl, y1, y0, s2, n1, s3, fun fr' a0 a2 a3 => ⟨k + 2, β, v', a ++ [d], u', a0, a2, a3, q3, hd2, rfl, by omega, by rw [List.length_append]; simp only [List.length_cons, List.length_nil]; omega, by omega, fun hβ => ?_, hm1, ?_⟩⟩
          · rw [hm0 hβ, h92, quotedM_bs]
            simp only []
            rw [if_pos hde]
            cases quotedM u' with
            | none => rfl
            | some x => obtain ⟨t, z⟩ := x; simp
          · exact okc.trans (OKP.bytes fun k' h1 h2 => ⟨d, by rw [show k' = k + 1 by omega]; exact hkd⟩)
        have k2e : (((k + 1 : Nat) : Int) + 1) = ((k + 2 : Nat) : Int) := by omega
        cases hi34 : isP L (k + 1) 34 with
        | true =>
          rw [hi34] at is34
          have hk1 : L[k + 1]? = some (.b 34) := by
            rcases is_next (c := 34) hd1 with ⟨-, -, -, -, -, hz⟩ | ⟨hz, -⟩
            · exact hz
            · rw [hi34] at hz; cases hz
          obtain ⟨j1, o1, v', g2, g3, u', hu', y1, y0, s2, n1, s3, fin⟩ := esc 34 hk1 (.inl rfl)
          replace y0 : oLoad1 (.ptr j1 o1) g1 = .ok (.int .u8 34) g1 := y0
          replace s2 : oAppend 1 1 vo (.slice g1.next 0 1 (.kn 1)) (g1.new (.cells true [.int .u8 34])) = .ok v' g2 := s2
          have bs1 : oBuildSlice [.int .u8 0] 1 [(0, 1, .int .u8 34)] g1 = .ok (.slice g1.next 0 1 (.kn 1)) (g1.new (.cells true [.int .u8 34])) := rfl
          have ne13 : ¬ ((34 : Int) = 13) := by omega
          simp (disch := omega) only [seqO_eq, thenO_nor, gtO_some, bndO_ok, get_set_of, cndX_tmp, ifB_true, ifB_false, blkO_eq, blkX_nor, Nat.reduceEqDiff, reduceCtorEq, ↓reduceIte, oBin_add, oBin_eql, oBin_neq, oBin_lss, oUn_not, oFieldAddr_eq, bumpH_zero, Bool.not_true, Bool.not_false, oNilCheck_ptr, Nat.zero_add, bumpH_zero, decide_true, decide_false, ne_eq, not_false_eq_true, Tryb46_3, Tryr46_3, Tryr46_4, Tryr46_5, Tryr46_6, Tryr46_7, Tryr46_9, Tryr46_10, Tryr46_12, Tryr46_13, f0, f3, l0, l1, ll, hlt, e1, x1, Nat.add_zero, x0, h34', eq_true h92', k1e, s1, is34, m0, m1, y1, y0, ne13, bs1, s2, n1, k2e, s3]
          exact ⟨u'.length, by rw [hu'] at hu; simp only [List.length_cons] at hu; omega, fin _ (by simp only [get_set_of, reduceCtorEq, ↓reduceIte, f0]) (by simp only [get_set_of, Nat.reduceEqDiff, ↓reduceIte, f2]) (by simp only [get_set_of, ↓reduceIte])⟩
        | false =>
          rw [hi34] at is34
          cases hi92 : isP L (k + 1) 92 with
          | true =>
            rw [hi92] at is92
            have hk1 : L[k + 1]? = some (.b 92) := by
              rcases is_next (c := 92) hd1 with ⟨-, -, -, -, -, hz⟩ | ⟨hz, -⟩
              · exact hz
              · rw [hi92] at hz; cases hz
            obtain ⟨j1, o1, v', g2, g3, u', hu', y1, y0, s2, n1, s3, fin⟩ := esc 92 hk1 (.inr rfl)
            replace y0 : oLoad1 (.ptr j1 o1) g1 = .ok (.int .u8 92) g1 := y0
            replace s2 : oAppend 1 1 vo (.slice g1.next 0 1 (.kn 1)) (g1.new (.cells true [.int .u8 92])) = .ok v' g2 := s2
            have bs1 : oBuildSlice [.int .u8 0] 1 [(0, 1, .int .u8 92)] g1 = .ok (.slice g1.next 0 1 (.kn 1)) (g1.new (.cells true [.int .u8 92])) := rfl
            have ne13 : ¬ ((92 : Int) = 13) := by omega
            simp (disch := omega) only [seqO_eq, thenO_nor, gtO_some, bndO_ok, get_set_of, cndX_tmp, ifB_true, ifB_false, blkO_eq, blkX_nor, Nat.reduceEqDiff, reduceCtorEq, ↓reduceIte, oBin_add, oBin_eql, oBin_neq, oBin_lss, oUn_not, oFieldAddr_eq, bumpH_zero, Bool.not_true, Bool.not_false, oNilCheck_ptr, Nat.zero_add, bumpH_zero, decide_true, decide_false, ne_eq, not_false_eq_true, Tryb46_3, Tryr46_3, Tryr46_4, Tryr46_5, Tryr46_6, Tryr46_7, Tryr46_9, Tryr46_10, Tryr46_12, Tryr46_13, f0, f3, l0, l1, ll, hlt, e1, x1, Nat.add_zero, x0, h34', eq_true h92', k1e, s1, is34, is92, m0, m1, y1, y0, ne13, bs1, s2, n1, k2e, s3]
            exact ⟨u'.length, by rw [hu'] at hu; simp only [List.length_cons] at hu; omega, fin _ (by simp only [get_set_of, reduceCtorEq, ↓reduceIte, f0]) (by simp only [get_set_of, Nat.reduceEqDiff, ↓reduceIte, f2]) (by simp only [get_set_of, ↓reduceIte])⟩
          | false =>
            rw [hi92] at is92
            obtain ⟨g2, s2, q2⟩ := q1.setBad true
            have hnone : quotedM s = none := by
              cases hβ : β with
              | true => exact hm1 hβ
              | false =>
                rw [hm0 hβ, h92, quotedM_bs]
                cases u with
                | nil => rfl
                | cons d u' =>
                  rw [stE_cons] at hd1
                  have hkd := (drop_cons hd1).1
                  simp only []
                  rw [if_neg]
                  rintro (hz | hz)
                  · unfold isP at hi34; rw [hkd, hz] at hi34; simp at hi34
                  · unfold isP at hi92; rw [hkd, hz] at hi92; simp at hi92
            simp (disch := omega) only [seqO_eq, thenO_nor, thenO_ex, gtO_some, bndO_ok, get_set_of, cndX_tmp, ifB_true, blkO_eq, blkX_ex, Nat.zero_ne_one, reduceCtorEq, ↓reduceIte, oBin_add, oBin_eql, oBin_neq, oBin_lss, oUn_not, oFieldAddr_eq, bumpH_zero, Bool.not_false, oNilCheck_ptr, Nat.zero_add, bumpH_zero, decide_true, ne_eq, not_false_eq_true, Tryb46_3, Tryr46_3, Tryr46_4, Tryr46_5, Tryr46_6, Tryr46_7, Tryr46_8, f0, l0, l1, ll, hlt, e1, x1, Nat.add_zero, x0, h34', eq_true h92', k1e, s1, is34, is92, s2]
            exact ⟨rfl, k + 1, true, vo, a, by simp only [get_set_of, reduceCtorEq, ↓reduceIte, f0], by simp only [get_set_of, Nat.reduceEqDiff, ↓reduceIte, f2], by simp only [get_set_of, Nat.reduceEqDiff, ↓reduceIte, f3], q2, by omega, by omega, fun _ => hnone, fun hβ => by cases hβ⟩
      · have h92' : ¬ (c : Int) = 92 := by omega
        by_cases h13 : c = 13
        · have h13' : (c : Int) = 13 := by omega
          obtain ⟨g1, s1, q1⟩ := q.setBad true
          obtain ⟨v', g2, s2, q2⟩ := q1.push (c := c) (by omega) (by omega)
          obtain ⟨-, -, n1, -⟩ := q2.ps.see
          obtain ⟨g3, s3, q3⟩ := q2.setI (k + 1)
          have hnone : quotedM s = none := by
            cases hβ : β with
            | true => exact hm1 hβ
            | false => rw [hm0 hβ, h13, quotedM_cr]
          simp (disch := omega) only [seqO_eq, thenO_nor, gtO_some, bndO_ok, get_set_of, cndX_tmp, ifB_true, ifB_false, blkO_eq, blkX_nor, Nat.reduceEqDiff, reduceCtorEq, ↓reduceIte, oBin_add, oBin_eql, oBin_neq, oBin_lss, oUn_not, oFieldAddr_eq, oBuildSlice_1, bumpH_zero, Bool.not_false, oNilCheck_ptr, Nat.zero_add, bumpH_zero, decide_true, decide_false, ne_eq, not_false_eq_true, Tryb46_3, Tryr46_3, Tryr46_4, Tryr46_5, Tryr46_10, Tryr46_11, Tryr46_12, Tryr46_13, f0, f3, l0, l1, ll, hlt, e1, x1, Nat.add_zero, x0, h34', h92', eq_true h13', s1, s2, n1, k1e, s3]
          exact ⟨u.length, by omega, k + 1, true, v', a ++ [c], u, by simp only [get_set_of, reduceCtorEq, ↓reduceIte, f0], by simp only [get_set_of, Nat.reduceEqDiff, ↓reduceIte, f2], by simp only [get_set_of, ↓reduceIte], q3, hd1, rfl, by omega, by rw [List.length_append]; simp only [List.length_cons, List.length_nil]; omega, by omega, fun hβ => (by cases hβ), fun _ => hnone, okc⟩
        · have h13' : ¬ (c : Int) = 13 := by omega
          obtain ⟨v', g2, s2, q2⟩ := q.push (c := c) (by omega) (by omega)
          obtain ⟨-, -, n1, -⟩ := q2.ps.see
          obtain ⟨g3, s3, q3⟩ := q2.setI (k + 1)
          simp (disch := omega) only [seqO_eq, thenO_nor, gtO_some, bndO_ok, get_set_of, cndX_tmp, ifB_true, ifB_false, blkO_eq, blkX_nor, Nat.reduceEqDiff, reduceCtorEq, ↓reduceIte, oBin_add, oBin_eql, oBin_neq, oBin_lss, oUn_not, oFieldAddr_eq, oBuildSlice_1, bumpH_zero, Bool.not_false, oNilCheck_ptr, Nat.zero_add, bumpH_zero, decide_true, decide_false, ne_eq, not_false_eq_true, Tryb46_3, Tryr46_3, Tryr46_4, Tryr46_5, Tryr46_10, Tryr46_12, Tryr46_13, f0, f3, l0, l1, ll, hlt, e1, x1, Nat.add_zero, x0, h34', h92', h13', s2, n1, k1e, s3]
          refine ⟨u.length, by omega, k + 1, β, v', a ++ [c], u, by simp only [get_set_of, reduceCtorEq, ↓reduceIte, f0], by simp only [get_set_of, Nat.reduceEqDiff, ↓reduceIte, f2], by simp only [get_set_of, ↓reduceIte], q3, hd1, rfl, by omega, by rw [List.length_append]; simp only [List.length_cons, List.length_nil]; omega, by omega, fun hβ => ?_, hm1, okc⟩
          rw [hm0 hβ, quotedM_other u h34 h13 h92]
          cases quotedM u with
          | none => rfl
          | some x => obtain ⟨t, z⟩ := x; simp
/-- what the reference's quoted text is -/
def QuotQ (b : Nat) (L : List El) (h : Hp) (p : Pos) (i : Nat) (s : List Nat) (r : List (List Nat × List Nat)) (v : V) (h' : Hp) : Prop :=
  Ch (fun j => j = p) h h' ∧ ∃ t, v = wag ⟨2, t, .nil⟩ .nils ∧
    ((∃ s' i', quotedM s = some (t, s') ∧ RPs b L h' p i' false ∧ L.drop i' = stE ⟨s', r⟩ ∧ i ≤ i' ∧ i' ≤ L.length ∧ OKP L i i') ∨ (quotedM s = none ∧ ∃ i', i' ≤ L.length + 1 ∧ RPs b L h' p i' true))
theorem rquoted_ok (a : RPs b L h p i false) (hd : L.drop i = stE ⟨34 :: s, r⟩) : ∃ v h', TryF46 [.ptr p 0] h = .ok v h' ∧ QuotQ b L h p i s r v h' := by
  rw [stE_cons] at hd
  obtain ⟨hk, hd1, hkl⟩ := drop_cons hd
  have hsm := a.small
  obtain ⟨g0, hg0⟩ : ∃ g0, g0 = h.new (.cells true [.int .i64 0, .str [], .nils]) := ⟨_, rfl⟩
  have c0 : Ch (fun _ => False) h g0 := by rw [hg0]; exact Ch.new _ _ _
  have q0 : Qst b L h p g0 i false .nils [] := ⟨a.ch c0 fun _ q => q.elim, a.lt, Own.nil _ _ _, fun j q => (by cases q), c0.mono fun _ _ q => q.elim, ⟨_, _, _, by rw [hg0]; exact new_self _ _⟩, by rw [hg0, new_next_nat]; omega, fun x hx => (by cases hx)⟩
  obtain ⟨-, -, l1, -⟩ := q0.ps.see
  obtain ⟨g1, s1, q1⟩ := q0.setI (i + 1)
  have k1e : ((i : Int) + 1) = ((i + 1 : Nat) : Int) := by omega
  have ok1 : OKP L i (i + 1) := OKP.bytes fun k' h1 h2 => ⟨34, by rw [show k' = i by omega]; exact hk⟩
  rw [TryF46_eq]
  show Tells Try.prog _ (QuotQ b L h p i s r) _
  simp (disch := omega) only [seqO_eq, thenO_nor, gtO_some, bndO_ok, get_set_of, blkO_eq, reduceCtorEq, ↓reduceIte, oBin_add, oFieldAddr_eq, oNilCheck_ptr, Nat.zero_add, Tryd46, Tryr46_0, Tryr46_1, Tryr46_2, oNew_w, ← hg0, l1, k1e, s1]
  refine Oc.then (loop_rule (n := s.length) (QI b L h p i s r) (A := QA b L h p i s r) (B := fun _ _ => False) (by
      have h1 := congrArg List.length hd1
      rw [List.length_drop] at h1
      have h2 : s.length ≤ (stE ⟨s, r⟩).length := by simp [stE, bsE]
      rw [lf_eq]; omega) ?_ quoted_step) ?_ ?_
  · refine ⟨i + 1, false, .nils, [], s, by simp only [get_set_of, reduceCtorEq, ↓reduceIte], by simp only [get_set_of, Nat.reduceEqDiff, ↓reduceIte], by simp only [get_set_of, ↓reduceIte], q1, hd1, rfl, by omega, by simp, by omega, fun _ => ?_, fun hβ => (by cases hβ), ok1⟩
    cases quotedM s with
    | none => rfl
    | some x => obtain ⟨t, z⟩ := x; rfl
  · rintro fr g ⟨k, β, vo, a', f0, f2, f3, q, hkL, hik, hm1, hm0⟩
    have is34 : TryF40 [.ptr p 0, .int .u8 34] g = .ok (.bool (isP L k 34)) g := is_ok q.ps 34
    have k1e : ((k : Int) + 1) = ((k + 1 : Nat) : Int) := by omega
    -- behind the last step
    have fini : ∀ {g2 : Hp} {β2 : Bool}, Qst b L h p g2 (k + 1) β2 vo a' → ∃ g3, oBytesStr vo g2 = .ok (.str a') g2 ∧ oStore 3 (.ptr h.next 0) (.agg (.cons (.int .i64 2) (.cons (.str a') (.cons .nils .nil)))) g2 = .ok V.undef g3 ∧ g3.get h.next = some (.cells true [.int .i64 2, .str a', .nils]) ∧ Ch (fun j => j = p) h g3 ∧ RPs b L g3 p (k + 1) β2 := fun {g2 β2} q2 => by
      obtain ⟨x, y, z, w⟩ := q2.w
      have e1 := st3_get (a := .int .i64 2) (b := .str a') (c := .nils) w
      have h1 := q2.plt
      have cc : Ch (fun j => j = h.next) g2 (g2.put h.next (some (.cells true [.int .i64 2, .str a', .nils]))) := Ch.put g2 _ rfl
      exact ⟨_, oBytesStr_ok q2.own.sl q2.a256 (fun _ _ => rfl), e1, put_self _ _ _, q2.ch.trans cc fun j hj e => (by have := congrArg Pos.nat e; omega), q2.ps.ch cc fun j e => (by rw [e]; exact h1)⟩
    cases hi : isP L k 34 with
    | true =>
      rw [hi] at is34
      obtain ⟨-, -, n1, -⟩ := q.ps.see
      obtain ⟨g2, s2, q2⟩ := q.setI (k + 1)
      obtain ⟨g3, d1, d2, d3, d4, d5⟩ := fini q2
      simp (disch := omega) only [seqO_eq, thenO_nor, gtO_some, bndO_ok, get_set_of, cndX_tmp, ifB_false, Nat.reduceEqDiff, reduceCtorEq, ↓reduceIte, oBin_add, oUn_not, oFieldAddr_eq, Bool.not_true, oNilCheck_ptr, Nat.zero_add, Tryr46_14, Tryr46_16, Tryr46_17, f0, f2, f3, is34, n1, k1e, s2, d1, oBuild_w2, d2]
      refine Tells.ret (by simp only [resK, get_set_of, Nat.reduceEqDiff, ↓reduceIte, f2, dLoad43, ldN3_get d3, tupR] <;> rfl) ⟨d4, a', rfl, ?_⟩
      cases hβ : β with
      | true => rw [hβ] at d5; exact .inr ⟨hm1 hβ, k + 1, by omega, d5⟩
      | false =>
        rcases hm0 hβ with ⟨hz, -⟩ | ⟨-, u, u1, u2, u3⟩
        · rw [hi] at hz; cases hz
        · rw [hβ] at d5; exact .inl ⟨u, k + 1, u2, d5, u1, by omega, by have := isP_lt hi; omega, u3⟩
    | false =>
      rw [hi] at is34
      obtain ⟨g1, t1, r1⟩ := q.setBad true
      obtain ⟨-, -, n1, -⟩ := r1.ps.see
      obtain ⟨g2, s2, q2⟩ := r1.setI (k + 1)
      obtain ⟨g3, d1, d2, d3, d4, d5⟩ := fini q2
      simp (disch := omega) only [seqO_eq, thenO_nor, gtO_some, bndO_ok, get_set_of, cndX_tmp, ifB_true, Nat.reduceEqDiff, reduceCtorEq, ↓reduceIte, oBin_add, oUn_not, oFieldAddr_eq, Bool.not_false, oNilCheck_ptr, Nat.zero_add, Tryr46_14, Tryr46_15, Tryr46_16, Tryr46_17, f0, f2, f3, is34, t1, n1, k1e, s2, d1, oBuild_w2, d2]
      refine Tells.ret (by simp only [resK, get_set_of, Nat.reduceEqDiff, ↓reduceIte, f2, dLoad43, ldN3_get d3, tupR] <;> rfl) ⟨d4, a', rfl, .inr ⟨?_, k + 1, by omega, d5⟩⟩
      cases hβ : β with
      | true => exact hm1 hβ
      | false =>
        rcases hm0 hβ with ⟨-, hz⟩ | ⟨hz, -⟩
        · exact hz
        · rw [hi] at hz; cases hz
  · rintro fr g q
    exact q.elim
end Go.Proofs.Ytgnfkfmhjgbhhaa

noncomputable section
namespace Go.Proofs.Ytgnfkfmhjgbhhaa
open Go Go.Proofs Go.Vm Go.Ln
set_option linter.unusedVariables false
set_option maxRecDepth 100000
set_option linter.unusedSimpArgs false
theorem stE_len (st : St) : (stE st).length = St.size st := by
  obtain ⟨cur, rest⟩ := st
  induction rest generalizing cur with
  | nil => simp [stE, bsE, St.size]
  | cons p rest ih =>
    have := ih []
    simp only [stE, bsE, St.size, List.map_nil, List.nil_append, List.length_nil, Nat.zero_add] at this
    simp only [stE, St.size, bsE, List.flatMap_cons, List.length_append, List.length_map, List.length_cons, List.map_cons, List.sum_cons]
    omega
theorem drop_size {L : List El} {i : Nat} {st : St} (h : L.drop i = stE st) : St.size st = L.length - i := by rw [← stE_len, ← h, List.length_drop]
/-- a row of words that grows -/
def WOk (b : Nat) (g : Hp) (v : V) (acc : Wds) : Prop := ∃ cs, Own 0 g 3 v acc.len cs ∧ (∀ j, idOf v = some j → b ≤ j.nat) ∧ WAt (fun j => b ≤ j.nat ∧ idOf v ≠ some j) g acc cs
theorem WOk.nil (b : Nat) (g : Hp) : WOk b g .nils .nil := ⟨[], Own.nil _ _ _, fun j q => (by cases q), rfl⟩
theorem WOk.ch {b : Nat} {g g' : Hp} {v : V} {acc : Wds} {S : Pos → Prop} (t : WOk b g v acc) (c : Ch S g g') (hs : ∀ j, S j → j.nat < b) : WOk b g' v acc := by
  obtain ⟨cs, o, i, w⟩ := t
  exact ⟨cs, o.ch c fun j hj q => by have := i j hj; have := hs j q; omega, i, w.ch c fun j _ q => ⟨q, fun e => by have := hs j e; have := q.1; omega⟩⟩
theorem WOk.row {b : Nat} {g : Hp} {v : V} {acc : Wds} (t : WOk b g v acc) : WRow (fun j => b ≤ j.nat) g v acc := by
  obtain ⟨cs, o, i, w⟩ := t
  exact ⟨cs, o, i, w.ch (Ch.refl (fun _ => False) _) fun j _ q => ⟨q.1, fun e => e⟩⟩
theorem WOk.push {b : Nat} {g g1 : Hp} {v vk : V} {acc : Wds} {w : Wd} {S : Pos → Prop} (t : WOk b g v acc) (c : Ch S g g1) (hs : ∀ j, S j → j.nat < b) (hb : b ≤ g.next.nat) (wk : WRow (fun j => g.next.nat ≤ j.nat) g1 vk w.kids) (hl : acc.len < 1000000000) :
    ∃ v' g4, oAppend 3 48 v (.slice g1.next 0 1 (.kn 1)) (g1.new (.cells true [.int .i64 w.kind, .str w.text, vk])) = .ok v' g4 ∧ WOk b g4 v' (acc.app (.cons w.kind w.text w.kids .nil)) ∧ Ch (fun j => b ≤ j.nat) g1 g4 := by
  obtain ⟨cs, ov, iv, wa⟩ := t
  have ov1 : Own 0 g1 3 v acc.len cs := ov.ch c fun j hj q => by have := iv j hj; have := hs j q; omega
  obtain ⟨v', g4, a1, a2, a3, a4, a5⟩ := app1_ok (bt := 48) (new := [V.int .i64 w.kind, V.str w.text, vk]) ov1 rfl (by omega)
  have c1n := c.next
  obtain ⟨ck, ok1, ik1, wk1⟩ := wk
  have iv' : ∀ j, idOf v' = some j → j.nat = g1.next.nat + 1 := fun j hj => by rw [a2] at hj; cases hj; rw [Pos.nat_succ]
  have hvg : ∀ j, idOf v = some j → j.nat < g.next.nat := fun j hj => (ov.idlt hj).2
  have wa4 : WAt (fun j => b ≤ j.nat ∧ idOf v' ≠ some j) g4 acc cs := (wa.ch c (P' := fun j => b ≤ j.nat ∧ idOf v ≠ some j) fun j hj q => ⟨q, fun e => by have := hs j e; have := q.1; omega⟩).ch a4 fun j hj q => ⟨⟨q.1, fun e => by have := iv' j e; omega⟩, q.2⟩
  have ok4 : Own 0 g4 3 vk w.kids.len ck := ok1.ch a4 fun j hj e => by have := hvg j e; have := ik1 j hj; omega
  have wk4 : WAt (fun j => b ≤ j.nat ∧ idOf v' ≠ some j) g4 w.kids ck := wk1.ch a4 fun j hj q => ⟨⟨by omega, fun e => by have := iv' j e; omega⟩, fun e => by have := hvg j e; omega⟩
  have wn : WAt (fun j => b ≤ j.nat ∧ idOf v' ≠ some j) g4 (acc.app (.cons w.kind w.text w.kids .nil)) (cs ++ [V.int .i64 w.kind, V.str w.text, vk]) :=
    WAt.app (b := .cons w.kind w.text w.kids .nil) (cb := [V.int .i64 w.kind, V.str w.text, vk]) ⟨vk, ck, [], rfl, ok4, fun j hj => ⟨by have := ik1 j hj; omega, fun e => by have := iv' j e; have := (ok1.idlt hj).2; omega⟩, wk4, rfl⟩ wa4
  have hlen : (acc.app (.cons w.kind w.text w.kids .nil)).len = acc.len + 1 := by rw [Wds.len_app]; rfl
  exact ⟨v', g4, a1, ⟨_, by rw [hlen]; exact a3, fun j hj => by have := iv' j hj; omega, wn⟩, a4.mono fun j _ q => iv j q⟩
variable {b n : Nat} {L : List El} {h h' g : Hp} {p : Pos} {i : Nat} {st : St}
def RWordQ (b : Nat) (L : List El) (n : Nat) (h : Hp) (p : Pos) (i : Nat) (st : St) (r : V) (h' : Hp) : Prop :=
  Ch (fun j => j = p) h h' ∧ ((∃ w st' vk i', wordM n st = some (w, st') ∧ r = wag w vk ∧ RPs b L h' p i' false ∧ L.drop i' = stE st' ∧ i ≤ i' ∧ i' ≤ L.length ∧ OKP L i i' ∧ WRow (fun j => h.next.nat ≤ j.nat) h' vk w.kids) ∨
    ((wordM n st = none ∨ ¬ OKP L 0 L.length) ∧ ∃ k t ks i', r = wag ⟨k, t, .nil⟩ ks ∧ notTuple ks = true ∧ ks.cells = [ks] ∧ i' ≤ L.length + n + 2 ∧ RPs b L h' p i' true))
def RWordsQ (b : Nat) (L : List El) (n : Nat) (h : Hp) (p : Pos) (i : Nat) (st : St) (r : V) (h' : Hp) : Prop :=
  Ch (fun j => j = p) h h' ∧ ((∃ ws st' i', loopW (wordM n) (St.size st + 1) st = some (ws, st') ∧ RPs b L h' p i' false ∧ L.drop i' = stE st' ∧ i ≤ i' ∧ i' ≤ L.length ∧ OKP L i i' ∧ WRow (fun j => h.next.nat ≤ j.nat) h' r ws) ∨
    ((loopW (wordM n) (St.size st + 1) st = none ∨ ¬ OKP L 0 L.length) ∧ r.cells = [r] ∧ notTuple r = true ∧ ∃ i', i' ≤ L.length + n + 2 ∧ RPs b L h' p i' true))
def RWordOk (b : Nat) (L : List El) (n : Nat) (W : Fun) (deep : Int) : Prop := ∀ h p i st, RPs b L h p i false → L.drop i = stE st → i ≤ L.length → ∃ r h', W [.ptr p 0, .int .i64 deep] h = .ok r h' ∧ RWordQ b L n h p i st r h'
/-- words, where all is lost already -/
theorem rwords_bad {W : Fun} {d : V} (a : RPs b L h p i true) : TryF31 W [.ptr p 0, d] h = .ok .nils h := by
  obtain ⟨vl, -, -, l2, -⟩ := a.see
  have key : Tells Try.prog [.tmp 4] (fun v g => v = .nils ∧ g = h) (Tryd31 W (T.set (some d) (Pos.of 1) (T.set (some (.ptr p 0)) (Pos.of 0) T.nil)) h) := by
    simp only [seqO_eq, thenO_nor, blkO_eq, Tryd31, Tryr31_0, Tryr31_1]
    refine Oc.then (loop_rule (n := 0) (fun m fr g => fr.get (Pos.of 0) = some (.ptr p 0) ∧ fr.get (Pos.of 5) = some .nils ∧ g = h) (A := fun fr g => fr.get (Pos.of 5) = some .nils ∧ g = h) (B := fun _ _ => False) (by rw [lf_eq]; omega) ?_ ?_) ?_ ?_
    · exact ⟨by simp only [get_set_of, Nat.zero_ne_one, reduceCtorEq, ↓reduceIte], by simp only [get_set_of, ↓reduceIte], rfl⟩
    · rintro m fr g ⟨f0, f5, rfl⟩
      simp (disch := omega) only [seqO_eq, thenO_nor, thenO_ex, gtO_some, bndO_ok, get_set_of, cndX_tmp, ifB_false, ↓reduceIte, oUn_not, oFieldAddr_eq, Bool.not_true, oNilCheck_ptr, Nat.zero_add, Tryb31_2, Tryr31_2, f0, l2]
      exact ⟨rfl, by simp only [get_set_of, Nat.reduceEqDiff, ↓reduceIte, f5], rfl⟩
    · rintro fr g ⟨f5, rfl⟩
      simp only [seqO_eq, thenO_nor, gtO_some, Tryr31_6, f5]
      exact Tells.ret (by simp only [resK, get_set_of, ↓reduceIte, tupR] <;> rfl) ⟨rfl, rfl⟩
    · rintro fr g q
      exact q.elim
  rw [TryF31_eq]
  obtain ⟨r, h', e, rfl, rfl⟩ := key
  exact e
def RWI (b : Nat) (L : List El) (n : Nat) (h : Hp) (p : Pos) (i : Nat) (st : St) (d : V) (m : Nat) (fr : F) (g : Hp) : Prop :=
  ∃ k v, fr.get (Pos.of 0) = some (.ptr p 0) ∧ fr.get (Pos.of 1) = some d ∧ fr.get (Pos.of 5) = some v ∧ Ch (fun j => j = p) h g ∧
    ((∃ acc cur, m = St.size cur + 1 ∧ RPs b L g p k false ∧ L.drop k = stE cur ∧ i ≤ k ∧ k ≤ L.length ∧ OKP L i k ∧ WOk h.next.nat g v acc ∧ acc.len + St.size cur ≤ St.size st ∧ St.size cur ≤ St.size st ∧
        loopW (wordM n) (St.size st + 1) st = (loopW (wordM n) (St.size cur + 1) cur).map fun q => (acc.app q.1, q.2)) ∨
      (m = 0 ∧ RPs b L g p k true ∧ k ≤ L.length + n + 2 ∧ (∃ z cs, Own 0 g 3 v z cs) ∧ (loopW (wordM n) (St.size st + 1) st = none ∨ ¬ OKP L 0 L.length)))
theorem rwords_ok {W : Fun} {deep : Int} (hW : RWordOk b L n W deep) (a : RPs b L h p i false) (hd : L.drop i = stE st) (hiL : i ≤ L.length) :
    ∃ r h', TryF31 W [.ptr p 0, .int .i64 deep] h = .ok r h' ∧ RWordsQ b L n h p i st r h' := by
  have hsm := a.small
  have hsz := drop_size hd
  rw [TryF31_eq]
  show Tells Try.prog _ (RWordsQ b L n h p i st) _
  simp only [seqO_eq, thenO_nor, blkO_eq, Tryd31, Tryr31_0, Tryr31_1]
  refine Oc.then (loop_rule (n := St.size st + 1) (RWI b L n h p i st (.int .i64 deep)) (A := fun fr g => ∃ v, fr.get (Pos.of 5) = some v ∧ RWordsQ b L n h p i st v g) (B := fun _ _ => False) (by rw [lf_eq]; omega) ?_ ?_) ?_ ?_
  · refine ⟨i, .nils, by simp only [get_set_of, Nat.zero_ne_one, reduceCtorEq, ↓reduceIte], by simp only [get_set_of, Nat.reduceEqDiff, ↓reduceIte], by simp only [get_set_of, ↓reduceIte], Ch.refl _ _, .inl ⟨.nil, st, rfl, a, hd, Nat.le_refl _, hiL, OKP.nil _ _, WOk.nil _ _, by simp [Wds.len], Nat.le_refl _, ?_⟩⟩
    cases loopW (wordM n) (St.size st + 1) st <;> rfl
  · rintro m fr g ⟨k, v, f0, f1, f5, ch, ⟨acc, cur, hm, ps, hdk, hik, hkL, hok, wo, hal, hcs, hq⟩ | ⟨hm, ps, hk, ⟨z, cs, ov⟩, hq⟩⟩
    · obtain ⟨vl, -, -, l2, -⟩ := ps.see
      obtain ⟨r, g1, hw, c1, hr⟩ := hW g p k cur ps hdk hkL
      have hpn := a.lt
      have chn := ch.next
      obtain ⟨X, hX⟩ : ∃ X, X = loopW (wordM n) (St.size st + 1) st := ⟨_, rfl⟩
      rw [← hX, loopW] at hq
      rw [hX] at hq
      rcases hr with ⟨w, st1, vk, k1, hwm, rfl, ps1, hd1, hk1, hk1L, ok1, wk⟩ | ⟨hno, kk, t, ks, k1, rfl, n1, n2, hk1, ps1⟩
      · rw [hwm] at hq
        simp only [] at hq
        obtain ⟨v', g4, e4, wo4, c4⟩ := wo.push (w := w) c1 (fun j e => by rw [e]; exact hpn) chn wk (by omega)
        have ps4 : RPs b L g4 p k1 false := ps1.ch c4 fun j hj => by omega
        have sz1 := wordM_size hwm
        have ch4 : Ch (fun j => j = p) h g4 := (ch.trans c1 fun _ _ q => q).trans c4 fun j hj q => by omega
        have is32 : TryF40 [.ptr p 0, .int .u8 32] g4 = .ok (.bool (isP L k1 32)) g4 := is_ok ps4 32
        have bs := fun h => oBuildSlice_3 (h := h) (.int .i64 w.kind) (.str w.text) vk
        rcases is_next (c := 32) hd1 with ⟨hi, st2, hx, hd2, hlt, hb⟩ | ⟨hi, hx⟩
        · rw [hi] at is32
          rw [hx] at hq
          have sz2 := nextM_size hx
          have k1e : ((k1 : Int) + 1) = ((k1 + 1 : Nat) : Int) := by omega
          obtain ⟨-, -, l1, -⟩ := ps4.see
          obtain ⟨g5, s5, ps5, c5, -⟩ := ps4.setI (k1 + 1)
          simp (disch := omega) only [seqO_eq, thenO_nor, gtO_some, bndO_ok, get_set_of, cndX_tmp, ifB_true, ifB_false, blkO_eq, blkX_nor, Nat.reduceEqDiff, reduceCtorEq, ↓reduceIte, oBin_add, oUn_not, oFieldAddr_eq, Bool.not_true, Bool.not_false, oNilCheck_ptr, Nat.zero_add, Tryb31_2, Tryr31_2, Tryr31_3, Tryr31_4, Tryr31_5, f0, f1, f5, l2, hw, wag, bs, e4, is32, l1, k1e, s5]
          refine ⟨St.size st2 + 1, by omega, k1 + 1, v', by simp only [get_set_of, reduceCtorEq, ↓reduceIte, f0], by simp only [get_set_of, Nat.reduceEqDiff, ↓reduceIte, f1], by simp only [get_set_of, Nat.reduceEqDiff, ↓reduceIte], ch4.trans c5 fun _ _ q => q, .inl ⟨acc.app (.cons w.kind w.text w.kids .nil), st2, rfl, ps5, hd2, by omega, by omega, ?_, wo4.ch c5 fun j e => (by rw [e]; exact hpn), ?_, by omega, ?_⟩⟩
          · exact (hok.trans ok1).trans (OKP.bytes fun k' h1 h2 => ⟨32, by rw [show k' = k1 by omega]; exact hb⟩)
          · have : (acc.app (.cons w.kind w.text w.kids .nil)).len = acc.len + 1 := by rw [Wds.len_app]; rfl
            omega
          · rw [hq]
            simp only []
            rw [loopW_fuel (word := wordM n) (fun _ _ _ h => wordM_size h) (f := St.size cur) (g := St.size st2 + 1) (by omega) (by omega)]
            cases loopW (wordM n) (St.size st2 + 1) st2 with
            | none => rfl
            | some q => simp only [Option.map_some, Wds.app_assoc, Wds.app]
        · rw [hi] at is32
          rw [hx] at hq
          simp (disch := omega) only [seqO_eq, thenO_nor, thenO_ex, gtO_some, bndO_ok, get_set_of, cndX_tmp, ifB_true, blkO_eq, blkX_ex, Nat.reduceEqDiff, Nat.zero_ne_one, reduceCtorEq, ↓reduceIte, oUn_not, oFieldAddr_eq, Bool.not_false, oNilCheck_ptr, Nat.zero_add, Tryb31_2, Tryr31_2, Tryr31_3, Tryr31_4, f0, f1, f5, l2, hw, wag, bs, e4, is32]
          exact ⟨rfl, v', by simp only [get_set_of, Nat.reduceEqDiff, ↓reduceIte], ch4, .inl ⟨_, st1, k1, hq, ps4, hd1, by omega, hk1L, hok.trans ok1, wo4.row⟩⟩
      · -- no word
        have hfail : loopW (wordM n) (St.size st + 1) st = none ∨ ¬ OKP L 0 L.length := by
          rcases hno with hno | hno
          · left
            rw [hq, hno]; rfl
          · exact .inr hno
        obtain ⟨cs, ov, iv, -⟩ := wo
        have ov1 : Own 0 g1 3 v acc.len cs := ov.ch c1 fun j hj q => by have := iv j hj; rw [q] at this; omega
        obtain ⟨v', g4, e4, a2, a3, a4, a5⟩ := app1_ok (bt := 48) (new := [V.int .i64 kk, V.str t, ks]) ov1 rfl (by omega)
        have c4 : Ch (fun j => h.next.nat ≤ j.nat) g1 g4 := a4.mono fun j _ q => iv j q
        have ps4 : RPs b L g4 p k1 true := ps1.ch c4 fun j hj => by omega
        have ch4 : Ch (fun j => j = p) h g4 := (ch.trans c1 fun _ _ q => q).trans c4 fun j hj q => by omega
        have is32 : TryF40 [.ptr p 0, .int .u8 32] g4 = .ok (.bool (isP L k1 32)) g4 := is_ok ps4 32
        have bs := fun h => oBuildSlice_3 (h := h) (.int .i64 kk) (.str t) ks
        cases hi : isP L k1 32 with
        | true =>
          rw [hi] at is32
          have hlt : k1 < L.length := by
            rcases Nat.lt_or_ge k1 L.length with h1 | h1
            · exact h1
            · unfold isP at hi; rw [List.getElem?_eq_none h1] at hi; cases hi
          have k1e : ((k1 : Int) + 1) = ((k1 + 1 : Nat) : Int) := by omega
          obtain ⟨-, -, l1, -⟩ := ps4.see
          obtain ⟨g5, s5, ps5, c5, -⟩ := ps4.setI (k1 + 1)
          simp (disch := omega) only [seqO_eq, thenO_nor, gtO_some, bndO_ok, get_set_of, cndX_tmp, ifB_true, ifB_false, blkO_eq, blkX_nor, Nat.reduceEqDiff, reduceCtorEq, ↓reduceIte, oBin_add, oUn_not, oFieldAddr_eq, Bool.not_true, Bool.not_false, oNilCheck_ptr, Nat.zero_add, Tryb31_2, Tryr31_2, Tryr31_3, Tryr31_4, Tryr31_5, f0, f1, f5, l2, hw, wag, bs, e4, is32, l1, k1e, s5]
          refine ⟨0, by omega, k1 + 1, v', by simp only [get_set_of, reduceCtorEq, ↓reduceIte, f0], by simp only [get_set_of, Nat.reduceEqDiff, ↓reduceIte, f1], by simp only [get_set_of, Nat.reduceEqDiff, ↓reduceIte], ch4.trans c5 fun _ _ q => q, .inr ⟨rfl, ps5, by omega, ⟨_, _, a3.ch c5 fun j hj q => ?_⟩, hfail⟩⟩
          rw [a2] at hj; cases hj
          have := congrArg Pos.nat q
          rw [Pos.nat_succ] at this
          have := c1.next
          omega
        | false =>
          rw [hi] at is32
          simp (disch := omega) only [seqO_eq, thenO_nor, thenO_ex, gtO_some, bndO_ok, get_set_of, cndX_tmp, ifB_true, blkO_eq, blkX_ex, Nat.reduceEqDiff, Nat.zero_ne_one, reduceCtorEq, ↓reduceIte, oUn_not, oFieldAddr_eq, Bool.not_false, oNilCheck_ptr, Nat.zero_add, Tryb31_2, Tryr31_2, Tryr31_3, Tryr31_4, f0, f1, f5, l2, hw, wag, bs, e4, is32]
          exact ⟨rfl, v', by simp only [get_set_of, Nat.reduceEqDiff, ↓reduceIte], ch4, .inr ⟨hfail, a3.cell.1, a3.cell.2, k1, hk1, ps4⟩⟩
    · obtain ⟨vl, -, -, l2, -⟩ := ps.see
      simp (disch := omega) only [seqO_eq, thenO_nor, thenO_ex, gtO_some, bndO_ok, get_set_of, cndX_tmp, ifB_false, ↓reduceIte, oUn_not, oFieldAddr_eq, Bool.not_true, oNilCheck_ptr, Nat.zero_add, Tryb31_2, Tryr31_2, f0, l2]
      exact ⟨rfl, v, by simp only [get_set_of, Nat.reduceEqDiff, ↓reduceIte, f5], ch, .inr ⟨hq, ov.cell.1, ov.cell.2, k, hk, ps⟩⟩
  · rintro fr g ⟨v, f5, hQ⟩
    simp only [seqO_eq, thenO_nor, gtO_some, Tryr31_6, f5]
    exact Tells.ret (by simp only [resK, get_set_of, ↓reduceIte, tupR] <;> rfl) hQ
  · rintro fr g q
    exact q.elim
end Go.Proofs.Ytgnfkfmhjgbhhaa

noncomputable section
namespace Go.Vm
variable {h : Hp}
theorem aNew_e : aNew [.int .u8 0, .bool false, .str []] = some (.cells true [.int .u8 0, .bool false, .str []], fun p => .ptr p 0) := (rfl)
end Go.Vm
namespace Go.Proofs.Ytgnfkfmhjgbhhaa
open Go Go.Proofs Go.Vm Go.Ln
set_option linter.unusedVariables false
set_option maxRecDepth 100000
set_option linter.unusedSimpArgs false
def LTail (V31 : Fun) : F → Hp → Out := (seqO (seqO (Tryr39_17 V31) (cndX (.tmp 130) (Tryr39_18 V31) Out.nor)) (seqO (Tryr39_19 V31) (seqO (Tryr39_20 V31) Out.ret)))
def ATail (V31 : Fun) : F → Hp → Out := (seqO (Tryr39_23 V31) (seqO (blkO 1 (loopO (Tryb39_24 V31) lf)) (seqO (Tryr39_27 V31) (seqO (Tryr39_28 V31) Out.ret))))
def Word39 (V31 : Fun) : F → Hp → Out := (seqO (blkO 0 (seqO (Tryr39_5 V31) (cndX (.tmp 38) (seqO (seqO (Tryr39_6 V31) (cndX (.tmp 89) (Tryr39_7 V31) Out.nor)) (seqO (Tryr39_8 V31) (seqO (Tryr39_9 V31) Out.ret))) (seqO (Tryr39_10 V31) (cndX (.tmp 103) (seqO (seqO (Tryr39_11 V31) (cndX (.tmp 108) (Tryr39_12 V31) Out.nor)) (seqO (Tryr39_13 V31) (seqO (Tryr39_14 V31) (seqO (seqO (Tryr39_15 V31) (cndX (.tmp 122) (Tryr39_16 V31) Out.nor)) (LTail V31))))) (seqO (Tryr39_21 V31) (cndX (.tmp 142) (seqO (Tryr39_22 V31) Out.ret) Out.nor))))))) (ATail V31))
theorem Tryd39_eq (V31 : Fun) : Tryd39 V31 = seqO (Tryr39_0 V31) (seqO (seqO (Tryr39_1 V31) (cndX (.tmp 23) (seqO (Tryr39_2 V31) (seqO (Tryr39_3 V31) Out.ret)) Out.nor)) (seqO (Tryr39_4 V31) (Word39 V31))) := (rfl)
/-- a word is read: the parser, the place for the word, the element -/
structure Wst (b : Nat) (L : List El) (h : Hp) (p : Pos) (e : El) (g : Hp) (k : Nat) (β : Bool) : Prop where
  ps : RPs b L g p k β
  plt : p.nat < h.next.nat
  ch : Ch (fun j => j = p) h g
  w : ∃ x y z, g.get h.next = some (.cells true [x, y, z])
  el : g.get h.next.succ = some (.cells true (elC e))
  wl : h.next.nat + 2 ≤ g.next.nat
variable {b n : Nat} {L : List El} {h g g' : Hp} {p : Pos} {i k : Nat} {β : Bool} {e : El} {st : St} {V31 : Fun} {deep : Int}
theorem Wst.turn {k' : Nat} {β' : Bool} {S : Pos → Prop} (q : Wst b L h p e g k β) (ps : RPs b L g' p k' β') (c : Ch S g g') (hS : ∀ j, S j → j = p ∨ h.next.nat + 2 ≤ j.nat) : Wst b L h p e g' k' β' := by
  obtain ⟨x, y, z, w⟩ := q.w
  have h1 := q.plt
  have h2 := q.wl
  refine ⟨ps, h1, q.ch.trans c fun j hj e => (hS j e).resolve_right (by omega), ⟨x, y, z, ?_⟩, ?_, Nat.le_trans h2 c.next⟩
  · have hn : ¬ S h.next := fun e => by
      rcases hS _ e with e | e
      · have := congrArg Pos.nat e; omega
      · omega
    rw [c.get _ (by omega) hn]; exact w
  · have hn : ¬ S h.next.succ := fun e => by
      rcases hS _ e with e | e
      · have h3 := congrArg Pos.nat e
        rw [Pos.nat_succ] at h3
        omega
      · rw [Pos.nat_succ] at e; omega
    rw [c.get _ (by rw [Pos.nat_succ]; omega) hn]; exact q.el
theorem Wst.setI (q : Wst b L h p e g k β) (k' : Nat) : ∃ g', oStore 1 (.ptr p 1) (.int .i64 (k' : Int)) g = .ok V.undef g' ∧ Wst b L h p e g' k' β ∧ Ch (fun j => j = p) g g' := by
  obtain ⟨g', e1, ps, c, -⟩ := q.ps.setI k'
  exact ⟨g', e1, q.turn ps c fun j q => .inl q, c⟩
theorem Wst.setBad (q : Wst b L h p e g k β) (β' : Bool) : ∃ g', oStore 1 (.ptr p 2) (.bool β') g = .ok V.undef g' ∧ Wst b L h p e g' k β' ∧ Ch (fun j => j = p) g g' := by
  obtain ⟨g', e1, ps, c, -⟩ := q.ps.setBad β'
  exact ⟨g', e1, q.turn ps c fun j q => .inl q, c⟩
/-- the word is put in its place -/
theorem Wst.fin (q : Wst b L h p e g k β) (x y z : V) : ∃ g', oStore 3 (.ptr h.next 0) (.agg (.cons x (.cons y (.cons z .nil)))) g = .ok V.undef g' ∧ g'.get h.next = some (.cells true [x, y, z]) ∧ RPs b L g' p k β ∧ Ch (fun j => j = p) h g' ∧ Ch (fun j => j = h.next) g g' := by
  obtain ⟨x0, y0, z0, w⟩ := q.w
  have h1 := q.plt
  have cc : Ch (fun j => j = h.next) g (g.put h.next (some (.cells true [x, y, z]))) := Ch.put g _ rfl
  exact ⟨_, st3_get w, put_self _ _ _, q.ps.ch cc fun j e => (by rw [e]; exact h1), q.ch.trans cc fun j hj e => (by have := congrArg Pos.nat e; omega), cc⟩
/-- the element that was taken -/
theorem Wst.elem (q : Wst b L h p e g k β) {f : Nat} {x : V} (hx : (elC e)[f]? = some x) : oLoad1 (.ptr h.next.succ f) g = .ok x g := by
  rw [ld_get q.el, hx]
/-- what goes ahead of a word -/
theorem word_pre {Q : V → Hp → Prop} (a : RPs b L h p i false) (hk : L[i]? = some e)
    (H : ∀ (fr : F) (g : Hp), fr.get (Pos.of 0) = some (.ptr p 0) → fr.get (Pos.of 1) = some (.int .i64 deep) → fr.get (Pos.of 4) = some (.ptr h.next 0) → fr.get (Pos.of 5) = some (.ptr h.next.succ 0) → Wst b L h p e g i false → Tells Try.prog [.cell 4 43] Q (Word39 V31 fr g)) :
    Tells Try.prog [.cell 4 43] Q (Tryd39 V31 (T.set (some (.int .i64 deep)) (Pos.of 1) (T.set (some (.ptr p 0)) (Pos.of 0) T.nil)) h) := by
  have hkl : i < L.length := (List.getElem?_eq_some_iff.1 hk).1
  have hsm := a.small
  obtain ⟨g0, hg0⟩ : ∃ g0, g0 = h.new (.cells true [.int .i64 0, .str [], .nils]) := ⟨_, rfl⟩
  have c0 : Ch (fun _ => False) h g0 := by rw [hg0]; exact Ch.new _ _ _
  have a0 := a.ch c0 fun _ q => q.elim
  obtain ⟨vl, l0, l1, l2, ll, le⟩ := a0.see
  obtain ⟨j, q, e1, e2⟩ := le i e hk
  have n0 : g0.next = h.next.succ := by rw [hg0]; rfl
  have x3 := (e2 (bumpH 1 g0) (Ch.bumpH _ _ _)).2
  obtain ⟨x, y, z, hxyz⟩ : ∃ x y z, elC e = [x, y, z] := by cases e <;> exact ⟨_, _, _, rfl⟩
  rw [hxyz] at x3
  replace x3 : oLoadN 3 (.ptr j q) (bumpH 1 g0) = .ok (.agg (.cons x (.cons y (.cons z .nil)))) (bumpH 1 g0) := x3
  obtain ⟨g1, hg1⟩ : ∃ g1, g1 = g0.new (.cells true [.int .u8 0, .bool false, .str []]) := ⟨_, rfl⟩
  have w1 : g1.get g0.next = some (.cells true [.int .u8 0, .bool false, .str []]) := by rw [hg1]; exact new_self _ _
  have s1 := st3_get (a := x) (b := y) (c := z) w1
  obtain ⟨g2, hg2⟩ : ∃ g2, g2 = g1.put g0.next (some (.cells true [x, y, z])) := ⟨_, rfl⟩
  rw [← hg2] at s1
  have n1 : g1.next.nat = g0.next.nat + 1 := by rw [hg1]; exact new_next_nat _ _
  have n0n : g0.next.nat = h.next.nat + 1 := by rw [n0, Pos.nat_succ]
  have c01 : Ch (fun _ => False) g0 g2 := ⟨by rw [hg2, put_next]; omega, fun j hj hn => by rw [hg2, put_ne g1 (by omega) _, hg1]; exact new_ne g0 (by omega) _⟩
  have c02 := c0.trans c01 fun _ _ q => q
  have wst : Wst b L h p e g2 i false := by
    refine ⟨a.ch c02 fun _ q => q.elim, a.lt, c02.mono fun _ _ q => q.elim, ⟨.int .i64 0, .str [], .nils, ?_⟩, ?_, by rw [hg2, put_next]; omega⟩
    · rw [c01.get _ (by omega) fun q => q, hg0]; exact new_self _ _
    · rw [← n0, hg2, put_self, hxyz]
  have hge : ¬ (i : Int) ≥ (L.length : Int) := by omega
  rw [Tryd39_eq]
  simp (disch := omega) only [seqO_eq, thenO_nor, gtO_some, bndO_ok, get_set_of, cndX_tmp, ifB_false, Nat.zero_ne_one, reduceCtorEq, ↓reduceIte, oBin_geq, oFieldAddr_eq, bumpH_zero, alcO_some, oNilCheck_ptr, Nat.zero_add, bumpH_zero, put_bump, decide_false, Tryr39_0, Tryr39_1, Tryr39_4, oNew_w, ← hg0, l0, l1, l2, ll, hge, ld_bump 1 _ _ l0, ld_bump 1 _ _ l1, e1, x3, aNew_e, ← hg1, s1]
  refine H _ g2 (by simp only [get_set_of, Nat.zero_ne_one, reduceCtorEq, ↓reduceIte]) (by simp only [get_set_of, Nat.reduceEqDiff, ↓reduceIte]) (by simp only [get_set_of, Nat.reduceEqDiff, ↓reduceIte]) (by simp only [get_set_of, ↓reduceIte, n0]) wst
theorem pv_ok (q : Wst b L h p e g k β) (hkl : k ≤ L.length) (fr : F) (f0 : fr.get (Pos.of 0) = some (.ptr p 0)) : Tryr39_6 V31 fr g = .nor (T.set (some (.bool (!pvP L k))) (Pos.of 89) fr) g := by
  obtain ⟨vl, l0, l1, l2, ll, le⟩ := q.ps.see
  have hsm := q.ps.small
  cases k with
  | zero =>
    have hz : ¬ ((0 : Nat) : Int) > 0 := by omega
    simp (disch := omega) only [gtO_some, bndO_ok, ifB_false, oBin_sub, oBin_gtr, oFieldAddr_eq, bumpH_zero, oNilCheck_ptr, Nat.zero_add, bumpH_zero, decide_false, Tryr39_6, f0, l1, hz]
    rfl
  | succ k =>
    have hz : ((k + 1 : Nat) : Int) > 0 := by omega
    have hs : ((k + 1 : Nat) : Int) - 1 = ((k : Nat) : Int) := by omega
    have hk := List.getElem?_eq_getElem (show k < L.length by omega)
    obtain ⟨j, o, e1, e2⟩ := le k _ hk
    have e2g := (e2 g (Ch.refl _ _)).1
    have hpv : pvP L (k + 1) = (match L[k]? with | some (.b d) => decide (d = 32 ∨ d = 40) | _ => false) := rfl
    rw [hpv, hk]
    cases hel : L[k] with
    | l t =>
      rw [hel] at e2g
      have x1 := e2g 1 (.bool true) (by omega) rfl
      simp (disch := omega) only [gtO_some, bndO_ok, ifB_true, oBin_sub, oBin_gtr, oFieldAddr_eq, bumpH_zero, Bool.not_false, oNilCheck_ptr, Nat.zero_add, bumpH_zero, decide_true, Tryr39_6, f0, l0, l1, hz, hs, e1, x1]
    | b d =>
      rw [hel] at e2g
      have x1 := e2g 1 (.bool false) (by omega) rfl
      have x0 := e2g 0 (.int .u8 (d : Int)) (by omega) rfl
      simp only [Nat.add_zero] at x0
      by_cases h32 : d = 32
      · have h32' : (d : Int) = 32 := by omega
        simp (disch := omega) only [gtO_some, bndO_ok, ifB_true, ifB_false, oBin_sub, oBin_neq, oBin_gtr, oFieldAddr_eq, bumpH_zero, oNilCheck_ptr, Nat.zero_add, bumpH_zero, decide_true, decide_false, ne_eq, not_true, Tryr39_6, f0, l0, l1, hz, hs, e1, x1, Nat.add_zero, x0, eq_true h32']
        rw [decide_eq_true (.inl h32)]; rfl
      · have h32' : ¬ (d : Int) = 32 := by omega
        by_cases h40 : d = 40
        · have h40' : (d : Int) = 40 := by omega
          simp (disch := omega) only [gtO_some, bndO_ok, ifB_true, ifB_false, oBin_sub, oBin_neq, oBin_gtr, oFieldAddr_eq, bumpH_zero, oNilCheck_ptr, Nat.zero_add, bumpH_zero, decide_true, decide_false, ne_eq, not_true, not_false_eq_true, Tryr39_6, f0, l0, l1, hz, hs, e1, x1, Nat.add_zero, x0, h32', eq_true h40']
          rw [decide_eq_true (.inr h40)]; rfl
        · have h40' : ¬ (d : Int) = 40 := by omega
          simp (disch := omega) only [gtO_some, bndO_ok, ifB_true, ifB_false, oBin_sub, oBin_neq, oBin_gtr, oFieldAddr_eq, bumpH_zero, oNilCheck_ptr, Nat.zero_add, bumpH_zero, decide_true, ne_eq, not_false_eq_true, Tryr39_6, f0, l0, l1, hz, hs, e1, x1, Nat.add_zero, x0, h32', h40']
          rw [decide_eq_false (by omega)]; rfl
/-- a literal -/
theorem rword_lit {l t : List Nat} {r : List (List Nat × List Nat)} (a : RPs b L h p i false) (hd : L.drop i = stE ⟨[], (l, t) :: r⟩) :
    Tells Try.prog [.cell 4 43] (RWordQ b L n h p i ⟨[], (l, t) :: r⟩) (Tryd39 V31 (T.set (some (.int .i64 deep)) (Pos.of 1) (T.set (some (.ptr p 0)) (Pos.of 0) T.nil)) h) := by
  rw [stE_lit] at hd
  obtain ⟨hk, hd1, hkl⟩ := drop_cons hd
  have hsm := a.small
  refine word_pre a hk fun fr g f0 f1 f4 f5 q => ?_
  have x1 : oLoad1 (.ptr h.next.succ 1) g = .ok (.bool true) g := q.elem rfl
  have pv := fun fr f0 => pv_ok (V31 := V31) q (by omega) fr f0
  have k1e : ((i : Int) + 1) = ((i + 1 : Nat) : Int) := by omega
  cases hpv : pvP L i with
  | true =>
    rw [hpv] at pv
    obtain ⟨-, -, m1, -⟩ := q.ps.see
    obtain ⟨g2, s2, q2, -⟩ := q.setI (i + 1)
    have y2 : oLoad1 (.ptr h.next.succ 2) g2 = .ok (.str l) g2 := q2.elem rfl
    obtain ⟨g3, s3, w3, ps3, c3, -⟩ := q2.fin (.int .i64 2) (.str l) .nils
    simp (disch := omega) only [seqO_eq, thenO_nor, gtO_some, bndO_ok, get_set_of, cndX_tmp, ifB_true, blkO_eq, ↓reduceIte, oFieldAddr_eq, Nat.zero_add, Word39, Tryr39_5, f5, x1]
    rw [pv _ (by simp only [get_set_of, reduceCtorEq, ↓reduceIte, f0])]
    simp (disch := omega) only [seqO_eq, thenO_nor, thenO_ret, gtO_some, bndO_ok, get_set_of, cndX_tmp, ifB_false, blkX_ret, Nat.reduceEqDiff, reduceCtorEq, ↓reduceIte, oBin_add, oFieldAddr_eq, Bool.not_true, oNilCheck_ptr, Nat.zero_add, Tryr39_8, Tryr39_9, f0, f4, f5, m1, k1e, s2, y2, oBuild_w2, s3]
    refine Tells.ret (by simp only [resK, get_set_of, Nat.reduceEqDiff, ↓reduceIte, f4, dLoad43, ldN3_get w3, tupR] <;> rfl) ⟨c3, .inl ⟨⟨2, l, .nil⟩, ⟨t, r⟩, .nils, i + 1, wordM_lit _ _ _ _, rfl, ps3, hd1, by omega, by omega, fun k' t' h1 h2 h3 => ?_, WRow.nil _ _⟩⟩
    rw [show k' = i by omega]; exact hpv
  | false =>
    rw [hpv] at pv
    obtain ⟨g1, s1, q1, -⟩ := q.setBad true
    obtain ⟨-, -, m1, -⟩ := q1.ps.see
    obtain ⟨g2, s2, q2, -⟩ := q1.setI (i + 1)
    have y2 : oLoad1 (.ptr h.next.succ 2) g2 = .ok (.str l) g2 := q2.elem rfl
    obtain ⟨g3, s3, w3, ps3, c3, -⟩ := q2.fin (.int .i64 2) (.str l) .nils
    simp (disch := omega) only [seqO_eq, thenO_nor, gtO_some, bndO_ok, get_set_of, cndX_tmp, ifB_true, blkO_eq, ↓reduceIte, oFieldAddr_eq, Nat.zero_add, Word39, Tryr39_5, f5, x1]
    rw [pv _ (by simp only [get_set_of, reduceCtorEq, ↓reduceIte, f0])]
    simp (disch := omega) only [seqO_eq, thenO_nor, thenO_ret, gtO_some, bndO_ok, get_set_of, cndX_tmp, ifB_true, blkX_ret, Nat.reduceEqDiff, reduceCtorEq, ↓reduceIte, oBin_add, oFieldAddr_eq, Bool.not_false, oNilCheck_ptr, Nat.zero_add, Tryr39_7, Tryr39_8, Tryr39_9, f0, f4, f5, s1, m1, k1e, s2, y2, oBuild_w2, s3]
    refine Tells.ret (by simp only [resK, get_set_of, Nat.reduceEqDiff, ↓reduceIte, f4, dLoad43, ldN3_get w3, tupR] <;> rfl) ⟨c3, .inr ⟨.inr fun hz => ?_, 2, l, .nils, i + 1, rfl, rfl, rfl, by omega, ps3⟩⟩
    have := hz i l (Nat.zero_le _) hkl hk
    rw [hpv] at this; cases this
/-- nothing is left -/
theorem rword_end (a : RPs b L h p i false) (hd : L.drop i = stE ⟨[], []⟩) (hil : i ≤ L.length + 2) :
    Tells Try.prog [.cell 4 43] (RWordQ b L n h p i ⟨[], []⟩) (Tryd39 V31 (T.set (some (.int .i64 deep)) (Pos.of 1) (T.set (some (.ptr p 0)) (Pos.of 0) T.nil)) h) := by
  have hge := drop_nil hd
  have hge' : (i : Int) ≥ (L.length : Int) := by omega
  have hp := a.lt
  obtain ⟨g0, hg0⟩ : ∃ g0, g0 = h.new (.cells true [.int .i64 0, .str [], .nils]) := ⟨_, rfl⟩
  have c0 : Ch (fun _ => False) h g0 := by rw [hg0]; exact Ch.new _ _ _
  have a0 := a.ch c0 fun _ q => q.elim
  obtain ⟨vl, l0, l1, l2, ll, le⟩ := a0.see
  obtain ⟨g1, s1, a1, c1, -⟩ := a0.setBad true
  have w0 : g0.get h.next = some (.cells true [.int .i64 0, .str [], .nils]) := by rw [hg0]; exact new_self _ _
  have n0 : h.next.nat < g0.next.nat := by rw [hg0, new_next_nat]; omega
  have w1 : g1.get h.next = some (.cells true [.int .i64 0, .str [], .nils]) := by rw [c1.get _ n0 (fun q => by have := congrArg Pos.nat q; omega)]; exact w0
  have s2 := st3_get (a := .int .i64 0) (b := .str []) (c := .nils) w1
  have c2 : Ch (fun j => j = h.next) g1 (g1.put h.next (some (.cells true [.int .i64 0, .str [], .nils]))) := Ch.put g1 _ rfl
  simp (disch := omega) only [seqO_eq, thenO_nor, thenO_ret, gtO_some, bndO_ok, get_set_of, cndX_tmp, ifB_true, ifB_false, Nat.reduceEqDiff, Nat.zero_ne_one, reduceCtorEq, ↓reduceIte, oBin_geq, oFieldAddr_eq, bumpH_zero, oNilCheck_ptr, Nat.zero_add, bumpH_zero, decide_true, Tryd39_eq, Tryr39_0, Tryr39_1, Tryr39_2, Tryr39_3, oNew_w, ← hg0, l0, l1, l2, ll, hge', s1, oBuild_w0, s2]
  refine Tells.ret (by simp only [resK, get_set_of, Nat.reduceEqDiff, ↓reduceIte, dLoad43, ldN3_get (put_self _ _ _), tupR] <;> rfl) ⟨?_, .inr ⟨.inl (wordM_nil _), 0, [], .nils, i, rfl, rfl, rfl, by omega, a1.ch c2 fun j q => by rw [q]; exact hp⟩⟩
  exact ((c0.mono (S' := fun j => j = p) fun _ _ q => q.elim).trans c1 fun _ _ q => q).trans c2 fun j hj q => by have := congrArg Pos.nat q; omega
/-- a quoted text -/
theorem rword_quote {s : List Nat} {r : List (List Nat × List Nat)} (a : RPs b L h p i false) (hd : L.drop i = stE ⟨34 :: s, r⟩) :
    Tells Try.prog [.cell 4 43] (RWordQ b L n h p i ⟨34 :: s, r⟩) (Tryd39 V31 (T.set (some (.int .i64 deep)) (Pos.of 1) (T.set (some (.ptr p 0)) (Pos.of 0) T.nil)) h) := by
  have hd0 := hd
  rw [stE_cons] at hd
  obtain ⟨hk, hd1, hkl⟩ := drop_cons hd
  refine word_pre a hk fun fr g f0 f1 f4 f5 q => ?_
  have x0 : oLoad1 (.ptr h.next.succ 0) g = .ok (.int .u8 34) g := q.elem rfl
  have x1 : oLoad1 (.ptr h.next.succ 1) g = .ok (.bool false) g := q.elem rfl
  obtain ⟨v, g1, e46, c1, t, rfl, hr⟩ := rquoted_ok q.ps hd0
  have ne40 : ¬ (34 : Int) = 40 := by omega
  -- the heap behind it
  have fini : ∀ {i' : Nat} {β : Bool}, RPs b L g1 p i' β → ∃ g2, oStore 3 (.ptr h.next 0) (wag ⟨2, t, .nil⟩ .nils) g1 = .ok V.undef g2 ∧ g2.get h.next = some (.cells true [.int .i64 2, .str t, .nils]) ∧ RPs b L g2 p i' β ∧ Ch (fun j => j = p) h g2 := fun {i' β} ps => by
    obtain ⟨g2, s2, w2, ps2, c2, -⟩ := (q.turn ps c1 fun j q => .inl q).fin (.int .i64 2) (.str t) .nils
    exact ⟨g2, s2, w2, ps2, c2⟩
  rcases hr with ⟨s', i', hq, ps, hd2, hi, hiL, hok⟩ | ⟨hq, i', hi, ps⟩
  · obtain ⟨g2, s2, w2, ps2, c2⟩ := fini ps
    simp (disch := omega) only [seqO_eq, thenO_nor, thenO_ret, gtO_some, bndO_ok, get_set_of, cndX_tmp, ifB_true, ifB_false, blkO_eq, blkX_ret, Nat.reduceEqDiff, reduceCtorEq, ↓reduceIte, oBin_eql, oFieldAddr_eq, Nat.zero_add, decide_true, decide_false, Word39, Tryr39_5, Tryr39_10, Tryr39_21, Tryr39_22, f0, f4, f5, x1, x0, ne40, e46, s2]
    exact Tells.ret (by simp only [resK, get_set_of, Nat.reduceEqDiff, ↓reduceIte, f4, dLoad43, ldN3_get w2, tupR] <;> rfl) ⟨c2, .inl ⟨⟨2, t, .nil⟩, ⟨s', r⟩, .nils, i', by rw [wordM_quote, hq]; rfl, rfl, ps2, hd2, hi, hiL, hok, WRow.nil _ _⟩⟩
  · obtain ⟨g2, s2, w2, ps2, c2⟩ := fini ps
    simp (disch := omega) only [seqO_eq, thenO_nor, thenO_ret, gtO_some, bndO_ok, get_set_of, cndX_tmp, ifB_true, ifB_false, blkO_eq, blkX_ret, Nat.reduceEqDiff, reduceCtorEq, ↓reduceIte, oBin_eql, oFieldAddr_eq, Nat.zero_add, decide_true, decide_false, Word39, Tryr39_5, Tryr39_10, Tryr39_21, Tryr39_22, f0, f4, f5, x1, x0, ne40, e46, s2]
    exact Tells.ret (by simp only [resK, get_set_of, Nat.reduceEqDiff, ↓reduceIte, f4, dLoad43, ldN3_get w2, tupR] <;> rfl) ⟨c2, .inr ⟨.inl (by rw [wordM_quote, hq]; rfl), 2, t, .nils, i', rfl, rfl, rfl, by omega, ps2⟩⟩
/-- an atom -/
theorem rword_atom {c : Nat} {s : List Nat} {r : List (List Nat × List Nat)} (a : RPs b L h p i false) (hd : L.drop i = stE ⟨c :: s, r⟩) (h34 : c ≠ 34) (h40 : c ≠ 40) :
    Tells Try.prog [.cell 4 43] (RWordQ b L n h p i ⟨c :: s, r⟩) (Tryd39 V31 (T.set (some (.int .i64 deep)) (Pos.of 1) (T.set (some (.ptr p 0)) (Pos.of 0) T.nil)) h) := by
  have hd0 := hd
  rw [stE_cons] at hd
  obtain ⟨hk, hd1, hkl⟩ := drop_cons hd
  have hsm := a.small
  refine word_pre a hk fun fr g f0 f1 f4 f5 q => ?_
  have x0 : oLoad1 (.ptr h.next.succ 0) g = .ok (.int .u8 (c : Int)) g := q.elem rfl
  have x1 : oLoad1 (.ptr h.next.succ 1) g = .ok (.bool false) g := q.elem rfl
  have ne40 : ¬ (c : Int) = 40 := by omega
  have ne34 : ¬ (c : Int) = 34 := by omega
  simp (disch := omega) only [seqO_eq, thenO_nor, gtO_some, bndO_ok, get_set_of, cndX_tmp, ifB_false, blkO_eq, blkX_nor, Nat.reduceEqDiff, ↓reduceIte, oBin_eql, oFieldAddr_eq, Nat.zero_add, decide_false, Word39, Tryr39_5, Tryr39_10, Tryr39_21, f5, x1, x0, ne40, ne34, ATail, Tryr39_23]
  refine Oc.then (loop_rule (n := (c :: s).length) (fun m fr g => ∃ k vo acc u, fr.get (Pos.of 0) = some (.ptr p 0) ∧ fr.get (Pos.of 4) = some (.ptr h.next 0) ∧ fr.get (Pos.of 7) = some vo ∧ Wst b L h p (.b c) g k false ∧ L.drop k = stE ⟨u, r⟩ ∧ u.length = m ∧ i ≤ k ∧ k ≤ L.length ∧ k = i + acc.length ∧
      Own 0 g 1 vo acc.length (bys acc) ∧ (∀ j, idOf vo = some j → h.next.nat + 2 ≤ j.nat) ∧ (∀ x ∈ acc, x < 256) ∧ OKP L i k ∧ acc ++ u.takeWhile atomC = (c :: s).takeWhile atomC ∧ u.dropWhile atomC = (c :: s).dropWhile atomC)
    (A := fun fr g => ∃ k vo acc u, fr.get (Pos.of 0) = some (.ptr p 0) ∧ fr.get (Pos.of 4) = some (.ptr h.next 0) ∧ fr.get (Pos.of 7) = some vo ∧ Wst b L h p (.b c) g k false ∧ L.drop k = stE ⟨u, r⟩ ∧ i ≤ k ∧ k ≤ L.length ∧
      Own 0 g 1 vo acc.length (bys acc) ∧ (∀ j, idOf vo = some j → h.next.nat + 2 ≤ j.nat) ∧ (∀ x ∈ acc, x < 256) ∧ OKP L i k ∧ acc = (c :: s).takeWhile atomC ∧ u = (c :: s).dropWhile atomC) (B := fun _ _ => False) (by
      have h1 := congrArg List.length hd0
      rw [List.length_drop, stE_len] at h1
      have h2 : (c :: s).length ≤ St.size ⟨c :: s, r⟩ := by simp [St.size]
      rw [lf_eq]; omega) ?_ ?_) ?_ ?_
  · exact ⟨i, .nils, [], c :: s, by simp only [get_set_of, reduceCtorEq, ↓reduceIte, f0], by simp only [get_set_of, Nat.reduceEqDiff, ↓reduceIte, f4], by simp only [get_set_of, ↓reduceIte], q, hd0, rfl, Nat.le_refl _, by omega, by simp, Own.nil _ _ _, fun j q => (by cases q), fun x hx => (by cases hx), OKP.nil _ _, rfl, rfl⟩
  · rintro m fr g ⟨k, vo, acc, u, f0, f4, f7, q, hdk, hu, hik, hkL, hka, ov, iv, a256, hok, ht, hdw⟩
    obtain ⟨vl, l0, l1, l2, ll, le⟩ := q.ps.see
    -- where it ends
    have stop : u.takeWhile atomC = [] → u.dropWhile atomC = u → ∀ fr' : F, fr'.get (Pos.of 0) = some (.ptr p 0) → fr'.get (Pos.of 4) = some (.ptr h.next 0) → fr'.get (Pos.of 7) = some vo → ∃ k vo acc u, fr'.get (Pos.of 0) = some (.ptr p 0) ∧ fr'.get (Pos.of 4) = some (.ptr h.next 0) ∧ fr'.get (Pos.of 7) = some vo ∧ Wst b L h p (.b c) g k false ∧ L.drop k = stE ⟨u, r⟩ ∧ i ≤ k ∧ k ≤ L.length ∧
        Own 0 g 1 vo acc.length (bys acc) ∧ (∀ j, idOf vo = some j → h.next.nat + 2 ≤ j.nat) ∧ (∀ x ∈ acc, x < 256) ∧ OKP L i k ∧ acc = (c :: s).takeWhile atomC ∧ u = (c :: s).dropWhile atomC := fun h1 h2 fr' e0 e4 e7 =>
      ⟨k, vo, acc, u, e0, e4, e7, q, hdk, hik, hkL, ov, iv, a256, hok, by rw [← ht, h1, List.append_nil], by rw [← hdw, h2]⟩
    cases u with
    | nil =>
      cases hkk : L[k]? with
      | none =>
        have hlt : ¬ (k : Int) < (L.length : Int) := by have := List.getElem?_eq_none_iff.1 hkk; omega
        simp (disch := omega) only [seqO_eq, thenO_nor, thenO_ex, gtO_some, bndO_ok, get_set_of, cndX_tmp, ifB_false, ↓reduceIte, oBin_lss, oFieldAddr_eq, bumpH_zero, oNilCheck_ptr, Nat.zero_add, bumpH_zero, decide_false, Tryb39_24, Tryr39_24, f0, l0, l1, ll, hlt]
        exact ⟨rfl, stop rfl rfl _ (by simp only [get_set_of, reduceCtorEq, ↓reduceIte, f0]) (by simp only [get_set_of, Nat.reduceEqDiff, ↓reduceIte, f4]) (by simp only [get_set_of, Nat.reduceEqDiff, ↓reduceIte, f7])⟩
      | some e =>
        have hkl : k < L.length := (List.getElem?_eq_some_iff.1 hkk).1
        have hlt : (k : Int) < (L.length : Int) := by omega
        cases e with
        | b d =>
          exfalso
          rcases r with _ | ⟨⟨l, t⟩, r⟩
          · have := drop_nil hdk; omega
          · rw [stE_lit] at hdk
            rw [(drop_cons hdk).1] at hkk
            cases hkk
        | l t =>
          obtain ⟨j, o, e1, e2⟩ := le k _ hkk
          have y1 := (e2 g (Ch.refl _ _)).1 1 (.bool true) (by omega) rfl
          simp (disch := omega) only [seqO_eq, thenO_nor, thenO_ex, gtO_some, bndO_ok, get_set_of, cndX_tmp, ifB_true, ifB_false, ↓reduceIte, oBin_lss, oUn_not, oFieldAddr_eq, bumpH_zero, Bool.not_true, oNilCheck_ptr, Nat.zero_add, bumpH_zero, decide_true, Tryb39_24, Tryr39_24, f0, l0, l1, ll, hlt, e1, y1]
          exact ⟨rfl, stop rfl rfl _ (by simp only [get_set_of, reduceCtorEq, ↓reduceIte, f0]) (by simp only [get_set_of, Nat.reduceEqDiff, ↓reduceIte, f4]) (by simp only [get_set_of, Nat.reduceEqDiff, ↓reduceIte, f7])⟩
    | cons d u =>
      rw [stE_cons] at hdk
      obtain ⟨hkk, hdk1, hkl⟩ := drop_cons hdk
      have hlt : (k : Int) < (L.length : Int) := by omega
      obtain ⟨j, o, e1, e2⟩ := le k _ hkk
      have e2g := (e2 g (Ch.refl _ _)).1
      have y0 := e2g 0 (.int .u8 (d : Int)) (by omega) rfl
      simp only [Nat.add_zero] at y0
      have y1 := e2g 1 (.bool false) (by omega) rfl
      have hd256 := q.ps.bytes d (List.mem_of_getElem? hkk)
      have at1 := ratom_ok (c := d) g
      cases hat : atomC d with
      | false =>
        rw [hat] at at1
        simp (disch := omega) only [seqO_eq, thenO_nor, thenO_ex, gtO_some, bndO_ok, get_set_of, cndX_tmp, ifB_true, ifB_false, ↓reduceIte, oBin_lss, oUn_not, oFieldAddr_eq, bumpH_zero, Bool.not_false, oNilCheck_ptr, Nat.zero_add, bumpH_zero, decide_true, Tryb39_24, Tryr39_24, f0, l0, l1, ll, hlt, e1, y1, Nat.add_zero, y0, at1]
        exact ⟨rfl, stop (by simp [List.takeWhile, hat]) (by simp [List.dropWhile, hat]) _ (by simp only [get_set_of, reduceCtorEq, ↓reduceIte, f0]) (by simp only [get_set_of, Nat.reduceEqDiff, ↓reduceIte, f4]) (by simp only [get_set_of, Nat.reduceEqDiff, ↓reduceIte, f7])⟩
      | true =>
        rw [hat] at at1
        obtain ⟨vo', g1, s1, s2, ov1, c1, -⟩ := app1_ok (bt := 1) (new := [V.int .u8 (d : Int)]) ov rfl (by omega)
        have y0b := (e2 (bumpH 1 g) (Ch.bumpH _ _ _)).1 0 (.int .u8 (d : Int)) (by omega) rfl
        simp only [Nat.add_zero] at y0b
        have wl := q.wl
        have pl := q.plt
        have q1 : Wst b L h p (.b c) g1 k false := q.turn (q.ps.ch c1 fun j hj => by have := iv j hj; omega) c1 fun j hj => .inr (iv j hj)
        obtain ⟨-, -, m1, -⟩ := q1.ps.see
        have k1e : ((k : Int) + 1) = ((k + 1 : Nat) : Int) := by omega
        obtain ⟨g2, s3, q2, c2⟩ := q1.setI (k + 1)
        have ov2 : Own 0 g2 1 vo' (acc ++ [d]).length (bys (acc ++ [d])) := by
          rw [List.length_append, bys_append]
          refine ov1.ch c2 fun j hj e => ?_
          rw [s2] at hj; cases hj
          have := congrArg Pos.nat e
          rw [Pos.nat_succ] at this
          omega
        simp (disch := omega) only [seqO_eq, thenO_nor, gtO_some, bndO_ok, get_set_of, cndX_tmp, ifB_true, blkO_eq, blkX_nor, Nat.reduceEqDiff, reduceCtorEq, ↓reduceIte, oBin_add, oBin_lss, oUn_not, oFieldAddr_eq, bumpH_zero, aBuildSlice_1, alcO_some, Bool.not_false, oNilCheck_ptr, Nat.zero_add, bumpH_zero, put_bump, decide_true, Tryb39_24, Tryr39_24, Tryr39_25, Tryr39_26, f0, f7, l0, l1, ll, hlt, e1, y1, Nat.add_zero, y0, at1, ld_bump 1 _ _ l0, ld_bump 1 _ _ l1, y0b, aBuildSlice_1, s1, m1, k1e, s3]
        simp only [List.length_cons] at hu
        refine ⟨u.length, by omega, k + 1, vo', acc ++ [d], u, by simp only [get_set_of, reduceCtorEq, ↓reduceIte, f0], by simp only [get_set_of, Nat.reduceEqDiff, ↓reduceIte, f4], by simp only [get_set_of, ↓reduceIte], q2, hdk1, rfl, by omega, by omega, by rw [List.length_append]; simp only [List.length_cons, List.length_nil]; omega, ov2, fun j hj => ?_, fun x hx => ?_, hok.trans (OKP.bytes fun k' h1 h2 => ⟨d, by rw [show k' = k by omega]; exact hkk⟩), ?_, ?_⟩
        · rw [s2] at hj; cases hj; rw [Pos.nat_succ]; omega
        · rcases List.mem_append.1 hx with hx | hx
          · exact a256 x hx
          · rw [List.mem_singleton.1 hx]; exact hd256
        · rw [← ht]; simp [List.takeWhile, hat]
        · rw [← hdw]; simp [List.dropWhile, hat]
  · rintro fr g ⟨k, vo, acc, u, f0, f4, f7, q, hdk, hik, hkL, ov, iv, a256, hok, ht, hdw⟩
    obtain ⟨vl, l0, l1, l2, ll, le⟩ := q.ps.see
    have lo : ∀ h', oLenK 2 vo h' = .ok (.int .i64 (acc.length : Int)) h' := fun h' => ov.sl.length
    have B : ∀ g' : Hp, (∀ j, idOf vo = some j → g'.get j = g.get j) → oBytesStr vo g' = .ok (.str acc) g' := fun g' hh => oBytesStr_ok ov.sl a256 hh
    have hw := wordM_atom n c s r h34 h40
    have pl := q.plt
    by_cases h0 : acc = []
    · have hz : (acc.length : Int) = 0 := by rw [h0]; rfl
      obtain ⟨g1, s1, q1, c1⟩ := q.setBad true
      have B1 := B g1 fun j hj => c1.get j (ov.idlt hj).2 fun e => by have := iv j hj; have := congrArg Pos.nat e; omega
      obtain ⟨g2, s2, w2, ps2, c2, -⟩ := q1.fin (.int .i64 1) (.str acc) .nils
      simp (disch := omega) only [seqO_eq, thenO_nor, gtO_some, bndO_ok, ifB_false, oBin_eql, oFieldAddr_eq, oNilCheck_ptr, Nat.zero_add, decide_true, Tryr39_27, Tryr39_28, f0, f4, f7, l2, lo, eq_true hz, s1, B1, oBuild_w2, s2]
      refine Tells.ret (by simp only [resK, f4, dLoad43, ldN3_get w2, tupR] <;> rfl) ⟨c2, .inr ⟨.inl ?_, 1, acc, .nils, k, rfl, rfl, rfl, by omega, ps2⟩⟩
      rw [hw, if_neg]
      intro hat
      rw [h0] at ht
      simp [List.takeWhile, hat] at ht
    · have hz : ¬ (acc.length : Int) = 0 := by have := List.length_pos_iff.2 h0; omega
      obtain ⟨g1, s1, q1, c1⟩ := q.setBad false
      have B1 := B g1 fun j hj => c1.get j (ov.idlt hj).2 fun e => by have := iv j hj; have := congrArg Pos.nat e; omega
      obtain ⟨g2, s2, w2, ps2, c2, -⟩ := q1.fin (.int .i64 1) (.str acc) .nils
      simp (disch := omega) only [seqO_eq, thenO_nor, gtO_some, bndO_ok, ifB_false, oBin_eql, oFieldAddr_eq, oNilCheck_ptr, Nat.zero_add, decide_false, Tryr39_27, Tryr39_28, f0, f4, f7, l2, lo, hz, s1, B1, oBuild_w2, s2]
      refine Tells.ret (by simp only [resK, f4, dLoad43, ldN3_get w2, tupR] <;> rfl) ⟨c2, .inl ⟨⟨1, acc, .nil⟩, ⟨u, r⟩, .nils, k, ?_, rfl, ps2, hdk, hik, hkL, hok, WRow.nil _ _⟩⟩
      rw [hw, if_pos, ← ht, ← hdw]
      cases hat : atomC c with
      | true => rfl
      | false => rw [ht] at h0; simp [List.takeWhile, hat] at h0
  · rintro fr g q
    exact q.elim
end Go.Proofs.Ytgnfkfmhjgbhhaa

noncomputable section
namespace Go.Proofs.Ytgnfkfmhjgbhhaa
open Go Go.Proofs Go.Vm Go.Ln
set_option linter.unusedVariables false
set_option maxRecDepth 100000
set_option linter.unusedSimpArgs false
variable {b n : Nat} {L : List El} {h g g' : Hp} {p p6 : Pos} {i k : Nat} {β : Bool} {e : El} {st : St} {V31 : Fun} {deep : Int} {vk : V}
/-- behind the words of a list -/
theorem ltail_ok (q : Wst b L h p e g k β) (h6 : g.get p6 = some (.cells true [.int .i64 3, .str [], vk])) (l6 : h.next.nat + 2 ≤ p6.nat) (n6 : p6.nat < g.next.nat) (hk : k < 2000000000) :
    ∃ g', RPs b L g' p (k + 1) (β || !isP L k 41) ∧ Ch (fun j => j = p) h g' ∧ Ch (fun j => j = p ∨ j = h.next) g g' ∧ g'.get h.next = some (.cells true [.int .i64 3, .str [], vk]) ∧
      ∀ fr : F, fr.get (Pos.of 0) = some (.ptr p 0) → fr.get (Pos.of 4) = some (.ptr h.next 0) → fr.get (Pos.of 6) = some (.ptr p6 0) → LTail V31 fr g = .ret (T.set (some (.bool (!isP L k 41))) (Pos.of 130) fr) g' := by
  have is41 : TryF40 [.ptr p 0, .int .u8 41] g = .ok (.bool (isP L k 41)) g := is_ok q.ps 41
  have k1e : ((k : Int) + 1) = ((k + 1 : Nat) : Int) := by omega
  have pl := q.plt
  have wl := q.wl
  have six : ∀ {g1 : Hp}, Ch (fun j => j = p) g g1 → oLoadN 3 (.ptr p6 0) g1 = .ok (.agg (.cons (.int .i64 3) (.cons (.str []) (.cons vk .nil)))) g1 := fun c => ldN3_get (by rw [c.get _ n6 (fun e => by have := congrArg Pos.nat e; omega)]; exact h6)
  cases hi : isP L k 41 with
  | true =>
    rw [hi] at is41
    obtain ⟨-, -, m1, -⟩ := q.ps.see
    obtain ⟨g2, s2, q2, c2⟩ := q.setI (k + 1)
    obtain ⟨g3, s3, w3, ps3, c3, cc⟩ := q2.fin (.int .i64 3) (.str []) vk
    refine ⟨g3, by simpa using ps3, c3, (c2.mono fun j _ q => .inl q).trans cc fun j _ q => .inr q, w3, fun fr f0 f4 f6 => ?_⟩
    simp (disch := omega) only [seqO_eq, thenO_nor, gtO_some, bndO_ok, get_set_of, cndX_tmp, ifB_false, Nat.reduceEqDiff, reduceCtorEq, ↓reduceIte, oBin_add, oUn_not, oFieldAddr_eq, Bool.not_true, oNilCheck_ptr, Nat.zero_add, LTail, Tryr39_17, Tryr39_19, Tryr39_20, f0, f4, f6, is41, m1, k1e, s2, six c2, s3]
  | false =>
    rw [hi] at is41
    obtain ⟨g1, s1, q1, c1⟩ := q.setBad true
    obtain ⟨-, -, m1, -⟩ := q1.ps.see
    obtain ⟨g2, s2, q2, c2⟩ := q1.setI (k + 1)
    have c12 : Ch (fun j => j = p) g g2 := c1.trans c2 fun _ _ q => q
    obtain ⟨g3, s3, w3, ps3, c3, cc⟩ := q2.fin (.int .i64 3) (.str []) vk
    refine ⟨g3, by simpa using ps3, c3, (c12.mono fun j _ q => .inl q).trans cc fun j _ q => .inr q, w3, fun fr f0 f4 f6 => ?_⟩
    simp (disch := omega) only [seqO_eq, thenO_nor, gtO_some, bndO_ok, get_set_of, cndX_tmp, ifB_true, Nat.reduceEqDiff, reduceCtorEq, ↓reduceIte, oBin_add, oUn_not, oFieldAddr_eq, Bool.not_false, oNilCheck_ptr, Nat.zero_add, LTail, Tryr39_17, Tryr39_18, Tryr39_19, Tryr39_20, f0, f4, f6, is41, s1, m1, k1e, s2, six c12, s3]
/-- a list -/
theorem rword_list {s : List Nat} {r : List (List Nat × List Nat)} (a : RPs b L h p i false) (hd : L.drop i = stE ⟨40 :: s, r⟩) (hn8 : n ≤ 8) (hdeep : deep = ((8 - n : Nat) : Int))
    (HB : ∀ h p i, RPs b L h p i true → V31 [.ptr p 0, .int .i64 (deep + 1)] h = .ok .nils h)
    (HV : ∀ m, n = m + 1 → ∀ h p i st, RPs b L h p i false → L.drop i = stE st → i ≤ L.length → ∃ r h', V31 [.ptr p 0, .int .i64 (deep + 1)] h = .ok r h' ∧ RWordsQ b L m h p i st r h') :
    Tells Try.prog [.cell 4 43] (RWordQ b L n h p i ⟨40 :: s, r⟩) (Tryd39 V31 (T.set (some (.int .i64 deep)) (Pos.of 1) (T.set (some (.ptr p 0)) (Pos.of 0) T.nil)) h) := by
  rw [stE_cons] at hd
  obtain ⟨hk, hd1, hkl⟩ := drop_cons hd
  have hsm := a.small
  refine word_pre a hk fun fr g f0 f1 f4 f5 q => ?_
  have x0 : oLoad1 (.ptr h.next.succ 0) g = .ok (.int .u8 40) g := q.elem rfl
  have x1 : oLoad1 (.ptr h.next.succ 1) g = .ok (.bool false) g := q.elem rfl
  have k1e : ((i : Int) + 1) = ((i + 1 : Nat) : Int) := by omega
  have pl := q.plt
  have wl := q.wl
  have oki : OKP L i (i + 1) := OKP.bytes fun k' h1 h2 => ⟨40, by rw [show k' = i by omega]; exact hk⟩
  -- the new list
  have six : ∀ {g1 : Hp} {β : Bool}, Wst b L h p (.b 40) g1 (i + 1) β → ∃ g3, oStore 3 (.ptr g1.next 0) (.agg (.cons (.int .i64 3) (.cons (.str []) (.cons .nils .nil)))) (g1.new (.cells true [.int .i64 0, .str [], .nils])) = .ok V.undef g3 ∧ Wst b L h p (.b 40) g3 (i + 1) β ∧ g3.get g1.next = some (.cells true [.int .i64 3, .str [], .nils]) ∧ g3.next.nat = g1.next.nat + 1 := fun {g1 β} q1 => by
    obtain ⟨g2, hg2⟩ : ∃ g2, g2 = g1.new (.cells true [.int .i64 0, .str [], .nils]) := ⟨_, rfl⟩
    have w2 : g2.get g1.next = some (.cells true [.int .i64 0, .str [], .nils]) := by rw [hg2]; exact new_self _ _
    have n2 : g2.next.nat = g1.next.nat + 1 := by rw [hg2]; exact new_next_nat _ _
    have cc : Ch (fun _ => False) g1 (g2.put g1.next (some (.cells true [.int .i64 3, .str [], .nils]))) := ⟨by rw [put_next]; omega, fun j hj hn => by rw [put_ne g2 (by omega) _, hg2]; exact new_ne g1 (by omega) _⟩
    rw [← hg2]
    exact ⟨_, st3_get w2, q1.turn (q1.ps.ch cc fun _ q => q.elim) cc fun j q => q.elim, put_self _ _ _, by rw [put_next]; exact n2⟩
  -- the words in it
  have kids : ∀ {g3 g4 : Hp} {p6 : Pos} {v x y z : V}, Ch (fun j => j = p) g3 g4 → p6.nat < g3.next.nat → h.next.nat + 2 ≤ p6.nat → g3.get p6 = some (.cells true [x, y, z]) → v.cells = [v] ∧ notTuple v = true → ∃ g5, oStore 1 (.ptr p6 2) v g4 = .ok V.undef g5 ∧ g5.get p6 = some (.cells true [x, y, v]) ∧ Ch (fun j => j = p6) g4 g5 := fun {g3 g4 p6 v x y z} c l1 l2 w3 hv => by
    have w4 : g4.get p6 = some (.cells true [x, y, z]) := by rw [c.get _ l1 (fun e => by have := congrArg Pos.nat e; omega)]; exact w3
    exact ⟨_, st_get (q := 2) w4 hv (by simp), put_self _ _ _, Ch.put (S := fun j => j = p6) _ _ rfl⟩
  -- a list that is none
  have lost : ∀ {g' : Hp} {vk : V} {k' : Nat}, vk.cells = [vk] → notTuple vk = true → k' ≤ L.length + n + 2 → (wordM n ⟨40 :: s, r⟩ = none ∨ ¬ OKP L 0 L.length) → RPs b L g' p k' true → Ch (fun j => j = p) h g' → RWordQ b L n h p i ⟨40 :: s, r⟩ (.agg (.cons (.int .i64 3) (.cons (.str []) (.cons vk .nil)))) g' := fun {g' vk k'} h1 h2 h3 h4 ps c =>
    ⟨c, .inr ⟨h4, 3, [], vk, k', rfl, h2, h1, h3, ps⟩⟩
  cases hn : n with
  | zero =>
    have hge : deep ≥ 8 := by rw [hdeep, hn]; decide
    obtain ⟨g1, s1, q1, -⟩ := q.setBad true
    obtain ⟨-, -, m1, -⟩ := q1.ps.see
    obtain ⟨g2, s2, q2, -⟩ := q1.setI (i + 1)
    obtain ⟨g3, s3, q3, w3, n3⟩ := six q2
    have is41 : TryF40 [.ptr p 0, .int .u8 41] g3 = .ok (.bool (isP L (i + 1) 41)) g3 := is_ok q3.ps 41
    have wl2 := q2.wl
    have hnone : wordM n ⟨40 :: s, r⟩ = none := by rw [hn]; exact wordM_list0 s r
    cases hi : isP L (i + 1) 41 with
    | true =>
      rw [hi] at is41
      obtain ⟨g4, ps4, c4, -, w4, key⟩ := ltail_ok (V31 := V31) q3 w3 (by omega) (by omega) (by omega)
      simp (disch := omega) only [seqO_eq, thenO_nor, gtO_some, bndO_ok, get_set_of, cndX_tmp, ifB_true, ifB_false, blkO_eq, Nat.reduceEqDiff, reduceCtorEq, ↓reduceIte, oBin_add, oBin_eql, oBin_geq, oUn_not, oFieldAddr_eq, Bool.not_true, oNilCheck_ptr, Nat.zero_add, decide_true, Word39, Tryr39_5, Tryr39_10, Tryr39_11, Tryr39_12, Tryr39_13, Tryr39_14, Tryr39_15, f0, f1, f5, x1, x0, hge, s1, m1, k1e, s2, oBuild_w1, oNew_w, s3, is41]
      rw [key _ (by simp only [get_set_of, reduceCtorEq, ↓reduceIte, f0]) (by simp only [get_set_of, Nat.reduceEqDiff, ↓reduceIte, f4]) (by simp only [get_set_of, Nat.reduceEqDiff, ↓reduceIte])]
      simp (disch := omega) only [thenO_ret, blkX_ret]
      refine Tells.ret (by simp only [resK, get_set_of, Nat.reduceEqDiff, ↓reduceIte, f4, dLoad43, ldN3_get w4, tupR] <;> rfl) ?_
      rw [← hn]
      exact lost rfl rfl (by omega) (.inl hnone) ps4 c4
    | false =>
      rw [hi] at is41
      have hb := HB g3 p (i + 1) q3.ps
      obtain ⟨g5, s5, w5, c5⟩ := kids (Ch.refl (fun j => j = p) g3) (by omega) (by omega) w3 (v := .nils) ⟨rfl, rfl⟩
      have q5 : Wst b L h p (.b 40) g5 (i + 1) true := q3.turn (q3.ps.ch c5 fun j e => by rw [e]; omega) c5 fun j e => .inr (by rw [e]; omega)
      obtain ⟨g4, ps4, c4, -, w4, key⟩ := ltail_ok (V31 := V31) q5 w5 (by omega) (by have := c5.next; omega) (by omega)
      have d1 : -9223372036854775808 ≤ deep + 1 := by omega
      have d2 : deep + 1 < 9223372036854775808 := by omega
      simp (disch := omega) only [seqO_eq, thenO_nor, gtO_some, bndO_ok, get_set_of, cndX_tmp, ifB_true, ifB_false, blkO_eq, Nat.reduceEqDiff, reduceCtorEq, ↓reduceIte, oBin_add, oBin_eql, oBin_geq, oUn_not, oFieldAddr_eq, Bool.not_false, oNilCheck_ptr, Nat.zero_add, decide_true, Word39, Tryr39_5, Tryr39_10, Tryr39_11, Tryr39_12, Tryr39_13, Tryr39_14, Tryr39_15, Tryr39_16, f0, f1, f5, x1, x0, hge, s1, m1, k1e, s2, oBuild_w1, oNew_w, s3, is41, hb, s5]
      rw [key _ (by simp only [get_set_of, reduceCtorEq, ↓reduceIte, f0]) (by simp only [get_set_of, Nat.reduceEqDiff, ↓reduceIte, f4]) (by simp only [get_set_of, Nat.reduceEqDiff, ↓reduceIte])]
      simp (disch := omega) only [thenO_ret, blkX_ret]
      refine Tells.ret (by simp only [resK, get_set_of, Nat.reduceEqDiff, ↓reduceIte, f4, dLoad43, ldN3_get w4, tupR] <;> rfl) ?_
      rw [← hn]
      exact lost rfl rfl (by omega) (.inl hnone) ps4 c4
  | succ m =>
    have hge : ¬ deep ≥ 8 := by rw [hdeep, hn]; omega
    obtain ⟨-, -, m1, -⟩ := q.ps.see
    obtain ⟨g2, s2, q2, -⟩ := q.setI (i + 1)
    obtain ⟨g3, s3, q3, w3, n3⟩ := six q2
    have is41 : TryF40 [.ptr p 0, .int .u8 41] g3 = .ok (.bool (isP L (i + 1) 41)) g3 := is_ok q3.ps 41
    have wl2 := q2.wl
    have hw := wordM_list m s r
    rcases is_next (c := 41) hd1 with ⟨hi, st', hx, hd2, hlt, hb⟩ | ⟨hi, hx⟩
    · rw [hi] at is41
      rw [hx] at hw
      obtain ⟨g4, ps4, c4, -, w4, key⟩ := ltail_ok (V31 := V31) q3 w3 (by omega) (by omega) (by omega)
      rw [hi] at ps4
      simp (disch := omega) only [seqO_eq, thenO_nor, gtO_some, bndO_ok, get_set_of, cndX_tmp, ifB_true, ifB_false, blkO_eq, Nat.reduceEqDiff, reduceCtorEq, ↓reduceIte, oBin_add, oBin_eql, oBin_geq, oUn_not, oFieldAddr_eq, Bool.not_true, oNilCheck_ptr, Nat.zero_add, decide_true, decide_false, Word39, Tryr39_5, Tryr39_10, Tryr39_11, Tryr39_13, Tryr39_14, Tryr39_15, f0, f1, f5, x1, x0, hge, m1, k1e, s2, oBuild_w1, oNew_w, s3, is41]
      rw [key _ (by simp only [get_set_of, reduceCtorEq, ↓reduceIte, f0]) (by simp only [get_set_of, Nat.reduceEqDiff, ↓reduceIte, f4]) (by simp only [get_set_of, Nat.reduceEqDiff, ↓reduceIte])]
      simp (disch := omega) only [thenO_ret, blkX_ret]
      refine Tells.ret (by simp only [resK, get_set_of, Nat.reduceEqDiff, ↓reduceIte, f4, dLoad43, ldN3_get w4, tupR] <;> rfl) ⟨c4, .inl ⟨⟨3, [], .nil⟩, st', .nils, i + 2, hw, rfl, ps4, hd2, by omega, by omega, ?_, WRow.nil _ _⟩⟩
      exact oki.trans (OKP.bytes fun k' h1 h2 => ⟨41, by rw [show k' = i + 1 by omega]; exact hb⟩)
    · rw [hi] at is41
      rw [hx] at hw
      simp only [] at hw
      obtain ⟨rv, g4, e31, c34, hr⟩ := HV m hn g3 p (i + 1) ⟨s, r⟩ q3.ps hd1 (by omega)
      have pg3 : p.nat < g3.next.nat := q3.ps.lt
      have hdd : deep + 1 < 9223372036854775808 := by omega
      have hdn : -9223372036854775808 ≤ deep + 1 := by omega
      -- what is stored, and the tail
      have tail : ∀ {k' : Nat} {β : Bool}, RPs b L g4 p k' β → rv.cells = [rv] ∧ notTuple rv = true → k' < 2000000000 → ∃ g5 g6, oStore 1 (.ptr g2.next 2) rv g4 = .ok V.undef g5 ∧ RPs b L g6 p (k' + 1) (β || !isP L k' 41) ∧ Ch (fun j => j = p) h g6 ∧ Ch (fun j => j = p ∨ j = h.next ∨ j = g2.next) g4 g6 ∧ g6.get h.next = some (.cells true [.int .i64 3, .str [], rv]) ∧
          ∀ fr : F, fr.get (Pos.of 0) = some (.ptr p 0) → fr.get (Pos.of 4) = some (.ptr h.next 0) → fr.get (Pos.of 6) = some (.ptr g2.next 0) → LTail V31 fr g5 = .ret (T.set (some (.bool (!isP L k' 41))) (Pos.of 130) fr) g6 := fun {k' β} ps hv hk' => by
        have q4 : Wst b L h p (.b 40) g4 k' β := q3.turn ps c34 fun j e => .inl e
        obtain ⟨g5, s5, w5, c5⟩ := kids c34 (show g2.next.nat < g3.next.nat by omega) (by omega) w3 hv
        have q5 : Wst b L h p (.b 40) g5 k' β := q4.turn (ps.ch c5 fun j e => by rw [e]; omega) c5 fun j e => .inr (by rw [e]; omega)
        have n34 := c34.next
        have n45 := c5.next
        obtain ⟨g6, ps6, c6, c56, w6, key⟩ := ltail_ok (V31 := V31) q5 w5 (by omega) (by omega) hk'
        exact ⟨g5, g6, s5, ps6, c6, (c5.mono fun j _ e => .inr (.inr e)).trans c56 fun j _ e => e.elim .inl fun e => .inr (.inl e), w6, key⟩
      rcases hr with ⟨ws, st', k', hl, ps4, hd4, hik, hk'L, ok4, wr⟩ | ⟨hno, hc1, hc2, k', hk', ps4⟩
      · rw [hl] at hw
        simp only [] at hw
        obtain ⟨cw, ow, iw, aw⟩ := id wr
        obtain ⟨g5, g6, s5, ps6, c6, c46, w6, key⟩ := tail ps4 ow.cell (by omega)
        have wr6 : WRow (fun j => h.next.nat ≤ j.nat) g6 rv ws := wr.ch c46 fun j hj hq => ⟨by omega, fun e => by
          rcases e with e | e | e
          · have := congrArg Pos.nat e; omega
          · have := congrArg Pos.nat e; omega
          · have := congrArg Pos.nat e; omega⟩
        simp (disch := omega) only [seqO_eq, thenO_nor, gtO_some, bndO_ok, get_set_of, cndX_tmp, ifB_true, ifB_false, blkO_eq, Nat.reduceEqDiff, reduceCtorEq, ↓reduceIte, oBin_add, oBin_eql, oBin_geq, oUn_not, oFieldAddr_eq, Bool.not_false, oNilCheck_ptr, Nat.zero_add, decide_true, decide_false, Word39, Tryr39_5, Tryr39_10, Tryr39_11, Tryr39_13, Tryr39_14, Tryr39_15, Tryr39_16, f0, f1, f5, x1, x0, hge, m1, k1e, s2, oBuild_w1, oNew_w, s3, is41, e31, s5]
        rw [key _ (by simp only [get_set_of, reduceCtorEq, ↓reduceIte, f0]) (by simp only [get_set_of, Nat.reduceEqDiff, ↓reduceIte, f4]) (by simp only [get_set_of, Nat.reduceEqDiff, ↓reduceIte])]
        simp (disch := omega) only [thenO_ret, blkX_ret]
        rcases is_next (c := 41) hd4 with ⟨hi4, st2, hx4, hd5, hlt4, hb4⟩ | ⟨hi4, hx4⟩
        · rw [hx4] at hw
          rw [hi4] at ps6
          refine Tells.ret (by simp only [resK, get_set_of, Nat.reduceEqDiff, ↓reduceIte, f4, dLoad43, ldN3_get w6, tupR] <;> rfl) ⟨c6, .inl ⟨⟨3, [], ws⟩, st2, rv, k' + 1, hw, rfl, ps6, hd5, by omega, by omega, ?_, wr6⟩⟩
          exact (oki.trans ok4).trans (OKP.bytes fun k2 h1 h2 => ⟨41, by rw [show k2 = k' by omega]; exact hb4⟩)
        · rw [hx4] at hw
          rw [hi4] at ps6
          refine Tells.ret (by simp only [resK, get_set_of, Nat.reduceEqDiff, ↓reduceIte, f4, dLoad43, ldN3_get w6, tupR] <;> rfl) ?_
          rw [← hn]
          exact lost ow.cell.1 ow.cell.2 (by omega) (.inl (by rw [hn]; exact hw)) ps6 c6
      · obtain ⟨g5, g6, s5, ps6, c6, -, w6, key⟩ := tail ps4 ⟨hc1, hc2⟩ (by omega)
        simp (disch := omega) only [seqO_eq, thenO_nor, gtO_some, bndO_ok, get_set_of, cndX_tmp, ifB_true, ifB_false, blkO_eq, Nat.reduceEqDiff, reduceCtorEq, ↓reduceIte, oBin_add, oBin_eql, oBin_geq, oUn_not, oFieldAddr_eq, Bool.not_false, oNilCheck_ptr, Nat.zero_add, decide_true, decide_false, Word39, Tryr39_5, Tryr39_10, Tryr39_11, Tryr39_13, Tryr39_14, Tryr39_15, Tryr39_16, f0, f1, f5, x1, x0, hge, m1, k1e, s2, oBuild_w1, oNew_w, s3, is41, e31, s5]
        rw [key _ (by simp only [get_set_of, reduceCtorEq, ↓reduceIte, f0]) (by simp only [get_set_of, Nat.reduceEqDiff, ↓reduceIte, f4]) (by simp only [get_set_of, Nat.reduceEqDiff, ↓reduceIte])]
        simp (disch := omega) only [thenO_ret, blkX_ret]
        refine Tells.ret (by simp only [resK, get_set_of, Nat.reduceEqDiff, ↓reduceIte, f4, dLoad43, ldN3_get w6, tupR] <;> rfl) ?_
        rw [← hn]
        refine lost (k' := k' + 1) hc1 hc2 (by omega) ?_ (by simpa using ps6) c6
        rcases hno with hno | hno
        · left
          rw [hn, hw, hno]
        · exact .inr hno
/-- a word, on every level -/
theorem rword_ok (hb : ∀ c, El.b c ∈ L → c < 256) : ∀ (n m : Nat), n ≤ 8 → n < m → RWordOk b L n (TryX m) ((8 - n : Nat) : Int)
  | n, 0, _, hm => by omega
  | n, m + 1, hn, hm => by
    intro h p i st a hd hiL
    have ih : ∀ n', n = n' + 1 → RWordOk b L n' (TryX m) ((8 - n' : Nat) : Int) := fun n' e => rword_ok hb n' m (by omega) (by omega)
    have fin : Tells Try.prog [.cell 4 43] (RWordQ b L n h p i st) (Tryd39 (TryF31 (TryX m)) (T.set (some (.int .i64 ((8 - n : Nat) : Int))) (Pos.of 1) (T.set (some (.ptr p 0)) (Pos.of 0) T.nil)) h) → ∃ r h', TryX (m + 1) [.ptr p 0, .int .i64 ((8 - n : Nat) : Int)] h = .ok r h' ∧ RWordQ b L n h p i st r h' := fun t => by
      rw [show TryX (m + 1) = TryF39 (TryF31 (TryX m)) from rfl, TryF39_eq]
      exact t
    apply fin
    obtain ⟨cur, rest⟩ := st
    cases cur with
    | nil =>
      cases rest with
      | nil => exact rword_end a hd (by omega)
      | cons x r => obtain ⟨l, t⟩ := x; exact rword_lit a hd
    | cons c s =>
      by_cases h40 : c = 40
      · subst h40
        refine rword_list a hd hn rfl (fun h p i a => rwords_bad a) (fun n' e h p i st a hd hi => ?_)
        have e1 : ((8 - n : Nat) : Int) + 1 = ((8 - n' : Nat) : Int) := by omega
        rw [e1]
        exact rwords_ok (ih n' e) a hd hi
      · by_cases h34 : c = 34
        · subst h34; exact rword_quote a hd
        · exact rword_atom a hd h34 h40
end Go.Proofs.Ytgnfkfmhjgbhhaa
