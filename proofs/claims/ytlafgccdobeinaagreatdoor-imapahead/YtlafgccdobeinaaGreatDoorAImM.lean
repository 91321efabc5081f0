/- Part of the value machine, or of a walk by it: lemmas that the claim's last text uses. No conditions. -/
import Derived.Test.YtlafgccdobeinaaGreatDoorAImJ
import Derived.Test.YtlafgccdobeinaaGreatDoorAImL
import Derived.Test.YtlafgccdobeinaaGreatDoorAVmO
set_option linter.unusedVariables false
set_option linter.unusedSimpArgs false
set_option linter.unnecessarySimpa false
noncomputable section
namespace Go.Proofs.Im
open Go Go.Proofs Go.Vm
set_option linter.unusedVariables false
set_option maxRecDepth 100000
set_option maxHeartbeats 4000000
abbrev ImF5 : Fun := Go.Proofs.ImW.TryF6c
theorem Imc5 : CallOk Tryz.prog TryG 6 ImF5 := Go.Proofs.ImW.Tryc6c
abbrev ImF6 : Fun := Go.Proofs.ImW.TryF7
theorem Imc6 : CallOk Tryz.prog TryG 7 ImF6 := Go.Proofs.ImW.Tryc7
def Imk3 : Nat → Bool := fun t => memN t [0, 2, 3, 4, 5, 6, 7, 10, 15, 22, 44, 67]
def Imr3_0 (fr : F) (h : Hp) : Out :=
  Out.nor (T.set (some (.bool false)) (Pos.of 2) fr) h
def Imr3_1 (fr : F) (h : Hp) : Out :=
  gtO (T.get fr (Pos.of 0)) fun v0 => bndO (oLenK 2 v0 h) fun v9 h1 =>
  bndO (oBin .gtr .none v9 (.int .i64 30) h1) fun v10 h2 =>
  Out.nor (T.set (some v10) (Pos.of 10) fr) h2
def Imr3_2 (fr : F) (h : Hp) : Out :=
  bndO (ImF5 [] h) fun v11 h0 =>
  Out.nor (T.set (some v11) (Pos.of 2) fr) h0
def Imr3_3 (fr : F) (h : Hp) : Out :=
  bndO (oBuildSlice 9 [(.str [])] 1 [(0, 1, (.str [120]))] h) fun v12 h0 =>
  bndO (ImF6 [v12] h0) fun v13 h1 =>
  Out.nor (T.set (some v13) (Pos.of 3) fr) h1
def Imr3_4 (fr : F) (h : Hp) : Out :=
  gtO (T.get fr (Pos.of 3)) fun v3 => bndO (oBin .eql (.ptr 16) v3 .nilp h) fun v15 h1 =>
  Out.nor (T.set (some v15) (Pos.of 15) fr) h1
def Imr3_5 (fr : F) (h : Hp) : Out :=
  Out.nor (T.set (some (.bool false)) (Pos.of 2) fr) h
def Imr3_6 (fr : F) (h : Hp) : Out :=
  bndO (ImF7 [] h) fun v16 h0 =>
  Out.nor (T.set (some v16) (Pos.of 4) fr) h0
def Imr3_7 (fr : F) (h : Hp) : Out :=
  gtO (T.get fr (Pos.of 3)) fun v3 => bndO (ImF8 [v3] h) fun v18 h1 =>
  Out.nor (T.set (some v18) (Pos.of 5) fr) h1
def Imr3_8 (fr : F) (h : Hp) : Out :=
  Out.nor (T.set (some (.int .i64 0)) (Pos.of 6) fr) h
def Imr3_9 (fr : F) (h : Hp) : Out :=
  gtO (T.get fr (Pos.of 6)) fun v6 => gtO (T.get fr (Pos.of 0)) fun v0 => bndO (oLenK 2 v0 h) fun v21 h2 =>
  bndO (oBin .lss .none v6 v21 h2) fun v22 h3 =>
  Out.nor (T.set (some v22) (Pos.of 22) fr) h3
def Imr3_11 (fr : F) (h : Hp) : Out :=
  gtO (T.get fr (Pos.of 0)) fun v0 => gtO (T.get fr (Pos.of 6)) fun v6 => bndO (oIdxS 1 v0 v6 h) fun v27 h2 =>
  bndO (oLoad1 v27 h2) fun v28 h3 =>
  bndO (oLenK 1 v28 h3) fun v29 h4 =>
  bndO (oBin .gtr .none v29 (.int .i64 300) h4) fun v30 h5 =>
  ifB v30 (Out.nor (T.set (some (.bool true)) (Pos.of 44) fr) h5) (bndO (oIdxS 1 v0 v6 h5) fun v34 h9 =>
  bndO (oLoad1 v34 h9) fun v35 h10 =>
  bndO (ImF9 [v35, (.str [108, 111, 103, 105, 110])] h10) fun v36 h11 =>
  ifB v36 (Out.nor (T.set (some (.bool true)) (Pos.of 44) fr) h11) (bndO (oIdxS 1 v0 v6 h11) fun v41 h16 =>
  bndO (oLoad1 v41 h16) fun v42 h17 =>
  bndO (ImF9 [v42, (.str [108, 111, 103, 111, 117, 116])] h17) fun v43 h18 =>
  Out.nor (T.set (some v43) (Pos.of 44) fr) h18))
def Imr3_12 (fr : F) (h : Hp) : Out :=
  bndO (ImF5 [] h) fun v45 h0 =>
  Out.nor (T.set (some v45) (Pos.of 2) fr) h0
def Imr3_13 (fr : F) (h : Hp) : Out :=
  gtO (T.get fr (Pos.of 4)) fun v4 => gtO (T.get fr (Pos.of 3)) fun v3 => gtO (T.get fr (Pos.of 0)) fun v0 => gtO (T.get fr (Pos.of 6)) fun v6 => bndO (oIdxS 1 v0 v6 h) fun v50 h4 =>
  bndO (oLoad1 v50 h4) fun v51 h5 =>
  bndO (oBin .add .none v51 (.str [13, 10]) h5) fun v52 h6 =>
  bndO (ImF10 [v4, v3, v52] h6) fun v53 h7 =>
  Out.nor (T.set (some v53) (Pos.of 7) fr) h7
def Imr3_14 (fr : F) (h : Hp) : Out :=
  gtO (T.get fr (Pos.of 7)) fun v7 => bndO (ImF9 [v7, (.str [32, 69, 88, 73, 83, 84, 83])] h) fun v55 h1 =>
  ifB v55 (Out.nor (T.set (some (.bool true)) (Pos.of 67) fr) h1) (bndO (ImF9 [v7, (.str [32, 70, 69, 84, 67, 72, 32])] h1) fun v58 h4 =>
  ifB v58 (Out.nor (T.set (some (.bool true)) (Pos.of 67) fr) h4) (bndO (ImF9 [v7, (.str [42, 32, 76, 73, 83, 84])] h4) fun v62 h8 =>
  ifB v62 (Out.nor (T.set (some (.bool true)) (Pos.of 67) fr) h8) (bndO (ImF9 [v7, (.str [42, 32, 83, 84, 65, 84, 85, 83])] h8) fun v66 h12 =>
  Out.nor (T.set (some v66) (Pos.of 67) fr) h12)))
def Imr3_15 (fr : F) (h : Hp) : Out :=
  gtO (T.get fr (Pos.of 0)) fun v0 => gtO (T.get fr (Pos.of 6)) fun v6 => bndO (oIdxS 1 v0 v6 h) fun v70 h2 =>
  bndO (oLoad1 v70 h2) fun v71 h3 =>
  bndO (ImF9 [v71, (.str [69, 88, 73, 83, 84, 83])] h3) fun v72 h4 =>
  ifB v72 (Out.nor (T.set (some (.bool true)) (Pos.of 2) fr) h4) (bndO (oIdxS 1 v0 v6 h4) fun v76 h8 =>
  bndO (oLoad1 v76 h8) fun v77 h9 =>
  bndO (ImF9 [v77, (.str [70, 69, 84, 67, 72])] h9) fun v78 h10 =>
  ifB v78 (Out.nor (T.set (some (.bool true)) (Pos.of 2) fr) h10) (bndO (oIdxS 1 v0 v6 h10) fun v83 h15 =>
  bndO (oLoad1 v83 h15) fun v84 h16 =>
  bndO (ImF9 [v84, (.str [76, 73, 83, 84])] h16) fun v85 h17 =>
  ifB v85 (Out.nor (T.set (some (.bool true)) (Pos.of 2) fr) h17) (bndO (oIdxS 1 v0 v6 h17) fun v90 h22 =>
  bndO (oLoad1 v90 h22) fun v91 h23 =>
  bndO (ImF9 [v91, (.str [83, 84, 65, 84, 85, 83])] h23) fun v92 h24 =>
  Out.nor (T.set (some v92) (Pos.of 2) fr) h24)))
def Imr3_10 (fr : F) (h : Hp) : Out :=
  gtO (T.get fr (Pos.of 6)) fun v6 => bndO (oBin .add .none v6 (.int .i64 1) h) fun v24 h1 =>
  Out.nor (T.set (some v24) (Pos.of 6) fr) h1
def Imr3_16 (fr : F) (h : Hp) : Out :=
  gtO (T.get fr (Pos.of 3)) fun v3 => bndO (ImF8 [v3] h) fun v95 h1 =>
  gtO (T.get fr (Pos.of 5)) fun v5 => bndO (oBin .eql .none v95 v5 h1) fun v97 h3 =>
  ifB v97 (bndO (ImF5 [] h3) fun v99 h5 =>
  Out.nor (T.set (some v99) (Pos.of 2) fr) h5) (Out.nor (T.set (some (.bool false)) (Pos.of 2) fr) h3)
def Imb3_9 : F → Hp → Out := (seqO (seqO Imr3_9 (cndX (.tmp 22) Out.nor (Out.ex 0))) (seqO (blkO 1 (seqO (seqO Imr3_11 (cndX (.tmp 44) (seqO Imr3_12 Out.ret) Out.nor)) (seqO Imr3_13 (seqO Imr3_14 (cndX (.tmp 67) (seqO Imr3_15 Out.ret) Out.nor))))) Imr3_10))
def Imd3 : F → Hp → Out := (seqO Imr3_0 (seqO (seqO Imr3_1 (cndX (.tmp 10) (seqO Imr3_2 Out.ret) Out.nor)) (seqO Imr3_3 (seqO (seqO Imr3_4 (cndX (.tmp 15) (seqO Imr3_5 Out.ret) Out.nor)) (seqO Imr3_6 (seqO Imr3_7 (seqO (seqO Imr3_8 (blkO 0 (loopO Imb3_9 lf))) (seqO Imr3_16 Out.ret))))))))
def Ime3 : FuncId → Option Fun := fun f => match Nat.beq f 6 with | true => some ImF5 | false => match Nat.beq f 7 with | true => some ImF6 | false => match Nat.beq f 8 with | true => some ImF7 | false => match Nat.beq f 9 with | true => some ImF8 | false => match Nat.beq f 10 with | true => some ImF9 | false => match Nat.beq f 11 with | true => some ImF10 | false => none
def Imp3 : Plans := fun id => none
def ImF3 : Fun := funX Tryz.prog TryG Imk3 Ime3 Imp3 lf Tryz.f3
theorem ImD3 : denX Tryz.prog TryG Tryz.f3.ntmps Imk3 Ime3 Imp3 lf (codeOf Tryz.f3) = Imd3 := by kernel_rfl
theorem ImF3_eq (x0 : V) (h : Hp) : ImF3 [x0] h = outR Tryz.prog [.tmp 2] (Imd3 (T.set (some x0) (Pos.of 0) T.nil) h) := funX_eq (by kernel_rfl) ImD3 (by kernel_rfl) h
theorem Imc3 : CallOk Tryz.prog TryG 3 ImF3 := funX_ok Trymix (callsOk_cons Imc5 (callsOk_cons Imc6 (callsOk_cons Imc7 (callsOk_cons Imc8 (callsOk_cons Imc9 (callsOk_cons Imc10 callsOk_0)))))) Tryz.func3 (by kernel_rfl)
end Go.Proofs.Im

noncomputable section
namespace Go.Ln
open Go Go.Vm Go.Proofs.Im
set_option maxRecDepth 100000
theorem allM_len {inn : Bool} {s : List Nat} : ∀ {gs : List Ln.Got} {t : List Nat}, (∀ g ∈ gs, WsOk s g.words) → allM inn gs = some t → t.length ≤ gs.length * (s.length + 300)
  | [], t, _, e => by cases e; simp
  | g :: gs, t, h, e => by
    unfold allM at e
    cases hd : doM inn g with
    | none => rw [hd] at e; cases e
    | some p =>
      obtain ⟨t1, on⟩ := p
      rw [hd] at e
      have a1 := doM_len (h g (by simp)) hd
      rw [List.length_cons, Nat.succ_mul]
      cases on with
      | false => cases e; omega
      | true =>
        simp only [] at e
        cases hr : allM inn gs with
        | none => rw [hr] at e; cases e
        | some u =>
          rw [hr] at e
          cases e
          have := allM_len (fun g hg => h g (List.mem_cons_of_mem _ hg)) hr
          rw [List.length_append]; omega
theorem doM_256 {inn : Bool} {g : Ln.Got} {t s : List Nat} {on : Bool} (hw : WsOk s g.words) (hs : ∀ c ∈ s, c < 256) (e : doM inn g = some (t, on)) : ∀ c ∈ t, c < 256 := by
  have two : ∀ c ∈ ([42, 32, 66, 65, 68, 32, 108, 105, 110, 101, 13, 10] : List Nat), c < 256 := by decide
  unfold doM at e
  split at e
  · cases e; decide
  · split at e
    · split at e
      · rename_i a b ha hb
        split at e
        · split at e
          · rename_i an tt hr
            obtain ⟨ho, -, h3⟩ := runM_ok hr
            obtain ⟨hsh, -⟩ := runM_shape hr
            have htag : ∀ c ∈ a.text, c < 256 := fun c hc => hs c ((hw 0 a ha).2.subset hc)
            have h := Option.some.inj e
            have fin : ∀ u : List Nat, (∀ c ∈ u, c < 256) → t = tt ++ (a.text ++ u) ∨ t = a.text ++ u → ∀ c ∈ t, c < 256 := fun u hu ht c hc => by
              rcases ht with rfl | rfl
              · rcases List.mem_append.1 hc with q | q
                · exact h3 c q
                · exact (List.mem_append.1 q).elim (htag c) (hu c)
              · exact (List.mem_append.1 hc).elim (htag c) (hu c)
            rcases hsh with rfl | rfl | rfl | ⟨x, rfl⟩
            · exact fin [32, 66, 65, 68, 32, 99, 111, 109, 109, 97, 110, 100, 13, 10] (by decide) (.inr (by have := (congrArg Prod.fst h).symm; simpa [tellM, ansV] using this))
            · exact fin [32, 66, 65, 68, 32, 119, 111, 114, 100, 115, 13, 10] (by decide) (.inr (by have := (congrArg Prod.fst h).symm; simpa [tellM, ansV] using this))
            · exact fin [32, 78, 79, 32, 115, 116, 97, 116, 101, 13, 10] (by decide) (.inr (by have := (congrArg Prod.fst h).symm; simpa [tellM, ansV] using this))
            · exact fin [32, 79, 75, 32, 100, 111, 110, 101, 13, 10] (by decide) (.inl (by have := (congrArg Prod.fst h).symm; simpa [tellM, ansV] using this))
          · cases e
        · cases e; exact two
      · cases e; exact two
    · cases e; exact two
theorem allM_256 {inn : Bool} {s : List Nat} (hs : ∀ c ∈ s, c < 256) : ∀ {gs : List Ln.Got} {t : List Nat}, (∀ g ∈ gs, WsOk s g.words) → allM inn gs = some t → ∀ c ∈ t, c < 256
  | [], t, _, e => by cases e; simp
  | g :: gs, t, h, e => by
    unfold allM at e
    cases hd : doM inn g with
    | none => rw [hd] at e; cases e
    | some p =>
      obtain ⟨t1, on⟩ := p
      rw [hd] at e
      have a1 := doM_256 (h g (by simp)) hs hd
      cases on with
      | false => cases e; exact a1
      | true =>
        simp only [] at e
        cases hr : allM inn gs with
        | none => rw [hr] at e; cases e
        | some u =>
          rw [hr] at e
          cases e
          have := allM_256 hs (fun g hg => h g (List.mem_cons_of_mem _ hg)) hr
          exact fun c hc => (List.mem_append.1 hc).elim (a1 c) (this c)
end Go.Ln
namespace Go.Proofs.Im
open Go Go.Proofs Go.Vm Go.Ln
set_option linter.unusedVariables false
set_option maxRecDepth 100000
set_option linter.unusedSimpArgs false
theorem load64_ok {h : Hp} {i : Pos} {q : Nat} {w : Wr} {l : List V} {n : Int} (hg : h.get i = some (.cells w l)) (hq : l[q]? = some (.int .i64 n)) : ImF37 [.ptr i q] h = .ok (.int .i64 n) h := by
  have e1 : ImF115 [.ptr i q] h = .ok (.int .i64 n) h := by
    show hCells h i _ = _
    rw [hCells_rowA (wr := w) (all := l) (by rw [hg]; rfl), nthV_eq, hq]
    rfl
  rw [ImF37_eq]
  simp (disch := omega) only [vmL, Nat.reduceEqDiff, reduceCtorEq, ↓reduceIte, vpL, vsL, vqL, Imd37, Imr37_0, Imr37_1, Nat.add_zero, e1]
  simp only [outR, resK, vmL, Nat.reduceEqDiff, reduceCtorEq, ↓reduceIte, vpL, vsL, vqL, tupR]
theorem clock_ok {h : Hp} {i : Pos} {w : Wr} {l : List V} {n : Int} (hg : h.get i = some (.cells w l)) (hq : l[9]? = some (.int .i64 n)) : ImF8 [.ptr i 0] h = .ok (.int .i64 n) h := by
  have e1 := load64_ok hg hq
  rw [ImF8_eq]
  simp (disch := omega) only [vmL, Nat.reduceEqDiff, reduceCtorEq, ↓reduceIte, vpL, vsL, vqL, Imd8, Imr8_0, Imr8_1, Imr8_3, ptr_eql_nil, e1]
  simp only [outR, resK, vmL, Nat.reduceEqDiff, reduceCtorEq, ↓reduceIte, vpL, vsL, vqL, tupR]
def aheadT : F → Hp → Out := seqO (seqO Imr3_8 (blkO 0 (loopO Imb3_9 lf))) (seqO Imr3_16 Out.ret)
theorem awake_eq (h : Hp) : ImF5 [] h = .ok (.bool true) h := rfl
theorem ahead_ok {H : Hp} {pc im ps : Pos} {v : V} {l : List (List Nat)} {c : Nat} {w : Wr} {L : List V} {n : Int} (cn : Cn H pc im false) (hg : H.get ps = some (.cells w L)) (hq : L[9]? = some (.int .i64 n)) (hps : ps ≠ pc) (hpn : ps.nat < H.next.nat)
    (s : Sl c H 1 v l.length (l.map V.str)) (hc : c ≤ H.next.nat) (hv : ∀ j, idOf v = some j → j ≠ pc) (hl : l.length ≤ 30) (h256 : ∀ t ∈ l, ∀ x ∈ t, x < 256)
    {fr : F} (f0 : fr.get (Pos.of 0) = some v) (f3 : fr.get (Pos.of 3) = some (.ptr ps 0)) (f4 : fr.get (Pos.of 4) = some (.ptr pc 0)) (f5 : fr.get (Pos.of 5) = some (.int .i64 n)) :
    Tells Tryz.prog [.tmp 2] (fun r _ => r = .bool true) (aheadT fr H) := by
  unfold aheadT
  have sl : ∀ h', oLenK 2 v h' = .ok (.int .i64 (l.length : Int)) h' := fun h' => s.length
  simp (disch := omega) only [vmL, Nat.reduceEqDiff, reduceCtorEq, ↓reduceIte, vpL, vsL, vqL, Imr3_8]
  refine Oc.then (loop_rule (n := l.length) (fun m fr g => ∃ k : Nat, fr.get (Pos.of 0) = some v ∧ fr.get (Pos.of 3) = some (.ptr ps 0) ∧ fr.get (Pos.of 4) = some (.ptr pc 0) ∧ fr.get (Pos.of 5) = some (.int .i64 n) ∧ fr.get (Pos.of 6) = some (.int .i64 (k : Int)) ∧
      k + m = l.length ∧ Cn g pc im false ∧ Ch (fun j => j = pc) H g)
    (A := fun fr g => fr.get (Pos.of 3) = some (.ptr ps 0) ∧ fr.get (Pos.of 5) = some (.int .i64 n) ∧ Ch (fun j => j = pc) H g) (B := fun fr g => fr.get (Pos.of 2) = some (.bool true)) (by rw [lf_eq]; omega) ?_ ?_) ?_ ?_
  · exact ⟨0, by simp only [vmL, Nat.reduceEqDiff, reduceCtorEq, ↓reduceIte, vpL, vsL, vqL, f0], by simp only [vmL, Nat.reduceEqDiff, reduceCtorEq, ↓reduceIte, vpL, vsL, vqL, f3], by simp only [vmL, Nat.reduceEqDiff, reduceCtorEq, ↓reduceIte, vpL, vsL, vqL, f4], by simp only [vmL, Nat.reduceEqDiff, reduceCtorEq, ↓reduceIte, vpL, vsL, vqL, f5], by simp only [vmL, Nat.reduceEqDiff, reduceCtorEq, ↓reduceIte, vpL, vsL, vqL]; rfl, by omega, cn, Ch.refl _ _⟩
  · rintro m fr g ⟨k, f0, f3, f4, f5, f6, hk, cg, chg⟩
    by_cases hz : m = 0
    · simp (disch := omega) only [vmL, Nat.reduceEqDiff, reduceCtorEq, ↓reduceIte, vpL, vsL, vqL, Imb3_9, Imr3_9, f0, f6, sl]
      exact ⟨rfl, by simp only [vmL, Nat.reduceEqDiff, reduceCtorEq, ↓reduceIte, vpL, vsL, vqL, f3], by simp only [vmL, Nat.reduceEqDiff, reduceCtorEq, ↓reduceIte, vpL, vsL, vqL, f5], chg⟩
    · have hlt : k < l.length := by omega
      obtain ⟨i, q, x, hx, e1, hi, e2⟩ := s.at1 hlt
      obtain ⟨t, het⟩ : ∃ t, l[k]? = some t := ⟨_, List.getElem?_eq_getElem hlt⟩
      rw [strs_get het] at hx
      cases hx
      have htm : t ∈ l := List.mem_of_getElem? het
      have ht256 := h256 t htm
      have hip : i ≠ pc := by
        have := e1 H
        rcases s.is with ⟨h0, _⟩ | ⟨i', o', c', wr, all, rfl, _⟩
        · omega
        · have h2 := hv i' rfl
          rw [oIdxS_slice hlt] at this
          cases this
          exact h2
      have LD : ∀ g', Ch (fun j => j = pc) H g' → oLoad1 (.ptr i q) g' = .ok (.str t) g' := fun g' c' => e2 g' (c'.get i (by omega) hip)
      by_cases hlen : t.length > 300
      · simp (disch := omega) only [vmL, Nat.reduceEqDiff, reduceCtorEq, ↓reduceIte, vpL, vsL, vqL, Imb3_9, Imr3_9, Imr3_11, Imr3_12, f0, f6, sl, e1, LD g chg, awake_eq]
        show T.get _ (Pos.of 2) = some (V.bool true)
        simp only [vmL, Nat.reduceEqDiff, reduceCtorEq, ↓reduceIte, vpL, vsL, vqL]
      · obtain ⟨r1, g1, x1, rfl, c1⟩ := rIn_ok (h := g) (s := t) (sub := [108, 111, 103, 105, 110]) (by omega) (by simp) ht256 (by decide)
        have chg1 := chg.trans c1 fun _ _ q => q.elim
        cases hb1 : inM t [108, 111, 103, 105, 110] with
        | true =>
          rw [hb1] at x1
          simp (disch := omega) only [vmL, Nat.reduceEqDiff, reduceCtorEq, ↓reduceIte, vpL, vsL, vqL, Imb3_9, Imr3_9, Imr3_11, Imr3_12, f0, f6, sl, e1, LD g chg, x1, awake_eq]
          show T.get _ (Pos.of 2) = some (V.bool true)
          simp only [vmL, Nat.reduceEqDiff, reduceCtorEq, ↓reduceIte, vpL, vsL, vqL]
        | false =>
          rw [hb1] at x1
          obtain ⟨r2, g2, x2, rfl, c2⟩ := rIn_ok (h := g1) (s := t) (sub := [108, 111, 103, 111, 117, 116]) (by omega) (by simp) ht256 (by decide)
          have chg2 := chg1.trans c2 fun _ _ q => q.elim
          have cg2 := (cg.ch c1 (fun q => q) fun q => q).ch c2 (fun q => q) fun q => q
          cases hb2 : inM t [108, 111, 103, 111, 117, 116] with
          | true =>
            rw [hb2] at x2
            simp (disch := omega) only [vmL, Nat.reduceEqDiff, reduceCtorEq, ↓reduceIte, vpL, vsL, vqL, Imb3_9, Imr3_9, Imr3_11, Imr3_12, f0, f6, sl, e1, LD g chg, LD g1 chg1, x1, x2, awake_eq]
            show T.get _ (Pos.of 2) = some (V.bool true)
            simp only [vmL, Nat.reduceEqDiff, reduceCtorEq, ↓reduceIte, vpL, vsL, vqL]
          | false =>
            rw [hb2] at x2
            have S1 : ∀ h, oBin .add .none (.str t) (.str [13, 10]) h = .ok (.str (t ++ [13, 10])) h := fun h => oBin_str_add (by simp; omega)
            have hno : ¬ (loginN <:+: foldM t) := inM_false hb1
            have hof := told_of 4000 (t ++ [13, 10])
            obtain ⟨tt, ett⟩ := allM_ahead rfl hno _ hof
            have hs256 : ∀ c ∈ t ++ [13, 10], c < 256 := fun c hc => (List.mem_append.1 hc).elim (ht256 c) (fun q => by simp at q; omega)
            obtain ⟨r3, g3, x3, rfl, cg3, c3⟩ := all_ok (ps := ps) (qs := 0) cg2 (by simp; omega) hs256 ett
            have chg3 := chg2.trans c3 fun _ _ q => q
            have htl : tt.length < 100000000 := by
              have h1 := allM_len hof ett
              have h2 := feedsM_len 4000 (t ++ [13, 10]) {}
              have h3 : (t ++ [13, 10]).length ≤ 302 := by simp; omega
              have h4 := Nat.mul_le_mul (Nat.le_trans h2 h3) (show (t ++ [13, 10]).length + 300 ≤ 602 by omega)
              omega
            have ht3 := allM_256 hs256 hof ett
            obtain ⟨z1, z2, z3, z4⟩ := told_none (allM_shape hof ett).2
            obtain ⟨r4, g4, x4, rfl, c4⟩ := rIn_ok (h := g3) (s := tt) (sub := [32, 69, 88, 73, 83, 84, 83]) htl (by simp) ht3 (by decide)
            obtain ⟨r5, g5, x5, rfl, c5⟩ := rIn_ok (h := g4) (s := tt) (sub := [32, 70, 69, 84, 67, 72, 32]) htl (by simp) ht3 (by decide)
            obtain ⟨r6, g6, x6, rfl, c6⟩ := rIn_ok (h := g5) (s := tt) (sub := [42, 32, 76, 73, 83, 84]) htl (by simp) ht3 (by decide)
            obtain ⟨r7, g7, x7, rfl, c7⟩ := rIn_ok (h := g6) (s := tt) (sub := [42, 32, 83, 84, 65, 84, 85, 83]) htl (by simp) ht3 (by decide)
            rw [z1] at x4
            rw [z2] at x5
            rw [z3] at x6
            rw [z4] at x7
            have c37 : Ch (fun _ => False) g3 g7 := ((c4.trans c5 fun _ _ q => q).trans c6 fun _ _ q => q).trans c7 fun _ _ q => q
            have chg7 := chg3.trans c37 fun _ _ q => q.elim
            have cg7 := cg3.ch c37 (fun q => q) fun q => q
            simp (disch := omega) only [vmL, Nat.reduceEqDiff, reduceCtorEq, ↓reduceIte, vpL, vsL, vqL, Imb3_9, Imr3_9, Imr3_10, Imr3_11, Imr3_13, Imr3_14, f0, f3, f4, f6, sl, e1, LD g chg, LD g1 chg1, LD g2 chg2, x1, x2, S1, x3, x4, x5, x6, x7]
            exact ⟨m - 1, by omega, k + 1, by simp only [vmL, Nat.reduceEqDiff, reduceCtorEq, ↓reduceIte, vpL, vsL, vqL, f0], by simp only [vmL, Nat.reduceEqDiff, reduceCtorEq, ↓reduceIte, vpL, vsL, vqL, f3], by simp only [vmL, Nat.reduceEqDiff, reduceCtorEq, ↓reduceIte, vpL, vsL, vqL, f4], by simp only [vmL, Nat.reduceEqDiff, reduceCtorEq, ↓reduceIte, vpL, vsL, vqL, f5], by simp only [vmL, Nat.reduceEqDiff, reduceCtorEq, ↓reduceIte, vpL, vsL, vqL]; rfl, by omega, cg7, chg7⟩
  · rintro fr g ⟨f3, f5, chg⟩
    have e8 := clock_ok (n := n) ((chg.get ps hpn hps).trans hg) hq
    simp (disch := omega) only [vmL, Nat.reduceEqDiff, reduceCtorEq, ↓reduceIte, vpL, vsL, vqL, Imr3_16, f3, f5, e8, awake_eq]
    exact Tells.ret (by simp only [resK, vmL, Nat.reduceEqDiff, reduceCtorEq, ↓reduceIte, vpL, vsL, vqL, tupR]; rfl) rfl
  · intro fr g f2
    exact Tells.ret (by simp only [resK, vmL, Nat.reduceEqDiff, reduceCtorEq, ↓reduceIte, vpL, vsL, vqL, f2, tupR]; rfl) rfl
end Go.Proofs.Im
