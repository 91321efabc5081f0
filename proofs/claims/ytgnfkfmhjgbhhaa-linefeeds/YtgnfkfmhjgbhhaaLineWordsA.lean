/- Part of the value machine, or of a walk by it: lemmas that the claim's last text uses. No conditions. -/
import Derived.Test.YtgnfkfmhjgbhhaaChecked
import Derived.KernelRfl
import Derived.Test.YtgnfkfmhjgbhhaaLinePassA
import Derived.Test.YtgnfkfmhjgbhhaaLineC
set_option linter.unusedVariables false
set_option linter.unusedSimpArgs false
set_option linter.unnecessarySimpa false
noncomputable section
namespace Go.Proofs.Ytgnfkfmhjgbhhaa
open Go Go.Proofs Go.Vm Go.Ln
set_option linter.unusedVariables false
set_option maxRecDepth 100000
set_option linter.unusedSimpArgs false
/-- what was told, in a row that is read -/
def ToldS (P : Pos → Prop) (h : Hp) (v : V) (gs : List Ln.Got) : Prop := ∃ b cs, Sl b h 2 v gs.length cs ∧ b ≤ h.next.nat ∧ (∀ j, idOf v = some j → P j) ∧ GAt P h gs cs
theorem Told.s {P : Pos → Prop} {h : Hp} {v : V} {gs : List Ln.Got} (t : Told P h v gs) : ToldS P h v gs := by
  obtain ⟨cs, o, i, w⟩ := t
  exact ⟨h.next.nat, cs, o.sl, Nat.le_refl _, i, w⟩
theorem ToldS.ch {P P' S : Pos → Prop} {h h' : Hp} {v : V} {gs : List Ln.Got} (t : ToldS P h v gs) (c : Ch S h h') (hs : ∀ j : Pos, j.nat < h.next.nat → P j → P' j ∧ ¬ S j) : ToldS P' h' v gs := by
  obtain ⟨b, cs, o, hb, i, w⟩ := t
  exact ⟨b, cs, o.ch c hb fun j hj => (hs j (by have := o.idlt hj; omega) (i j hj)).2, Nat.le_trans hb c.next, fun j hj => (hs j (by have := o.idlt hj; omega) (i j hj)).1, w.ch c hs⟩
theorem ToldS.len {P : Pos → Prop} {h : Hp} {v : V} {gs : List Ln.Got} (t : ToldS P h v gs) (h' : Hp) : oLenK 2 v h' = .ok (.int .i64 (gs.length : Int)) h' := by
  obtain ⟨b, cs, o, hb, i, w⟩ := t
  exact o.length
theorem ToldS.at {P : Pos → Prop} {h : Hp} {v : V} {gs : List Ln.Got} (t : ToldS P h v gs) {k : Nat} {g : Ln.Got} (e : gs[k]? = some g) :
    ∃ j q vw, (∀ h', oIdxS 2 v (.int .i64 (k : Int)) h' = .ok (.ptr j q) h') ∧ oLoad1 (.ptr j q) h = .ok (.int .i64 g.kind) h ∧ oLoad1 (.ptr j (q + 1)) h = .ok vw h ∧ WRow P h vw g.words := by
  obtain ⟨b, cs, o, hb, i, w⟩ := t
  have hk : k < gs.length := (List.getElem?_eq_some_iff.1 e).1
  obtain ⟨j, q, e1, -, e2⟩ := o.at hk
  obtain ⟨c0, vw, c1, w1⟩ := w.get e
  exact ⟨j, q, vw, e1, e2 h rfl 0 _ (by omega) c0, e2 h rfl 1 _ (by omega) c1, w1⟩
theorem Own.capOk {b : Nat} {h : Hp} {sz n : Nat} {v : V} {cs : List V} (o : Own b h sz v n cs) : capOk sz v := by
  intro i p m c e
  rcases o.is with ⟨_, h0⟩ | ⟨i', h0, -⟩
  · rw [h0] at e; cases e
  · rw [h0] at e; cases e; rfl
theorem Told.tail {P : Pos → Prop} {h : Hp} {v : V} {g : Ln.Got} {gs : List Ln.Got} (t : Told P h v (g :: gs)) : ∃ u, (∀ h', oSlice 2 v (some (.int .i64 1)) none none h' = .ok u h') ∧ ToldS P h u gs := by
  obtain ⟨cs, o, i, w⟩ := t
  obtain ⟨u, u1, u2, -, u4⟩ := Sl.from o.sl (Own.capOk o) (by omega) (lo := 1) (by simp)
  obtain ⟨vw, cr, e, ww, r⟩ := w
  refine ⟨u, u1, h.next.nat, cr, ?_, Nat.le_refl _, fun j hj => i j (u4 j hj), r⟩
  rw [e] at u2
  exact u2
/-- a word as a whole -/
theorem WRow.copy {P : Pos → Prop} {h : Hp} {v : V} {ws : Wds} (t : WRow P h v ws) {k : Nat} {w : Wd} (e : ws.get? k = some w) :
    ∃ j q vk, (∀ h', oIdxS 3 v (.int .i64 (k : Int)) h' = .ok (.ptr j q) h') ∧ oLoadN 3 (.ptr j q) h = .ok (wag w vk) h ∧ vk.cells = [vk] ∧ notTuple vk = true ∧ WRow P h vk w.kids := by
  obtain ⟨cs, o, i, x⟩ := t
  have hk := Wds.get?_lt e
  obtain ⟨j, q, e1, -, -, e2⟩ := o.sl.atN hk
  obtain ⟨c0, c1, vk, c2, w1⟩ := WAt.get x e
  have hl := o.sl.len
  have e3 : (cs.drop (k * 3)).take 3 = [.int .i64 w.kind, .str w.text, vk] := by
    apply List.ext_getElem?
    intro m
    rw [List.getElem?_take]
    rcases m with _ | _ | _ | m
    · rw [if_pos (by omega), List.getElem?_drop]; exact c0
    · rw [if_pos (by omega), List.getElem?_drop]; exact c1
    · rw [if_pos (by omega), List.getElem?_drop]; exact c2
    · rw [if_neg (by omega)]; rfl
  have e4 := e2 h rfl
  rw [e3] at e4
  obtain ⟨ck, ok, -, -⟩ := id w1
  exact ⟨j, q, vk, e1, e4, ok.cell.1, ok.cell.2, w1⟩
end Go.Proofs.Ytgnfkfmhjgbhhaa

noncomputable section
namespace Go.Proofs.Ytgnfkfmhjgbhhaa
open Go Go.Proofs Go.Vm
set_option linter.unusedVariables false
set_option maxRecDepth 100000
/-! 5: pillarbox/pillarboxlaw22.LineLiterals -/
def Tryk5 : Nat → Bool := fun t => memN t [0, 1, 2, 6, 7, 8, 9, 10, 11, 12, 13, 14, 17, 19, 20, 39, 44, 54, 85]
def Tryr5_0 (fr : F) (h : Hp) : Out :=
  Out.nor (T.set (some (.bool false)) (Pos.of 6) fr) h
def Tryr5_1 (fr : F) (h : Hp) : Out :=
  gtO (T.get fr (Pos.of 0)) fun v0 => bndO (oLenK 2 v0 h) fun v16 h1 =>
  bndO (oBin .gtr .none v16 (.int .i64 1000) h1) fun v17 h2 =>
  Out.nor (T.set (some v17) (Pos.of 17) fr) h2
def Tryr5_2 (fr : F) (h : Hp) : Out :=
  bndO (TryF12c [] h) fun v18 h0 =>
  Out.nor (T.set (some v18) (Pos.of 6) fr) h0
def Tryr5_3 (fr : F) (h : Hp) : Out :=
  Out.nor (T.set (some (.str [10])) (Pos.of 7) fr) h
def Tryr5_4 (fr : F) (h : Hp) : Out :=
  gtO (T.get fr (Pos.of 2)) fun v2 => Out.nor (T.set (some v2) (Pos.of 19) fr) h
def Tryr5_5 (fr : F) (h : Hp) : Out :=
  Out.nor (T.set (some (.str [13, 10])) (Pos.of 7) fr) h
def Tryr5_6 (fr : F) (h : Hp) : Out :=
  Out.nor (T.set (some (.str [])) (Pos.of 8) fr) h
def Tryr5_7 (fr : F) (h : Hp) : Out :=
  gtO (T.get fr (Pos.of 1)) fun v1 => Out.nor (T.set (some v1) (Pos.of 20) fr) h
def Tryr5_8 (fr : F) (h : Hp) : Out :=
  Out.nor (T.set (some (.str [43])) (Pos.of 8) fr) h
def Tryr5_9 (fr : F) (h : Hp) : Out :=
  gtO (T.get fr (Pos.of 0)) fun v0 => bndO (oLenK 2 v0 h) fun v22 h1 =>
  bndO (TryF19r [v22] h1) fun v23 h2 =>
  bndO (oBin .add .none (.str [97, 32, 88, 32, 40, 123]) v23 h2) fun v24 h3 =>
  gtO (T.get fr (Pos.of 8)) fun v8 => bndO (oBin .add .none v24 v8 h3) fun v26 h5 =>
  bndO (oBin .add .none v26 (.str [125]) h5) fun v27 h6 =>
  gtO (T.get fr (Pos.of 7)) fun v7 => bndO (oBin .add .none v27 v7 h6) fun v29 h8 =>
  bndO (oStrBytes v29 h8) fun v30 h9 =>
  bndO (oAppend 1 1 v30 v0 h9) fun v32 h11 =>
  Out.nor (T.set (some v32) (Pos.of 9) fr) h11
def Tryr5_10 (fr : F) (h : Hp) : Out :=
  gtO (T.get fr (Pos.of 9)) fun v9 => gtO (T.get fr (Pos.of 7)) fun v7 => bndO (oBin .add .none (.str [32, 98, 41, 32, 99]) v7 h) fun v35 h2 =>
  bndO (oAppend 1 1 v9 v35 h2) fun v36 h3 =>
  Out.nor (T.set (some v36) (Pos.of 9) fr) h3
def Tryr5_11 (fr : F) (h : Hp) : Out :=
  bndO (TryF13 [(.int .i64 1000)] h) fun v37 h0 =>
  Out.nor (T.set (some v37) (Pos.of 10) fr) h0
def Tryr5_12 (fr : F) (h : Hp) : Out :=
  gtO (T.get fr (Pos.of 10)) fun v10 => bndO (oBin .eql (.ptr 11) v10 .nilp h) fun v39 h1 =>
  Out.nor (T.set (some v39) (Pos.of 39) fr) h1
def Tryr5_13 (fr : F) (h : Hp) : Out :=
  Out.nor (T.set (some (.bool false)) (Pos.of 6) fr) h
def Tryr5_14 (fr : F) (h : Hp) : Out :=
  gtO (T.get fr (Pos.of 10)) fun v10 => gtO (T.get fr (Pos.of 9)) fun v9 => bndO (TryF16 [v10, v9] h) fun v42 h2 =>
  Out.nor (T.set (some v42) (Pos.of 11) fr) h2
def Tryr5_15 (fr : F) (h : Hp) : Out :=
  gtO (T.get fr (Pos.of 1)) fun v1 => bndO (oUn .not v1 h) fun v44 h1 =>
  Out.nor (T.set (some v44) (Pos.of 44) fr) h1
def Tryr5_16 (fr : F) (h : Hp) : Out :=
  gtO (T.get fr (Pos.of 11)) fun v11 => bndO (oLenK 2 v11 h) fun v46 h1 =>
  bndO (oBin .neq .none v46 (.int .i64 2) h1) fun v47 h2 =>
  ifB v47 (Out.nor (T.set (some (.bool true)) (Pos.of 54) fr) h2) (bndO (oIdxS 2 v11 (.int .i64 0) h2) fun v50 h5 =>
  bndO (oFieldAddr 0 v50 h5) fun v51 h6 =>
  bndO (oLoad1 v51 h6) fun v52 h7 =>
  bndO (oBin .neq .none v52 (.int .i64 2) h7) fun v53 h8 =>
  Out.nor (T.set (some v53) (Pos.of 54) fr) h8)
def Tryr5_17 (fr : F) (h : Hp) : Out :=
  Out.nor (T.set (some (.bool false)) (Pos.of 6) fr) h
def Tryr5_18 (fr : F) (h : Hp) : Out :=
  gtO (T.get fr (Pos.of 11)) fun v11 => bndO (oSlice 2 v11 (some (.int .i64 1)) none none h) fun v56 h1 =>
  Out.nor (T.set (some v56) (Pos.of 11) fr) h1
def Tryr5_19 (fr : F) (h : Hp) : Out :=
  gtO (T.get fr (Pos.of 11)) fun v11 => bndO (oLenK 2 v11 h) fun v58 h1 =>
  bndO (oBin .neq .none v58 (.int .i64 1) h1) fun v59 h2 =>
  ifB v59 (Out.nor (T.set (some (.bool true)) (Pos.of 85) fr) h2) (bndO (oIdxS 2 v11 (.int .i64 0) h2) fun v62 h5 =>
  bndO (oFieldAddr 0 v62 h5) fun v63 h6 =>
  bndO (oLoad1 v63 h6) fun v64 h7 =>
  bndO (oBin .neq .none v64 (.int .i64 1) h7) fun v65 h8 =>
  ifB v65 (Out.nor (T.set (some (.bool true)) (Pos.of 85) fr) h8) (bndO (oIdxS 2 v11 (.int .i64 0) h8) fun v69 h12 =>
  bndO (oFieldAddr 1 v69 h12) fun v70 h13 =>
  bndO (oLoad1 v70 h13) fun v71 h14 =>
  bndO (oLenK 2 v71 h14) fun v72 h15 =>
  bndO (oBin .neq .none v72 (.int .i64 4) h15) fun v73 h16 =>
  ifB v73 (Out.nor (T.set (some (.bool true)) (Pos.of 85) fr) h16) (bndO (oIdxS 2 v11 (.int .i64 0) h16) fun v77 h20 =>
  bndO (oFieldAddr 1 v77 h20) fun v78 h21 =>
  bndO (oLoad1 v78 h21) fun v79 h22 =>
  bndO (oIdxS 3 v79 (.int .i64 2) h22) fun v80 h23 =>
  bndO (oFieldAddr 2 v80 h23) fun v81 h24 =>
  bndO (oLoad1 v81 h24) fun v82 h25 =>
  bndO (oLenK 2 v82 h25) fun v83 h26 =>
  bndO (oBin .neq .none v83 (.int .i64 2) h26) fun v84 h27 =>
  Out.nor (T.set (some v84) (Pos.of 85) fr) h27)))
def Tryr5_20 (fr : F) (h : Hp) : Out :=
  Out.nor (T.set (some (.bool false)) (Pos.of 6) fr) h
def Tryr5_21 (fr : F) (h : Hp) : Out :=
  gtO (T.get fr (Pos.of 11)) fun v11 => bndO (oIdxS 2 v11 (.int .i64 0) h) fun v87 h1 =>
  bndO (oFieldAddr 1 v87 h1) fun v88 h2 =>
  bndO (oLoad1 v88 h2) fun v89 h3 =>
  bndO (oIdxS 3 v89 (.int .i64 2) h3) fun v90 h4 =>
  bndO (oFieldAddr 2 v90 h4) fun v91 h5 =>
  bndO (oLoad1 v91 h5) fun v92 h6 =>
  bndO (oIdxS 3 v92 (.int .i64 0) h6) fun v93 h7 =>
  bndO (oLoadN 3 v93 h7) fun v94 h8 =>
  bndO (oNew [(.int .i64 0), (.str []), .nils] h8) fun v12 h9 =>
  bndO (oStore 3 v12 v94 h9) fun _u10 h10 =>
  Out.nor (T.set (some v12) (Pos.of 12) fr) h10
def Tryr5_22 (fr : F) (h : Hp) : Out :=
  bndO (TryF13 [(.int .i64 1000)] h) fun v95 h0 =>
  Out.nor (T.set (some v95) (Pos.of 13) fr) h0
def Tryr5_23 (fr : F) (h : Hp) : Out :=
  gtO (T.get fr (Pos.of 13)) fun v13 => gtO (T.get fr (Pos.of 8)) fun v8 => bndO (oBin .add .none (.str [97, 32, 123, 49, 48, 48, 49]) v8 h) fun v98 h2 =>
  bndO (oBin .add .none v98 (.str [125]) h2) fun v99 h3 =>
  gtO (T.get fr (Pos.of 7)) fun v7 => bndO (oBin .add .none v99 v7 h3) fun v101 h5 =>
  bndO (oStrBytes v101 h5) fun v102 h6 =>
  bndO (TryF16 [v13, v102] h6) fun v103 h7 =>
  Out.nor (T.set (some v103) (Pos.of 14) fr) h7
def Tryr5_24 (fr : F) (h : Hp) : Out :=
  gtO (T.get fr (Pos.of 12)) fun v12 => bndO (oFieldAddr 0 v12 h) fun v104 h0 =>
  bndO (oLoad1 v104 h0) fun v105 h1 =>
  bndO (oBin .eql .none v105 (.int .i64 2) h1) fun v106 h2 =>
  ifB v106 (bndO (oFieldAddr 1 v12 h2) fun v108 h4 =>
  bndO (oLoad1 v108 h4) fun v109 h5 =>
  gtO (T.get fr (Pos.of 0)) fun v0 => bndO (oBytesStr v0 h5) fun v111 h7 =>
  bndO (oBin .eql .none v109 v111 h7) fun v112 h8 =>
  ifB v112 (gtO (T.get fr (Pos.of 11)) fun v11 => bndO (oIdxS 2 v11 (.int .i64 0) h8) fun v116 h12 =>
  bndO (oFieldAddr 1 v116 h12) fun v117 h13 =>
  bndO (oLoad1 v117 h13) fun v118 h14 =>
  bndO (oIdxS 3 v118 (.int .i64 3) h14) fun v119 h15 =>
  bndO (oFieldAddr 1 v119 h15) fun v120 h16 =>
  bndO (oLoad1 v120 h16) fun v121 h17 =>
  bndO (oBin .eql .none v121 (.str [99]) h17) fun v122 h18 =>
  ifB v122 (gtO (T.get fr (Pos.of 14)) fun v14 => bndO (oLenK 2 v14 h18) fun v126 h22 =>
  bndO (oBin .eql .none v126 (.int .i64 1) h22) fun v127 h23 =>
  ifB v127 (bndO (oIdxS 2 v14 (.int .i64 0) h23) fun v131 h27 =>
  bndO (oFieldAddr 0 v131 h27) fun v132 h28 =>
  bndO (oLoad1 v132 h28) fun v133 h29 =>
  bndO (oBin .eql .none v133 (.int .i64 3) h29) fun v134 h30 =>
  ifB v134 (bndO (TryF12c [] h30) fun v137 h33 =>
  Out.nor (T.set (some v137) (Pos.of 6) fr) h33) (Out.nor (T.set (some (.bool false)) (Pos.of 6) fr) h30)) (Out.nor (T.set (some (.bool false)) (Pos.of 6) fr) h23)) (Out.nor (T.set (some (.bool false)) (Pos.of 6) fr) h18)) (Out.nor (T.set (some (.bool false)) (Pos.of 6) fr) h8)) (Out.nor (T.set (some (.bool false)) (Pos.of 6) fr) h2)
def Tryd5 : F → Hp → Out := (seqO Tryr5_0 (seqO (seqO Tryr5_1 (cndX (.tmp 17) (seqO Tryr5_2 Out.ret) Out.nor)) (seqO Tryr5_3 (seqO (seqO Tryr5_4 (cndX (.tmp 19) Tryr5_5 Out.nor)) (seqO Tryr5_6 (seqO (seqO Tryr5_7 (cndX (.tmp 20) Tryr5_8 Out.nor)) (seqO Tryr5_9 (seqO Tryr5_10 (seqO Tryr5_11 (seqO (seqO Tryr5_12 (cndX (.tmp 39) (seqO Tryr5_13 Out.ret) Out.nor)) (seqO Tryr5_14 (seqO (seqO Tryr5_15 (cndX (.tmp 44) (seqO (seqO Tryr5_16 (cndX (.tmp 54) (seqO Tryr5_17 Out.ret) Out.nor)) Tryr5_18) Out.nor)) (seqO (seqO Tryr5_19 (cndX (.tmp 85) (seqO Tryr5_20 Out.ret) Out.nor)) (seqO Tryr5_21 (seqO Tryr5_22 (seqO Tryr5_23 (seqO Tryr5_24 Out.ret)))))))))))))))))
def Trye5 : FuncId → Option Fun := fun f => match Nat.beq f 12 with | true => some TryF12c | false => match Nat.beq f 19 with | true => some TryF19r | false => match Nat.beq f 13 with | true => some TryF13 | false => match Nat.beq f 16 with | true => some TryF16 | false => none
def Tryp5 : Plans := fun id => none
def TryF5 : Fun := funX Try.prog 0 Tryk5 Trye5 Tryp5 lf Try.f5
theorem TryD5 : denX Try.prog 0 Try.f5.ntmps Tryk5 Trye5 Tryp5 lf (codeOf Try.f5) = Tryd5 := by kernel_rfl
theorem TryF5_eq (x0 x1 x2 : V) (h : Hp) : TryF5 [x0, x1, x2] h = outR Try.prog [.tmp 6] (Tryd5 (T.set (some x2) (Pos.of 2) (T.set (some x1) (Pos.of 1) (T.set (some x0) (Pos.of 0) T.nil))) h) := funX_eq (by kernel_rfl) TryD5 (by kernel_rfl) h
theorem Tryc5 : CallOk Try.prog 0 5 TryF5 := funX_ok Trymix (callsOk_cons Tryc12c (callsOk_cons Tryc19r (callsOk_cons Tryc13 (callsOk_cons Tryc16 callsOk_0)))) Try.func5 (by kernel_rfl)

end Go.Proofs.Ytgnfkfmhjgbhhaa

namespace Go.Ln
open Go Go.Vm
set_option linter.unusedVariables false
theorem escM_append : ∀ a b : List Nat, escM (a ++ b) = escM a ++ escM b
  | [], b => rfl
  | c :: a, b => by
    rw [List.cons_append, escM, escM, escM_append a b]
    split <;> simp
theorem escM_len : ∀ a : List Nat, (escM a).length ≤ 2 * a.length
  | [] => Nat.le_refl _
  | c :: a => by
    have := escM_len a
    rw [escM]
    split <;> (simp only [List.length_cons]; omega)
theorem escM_mem : ∀ {a : List Nat} {x : Nat}, x ∈ escM a → x = 92 ∨ x ∈ a
  | [], x, h => .inr h
  | c :: a, x, h => by
    rw [escM] at h
    split at h
    · rcases List.mem_cons.1 h with h | h
      · exact .inl h
      · rcases List.mem_cons.1 h with h | h
        · exact .inr (by rw [h]; simp)
        · exact (escM_mem h).imp id fun q => by simp [q]
    · rcases List.mem_cons.1 h with h | h
      · exact .inr (by rw [h]; simp)
      · exact (escM_mem h).imp id fun q => by simp [q]
/-- atoms, each with a blank ahead -/
def atomsM : List Nat → List Nat
  | [] => []
  | a :: l => 32 :: 97 :: digM a ++ atomsM l
theorem atomsM_append : ∀ a b : List Nat, atomsM (a ++ b) = atomsM a ++ atomsM b
  | [], b => rfl
  | c :: a, b => by simp [atomsM, atomsM_append a b]
theorem atomsM_len : ∀ l : List Nat, (atomsM l).length ≤ 7 * l.length
  | [] => Nat.le_refl _
  | a :: l => by
    have := atomsM_len l
    have := digM_len a
    simp only [atomsM, List.length_append, List.length_cons]
    omega
theorem atomsM_mem : ∀ {l : List Nat} {x : Nat}, x ∈ atomsM l → 32 ≤ x ∧ x < 125
  | [], x, h => by cases h
  | a :: l, x, h => by
    rw [atomsM, List.cons_append, List.cons_append] at h
    rcases List.mem_cons.1 h with h | h
    · omega
    · rcases List.mem_cons.1 h with h | h
      · omega
      · rcases List.mem_append.1 h with h | h
        · have := digM_digit a x h; omega
        · exact atomsM_mem h
def atomsW : List Nat → Wds → Wds
  | [], r => r
  | a :: l, r => .cons 1 (97 :: digM a) .nil (atomsW l r)
theorem atomsW_len : ∀ (l : List Nat) (r : Wds), (atomsW l r).len = l.length + r.len
  | [], r => by simp [atomsW]
  | a :: l, r => by rw [atomsW, Wds.len, atomsW_len l r, List.length_cons]; omega
theorem atomsW_get : ∀ {l : List Nat} {r : Wds} {k a : Nat}, l[k]? = some a → (atomsW l r).get? k = some ⟨1, 97 :: digM a, .nil⟩
  | [], r, k, a, h => by cases h
  | b :: l, r, 0, a, h => by cases h; rfl
  | b :: l, r, k + 1, a, h => by rw [atomsW, Wds.get?]; exact atomsW_get h
def Wds.drop : Nat → Wds → Wds
  | 0, w => w
  | _ + 1, .nil => .nil
  | n + 1, .cons _ _ _ r => r.drop n
theorem atomsW_drop : ∀ (l : List Nat) (r : Wds), (atomsW l r).drop l.length = r
  | [], r => rfl
  | a :: l, r => by rw [atomsW, List.length_cons, Wds.drop]; exact atomsW_drop l r
/-- the words behind the atoms, and their text -/
def tailW (t : List Nat) : Wds := .cons 2 t .nil (.cons 3 [] (.cons 3 [] .nil .nil) (.cons 3 [] (.cons 1 [97] .nil (.cons 3 [] (.cons 1 [98] .nil (.cons 2 t .nil .nil)) .nil)) .nil))
def tailS (t : List Nat) : List Nat := 34 :: (escM t ++ 34 :: ([32, 40, 40, 41, 41, 32, 40, 97, 32, 40, 98, 32] ++ 34 :: (escM t ++ 34 :: [41, 41])))
theorem tail_parses {t : List Nat} (h13 : ∀ c ∈ t, c ≠ 13) : Parses 8 ⟨tailS t, []⟩ (tailW t) ⟨[], []⟩ := by
  have q1 : ∀ n s, wordM n ⟨34 :: (escM t ++ 34 :: s), []⟩ = some (⟨2, t, .nil⟩, ⟨s, []⟩) := fun n s => wordM_quoted h13
  refine Parses.cons (w := ⟨2, t, .nil⟩) (q1 _ _) (st2 := ⟨[40, 40, 41, 41, 32, 40, 97, 32, 40, 98, 32] ++ 34 :: (escM t ++ 34 :: [41, 41]), []⟩) rfl ?_
  have l1 : wordM 8 ⟨40 :: ([40, 41, 41, 32, 40, 97, 32, 40, 98, 32] ++ 34 :: (escM t ++ 34 :: [41, 41])), []⟩ = some (⟨3, [], .cons 3 [] .nil .nil⟩, ⟨[32, 40, 97, 32, 40, 98, 32] ++ 34 :: (escM t ++ 34 :: [41, 41]), []⟩) :=
    wordM_list (st := ⟨[41, 32, 40, 97, 32, 40, 98, 32] ++ 34 :: (escM t ++ 34 :: [41, 41]), []⟩) rfl (Parses.one (w := ⟨3, [], .nil⟩) wordM_list0 rfl) rfl
  refine Parses.cons (w := ⟨3, [], .cons 3 [] .nil .nil⟩) l1 (st2 := ⟨[40, 97, 32, 40, 98, 32] ++ 34 :: (escM t ++ 34 :: [41, 41]), []⟩) rfl ?_
  have l3 : wordM 7 ⟨40 :: ([98, 32] ++ 34 :: (escM t ++ 34 :: [41, 41])), []⟩ = some (⟨3, [], .cons 1 [98] .nil (.cons 2 t .nil .nil)⟩, ⟨[41], []⟩) :=
    wordM_list (st := ⟨[41, 41], []⟩) rfl (Parses.cons (w := ⟨1, [98], .nil⟩) (wordM_atom (a := [98]) (t := 32 :: 34 :: (escM t ++ 34 :: [41, 41])) (by simp) (by decide) (fun d l e => by cases e; rfl)) (st2 := ⟨34 :: (escM t ++ 34 :: [41, 41]), []⟩) rfl (Parses.one (w := ⟨2, t, .nil⟩) (q1 _ _) rfl)) rfl
  have l2 : wordM 8 ⟨40 :: ([97, 32, 40, 98, 32] ++ 34 :: (escM t ++ 34 :: [41, 41])), []⟩ = some (⟨3, [], .cons 1 [97] .nil (.cons 3 [] (.cons 1 [98] .nil (.cons 2 t .nil .nil)) .nil)⟩, ⟨[], []⟩) :=
    wordM_list (st := ⟨[41], []⟩) rfl (Parses.cons (w := ⟨1, [97], .nil⟩) (wordM_atom (a := [97]) (t := 32 :: 40 :: ([98, 32] ++ 34 :: (escM t ++ 34 :: [41, 41]))) (by simp) (by decide) (fun d l e => by cases e; rfl)) (st2 := ⟨40 :: ([98, 32] ++ 34 :: (escM t ++ 34 :: [41, 41])), []⟩) rfl (Parses.one (w := ⟨3, [], .cons 1 [98] .nil (.cons 2 t .nil .nil)⟩) l3 rfl)) rfl
  exact Parses.one (w := ⟨3, [], .cons 1 [97] .nil (.cons 3 [] (.cons 1 [98] .nil (.cons 2 t .nil .nil)) .nil)⟩) l2 rfl
theorem atoms_parses {Q : List Nat} {tw : Wds} (hQ : Parses 8 ⟨Q, []⟩ tw ⟨[], []⟩) : ∀ (l w : List Nat), w ≠ [] → (∀ c ∈ w, atomC c = true) → Parses 8 ⟨w ++ (atomsM l ++ 32 :: Q), []⟩ (.cons 1 w .nil (atomsW l tw)) ⟨[], []⟩
  | [], w, h0, hw => Parses.cons (w := ⟨1, w, .nil⟩) (wordM_atom h0 hw (fun d l e => by cases e; rfl)) (st2 := ⟨Q, []⟩) rfl hQ
  | a :: l, w, h0, hw => by
    have hd : ∀ c ∈ 97 :: digM a, atomC c = true := fun c hc => by
      rcases List.mem_cons.1 hc with hc | hc
      · rw [hc]; rfl
      · have := digM_digit a c hc
        unfold atomC
        exact decide_eq_true (by omega)
    have e : atomsM (a :: l) ++ 32 :: Q = 32 :: ((97 :: digM a) ++ (atomsM l ++ 32 :: Q)) := by simp [atomsM]
    rw [e]
    exact Parses.cons (w := ⟨1, w, .nil⟩) (wordM_atom h0 hw (fun d l e => by cases e; rfl)) (st2 := ⟨(97 :: digM a) ++ (atomsM l ++ 32 :: Q), []⟩) rfl (atoms_parses hQ l (97 :: digM a) (by simp) hd)
def wordsS (l t : List Nat) : List Nat := [116] ++ (atomsM l ++ 32 :: tailS t)
def wordsW (l t : List Nat) : Wds := .cons 1 [116] .nil (atomsW l (tailW t))
theorem tailS_mem {t : List Nat} : ∀ c ∈ tailS t, (32 ≤ c ∧ c ≤ 98) ∨ c ∈ t := by
  intro c h
  unfold tailS at h
  simp only [List.mem_cons, List.mem_append, List.not_mem_nil, or_false] at h
  rcases h with h | h | h | h | h | h | h
  · omega
  · rcases escM_mem h with h | h
    · omega
    · exact .inr h
  · omega
  · omega
  · omega
  · rcases escM_mem h with h | h
    · omega
    · exact .inr h
  · omega
theorem tailS_len (t : List Nat) : (tailS t).length ≤ 4 * t.length + 18 := by
  have := escM_len t
  unfold tailS
  simp only [List.length_cons, List.length_append, List.length_nil]
  omega
theorem words_feed {l t : List Nat} (hl : l.length ≤ 100) (ht : t.length ≤ 300) (h10 : ∀ c ∈ t, c ≠ 10 ∧ c ≠ 13) : feedsM 10 {} (wordsS l t ++ eol true) = ({}, [⟨1, wordsW l t⟩]) := by
  have hm : ∀ c ∈ wordsS l t, c ≠ 10 ∧ c ≠ 13 := fun c h => by
    unfold wordsS at h
    rcases List.mem_append.1 h with h | h
    · rw [List.mem_singleton.1 h]; decide
    · rcases List.mem_append.1 h with h | h
      · have := atomsM_mem h; omega
      · rcases List.mem_cons.1 h with h | h
        · omega
        · rcases tailS_mem c h with h | h
          · omega
          · exact h10 c h
  have hlen : (wordsS l t).length ≤ 4096 := by
    have := atomsM_len l
    have := tailS_len t
    unfold wordsS
    simp only [List.length_append, List.length_cons, List.length_nil]
    omega
  obtain ⟨x, e1, e2⟩ := feeds_text 10 {} (wordsS l t) true rfl rfl rfl (fun c h => (hm c h).1) (fun c h => (hm c (by simpa using h)).2) (by show 0 + 0 + _ ≤ 4096; omega)
  rw [e2]
  have e1' : cutCR x = wordsS l t := e1
  refine endM_words (r := { now := x }) ?_ ?_
  · show markerM (cutCR x) = none
    rw [e1']
    refine markerM_no ?_
    have : wordsS l t = ([116] ++ (atomsM l ++ 32 :: 34 :: (escM t ++ 34 :: ([32, 40, 40, 41, 41, 32, 40, 97, 32, 40, 98, 32] ++ 34 :: (escM t ++ [34, 41]))))) ++ [41] := by
      unfold wordsS tailS; simp
    rw [this, List.getLast?_concat]
    decide
  · show parseM ([] ++ [cutCR x]) [] = _
    rw [e1']
    exact parseM_of rfl (atoms_parses (tail_parses fun c h => (h10 c h).2) l [116] (by simp) (by decide))
end Go.Ln

noncomputable section
namespace Go.Proofs.Ytgnfkfmhjgbhhaa
open Go Go.Proofs Go.Vm
set_option linter.unusedVariables false
set_option maxRecDepth 100000
/-! 7: pillarbox/pillarboxlaw22.LineWords -/
def Tryk7 : Nat → Bool := fun t => memN t [0, 1, 4, 5, 6, 7, 8, 9, 10, 11, 12, 20, 25, 37, 48, 61, 75, 107, 119, 150]
def Tryr7_0 (fr : F) (h : Hp) : Out :=
  Out.nor (T.set (some (.bool false)) (Pos.of 4) fr) h
def Tryr7_1 (fr : F) (h : Hp) : Out :=
  gtO (T.get fr (Pos.of 0)) fun v0 => bndO (oLenK 2 v0 h) fun v14 h1 =>
  bndO (oBin .gtr .none v14 (.int .i64 100) h1) fun v15 h2 =>
  ifB v15 (Out.nor (T.set (some (.bool true)) (Pos.of 20) fr) h2) (gtO (T.get fr (Pos.of 1)) fun v1 => bndO (oLenK 1 v1 h2) fun v18 h5 =>
  bndO (oBin .gtr .none v18 (.int .i64 300) h5) fun v19 h6 =>
  Out.nor (T.set (some v19) (Pos.of 20) fr) h6)
def Tryr7_2 (fr : F) (h : Hp) : Out :=
  bndO (TryF12c [] h) fun v21 h0 =>
  Out.nor (T.set (some v21) (Pos.of 4) fr) h0
def Tryr7_3 (fr : F) (h : Hp) : Out :=
  Out.nor (T.set (some (.str [34])) (Pos.of 5) fr) h
def Tryr7_4 (fr : F) (h : Hp) : Out :=
  Out.nor (T.set (some (.int .i64 0)) (Pos.of 6) fr) h
def Tryr7_5 (fr : F) (h : Hp) : Out :=
  gtO (T.get fr (Pos.of 6)) fun v6 => gtO (T.get fr (Pos.of 1)) fun v1 => bndO (oLenK 1 v1 h) fun v24 h2 =>
  bndO (oBin .lss .none v6 v24 h2) fun v25 h3 =>
  Out.nor (T.set (some v25) (Pos.of 25) fr) h3
def Tryr7_7 (fr : F) (h : Hp) : Out :=
  gtO (T.get fr (Pos.of 1)) fun v1 => gtO (T.get fr (Pos.of 6)) fun v6 => bndO (oIdxStr v1 v6 h) fun v30 h2 =>
  bndO (oBin .eql .none v30 (.int .u8 10) h2) fun v31 h3 =>
  ifB v31 (Out.nor (T.set (some (.bool true)) (Pos.of 37) fr) h3) (bndO (oIdxStr v1 v6 h3) fun v35 h7 =>
  bndO (oBin .eql .none v35 (.int .u8 13) h7) fun v36 h8 =>
  Out.nor (T.set (some v36) (Pos.of 37) fr) h8)
def Tryr7_8 (fr : F) (h : Hp) : Out :=
  bndO (TryF12c [] h) fun v38 h0 =>
  Out.nor (T.set (some v38) (Pos.of 4) fr) h0
def Tryr7_9 (fr : F) (h : Hp) : Out :=
  gtO (T.get fr (Pos.of 1)) fun v1 => gtO (T.get fr (Pos.of 6)) fun v6 => bndO (oIdxStr v1 v6 h) fun v41 h2 =>
  bndO (oBin .eql .none v41 (.int .u8 34) h2) fun v42 h3 =>
  ifB v42 (Out.nor (T.set (some (.bool true)) (Pos.of 48) fr) h3) (bndO (oIdxStr v1 v6 h3) fun v46 h7 =>
  bndO (oBin .eql .none v46 (.int .u8 92) h7) fun v47 h8 =>
  Out.nor (T.set (some v47) (Pos.of 48) fr) h8)
def Tryr7_10 (fr : F) (h : Hp) : Out :=
  gtO (T.get fr (Pos.of 5)) fun v5 => bndO (oBin .add .none v5 (.str [92]) h) fun v50 h1 =>
  Out.nor (T.set (some v50) (Pos.of 5) fr) h1
def Tryr7_11 (fr : F) (h : Hp) : Out :=
  gtO (T.get fr (Pos.of 5)) fun v5 => gtO (T.get fr (Pos.of 1)) fun v1 => gtO (T.get fr (Pos.of 6)) fun v6 => bndO (oBin .add .none v6 (.int .i64 1) h) fun v55 h4 =>
  bndO (oSliceStr v1 (some v6) (some v55) h4) fun v56 h5 =>
  bndO (oBin .add .none v5 v56 h5) fun v57 h6 =>
  Out.nor (T.set (some v57) (Pos.of 5) fr) h6
def Tryr7_6 (fr : F) (h : Hp) : Out :=
  gtO (T.get fr (Pos.of 6)) fun v6 => bndO (oBin .add .none v6 (.int .i64 1) h) fun v27 h1 =>
  Out.nor (T.set (some v27) (Pos.of 6) fr) h1
def Tryr7_12 (fr : F) (h : Hp) : Out :=
  Out.nor (T.set (some (.str [116])) (Pos.of 7) fr) h
def Tryr7_13 (fr : F) (h : Hp) : Out :=
  Out.nor (T.set (some (.int .i64 0)) (Pos.of 8) fr) h
def Tryr7_14 (fr : F) (h : Hp) : Out :=
  gtO (T.get fr (Pos.of 8)) fun v8 => gtO (T.get fr (Pos.of 0)) fun v0 => bndO (oLenK 2 v0 h) fun v60 h2 =>
  bndO (oBin .lss .none v8 v60 h2) fun v61 h3 =>
  Out.nor (T.set (some v61) (Pos.of 61) fr) h3
def Tryr7_16 (fr : F) (h : Hp) : Out :=
  gtO (T.get fr (Pos.of 7)) fun v7 => bndO (oBin .add .none v7 (.str [32, 97]) h) fun v65 h1 =>
  gtO (T.get fr (Pos.of 0)) fun v0 => gtO (T.get fr (Pos.of 8)) fun v8 => bndO (oIdxS 1 v0 v8 h1) fun v68 h4 =>
  bndO (oLoad1 v68 h4) fun v69 h5 =>
  bndO (oConvInt .i64 v69 h5) fun v70 h6 =>
  bndO (TryF19r [v70] h6) fun v71 h7 =>
  bndO (oBin .add .none v65 v71 h7) fun v72 h8 =>
  Out.nor (T.set (some v72) (Pos.of 7) fr) h8
def Tryr7_15 (fr : F) (h : Hp) : Out :=
  gtO (T.get fr (Pos.of 8)) fun v8 => bndO (oBin .add .none v8 (.int .i64 1) h) fun v63 h1 =>
  Out.nor (T.set (some v63) (Pos.of 8) fr) h1
def Tryr7_17 (fr : F) (h : Hp) : Out :=
  bndO (TryF13 [(.int .i64 10)] h) fun v73 h0 =>
  Out.nor (T.set (some v73) (Pos.of 9) fr) h0
def Tryr7_18 (fr : F) (h : Hp) : Out :=
  gtO (T.get fr (Pos.of 9)) fun v9 => bndO (oBin .eql (.ptr 11) v9 .nilp h) fun v75 h1 =>
  Out.nor (T.set (some v75) (Pos.of 75) fr) h1
def Tryr7_19 (fr : F) (h : Hp) : Out :=
  Out.nor (T.set (some (.bool false)) (Pos.of 4) fr) h
def Tryr7_20 (fr : F) (h : Hp) : Out :=
  gtO (T.get fr (Pos.of 9)) fun v9 => gtO (T.get fr (Pos.of 7)) fun v7 => bndO (oBin .add .none v7 (.str [32]) h) fun v78 h2 =>
  gtO (T.get fr (Pos.of 5)) fun v5 => bndO (oBin .add .none v78 v5 h2) fun v80 h4 =>
  bndO (oBin .add .none v80 (.str [34, 32, 40, 40, 41, 41, 32, 40, 97, 32, 40, 98, 32]) h4) fun v81 h5 =>
  bndO (oBin .add .none v81 v5 h5) fun v83 h7 =>
  bndO (oBin .add .none v83 (.str [34, 41, 41, 13, 10]) h7) fun v84 h8 =>
  bndO (oStrBytes v84 h8) fun v85 h9 =>
  bndO (TryF16 [v9, v85] h9) fun v86 h10 =>
  Out.nor (T.set (some v86) (Pos.of 10) fr) h10
def Tryr7_21 (fr : F) (h : Hp) : Out :=
  gtO (T.get fr (Pos.of 10)) fun v10 => bndO (oLenK 2 v10 h) fun v88 h1 =>
  bndO (oBin .neq .none v88 (.int .i64 1) h1) fun v89 h2 =>
  ifB v89 (Out.nor (T.set (some (.bool true)) (Pos.of 107) fr) h2) (bndO (oIdxS 2 v10 (.int .i64 0) h2) fun v92 h5 =>
  bndO (oFieldAddr 0 v92 h5) fun v93 h6 =>
  bndO (oLoad1 v93 h6) fun v94 h7 =>
  bndO (oBin .neq .none v94 (.int .i64 1) h7) fun v95 h8 =>
  ifB v95 (Out.nor (T.set (some (.bool true)) (Pos.of 107) fr) h8) (bndO (oIdxS 2 v10 (.int .i64 0) h8) fun v99 h12 =>
  bndO (oFieldAddr 1 v99 h12) fun v100 h13 =>
  bndO (oLoad1 v100 h13) fun v101 h14 =>
  bndO (oLenK 2 v101 h14) fun v102 h15 =>
  gtO (T.get fr (Pos.of 0)) fun v0 => bndO (oLenK 2 v0 h15) fun v104 h17 =>
  bndO (oBin .add .none v104 (.int .i64 4) h17) fun v105 h18 =>
  bndO (oBin .neq .none v102 v105 h18) fun v106 h19 =>
  Out.nor (T.set (some v106) (Pos.of 107) fr) h19))
def Tryr7_22 (fr : F) (h : Hp) : Out :=
  Out.nor (T.set (some (.bool false)) (Pos.of 4) fr) h
def Tryr7_23 (fr : F) (h : Hp) : Out :=
  gtO (T.get fr (Pos.of 10)) fun v10 => bndO (oIdxS 2 v10 (.int .i64 0) h) fun v109 h1 =>
  bndO (oFieldAddr 1 v109 h1) fun v110 h2 =>
  bndO (oLoad1 v110 h2) fun v111 h3 =>
  gtO (T.get fr (Pos.of 0)) fun v0 => bndO (oLenK 2 v0 h3) fun v113 h5 =>
  bndO (oBin .add .none v113 (.int .i64 1) h5) fun v114 h6 =>
  bndO (oSlice 3 v111 (some v114) none none h6) fun v115 h7 =>
  Out.nor (T.set (some v115) (Pos.of 11) fr) h7
def Tryr7_24 (fr : F) (h : Hp) : Out :=
  Out.nor (T.set (some (.int .i64 0)) (Pos.of 12) fr) h
def Tryr7_25 (fr : F) (h : Hp) : Out :=
  gtO (T.get fr (Pos.of 12)) fun v12 => gtO (T.get fr (Pos.of 0)) fun v0 => bndO (oLenK 2 v0 h) fun v118 h2 =>
  bndO (oBin .lss .none v12 v118 h2) fun v119 h3 =>
  Out.nor (T.set (some v119) (Pos.of 119) fr) h3
def Tryr7_27 (fr : F) (h : Hp) : Out :=
  gtO (T.get fr (Pos.of 10)) fun w0_10 => bndO (oIdxS 2 w0_10 (.int .i64 0) (bumpH 0 h)) fun v123 _ =>
  bndO (oFieldAddr 1 v123 (bumpH 0 h)) fun v124 _ =>
  bndO (oLoad1 v124 (bumpH 0 h)) fun v125 _ =>
  gtO (T.get fr (Pos.of 12)) fun w4_12 => bndO (oBin .add .none w4_12 (.int .i64 1) (bumpH 0 h)) fun v127 _ =>
  bndO (oIdxS 3 v125 v127 (bumpH 0 h)) fun v128 _ =>
  bndO (oFieldAddr 0 v128 (bumpH 0 h)) fun v129 _ =>
  bndO (oLoad1 v129 (bumpH 0 h)) fun v130 _ =>
  bndO (oBin .neq .none v130 (.int .i64 1) (bumpH 0 h)) fun v131 _ =>
  ifB v131 (Out.nor (T.set (some (.bool true)) (Pos.of 150) fr) (bumpH 0 h)) (gtO (T.get fr (Pos.of 0)) fun w20_0 => gtO (T.get fr (Pos.of 12)) fun w21_12 => bndO (oIdxS 1 w20_0 w21_12 (bumpH 0 h)) fun v144 _ =>
  bndO (oLoad1 v144 (bumpH 0 h)) fun v145 _ =>
  bndO (oConvInt .i64 v145 (bumpH 0 h)) fun v146 _ =>
  bndO (TryF19r [v146] (bumpH 0 h)) fun v147 h25 =>
  gtO (T.get fr (Pos.of 10)) fun w11_10 => bndO (oIdxS 2 w11_10 (.int .i64 0) h25) fun v134 _ =>
  bndO (oFieldAddr 1 v134 h25) fun v135 _ =>
  bndO (oLoad1 v135 h25) fun v136 _ => chk (fun h => oLoad1 v135 h) v136 (
  gtO (T.get fr (Pos.of 12)) fun w15_12 => bndO (oBin .add .none w15_12 (.int .i64 1) h25) fun v138 _ =>
  bndO (oIdxS 3 v136 v138 h25) fun v139 _ =>
  bndO (oFieldAddr 1 v139 h25) fun v140 _ =>
  bndO (oLoad1 v140 h25) fun v141 _ => chk (fun h => oLoad1 v140 h) v141 (
  bndO (oBin .add .none (.str [97]) v147 h25) fun v148 _ =>
  bndO (oBin .neq .none v141 v148 h25) fun v149 _ =>
  Out.nor (T.set (some v149) (Pos.of 150) fr) h25) 1 [(bumpH 0 h)]) 1 [(bumpH 0 h)])
def Tryr7_28 (fr : F) (h : Hp) : Out :=
  Out.nor (T.set (some (.bool false)) (Pos.of 4) fr) h
def Tryr7_26 (fr : F) (h : Hp) : Out :=
  gtO (T.get fr (Pos.of 12)) fun v12 => bndO (oBin .add .none v12 (.int .i64 1) h) fun v121 h1 =>
  Out.nor (T.set (some v121) (Pos.of 12) fr) h1
def Tryr7_29 (fr : F) (h : Hp) : Out :=
  gtO (T.get fr (Pos.of 11)) fun v11 => bndO (oIdxS 3 v11 (.int .i64 0) h) fun v152 h1 =>
  bndO (oFieldAddr 0 v152 h1) fun v153 h2 =>
  bndO (oLoad1 v153 h2) fun v154 h3 =>
  bndO (oBin .eql .none v154 (.int .i64 2) h3) fun v155 h4 =>
  ifB v155 (bndO (oIdxS 3 v11 (.int .i64 0) h4) fun v158 h7 =>
  bndO (oFieldAddr 1 v158 h7) fun v159 h8 =>
  bndO (oLoad1 v159 h8) fun v160 h9 =>
  gtO (T.get fr (Pos.of 1)) fun v1 => bndO (oBin .eql .none v160 v1 h9) fun v162 h11 =>
  ifB v162 (bndO (oIdxS 3 v11 (.int .i64 1) h11) fun v166 h15 =>
  bndO (oFieldAddr 0 v166 h15) fun v167 h16 =>
  bndO (oLoad1 v167 h16) fun v168 h17 =>
  bndO (oBin .eql .none v168 (.int .i64 3) h17) fun v169 h18 =>
  ifB v169 (bndO (oIdxS 3 v11 (.int .i64 1) h18) fun v173 h22 =>
  bndO (oFieldAddr 2 v173 h22) fun v174 h23 =>
  bndO (oLoad1 v174 h23) fun v175 h24 =>
  bndO (oLenK 2 v175 h24) fun v176 h25 =>
  bndO (oBin .eql .none v176 (.int .i64 1) h25) fun v177 h26 =>
  ifB v177 (bndO (oIdxS 3 v11 (.int .i64 1) h26) fun v181 h30 =>
  bndO (oFieldAddr 2 v181 h30) fun v182 h31 =>
  bndO (oLoad1 v182 h31) fun v183 h32 =>
  bndO (oIdxS 3 v183 (.int .i64 0) h32) fun v184 h33 =>
  bndO (oFieldAddr 0 v184 h33) fun v185 h34 =>
  bndO (oLoad1 v185 h34) fun v186 h35 =>
  bndO (oBin .eql .none v186 (.int .i64 3) h35) fun v187 h36 =>
  ifB v187 (bndO (oIdxS 3 v11 (.int .i64 1) h36) fun v191 h40 =>
  bndO (oFieldAddr 2 v191 h40) fun v192 h41 =>
  bndO (oLoad1 v192 h41) fun v193 h42 =>
  bndO (oIdxS 3 v193 (.int .i64 0) h42) fun v194 h43 =>
  bndO (oFieldAddr 2 v194 h43) fun v195 h44 =>
  bndO (oLoad1 v195 h44) fun v196 h45 =>
  bndO (oLenK 2 v196 h45) fun v197 h46 =>
  bndO (oBin .eql .none v197 (.int .i64 0) h46) fun v198 h47 =>
  ifB v198 (bndO (oIdxS 3 v11 (.int .i64 2) h47) fun v202 h51 =>
  bndO (oFieldAddr 2 v202 h51) fun v203 h52 =>
  bndO (oLoad1 v203 h52) fun v204 h53 =>
  bndO (oLenK 2 v204 h53) fun v205 h54 =>
  bndO (oBin .eql .none v205 (.int .i64 2) h54) fun v206 h55 =>
  ifB v206 (bndO (oIdxS 3 v11 (.int .i64 2) h55) fun v210 h59 =>
  bndO (oFieldAddr 2 v210 h59) fun v211 h60 =>
  bndO (oLoad1 v211 h60) fun v212 h61 =>
  bndO (oIdxS 3 v212 (.int .i64 1) h61) fun v213 h62 =>
  bndO (oFieldAddr 2 v213 h62) fun v214 h63 =>
  bndO (oLoad1 v214 h63) fun v215 h64 =>
  bndO (oLenK 2 v215 h64) fun v216 h65 =>
  bndO (oBin .eql .none v216 (.int .i64 2) h65) fun v217 h66 =>
  ifB v217 (bndO (oIdxS 3 v11 (.int .i64 2) h66) fun v221 h70 =>
  bndO (oFieldAddr 2 v221 h70) fun v222 h71 =>
  bndO (oLoad1 v222 h71) fun v223 h72 =>
  bndO (oIdxS 3 v223 (.int .i64 1) h72) fun v224 h73 =>
  bndO (oFieldAddr 2 v224 h73) fun v225 h74 =>
  bndO (oLoad1 v225 h74) fun v226 h75 =>
  bndO (oIdxS 3 v226 (.int .i64 1) h75) fun v227 h76 =>
  bndO (oFieldAddr 1 v227 h76) fun v228 h77 =>
  bndO (oLoad1 v228 h77) fun v229 h78 =>
  bndO (oBin .eql .none v229 v1 h78) fun v231 h80 =>
  ifB v231 (bndO (TryF12c [] h80) fun v234 h83 =>
  Out.nor (T.set (some v234) (Pos.of 4) fr) h83) (Out.nor (T.set (some (.bool false)) (Pos.of 4) fr) h80)) (Out.nor (T.set (some (.bool false)) (Pos.of 4) fr) h66)) (Out.nor (T.set (some (.bool false)) (Pos.of 4) fr) h55)) (Out.nor (T.set (some (.bool false)) (Pos.of 4) fr) h47)) (Out.nor (T.set (some (.bool false)) (Pos.of 4) fr) h36)) (Out.nor (T.set (some (.bool false)) (Pos.of 4) fr) h26)) (Out.nor (T.set (some (.bool false)) (Pos.of 4) fr) h18)) (Out.nor (T.set (some (.bool false)) (Pos.of 4) fr) h11)) (Out.nor (T.set (some (.bool false)) (Pos.of 4) fr) h4)
def Tryb7_5 : F → Hp → Out := (seqO (seqO Tryr7_5 (cndX (.tmp 25) Out.nor (Out.ex 0))) (seqO (blkO 1 (seqO (seqO Tryr7_7 (cndX (.tmp 37) (seqO Tryr7_8 Out.ret) Out.nor)) (seqO (seqO Tryr7_9 (cndX (.tmp 48) Tryr7_10 Out.nor)) Tryr7_11))) Tryr7_6))
def Tryb7_14 : F → Hp → Out := (seqO (seqO Tryr7_14 (cndX (.tmp 61) Out.nor (Out.ex 2))) (seqO (blkO 3 Tryr7_16) Tryr7_15))
def Tryb7_25 : F → Hp → Out := (seqO (seqO Tryr7_25 (cndX (.tmp 119) Out.nor (Out.ex 4))) (seqO (blkO 5 (seqO Tryr7_27 (cndX (.tmp 150) (seqO Tryr7_28 Out.ret) Out.nor))) Tryr7_26))
def Tryd7 : F → Hp → Out := (seqO Tryr7_0 (seqO (seqO Tryr7_1 (cndX (.tmp 20) (seqO Tryr7_2 Out.ret) Out.nor)) (seqO Tryr7_3 (seqO (seqO Tryr7_4 (blkO 0 (loopO Tryb7_5 lf))) (seqO Tryr7_12 (seqO (seqO Tryr7_13 (blkO 2 (loopO Tryb7_14 lf))) (seqO Tryr7_17 (seqO (seqO Tryr7_18 (cndX (.tmp 75) (seqO Tryr7_19 Out.ret) Out.nor)) (seqO Tryr7_20 (seqO (seqO Tryr7_21 (cndX (.tmp 107) (seqO Tryr7_22 Out.ret) Out.nor)) (seqO Tryr7_23 (seqO (seqO Tryr7_24 (blkO 4 (loopO Tryb7_25 lf))) (seqO Tryr7_29 Out.ret)))))))))))))
def Trye7 : FuncId → Option Fun := fun f => match Nat.beq f 12 with | true => some TryF12c | false => match Nat.beq f 19 with | true => some TryF19r | false => match Nat.beq f 13 with | true => some TryF13 | false => match Nat.beq f 16 with | true => some TryF16 | false => none
def Tryp7 : Plans := fun id => match Nat.beq id 27 with | true => some ([0, 1, 3, 7, 0, 16, 63, 127, 255, 511, 1023, 2047, 4095, 8191, 16383, 2047, 34815, 131071, 262143, 524287, 2047, 2047, 3147775, 7342079, 15730687, 32507903, 66062335, 134217727, 268435455], [(0, .pure), (1, .pure), (2, .pure), (3, .read 0), (4, .pure), (5, .pure), (6, .pure), (7, .pure), (8, .read 0), (9, .pure), (10, .pure), (20, .pure), (21, .pure), (22, .pure), (23, .read 0), (24, .pure), (25, .heavy), (11, .pure), (12, .pure), (13, .pure), (14, .read 1), (15, .pure), (16, .pure), (17, .pure), (18, .pure), (19, .read 1), (26, .pure), (27, .pure), (28, .pure)]) | false => none
def TryF7 : Fun := funX Try.prog 0 Tryk7 Trye7 Tryp7 lf Try.f7
theorem TryD7 : denX Try.prog 0 Try.f7.ntmps Tryk7 Trye7 Tryp7 lf (codeOf Try.f7) = Tryd7 := by kernel_rfl
theorem TryF7_eq (x0 x1 : V) (h : Hp) : TryF7 [x0, x1] h = outR Try.prog [.tmp 4] (Tryd7 (T.set (some x1) (Pos.of 1) (T.set (some x0) (Pos.of 0) T.nil)) h) := funX_eq (by kernel_rfl) TryD7 (by kernel_rfl) h
theorem Tryc7 : CallOk Try.prog 0 7 TryF7 := funX_ok Trymix (callsOk_cons Tryc12c (callsOk_cons Tryc19r (callsOk_cons Tryc13 (callsOk_cons Tryc16 callsOk_0)))) Try.func7 (by kernel_rfl)

end Go.Proofs.Ytgnfkfmhjgbhhaa

noncomputable section
namespace Go.Proofs.Ytgnfkfmhjgbhhaa
open Go Go.Proofs Go.Vm Go.Ln
set_option linter.unusedVariables false
set_option maxRecDepth 100000
set_option linter.unusedSimpArgs false
theorem Told.atK {P : Pos → Prop} {h : Hp} {v : V} {gs : List Ln.Got} (t : Told P h v gs) {k : Nat} {g : Ln.Got} (e : gs[k]? = some g) :
    ∃ j q vw, (∀ h', oIdxS 2 v (.int .i64 (k : Int)) h' = .ok (.ptr j q) h') ∧ (∀ h', Ch (fun _ => False) h h' → oLoad1 (.ptr j q) h' = .ok (.int .i64 g.kind) h' ∧ oLoad1 (.ptr j (q + 1)) h' = .ok vw h') ∧ WRow P h vw g.words ∧ eqV vw vw = true := by
  obtain ⟨cs, o, i, w⟩ := t
  have hk : k < gs.length := (List.getElem?_eq_some_iff.1 e).1
  obtain ⟨j, q, e1, hj, e2⟩ := o.sl.at hk
  obtain ⟨c0, vw, c1, w1⟩ := w.get e
  obtain ⟨cw, ow, -⟩ := id w1
  exact ⟨j, q, vw, e1, fun h' c => ⟨e2 h' (c.get j hj fun q => q) 0 _ (by omega) c0, e2 h' (c.get j hj fun q => q) 1 _ (by omega) c1⟩, w1, eqV_own ow⟩
theorem WRow.atK {P : Pos → Prop} {h : Hp} {v : V} {ws : Wds} (t : WRow P h v ws) {k : Nat} {w : Wd} (e : ws.get? k = some w) :
    ∃ j q, (∀ h', oIdxS 3 v (.int .i64 (k : Int)) h' = .ok (.ptr j q) h') ∧ ∀ h', Ch (fun _ => False) h h' → oLoad1 (.ptr j q) h' = .ok (.int .i64 w.kind) h' ∧ oLoad1 (.ptr j (q + 1)) h' = .ok (.str w.text) h' := by
  obtain ⟨cs, o, i, x⟩ := t
  have hk := Wds.get?_lt e
  obtain ⟨j, q, e1, hj, e2⟩ := o.sl.at hk
  obtain ⟨c0, c1, vk, c2, w1⟩ := WAt.get x e
  exact ⟨j, q, e1, fun h' c => ⟨e2 h' (c.get j hj fun q => q) 0 _ (by omega) c0, e2 h' (c.get j hj fun q => q) 1 _ (by omega) c1⟩⟩
/-- words in a row that is read -/
def WRowS (P : Pos → Prop) (h : Hp) (v : V) (ws : Wds) : Prop := ∃ b cs, Sl b h 3 v ws.len cs ∧ b ≤ h.next.nat ∧ (∀ j, idOf v = some j → P j) ∧ WAt P h ws cs
theorem WAt.dropW {P : Pos → Prop} {h : Hp} : ∀ {k : Nat} {ws : Wds} {cs : List V}, WAt P h ws cs → k ≤ ws.len → WAt P h (ws.drop k) (cs.drop (k * 3))
  | 0, ws, cs, w, _ => by rw [Nat.zero_mul, List.drop_zero]; exact w
  | k + 1, .nil, cs, w, hk => by simp [Wds.len] at hk
  | k + 1, .cons _ _ _ r, _, ⟨vk, ck, cr, e, o, p, x, y⟩, hk => by
    subst e
    have := WAt.dropW (k := k) y (by simp only [Wds.len] at hk; omega)
    rw [show (k + 1) * 3 = k * 3 + 3 by omega]
    exact this
theorem drop_len : ∀ (k : Nat) (ws : Wds), k ≤ ws.len → (ws.drop k).len = ws.len - k
  | 0, ws, _ => rfl
  | k + 1, .nil, h => by simp [Wds.len] at h
  | k + 1, .cons _ _ _ r, h => by
    simp only [Wds.len] at h ⊢
    rw [Wds.drop, drop_len k r (by omega)]
    omega
theorem WRow.from {P : Pos → Prop} {h : Hp} {v : V} {ws : Wds} (t : WRow P h v ws) {k : Nat} (hk : k ≤ ws.len) : ∃ u, (∀ h', oSlice 3 v (some (.int .i64 (k : Int))) none none h' = .ok u h') ∧ WRowS P h u (ws.drop k) := by
  obtain ⟨cs, o, i, x⟩ := t
  obtain ⟨u, u1, u2, -, u4⟩ := Sl.from o.sl (Own.capOk o) (by omega) hk
  refine ⟨u, u1, h.next.nat, cs.drop (k * 3), ?_, Nat.le_refl _, fun j hj => i j (u4 j hj), WAt.dropW x hk⟩
  rw [drop_len k ws hk]
  exact u2
theorem WRowS.ch {P P' S : Pos → Prop} {h h' : Hp} {v : V} {ws : Wds} (t : WRowS P h v ws) (c : Ch S h h') (hs : ∀ j : Pos, j.nat < h.next.nat → P j → P' j ∧ ¬ S j) : WRowS P' h' v ws := by
  obtain ⟨b, cs, o, hb, i, w⟩ := t
  exact ⟨b, cs, o.ch c hb fun j hj => (hs j (by have := o.idlt hj; omega) (i j hj)).2, Nat.le_trans hb c.next, fun j hj => (hs j (by have := o.idlt hj; omega) (i j hj)).1, w.ch c hs⟩
theorem WRowS.at {P : Pos → Prop} {h : Hp} {v : V} {ws : Wds} (t : WRowS P h v ws) {k : Nat} {w : Wd} (e : ws.get? k = some w) :
    ∃ j q vk, (∀ h', oIdxS 3 v (.int .i64 (k : Int)) h' = .ok (.ptr j q) h') ∧ oLoad1 (.ptr j q) h = .ok (.int .i64 w.kind) h ∧ oLoad1 (.ptr j (q + 1)) h = .ok (.str w.text) h ∧ oLoad1 (.ptr j (q + 2)) h = .ok vk h ∧ WRow P h vk w.kids := by
  obtain ⟨b, cs, o, hb, i, x⟩ := t
  have hk := Wds.get?_lt e
  obtain ⟨j, q, e1, -, e2⟩ := o.at hk
  obtain ⟨c0, c1, vk, c2, w1⟩ := WAt.get x e
  exact ⟨j, q, vk, e1, e2 h rfl 0 _ (by omega) c0, e2 h rfl 1 _ (by omega) c1, e2 h rfl 2 _ (by omega) c2, w1⟩
theorem oSliceStr_mid {s : List Nat} {m : Nat} {k k' : IntKind} {h : Hp} (hm : m < s.length) : oSliceStr (.str s) (some (.int k (m : Int))) (some (.int k' ((m + 1 : Nat) : Int))) h = .ok (.str [s[m]]) h := by
  show (match Nat.ble (m + 1) s.length, Nat.ble m (m + 1) with | true, true => R.ok (V.str (takeN (m + 1 - m) (dropN m s))) h | _, _ => .bad) = _
  rw [Nat.ble_eq_true_of_le hm, Nat.ble_eq_true_of_le (Nat.le_succ m), takeN_eq, dropN_eq]
  simp only []
  rw [List.drop_eq_getElem_cons hm, show m + 1 - m = 1 by omega]
  rfl
def Rest7 : F → Hp → Out := (seqO Tryr7_12 (seqO (seqO Tryr7_13 (blkO 2 (loopO Tryb7_14 lf))) (seqO Tryr7_17 (seqO (seqO Tryr7_18 (cndX (.tmp 75) (seqO Tryr7_19 Out.ret) Out.nor)) (seqO Tryr7_20 (seqO (seqO Tryr7_21 (cndX (.tmp 107) (seqO Tryr7_22 Out.ret) Out.nor)) (seqO Tryr7_23 (seqO (seqO Tryr7_24 (blkO 4 (loopO Tryb7_25 lf))) (seqO Tryr7_29 Out.ret)))))))))
theorem words_end {l t : List Nat} {v0 v10 v11 vw : V} {P : Pos → Prop} {g : Hp} (w11 : WRowS P g v11 (tailW t)) {fr : F} (f1 : fr.get (Pos.of 1) = some (.str t)) (f11 : fr.get (Pos.of 11) = some v11) :
    Tells Try.prog [.tmp 4] (fun v _ => v = .bool true) ((seqO Tryr7_29 Out.ret) fr g) := by
  obtain ⟨j0, q0, -, a1, a2, a3, -, -⟩ := w11.at (k := 0) (w := ⟨2, t, .nil⟩) rfl
  obtain ⟨j1, q1, u1, b1, b2, -, b4, b5⟩ := w11.at (k := 1) (w := ⟨3, [], .cons 3 [] .nil .nil⟩) rfl
  obtain ⟨j2, q2, u2, c1, -, -, c4, c5⟩ := w11.at (k := 2) (w := ⟨3, [], .cons 1 [97] .nil (.cons 3 [] (.cons 1 [98] .nil (.cons 2 t .nil .nil)) .nil)⟩) rfl
  obtain ⟨j3, q3, u3, d1, d2, -, d4, d5⟩ := WRow.at b5 (k := 0) (w := ⟨3, [], .nil⟩) rfl
  obtain ⟨j4, q4, u4, e1, -, -, e4, e5⟩ := WRow.at c5 (k := 1) (w := ⟨3, [], .cons 1 [98] .nil (.cons 2 t .nil .nil)⟩) rfl
  obtain ⟨j5, q5, u5, i1, i2, i3, -, -⟩ := WRow.at e5 (k := 1) (w := ⟨2, t, .nil⟩) rfl
  replace a1 : ∀ h', oIdxS 3 v11 (.int .i64 0) h' = .ok (.ptr j0 q0) h' := a1
  replace b1 : ∀ h', oIdxS 3 v11 (.int .i64 1) h' = .ok (.ptr j1 q1) h' := b1
  replace c1 : ∀ h', oIdxS 3 v11 (.int .i64 2) h' = .ok (.ptr j2 q2) h' := c1
  replace d1 : ∀ h', oIdxS 3 u1 (.int .i64 0) h' = .ok (.ptr j3 q3) h' := d1
  replace e1 : ∀ h', oIdxS 3 u2 (.int .i64 1) h' = .ok (.ptr j4 q4) h' := e1
  replace i1 : ∀ h', oIdxS 3 u4 (.int .i64 1) h' = .ok (.ptr j5 q5) h' := i1
  have n1 : ∀ h', oLenK 2 u1 h' = .ok (.int .i64 1) h' := fun h' => WRow.len b5 h'
  have n2 : ∀ h', oLenK 2 u3 h' = .ok (.int .i64 0) h' := fun h' => WRow.len d5 h'
  have n3 : ∀ h', oLenK 2 u2 h' = .ok (.int .i64 2) h' := fun h' => WRow.len c5 h'
  have n4 : ∀ h', oLenK 2 u4 h' = .ok (.int .i64 2) h' := fun h' => WRow.len e5 h'
  simp (disch := omega) only [seqO_eq, thenO_nor, gtO_some, bndO_ok, ifB_true, oBin_eql, oFieldAddr_eq, oBin_str_eql, decide_true, Tryr7_29, f1, f11, a1, Nat.add_zero, a2, a3, b1, b2, b4, n1, d1, d2, d4, n2, c1, c4, n3, e1, e4, n4, i1, i3, awake_eq]
  exact Tells.ret (by simp only [resK, get_set_of, ↓reduceIte, tupR] <;> rfl) rfl
theorem words_rest {l t : List Nat} {c : Nat} {v0 : V} {h : Hp} (s : Sl c h 1 v0 l.length (bys l)) (hc : c ≤ h.next.nat) (l256 : ∀ x ∈ l, x < 256) (hl : l.length ≤ 100) (ht : t.length ≤ 300) (t256 : ∀ x ∈ t, x < 256) (h10 : ∀ c ∈ t, c ≠ 10 ∧ c ≠ 13)
    {fr : F} (f0 : fr.get (Pos.of 0) = some v0) (f1 : fr.get (Pos.of 1) = some (.str t)) (f5 : fr.get (Pos.of 5) = some (.str (34 :: escM t))) : Tells Try.prog [.tmp 4] (fun v _ => v = .bool true) (Rest7 fr h) := by
  simp (disch := omega) only [seqO_eq, thenO_nor, blkO_eq, Rest7, Tryr7_12, Tryr7_13]
  refine Oc.then (loop_rule (n := l.length) (fun m fr g => ∃ i : Nat, fr.get (Pos.of 0) = some v0 ∧ fr.get (Pos.of 1) = some (.str t) ∧ fr.get (Pos.of 5) = some (.str (34 :: escM t)) ∧ fr.get (Pos.of 7) = some (.str ([116] ++ atomsM (l.take i))) ∧ fr.get (Pos.of 8) = some (.int .i64 (i : Int)) ∧ i + m = l.length ∧ Ch (fun _ => False) h g)
    (A := fun fr g => fr.get (Pos.of 0) = some v0 ∧ fr.get (Pos.of 1) = some (.str t) ∧ fr.get (Pos.of 5) = some (.str (34 :: escM t)) ∧ fr.get (Pos.of 7) = some (.str ([116] ++ atomsM l)) ∧ Ch (fun _ => False) h g) (B := fun _ _ => False) (by rw [lf_eq]; omega) ?_ ?_) ?_ ?_
  · exact ⟨0, by simp only [get_set_of, reduceCtorEq, ↓reduceIte, f0], by simp only [get_set_of, Nat.reduceEqDiff, ↓reduceIte, f1], by simp only [get_set_of, Nat.reduceEqDiff, ↓reduceIte, f5], by simp only [get_set_of, Nat.reduceEqDiff, ↓reduceIte]; rfl, by simp only [get_set_of, ↓reduceIte]; rfl, by omega, Ch.refl _ _⟩
  · rintro m fr g ⟨i, f0, f1, f5, f7, f8, hi, ch⟩
    by_cases hlt : i < l.length
    · have hlt' : (i : Int) < (l.length : Int) := by omega
      obtain ⟨j, p, x, hx, e1, hj, e2⟩ := s.at1 hlt
      have hx' : x = .int .u8 ((l[i] : Nat) : Int) := by
        rw [bys, List.getElem?_map, List.getElem?_eq_getElem hlt] at hx
        cases hx; rfl
      subst hx'
      have e2' := e2 g (ch.get j (by omega) (fun q => q))
      have hbi := l256 l[i] (List.getElem_mem hlt)
      obtain ⟨g1, d1, c1⟩ := dig_r g (n := l[i]) (by omega)
      have la := atomsM_len (l.take i)
      have lt := List.length_take_le i l
      have ld := digM_len l[i]
      have m1 : ∀ h, oBin .add .none (.str ([116] ++ atomsM (l.take i))) (.str [32, 97]) h = .ok (.str ([116] ++ atomsM (l.take i) ++ [32, 97])) h := fun h => oBin_str_add (by simp only [List.length_append, List.length_cons, List.length_nil]; omega)
      have m2 : ∀ h, oBin .add .none (.str ([116] ++ atomsM (l.take i) ++ [32, 97])) (.str (digM l[i])) h = .ok (.str ([116] ++ atomsM (l.take i) ++ [32, 97] ++ digM l[i])) h := fun h => oBin_str_add (by simp only [List.length_append, List.length_cons, List.length_nil]; omega)
      have e3 : [116] ++ atomsM (l.take i) ++ [32, 97] ++ digM l[i] = [116] ++ atomsM (l.take (i + 1)) := by
        rw [List.take_succ_eq_append_getElem hlt, atomsM_append]
        simp [atomsM]
      simp (disch := omega) only [seqO_eq, thenO_nor, gtO_some, bndO_ok, get_set_of, cndX_tmp, ifB_true, blkO_eq, blkX_nor, Nat.reduceEqDiff, reduceCtorEq, ↓reduceIte, oBin_add, oBin_lss, oConvInt_i64, decide_true, Tryb7_14, Tryr7_14, Tryr7_16, Tryr7_15, f0, f7, f8, s.length, hlt', m1, e1, e2', d1, m2]
      exact ⟨m - 1, by omega, i + 1, by simp only [get_set_of, reduceCtorEq, ↓reduceIte, f0], by simp only [get_set_of, Nat.reduceEqDiff, ↓reduceIte, f1], by simp only [get_set_of, Nat.reduceEqDiff, ↓reduceIte, f5], by simp only [get_set_of, Nat.reduceEqDiff, ↓reduceIte, e3], by simp only [get_set_of, ↓reduceIte]; rfl, by omega, ch.trans c1 fun _ _ q => q⟩
    · have hlt' : ¬ (i : Int) < (l.length : Int) := by omega
      simp (disch := omega) only [seqO_eq, thenO_nor, thenO_ex, gtO_some, bndO_ok, get_set_of, cndX_tmp, ifB_false, ↓reduceIte, oBin_lss, decide_false, Tryb7_14, Tryr7_14, f0, f8, s.length, hlt']
      refine ⟨rfl, by simp only [get_set_of, reduceCtorEq, ↓reduceIte, f0], by simp only [get_set_of, Nat.reduceEqDiff, ↓reduceIte, f1], by simp only [get_set_of, Nat.reduceEqDiff, ↓reduceIte, f5], ?_, ch⟩
      simp only [get_set_of, Nat.reduceEqDiff, ↓reduceIte, f7]
      rw [List.take_of_length_le (by omega)]
  · rintro fr g ⟨f0, f1, f5, f7, ch⟩
    have la := atomsM_len l
    have le := escM_len t
    obtain ⟨g1, n1, a1, c1, -⟩ := new_ok 10 g
    have hmax : max (10 : Int) 1 = 10 := rfl
    rw [hmax] at a1
    have k0 : RdOk 10 0 {} := RdOk.fresh (by decide) (by decide) (Nat.zero_le _)
    obtain ⟨A, hA⟩ : ∃ A, A = [116] ++ atomsM l := ⟨_, rfl⟩
    obtain ⟨Q, hQ⟩ : ∃ Q, Q = 34 :: escM t := ⟨_, rfl⟩
    have lA : A.length ≤ 701 := by rw [hA]; simp only [List.length_append, List.length_cons, List.length_nil]; omega
    have lQ : Q.length ≤ 601 := by rw [hQ]; simp only [List.length_cons]; omega
    rw [← hA] at f7
    rw [← hQ] at f5
    have m1 : ∀ h, oBin .add .none (.str A) (.str [32]) h = .ok (.str (A ++ [32])) h := fun h => oBin_str_add (by simp only [List.length_cons, List.length_nil]; omega)
    have m2 : ∀ h, oBin .add .none (.str (A ++ [32])) (.str Q) h = .ok (.str (A ++ [32] ++ Q)) h := fun h => oBin_str_add (by simp only [List.length_append, List.length_cons, List.length_nil]; omega)
    have m3 : ∀ h, oBin .add .none (.str (A ++ [32] ++ Q)) (.str [34, 32, 40, 40, 41, 41, 32, 40, 97, 32, 40, 98, 32]) h = .ok (.str (A ++ [32] ++ Q ++ [34, 32, 40, 40, 41, 41, 32, 40, 97, 32, 40, 98, 32])) h := fun h => oBin_str_add (by simp only [List.length_append, List.length_cons, List.length_nil]; omega)
    have m4 : ∀ h, oBin .add .none (.str (A ++ [32] ++ Q ++ [34, 32, 40, 40, 41, 41, 32, 40, 97, 32, 40, 98, 32])) (.str Q) h = .ok (.str (A ++ [32] ++ Q ++ [34, 32, 40, 40, 41, 41, 32, 40, 97, 32, 40, 98, 32] ++ Q)) h := fun h => oBin_str_add (by simp only [List.length_append, List.length_cons, List.length_nil]; omega)
    obtain ⟨S, hS⟩ : ∃ S, S = A ++ [32] ++ Q ++ [34, 32, 40, 40, 41, 41, 32, 40, 97, 32, 40, 98, 32] ++ Q ++ [34, 41, 41, 13, 10] := ⟨_, rfl⟩
    have lS : S.length ≤ 2000 := by rw [hS]; simp only [List.length_append, List.length_cons, List.length_nil]; omega
    have m5 : ∀ h, oBin .add .none (.str (A ++ [32] ++ Q ++ [34, 32, 40, 40, 41, 41, 32, 40, 97, 32, 40, 98, 32] ++ Q)) (.str [34, 41, 41, 13, 10]) h = .ok (.str S) h := fun h => by rw [hS]; exact oBin_str_add (by simp only [List.length_append, List.length_cons, List.length_nil]; omega)
    have b1 := oStrBytes_ok (h := g1) (s := S) (by omega)
    have eS : S = wordsS l t ++ eol true := by
      rw [hS, hA, hQ]; unfold wordsS tailS eol; simp
    have S256 : ∀ x ∈ S, x < 256 := fun x hx => by
      rw [eS] at hx
      rcases List.mem_append.1 hx with hx | hx
      · unfold wordsS at hx
        rcases List.mem_append.1 hx with hx | hx
        · rw [List.mem_singleton.1 hx]; decide
        · rcases List.mem_append.1 hx with hx | hx
          · have := atomsM_mem hx; omega
          · rcases List.mem_cons.1 hx with hx | hx
            · omega
            · rcases tailS_mem x hx with hx | hx
              · omega
              · exact t256 x hx
      · have : ∀ x ∈ eol true, x < 256 := by decide
        exact this x hx
    obtain ⟨v10, g2, vt, vl, vn, vq, e10, x2, p2, t2⟩ := feed_s (by decide) a1 k0 (s := S) (by omega) S256
    rw [eS, words_feed hl ht h10] at t2
    have l10 : ∀ h', oLenK 2 v10 h' = .ok (.int .i64 1) h' := t2.len
    obtain ⟨j, q, vw, x1, x3, x4, x5⟩ := t2.atK (k := 0) (g := ⟨1, wordsW l t⟩) rfl
    replace x1 : ∀ h', oIdxS 2 v10 (.int .i64 0) h' = .ok (.ptr j q) h' := x1
    have x30 := x3 g2 (Ch.refl _ _)
    have lw : ∀ h', oLenK 2 vw h' = .ok (.int .i64 ((l.length + 4 : Nat) : Int)) h' := fun h' => by
      rw [show l.length + 4 = (wordsW l t).len by unfold wordsW; rw [Wds.len, atomsW_len]; rfl]
      exact WRow.len x4 h'
    have c02 : Ch (fun _ => False) h g2 := ⟨by have := ch.next; have := c1.next; have := p2.ch.next; omega, fun j hj hn => by
      have := ch.next
      have := c1.next
      rw [p2.ch.get j (by omega) (fun q => by have := RdF0 q; have := congrArg Pos.nat this; omega), c1.get j (by omega) hn, ch.get j hj hn]⟩
    obtain ⟨v11, u1, u2⟩ := WRow.from x4 (k := l.length + 1) (by show l.length + 1 ≤ (wordsW l t).len; unfold wordsW; rw [Wds.len, atomsW_len]; show _ ≤ l.length + 3 + 1; omega)
    rw [show (⟨1, wordsW l t⟩ : Ln.Got).words.drop (l.length + 1) = tailW t from atomsW_drop l (tailW t)] at u2
    have hn4 : ((l.length : Int) + 4) = ((l.length + 4 : Nat) : Int) := by omega
    have hn1 : ((l.length : Int) + 1) = ((l.length + 1 : Nat) : Int) := by omega
    simp (disch := omega) only [seqO_eq, thenO_nor, gtO_some, bndO_ok, get_set_of, cndX_tmp, ifB_false, blkO_eq, Nat.reduceEqDiff, reduceCtorEq, ↓reduceIte, oBin_add, oBin_neq, oFieldAddr_eq, decide_false, ne_eq, not_true, Tryr7_17, Tryr7_18, Tryr7_20, Tryr7_21, Tryr7_23, Tryr7_24, f0, f5, f7, n1, nilcmp, m1, m2, m3, m4, m5, b1, e10, l10, x1, Nat.add_zero, x30.1, x30.2, lw, s.length, hn4, hn1, u1]
    refine Oc.then (loop_rule (n := l.length) (fun m fr g => ∃ i : Nat, fr.get (Pos.of 0) = some v0 ∧ fr.get (Pos.of 1) = some (.str t) ∧ fr.get (Pos.of 10) = some v10 ∧ fr.get (Pos.of 11) = some v11 ∧ fr.get (Pos.of 12) = some (.int .i64 (i : Int)) ∧ i + m = l.length ∧ Ch (fun _ => False) g2 g)
      (A := fun fr g => fr.get (Pos.of 1) = some (.str t) ∧ fr.get (Pos.of 11) = some v11 ∧ Ch (fun _ => False) g2 g) (B := fun _ _ => False) (by rw [lf_eq]; omega) ?_ ?_) ?_ ?_
    · exact ⟨0, by simp only [get_set_of, reduceCtorEq, ↓reduceIte, f0], by simp only [get_set_of, Nat.reduceEqDiff, ↓reduceIte, f1], by simp only [get_set_of, Nat.reduceEqDiff, ↓reduceIte], by simp only [get_set_of, Nat.reduceEqDiff, ↓reduceIte], by simp only [get_set_of, ↓reduceIte]; rfl, by omega, Ch.refl _ _⟩
    · rintro m fr g3 ⟨i, f0, f1, f10, f11, f12, hi, c3⟩
      by_cases hlt : i < l.length
      · have hlt' : (i : Int) < (l.length : Int) := by omega
        have c03 := c02.trans c3 fun _ _ q => q
        obtain ⟨j', p, x, hx, e1, hj, e2⟩ := s.at1 hlt
        have hx' : x = .int .u8 ((l[i] : Nat) : Int) := by
          rw [bys, List.getElem?_map, List.getElem?_eq_getElem hlt] at hx
          cases hx; rfl
        subst hx'
        have e2' := e2 g3 (c03.get j' (by omega) (fun q => q))
        have hbi := l256 l[i] (List.getElem_mem hlt)
        have hz : (i : Int) + 1 = ((i + 1 : Nat) : Int) := by omega
        obtain ⟨j2, q2, y1, y2⟩ := WRow.atK x4 (k := i + 1) (w := ⟨1, 97 :: digM l[i], .nil⟩) (atomsW_get (List.getElem?_eq_getElem hlt))
        obtain ⟨g4, d1, c4⟩ := dig_r g3 (n := l[i]) (by omega)
        have c24 := c3.trans c4 fun _ _ q => q
        have x33 := x3 g3 c3
        have x34 := x3 g4 c24
        have y23 := y2 g3 c3
        have y24 := y2 g4 c24
        have k1 : ∀ k, chk (fun h => oLoad1 (.ptr j (q + 1)) h) vw k 1 [g3] = k := fun k => chk_one x33.2 x5
        have k2 : ∀ k, chk (fun h => oLoad1 (.ptr j2 (q2 + 1)) h) (.str (97 :: digM l[i])) k 1 [g3] = k := fun k => chk_one y23.2 (eqV_str _)
        have ld := digM_len l[i]
        have m6 : ∀ h, oBin .add .none (.str [97]) (.str (digM l[i])) h = .ok (.str (97 :: digM l[i])) h := fun h => oBin_str_add (by simp only [List.length_cons, List.length_nil]; omega)
        simp (disch := omega) only [seqO_eq, thenO_nor, gtO_some, bndO_ok, get_set_of, cndX_tmp, ifB_true, ifB_false, blkO_eq, blkX_nor, Nat.reduceEqDiff, reduceCtorEq, ↓reduceIte, oBin_add, oBin_neq, oBin_lss, oFieldAddr_eq, oConvInt_i64, bumpH_zero, oBin_str_neq, bumpH_zero, decide_true, decide_false, ne_eq, not_true, Tryb7_25, Tryr7_25, Tryr7_27, Tryr7_26, f0, f10, f12, s.length, hlt', x1, x33.2, hz, y1, Nat.add_zero, y23.1, e1, e2', d1, x34.2, k1, y24.2, k2, m6]
        exact ⟨m - 1, by omega, i + 1, by simp only [get_set_of, reduceCtorEq, ↓reduceIte, f0], by simp only [get_set_of, Nat.reduceEqDiff, ↓reduceIte, f1], by simp only [get_set_of, Nat.reduceEqDiff, ↓reduceIte, f10], by simp only [get_set_of, Nat.reduceEqDiff, ↓reduceIte, f11], by simp only [get_set_of, ↓reduceIte], by omega, c24⟩
      · have hlt' : ¬ (i : Int) < (l.length : Int) := by omega
        simp (disch := omega) only [seqO_eq, thenO_nor, thenO_ex, gtO_some, bndO_ok, get_set_of, cndX_tmp, ifB_false, ↓reduceIte, oBin_lss, decide_false, Tryb7_25, Tryr7_25, f0, f12, s.length, hlt']
        exact ⟨rfl, by simp only [get_set_of, Nat.reduceEqDiff, ↓reduceIte, f1], by simp only [get_set_of, Nat.reduceEqDiff, ↓reduceIte, f11], c3⟩
    · rintro fr g3 ⟨f1, f11, c3⟩
      exact words_end (l := l) (v0 := v0) (v10 := v10) (vw := vw) (u2.ch (P' := fun _ => True) c3 fun _ _ _ => ⟨trivial, fun q => q⟩) f1 f11
    · rintro fr g3 q
      exact q.elim
  · rintro fr g q
    exact q.elim
theorem words_law_ok {l t : List Nat} {c : Nat} {v0 : V} {h : Hp} (s : Sl c h 1 v0 l.length (bys l)) (hc : c ≤ h.next.nat) (l256 : ∀ x ∈ l, x < 256) (hlen : l.length < 9223372036854775808) (tlen : t.length < 9223372036854775808) (t256 : ∀ x ∈ t, x < 256) : ∃ h', TryF7 [v0, .str t] h = .ok (.bool true) h' := by
  suffices hs : Tells Try.prog [.tmp 4] (fun v _ => v = .bool true) (Tryd7 (T.set (some (.str t)) (Pos.of 1) (T.set (some v0) (Pos.of 0) T.nil)) h) by
    rw [TryF7_eq]
    obtain ⟨r, h', e, rfl⟩ := hs
    exact ⟨h', e⟩
  by_cases h100 : l.length > 100
  · have h100' : (l.length : Int) > 100 := by omega
    simp (disch := omega) only [seqO_eq, thenO_nor, thenO_ret, gtO_some, bndO_ok, get_set_of, cndX_tmp, ifB_true, Nat.reduceEqDiff, Nat.zero_ne_one, reduceCtorEq, ↓reduceIte, oBin_gtr, oLenK_str, decide_true, Tryd7, Tryr7_0, Tryr7_1, Tryr7_2, s.length, h100', awake_eq]
    exact Tells.ret (by simp only [resK, get_set_of, ↓reduceIte, tupR] <;> rfl) rfl
  have h100' : ¬ (l.length : Int) > 100 := by omega
  by_cases h300 : t.length > 300
  · have h300' : (t.length : Int) > 300 := by omega
    simp (disch := omega) only [seqO_eq, thenO_nor, thenO_ret, gtO_some, bndO_ok, get_set_of, cndX_tmp, ifB_true, ifB_false, Nat.reduceEqDiff, Nat.zero_ne_one, reduceCtorEq, ↓reduceIte, oBin_gtr, oLenK_str, decide_true, decide_false, Tryd7, Tryr7_0, Tryr7_1, Tryr7_2, s.length, h100', h300', awake_eq]
    exact Tells.ret (by simp only [resK, get_set_of, ↓reduceIte, tupR] <;> rfl) rfl
  have h300' : ¬ (t.length : Int) > 300 := by omega
  simp (disch := omega) only [seqO_eq, thenO_nor, gtO_some, bndO_ok, get_set_of, cndX_tmp, ifB_false, blkO_eq, Nat.reduceEqDiff, Nat.zero_ne_one, reduceCtorEq, ↓reduceIte, oBin_gtr, oLenK_str, decide_false, Tryd7, Tryr7_0, Tryr7_1, Tryr7_3, Tryr7_4, s.length, h100', h300']
  refine Oc.then (loop_rule (n := t.length) (fun m fr g => ∃ i : Nat, fr.get (Pos.of 0) = some v0 ∧ fr.get (Pos.of 1) = some (.str t) ∧ fr.get (Pos.of 5) = some (.str (34 :: escM (t.take i))) ∧ fr.get (Pos.of 6) = some (.int .i64 (i : Int)) ∧ i + m = t.length ∧ g = h ∧ (∀ c ∈ t.take i, c ≠ 10 ∧ c ≠ 13))
    (A := fun fr g => fr.get (Pos.of 0) = some v0 ∧ fr.get (Pos.of 1) = some (.str t) ∧ fr.get (Pos.of 5) = some (.str (34 :: escM t)) ∧ g = h ∧ (∀ c ∈ t, c ≠ 10 ∧ c ≠ 13)) (B := fun fr _ => fr.get (Pos.of 4) = some (.bool true)) (by rw [lf_eq]; omega) ?_ ?_) ?_ ?_
  · exact ⟨0, by simp only [get_set_of, Nat.zero_ne_one, reduceCtorEq, ↓reduceIte], by simp only [get_set_of, Nat.reduceEqDiff, ↓reduceIte], by simp only [get_set_of, Nat.reduceEqDiff, ↓reduceIte]; rfl, by simp only [get_set_of, ↓reduceIte]; rfl, by omega, rfl, fun c hc => by simp at hc⟩
  · rintro m fr g ⟨i, f0, f1, f5, f6, hi, rfl, h10⟩
    by_cases hlt : i < t.length
    · have hlt' : (i : Int) < (t.length : Int) := by omega
      have ix : ∀ h', oIdxStr (.str t) (.int .i64 (i : Int)) h' = .ok (.int .u8 (t[i] : Int)) h' := fun h' => oIdxStr_ok (List.getElem?_eq_getElem hlt)
      by_cases h1 : t[i] = 10
      · have h1' : (t[i] : Int) = 10 := by omega
        simp (disch := omega) only [seqO_eq, thenO_nor, thenO_ret, gtO_some, bndO_ok, get_set_of, cndX_tmp, ifB_true, blkO_eq, blkX_ret, Nat.reduceEqDiff, ↓reduceIte, oBin_eql, oBin_lss, oLenK_str, decide_true, ne_eq, Tryb7_5, Tryr7_5, Tryr7_7, Tryr7_8, f1, f6, hlt', ix, eq_true h1', awake_eq]
        show _ = _
        simp only [get_set_of, ↓reduceIte]
      · have h1' : ¬ (t[i] : Int) = 10 := by omega
        by_cases h2 : t[i] = 13
        · have h2' : (t[i] : Int) = 13 := by omega
          simp (disch := omega) only [seqO_eq, thenO_nor, thenO_ret, gtO_some, bndO_ok, get_set_of, cndX_tmp, ifB_true, ifB_false, blkO_eq, blkX_ret, Nat.reduceEqDiff, ↓reduceIte, oBin_eql, oBin_lss, oLenK_str, decide_true, decide_false, ne_eq, Tryb7_5, Tryr7_5, Tryr7_7, Tryr7_8, f1, f6, hlt', ix, h1', eq_true h2', awake_eq]
          show _ = _
          simp only [get_set_of, ↓reduceIte]
        · have h2' : ¬ (t[i] : Int) = 13 := by omega
          have le := escM_len (t.take i)
          have lt := List.length_take_le i t
          have hz : (i : Int) + 1 = ((i + 1 : Nat) : Int) := by omega
          have sm := fun h => oSliceStr_mid (k := .i64) (k' := .i64) (h := h) hlt
          have h10' : ∀ c ∈ t.take (i + 1), c ≠ 10 ∧ c ≠ 13 := fun c hc => by
            rw [List.take_succ_eq_append_getElem hlt] at hc
            rcases List.mem_append.1 hc with hc | hc
            · exact h10 c hc
            · rw [List.mem_singleton.1 hc]; exact ⟨h1, h2⟩
          by_cases he : t[i] = 34 ∨ t[i] = 92
          · have e3 : (34 :: escM (t.take i)) ++ [92] ++ [t[i]] = 34 :: escM (t.take (i + 1)) := by
              rw [List.take_succ_eq_append_getElem hlt, escM_append]
              simp [escM, if_pos he]
            have m1 : ∀ h, oBin .add .none (.str (34 :: escM (t.take i))) (.str [92]) h = .ok (.str ((34 :: escM (t.take i)) ++ [92])) h := fun h => oBin_str_add (by simp only [List.length_cons, List.length_nil]; omega)
            have m2 : ∀ h, oBin .add .none (.str ((34 :: escM (t.take i)) ++ [92])) (.str [t[i]]) h = .ok (.str (34 :: escM (t.take (i + 1)))) h := fun h => by rw [← e3]; exact oBin_str_add (by simp only [List.length_append, List.length_cons, List.length_nil]; omega)
            by_cases h34 : t[i] = 34
            · have h34' : (t[i] : Int) = 34 := by omega
              simp (disch := omega) only [seqO_eq, thenO_nor, gtO_some, bndO_ok, get_set_of, cndX_tmp, ifB_true, ifB_false, blkO_eq, blkX_nor, Nat.reduceEqDiff, ↓reduceIte, oBin_add, oBin_eql, oBin_lss, oLenK_str, decide_true, decide_false, ne_eq, Tryb7_5, Tryr7_5, Tryr7_7, Tryr7_9, Tryr7_10, Tryr7_11, Tryr7_6, f1, f5, f6, hlt', ix, h1', h2', eq_true h34', m1, hz, sm, m2]
              exact ⟨m - 1, by omega, i + 1, by simp only [get_set_of, reduceCtorEq, ↓reduceIte, f0], by simp only [get_set_of, Nat.reduceEqDiff, ↓reduceIte, f1], by simp only [get_set_of, Nat.reduceEqDiff, ↓reduceIte], by simp only [get_set_of, ↓reduceIte], by omega, rfl, h10'⟩
            · have h34' : ¬ (t[i] : Int) = 34 := by omega
              have h92' : (t[i] : Int) = 92 := by omega
              simp (disch := omega) only [seqO_eq, thenO_nor, gtO_some, bndO_ok, get_set_of, cndX_tmp, ifB_true, ifB_false, blkO_eq, blkX_nor, Nat.reduceEqDiff, ↓reduceIte, oBin_add, oBin_eql, oBin_lss, oLenK_str, decide_true, decide_false, ne_eq, Tryb7_5, Tryr7_5, Tryr7_7, Tryr7_9, Tryr7_10, Tryr7_11, Tryr7_6, f1, f5, f6, hlt', ix, h1', h2', h34', eq_true h92', m1, hz, sm, m2]
              exact ⟨m - 1, by omega, i + 1, by simp only [get_set_of, reduceCtorEq, ↓reduceIte, f0], by simp only [get_set_of, Nat.reduceEqDiff, ↓reduceIte, f1], by simp only [get_set_of, Nat.reduceEqDiff, ↓reduceIte], by simp only [get_set_of, ↓reduceIte], by omega, rfl, h10'⟩
          · have h34' : ¬ (t[i] : Int) = 34 := by omega
            have h92' : ¬ (t[i] : Int) = 92 := by omega
            have e3 : (34 :: escM (t.take i)) ++ [t[i]] = 34 :: escM (t.take (i + 1)) := by
              rw [List.take_succ_eq_append_getElem hlt, escM_append]
              simp [escM, if_neg he]
            have m2 : ∀ h, oBin .add .none (.str (34 :: escM (t.take i))) (.str [t[i]]) h = .ok (.str (34 :: escM (t.take (i + 1)))) h := fun h => by rw [← e3]; exact oBin_str_add (by simp only [List.length_cons, List.length_nil]; omega)
            simp (disch := omega) only [seqO_eq, thenO_nor, gtO_some, bndO_ok, get_set_of, cndX_tmp, ifB_true, ifB_false, blkO_eq, blkX_nor, Nat.reduceEqDiff, ↓reduceIte, oBin_add, oBin_eql, oBin_lss, oLenK_str, decide_true, decide_false, ne_eq, Tryb7_5, Tryr7_5, Tryr7_7, Tryr7_9, Tryr7_11, Tryr7_6, f1, f5, f6, hlt', ix, h1', h2', h34', h92', hz, sm, m2]
            exact ⟨m - 1, by omega, i + 1, by simp only [get_set_of, reduceCtorEq, ↓reduceIte, f0], by simp only [get_set_of, Nat.reduceEqDiff, ↓reduceIte, f1], by simp only [get_set_of, Nat.reduceEqDiff, ↓reduceIte], by simp only [get_set_of, ↓reduceIte], by omega, rfl, h10'⟩
    · have hlt' : ¬ (i : Int) < (t.length : Int) := by omega
      simp (disch := omega) only [seqO_eq, thenO_nor, thenO_ex, gtO_some, bndO_ok, get_set_of, cndX_tmp, ifB_false, ↓reduceIte, oBin_lss, oLenK_str, decide_false, ne_eq, Tryb7_5, Tryr7_5, f1, f6, hlt']
      rw [List.take_of_length_le (by omega)] at f5 h10
      exact ⟨rfl, by simp only [get_set_of, reduceCtorEq, ↓reduceIte, f0], by simp only [get_set_of, Nat.reduceEqDiff, ↓reduceIte, f1], by simp only [get_set_of, Nat.reduceEqDiff, ↓reduceIte, f5], rfl, h10⟩
  · rintro fr g ⟨f0, f1, f5, rfl, h10⟩
    exact words_rest s hc l256 (by omega) (by omega) t256 h10 f0 f1 f5
  · rintro fr g f4
    exact Tells.ret (by simp only [resK, f4, tupR] <;> rfl) rfl
end Go.Proofs.Ytgnfkfmhjgbhhaa
