/- Part of the value machine, or of a walk by it: lemmas that the claim's last text uses. No conditions. -/
import Derived.Test.YtgnfkfmhjgbhhaaChecked
import Derived.KernelRfl
import Derived.Test.YtgnfkfmhjgbhhaaLinePassA
import Derived.Test.YtgnfkfmhjgbhhaaLineC
set_option linter.unusedVariables false
set_option linter.unusedSimpArgs false
set_option linter.unnecessarySimpa false
noncomputable section
namespace Go.Proofs.Ytgnfkfmhjgbhhaa
open Go Go.Proofs Go.Vm Go.Ln
set_option linter.unusedVariables false
set_option maxRecDepth 100000
set_option linter.unusedSimpArgs false
/-- what was told, in a row that is read -/
def ToldS (P : Pos → Prop) (h : Hp) (v : V) (gs : List Ln.Got) : Prop := ∃ b cs, Sl b h 2 v gs.length cs ∧ b ≤ h.next.nat ∧ (∀ j, idOf v = some j → P j) ∧ GAt P h gs cs
theorem Told.s {P : Pos → Prop} {h : Hp} {v : V} {gs : List Ln.Got} (t : Told P h v gs) : ToldS P h v gs := by
  obtain ⟨cs, o, i, w⟩ := t
  exact ⟨h.next.nat, cs, o.sl, Nat.le_refl _, i, w⟩
theorem ToldS.ch {P P' S : Pos → Prop} {h h' : Hp} {v : V} {gs : List Ln.Got} (t : ToldS P h v gs) (c : Ch S h h') (hs : ∀ j : Pos, j.nat < h.next.nat → P j → P' j ∧ ¬ S j) : ToldS P' h' v gs := by
  obtain ⟨b, cs, o, hb, i, w⟩ := t
  exact ⟨b, cs, o.ch c hb fun j hj => (hs j (by have := o.idlt hj; omega) (i j hj)).2, Nat.le_trans hb c.next, fun j hj => (hs j (by have := o.idlt hj; omega) (i j hj)).1, w.ch c hs⟩
theorem ToldS.len {P : Pos → Prop} {h : Hp} {v : V} {gs : List Ln.Got} (t : ToldS P h v gs) (h' : Hp) : oLenK 2 v h' = .ok (.int .i64 (gs.length : Int)) h' := by
  obtain ⟨b, cs, o, hb, i, w⟩ := t
  exact o.length
theorem ToldS.at {P : Pos → Prop} {h : Hp} {v : V} {gs : List Ln.Got} (t : ToldS P h v gs) {k : Nat} {g : Ln.Got} (e : gs[k]? = some g) :
    ∃ j q vw, (∀ h', oIdxS 2 v (.int .i64 (k : Int)) h' = .ok (.ptr j q) h') ∧ oLoad1 (.ptr j q) h = .ok (.int .i64 g.kind) h ∧ oLoad1 (.ptr j (q + 1)) h = .ok vw h ∧ WRow P h vw g.words := by
  obtain ⟨b, cs, o, hb, i, w⟩ := t
  have hk : k < gs.length := (List.getElem?_eq_some_iff.1 e).1
  obtain ⟨j, q, e1, -, e2⟩ := o.at hk
  obtain ⟨c0, vw, c1, w1⟩ := w.get e
  exact ⟨j, q, vw, e1, e2 h rfl 0 _ (by omega) c0, e2 h rfl 1 _ (by omega) c1, w1⟩
theorem Own.capOk {b : Nat} {h : Hp} {sz n : Nat} {v : V} {cs : List V} (o : Own b h sz v n cs) : capOk sz v := by
  intro i p m c e
  rcases o.is with ⟨_, h0⟩ | ⟨i', h0, -⟩
  · rw [h0] at e; cases e
  · rw [h0] at e; cases e; rfl
theorem Told.tail {P : Pos → Prop} {h : Hp} {v : V} {g : Ln.Got} {gs : List Ln.Got} (t : Told P h v (g :: gs)) : ∃ u, (∀ h', oSlice 2 v (some (.int .i64 1)) none none h' = .ok u h') ∧ ToldS P h u gs := by
  obtain ⟨cs, o, i, w⟩ := t
  obtain ⟨u, u1, u2, -, u4⟩ := Sl.from o.sl (Own.capOk o) (by omega) (lo := 1) (by simp)
  obtain ⟨vw, cr, e, ww, r⟩ := w
  refine ⟨u, u1, h.next.nat, cr, ?_, Nat.le_refl _, fun j hj => i j (u4 j hj), r⟩
  rw [e] at u2
  exact u2
/-- a word as a whole -/
theorem WRow.copy {P : Pos → Prop} {h : Hp} {v : V} {ws : Wds} (t : WRow P h v ws) {k : Nat} {w : Wd} (e : ws.get? k = some w) :
    ∃ j q vk, (∀ h', oIdxS 3 v (.int .i64 (k : Int)) h' = .ok (.ptr j q) h') ∧ oLoadN 3 (.ptr j q) h = .ok (wag w vk) h ∧ vk.cells = [vk] ∧ notTuple vk = true ∧ WRow P h vk w.kids := by
  obtain ⟨cs, o, i, x⟩ := t
  have hk := Wds.get?_lt e
  obtain ⟨j, q, e1, -, -, e2⟩ := o.sl.atN hk
  obtain ⟨c0, c1, vk, c2, w1⟩ := WAt.get x e
  have hl := o.sl.len
  have e3 : (cs.drop (k * 3)).take 3 = [.int .i64 w.kind, .str w.text, vk] := by
    apply List.ext_getElem?
    intro m
    rw [List.getElem?_take]
    rcases m with _ | _ | _ | m
    · rw [if_pos (by omega), List.getElem?_drop]; exact c0
    · rw [if_pos (by omega), List.getElem?_drop]; exact c1
    · rw [if_pos (by omega), List.getElem?_drop]; exact c2
    · rw [if_neg (by omega)]; rfl
  have e4 := e2 h rfl
  rw [e3] at e4
  obtain ⟨ck, ok, -, -⟩ := id w1
  exact ⟨j, q, vk, e1, e4, ok.cell.1, ok.cell.2, w1⟩
end Go.Proofs.Ytgnfkfmhjgbhhaa

noncomputable section
namespace Go.Proofs.Ytgnfkfmhjgbhhaa
open Go Go.Proofs Go.Vm
set_option linter.unusedVariables false
set_option maxRecDepth 100000
/-! 5: pillarbox/pillarboxlaw22.LineLiterals -/
def Tryk5 : Nat → Bool := fun t => memN t [0, 1, 2, 6, 7, 8, 9, 10, 11, 12, 13, 14, 17, 19, 20, 39, 44, 54, 85]
def Tryr5_0 (fr : F) (h : Hp) : Out :=
  Out.nor (T.set (some (.bool false)) (Pos.of 6) fr) h
def Tryr5_1 (fr : F) (h : Hp) : Out :=
  gtO (T.get fr (Pos.of 0)) fun v0 => bndO (oLenK 2 v0 h) fun v16 h1 =>
  bndO (oBin .gtr .none v16 (.int .i64 1000) h1) fun v17 h2 =>
  Out.nor (T.set (some v17) (Pos.of 17) fr) h2
def Tryr5_2 (fr : F) (h : Hp) : Out :=
  bndO (TryF12c [] h) fun v18 h0 =>
  Out.nor (T.set (some v18) (Pos.of 6) fr) h0
def Tryr5_3 (fr : F) (h : Hp) : Out :=
  Out.nor (T.set (some (.str [10])) (Pos.of 7) fr) h
def Tryr5_4 (fr : F) (h : Hp) : Out :=
  gtO (T.get fr (Pos.of 2)) fun v2 => Out.nor (T.set (some v2) (Pos.of 19) fr) h
def Tryr5_5 (fr : F) (h : Hp) : Out :=
  Out.nor (T.set (some (.str [13, 10])) (Pos.of 7) fr) h
def Tryr5_6 (fr : F) (h : Hp) : Out :=
  Out.nor (T.set (some (.str [])) (Pos.of 8) fr) h
def Tryr5_7 (fr : F) (h : Hp) : Out :=
  gtO (T.get fr (Pos.of 1)) fun v1 => Out.nor (T.set (some v1) (Pos.of 20) fr) h
def Tryr5_8 (fr : F) (h : Hp) : Out :=
  Out.nor (T.set (some (.str [43])) (Pos.of 8) fr) h
def Tryr5_9 (fr : F) (h : Hp) : Out :=
  gtO (T.get fr (Pos.of 0)) fun v0 => bndO (oLenK 2 v0 h) fun v22 h1 =>
  bndO (TryF19r [v22] h1) fun v23 h2 =>
  bndO (oBin .add .none (.str [97, 32, 88, 32, 40, 123]) v23 h2) fun v24 h3 =>
  gtO (T.get fr (Pos.of 8)) fun v8 => bndO (oBin .add .none v24 v8 h3) fun v26 h5 =>
  bndO (oBin .add .none v26 (.str [125]) h5) fun v27 h6 =>
  gtO (T.get fr (Pos.of 7)) fun v7 => bndO (oBin .add .none v27 v7 h6) fun v29 h8 =>
  bndO (oStrBytes v29 h8) fun v30 h9 =>
  bndO (oAppend 1 1 v30 v0 h9) fun v32 h11 =>
  Out.nor (T.set (some v32) (Pos.of 9) fr) h11
def Tryr5_10 (fr : F) (h : Hp) : Out :=
  gtO (T.get fr (Pos.of 9)) fun v9 => gtO (T.get fr (Pos.of 7)) fun v7 => bndO (oBin .add .none (.str [32, 98, 41, 32, 99]) v7 h) fun v35 h2 =>
  bndO (oAppend 1 1 v9 v35 h2) fun v36 h3 =>
  Out.nor (T.set (some v36) (Pos.of 9) fr) h3
def Tryr5_11 (fr : F) (h : Hp) : Out :=
  bndO (TryF13 [(.int .i64 1000)] h) fun v37 h0 =>
  Out.nor (T.set (some v37) (Pos.of 10) fr) h0
def Tryr5_12 (fr : F) (h : Hp) : Out :=
  gtO (T.get fr (Pos.of 10)) fun v10 => bndO (oBin .eql (.ptr 11) v10 .nilp h) fun v39 h1 =>
  Out.nor (T.set (some v39) (Pos.of 39) fr) h1
def Tryr5_13 (fr : F) (h : Hp) : Out :=
  Out.nor (T.set (some (.bool false)) (Pos.of 6) fr) h
def Tryr5_14 (fr : F) (h : Hp) : Out :=
  gtO (T.get fr (Pos.of 10)) fun v10 => gtO (T.get fr (Pos.of 9)) fun v9 => bndO (TryF16 [v10, v9] h) fun v42 h2 =>
  Out.nor (T.set (some v42) (Pos.of 11) fr) h2
def Tryr5_15 (fr : F) (h : Hp) : Out :=
  gtO (T.get fr (Pos.of 1)) fun v1 => bndO (oUn .not v1 h) fun v44 h1 =>
  Out.nor (T.set (some v44) (Pos.of 44) fr) h1
def Tryr5_16 (fr : F) (h : Hp) : Out :=
  gtO (T.get fr (Pos.of 11)) fun v11 => bndO (oLenK 2 v11 h) fun v46 h1 =>
  bndO (oBin .neq .none v46 (.int .i64 2) h1) fun v47 h2 =>
  ifB v47 (Out.nor (T.set (some (.bool true)) (Pos.of 54) fr) h2) (bndO (oIdxS 2 v11 (.int .i64 0) h2) fun v50 h5 =>
  bndO (oFieldAddr 0 v50 h5) fun v51 h6 =>
  bndO (oLoad1 v51 h6) fun v52 h7 =>
  bndO (oBin .neq .none v52 (.int .i64 2) h7) fun v53 h8 =>
  Out.nor (T.set (some v53) (Pos.of 54) fr) h8)
def Tryr5_17 (fr : F) (h : Hp) : Out :=
  Out.nor (T.set (some (.bool false)) (Pos.of 6) fr) h
def Tryr5_18 (fr : F) (h : Hp) : Out :=
  gtO (T.get fr (Pos.of 11)) fun v11 => bndO (oSlice 2 v11 (some (.int .i64 1)) none none h) fun v56 h1 =>
  Out.nor (T.set (some v56) (Pos.of 11) fr) h1
def Tryr5_19 (fr : F) (h : Hp) : Out :=
  gtO (T.get fr (Pos.of 11)) fun v11 => bndO (oLenK 2 v11 h) fun v58 h1 =>
  bndO (oBin .neq .none v58 (.int .i64 1) h1) fun v59 h2 =>
  ifB v59 (Out.nor (T.set (some (.bool true)) (Pos.of 85) fr) h2) (bndO (oIdxS 2 v11 (.int .i64 0) h2) fun v62 h5 =>
  bndO (oFieldAddr 0 v62 h5) fun v63 h6 =>
  bndO (oLoad1 v63 h6) fun v64 h7 =>
  bndO (oBin .neq .none v64 (.int .i64 1) h7) fun v65 h8 =>
  ifB v65 (Out.nor (T.set (some (.bool true)) (Pos.of 85) fr) h8) (bndO (oIdxS 2 v11 (.int .i64 0) h8) fun v69 h12 =>
  bndO (oFieldAddr 1 v69 h12) fun v70 h13 =>
  bndO (oLoad1 v70 h13) fun v71 h14 =>
  bndO (oLenK 2 v71 h14) fun v72 h15 =>
  bndO (oBin .neq .none v72 (.int .i64 4) h15) fun v73 h16 =>
  ifB v73 (Out.nor (T.set (some (.bool true)) (Pos.of 85) fr) h16) (bndO (oIdxS 2 v11 (.int .i64 0) h16) fun v77 h20 =>
  bndO (oFieldAddr 1 v77 h20) fun v78 h21 =>
  bndO (oLoad1 v78 h21) fun v79 h22 =>
  bndO (oIdxS 3 v79 (.int .i64 2) h22) fun v80 h23 =>
  bndO (oFieldAddr 2 v80 h23) fun v81 h24 =>
  bndO (oLoad1 v81 h24) fun v82 h25 =>
  bndO (oLenK 2 v82 h25) fun v83 h26 =>
  bndO (oBin .neq .none v83 (.int .i64 2) h26) fun v84 h27 =>
  Out.nor (T.set (some v84) (Pos.of 85) fr) h27)))
def Tryr5_20 (fr : F) (h : Hp) : Out :=
  Out.nor (T.set (some (.bool false)) (Pos.of 6) fr) h
def Tryr5_21 (fr : F) (h : Hp) : Out :=
  gtO (T.get fr (Pos.of 11)) fun v11 => bndO (oIdxS 2 v11 (.int .i64 0) h) fun v87 h1 =>
  bndO (oFieldAddr 1 v87 h1) fun v88 h2 =>
  bndO (oLoad1 v88 h2) fun v89 h3 =>
  bndO (oIdxS 3 v89 (.int .i64 2) h3) fun v90 h4 =>
  bndO (oFieldAddr 2 v90 h4) fun v91 h5 =>
  bndO (oLoad1 v91 h5) fun v92 h6 =>
  bndO (oIdxS 3 v92 (.int .i64 0) h6) fun v93 h7 =>
  bndO (oLoadN 3 v93 h7) fun v94 h8 =>
  bndO (oNew [(.int .i64 0), (.str []), .nils] h8) fun v12 h9 =>
  bndO (oStore 3 v12 v94 h9) fun _u10 h10 =>
  Out.nor (T.set (some v12) (Pos.of 12) fr) h10
def Tryr5_22 (fr : F) (h : Hp) : Out :=
  bndO (TryF13 [(.int .i64 1000)] h) fun v95 h0 =>
  Out.nor (T.set (some v95) (Pos.of 13) fr) h0
def Tryr5_23 (fr : F) (h : Hp) : Out :=
  gtO (T.get fr (Pos.of 13)) fun v13 => gtO (T.get fr (Pos.of 8)) fun v8 => bndO (oBin .add .none (.str [97, 32, 123, 49, 48, 48, 49]) v8 h) fun v98 h2 =>
  bndO (oBin .add .none v98 (.str [125]) h2) fun v99 h3 =>
  gtO (T.get fr (Pos.of 7)) fun v7 => bndO (oBin .add .none v99 v7 h3) fun v101 h5 =>
  bndO (oStrBytes v101 h5) fun v102 h6 =>
  bndO (TryF16 [v13, v102] h6) fun v103 h7 =>
  Out.nor (T.set (some v103) (Pos.of 14) fr) h7
def Tryr5_24 (fr : F) (h : Hp) : Out :=
  gtO (T.get fr (Pos.of 12)) fun v12 => bndO (oFieldAddr 0 v12 h) fun v104 h0 =>
  bndO (oLoad1 v104 h0) fun v105 h1 =>
  bndO (oBin .eql .none v105 (.int .i64 2) h1) fun v106 h2 =>
  ifB v106 (bndO (oFieldAddr 1 v12 h2) fun v108 h4 =>
  bndO (oLoad1 v108 h4) fun v109 h5 =>
  gtO (T.get fr (Pos.of 0)) fun v0 => bndO (oBytesStr v0 h5) fun v111 h7 =>
  bndO (oBin .eql .none v109 v111 h7) fun v112 h8 =>
  ifB v112 (gtO (T.get fr (Pos.of 11)) fun v11 => bndO (oIdxS 2 v11 (.int .i64 0) h8) fun v116 h12 =>
  bndO (oFieldAddr 1 v116 h12) fun v117 h13 =>
  bndO (oLoad1 v117 h13) fun v118 h14 =>
  bndO (oIdxS 3 v118 (.int .i64 3) h14) fun v119 h15 =>
  bndO (oFieldAddr 1 v119 h15) fun v120 h16 =>
  bndO (oLoad1 v120 h16) fun v121 h17 =>
  bndO (oBin .eql .none v121 (.str [99]) h17) fun v122 h18 =>
  ifB v122 (gtO (T.get fr (Pos.of 14)) fun v14 => bndO (oLenK 2 v14 h18) fun v126 h22 =>
  bndO (oBin .eql .none v126 (.int .i64 1) h22) fun v127 h23 =>
  ifB v127 (bndO (oIdxS 2 v14 (.int .i64 0) h23) fun v131 h27 =>
  bndO (oFieldAddr 0 v131 h27) fun v132 h28 =>
  bndO (oLoad1 v132 h28) fun v133 h29 =>
  bndO (oBin .eql .none v133 (.int .i64 3) h29) fun v134 h30 =>
  ifB v134 (bndO (TryF12c [] h30) fun v137 h33 =>
  Out.nor (T.set (some v137) (Pos.of 6) fr) h33) (Out.nor (T.set (some (.bool false)) (Pos.of 6) fr) h30)) (Out.nor (T.set (some (.bool false)) (Pos.of 6) fr) h23)) (Out.nor (T.set (some (.bool false)) (Pos.of 6) fr) h18)) (Out.nor (T.set (some (.bool false)) (Pos.of 6) fr) h8)) (Out.nor (T.set (some (.bool false)) (Pos.of 6) fr) h2)
def Tryd5 : F → Hp → Out := (seqO Tryr5_0 (seqO (seqO Tryr5_1 (cndX (.tmp 17) (seqO Tryr5_2 Out.ret) Out.nor)) (seqO Tryr5_3 (seqO (seqO Tryr5_4 (cndX (.tmp 19) Tryr5_5 Out.nor)) (seqO Tryr5_6 (seqO (seqO Tryr5_7 (cndX (.tmp 20) Tryr5_8 Out.nor)) (seqO Tryr5_9 (seqO Tryr5_10 (seqO Tryr5_11 (seqO (seqO Tryr5_12 (cndX (.tmp 39) (seqO Tryr5_13 Out.ret) Out.nor)) (seqO Tryr5_14 (seqO (seqO Tryr5_15 (cndX (.tmp 44) (seqO (seqO Tryr5_16 (cndX (.tmp 54) (seqO Tryr5_17 Out.ret) Out.nor)) Tryr5_18) Out.nor)) (seqO (seqO Tryr5_19 (cndX (.tmp 85) (seqO Tryr5_20 Out.ret) Out.nor)) (seqO Tryr5_21 (seqO Tryr5_22 (seqO Tryr5_23 (seqO Tryr5_24 Out.ret)))))))))))))))))
def Trye5 : FuncId → Option Fun := fun f => match Nat.beq f 12 with | true => some TryF12c | false => match Nat.beq f 19 with | true => some TryF19r | false => match Nat.beq f 13 with | true => some TryF13 | false => match Nat.beq f 16 with | true => some TryF16 | false => none
def Tryp5 : Plans := fun id => none
def TryF5 : Fun := funX Try.prog 0 Tryk5 Trye5 Tryp5 lf Try.f5
theorem TryD5 : denX Try.prog 0 Try.f5.ntmps Tryk5 Trye5 Tryp5 lf (codeOf Try.f5) = Tryd5 := by kernel_rfl
theorem TryF5_eq (x0 x1 x2 : V) (h : Hp) : TryF5 [x0, x1, x2] h = outR Try.prog [.tmp 6] (Tryd5 (T.set (some x2) (Pos.of 2) (T.set (some x1) (Pos.of 1) (T.set (some x0) (Pos.of 0) T.nil))) h) := funX_eq (by kernel_rfl) TryD5 (by kernel_rfl) h
theorem Tryc5 : CallOk Try.prog 0 5 TryF5 := funX_ok Trymix (callsOk_cons Tryc12c (callsOk_cons Tryc19r (callsOk_cons Tryc13 (callsOk_cons Tryc16 callsOk_0)))) Try.func5 (by kernel_rfl)

end Go.Proofs.Ytgnfkfmhjgbhhaa

noncomputable section
namespace Go.Proofs.Ytgnfkfmhjgbhhaa
open Go Go.Proofs Go.Vm Go.Ln
set_option linter.unusedVariables false
set_option maxRecDepth 100000
set_option linter.unusedSimpArgs false
/-- LineLiterals behind its first lines -/
def Rest5 : F → Hp → Out := (seqO Tryr5_9 (seqO Tryr5_10 (seqO Tryr5_11 (seqO (seqO Tryr5_12 (cndX (.tmp 39) (seqO Tryr5_13 Out.ret) Out.nor)) (seqO Tryr5_14 (seqO (seqO Tryr5_15 (cndX (.tmp 44) (seqO (seqO Tryr5_16 (cndX (.tmp 54) (seqO Tryr5_17 Out.ret) Out.nor)) Tryr5_18) Out.nor)) (seqO (seqO Tryr5_19 (cndX (.tmp 85) (seqO Tryr5_20 Out.ret) Out.nor)) (seqO Tryr5_21 (seqO Tryr5_22 (seqO Tryr5_23 (seqO Tryr5_24 Out.ret)))))))))))
def Rest5b : F → Hp → Out := (seqO (seqO Tryr5_19 (cndX (.tmp 85) (seqO Tryr5_20 Out.ret) Out.nor)) (seqO Tryr5_21 (seqO Tryr5_22 (seqO Tryr5_23 (seqO Tryr5_24 Out.ret)))))
/-- the last checks -/
theorem lit_end {c : Nat} {v0 u : V} {bs : List Nat} {P : Pos → Prop} {g : Hp} (plus cr : Bool) (s : Sl c g 1 v0 bs.length (bys bs)) (hc : c ≤ g.next.nat) (h256 : ∀ x ∈ bs, x < 256) (t : ToldS P g u [⟨1, litW bs⟩])
    {fr : F} (f0 : fr.get (Pos.of 0) = some v0) (f7 : fr.get (Pos.of 7) = some (.str (eol cr))) (f8 : fr.get (Pos.of 8) = some (.str (signM plus))) (f11 : fr.get (Pos.of 11) = some u) : Tells Try.prog [.tmp 6] (fun v _ => v = .bool true) (Rest5b fr g) := by
  have lu : ∀ h', oLenK 2 u h' = .ok (.int .i64 1) h' := t.len
  obtain ⟨j, q, vw, x1, x2, x3, x4⟩ := t.at (k := 0) (g := ⟨1, litW bs⟩) rfl
  replace x1 : ∀ h', oIdxS 2 u (.int .i64 0) h' = .ok (.ptr j q) h' := x1
  have lw : ∀ h', oLenK 2 vw h' = .ok (.int .i64 4) h' := fun h' => WRow.len x4 h'
  obtain ⟨j2, q2, vk, y1, -, -, y4, y5⟩ := WRow.at x4 (k := 2) (w := ⟨3, [], .cons 2 bs .nil (.cons 1 [98] .nil .nil)⟩) rfl
  replace y1 : ∀ h', oIdxS 3 vw (.int .i64 2) h' = .ok (.ptr j2 q2) h' := y1
  have lk : ∀ h', oLenK 2 vk h' = .ok (.int .i64 2) h' := fun h' => WRow.len y5 h'
  obtain ⟨j3, q3, vz, z1, z2, z3, z4, z5⟩ := WRow.copy y5 (k := 0) (w := ⟨2, bs, .nil⟩) rfl
  replace z1 : ∀ h', oIdxS 3 vk (.int .i64 0) h' = .ok (.ptr j3 q3) h' := z1
  -- the copy
  obtain ⟨g1, hg1⟩ : ∃ g1, g1 = g.new (.cells true [.int .i64 0, .str [], .nils]) := ⟨_, rfl⟩
  have c1 : Ch (fun _ => False) g g1 := by rw [hg1]; exact Ch.new _ _ _
  have e1 : g1.get g.next = some (.cells true [.int .i64 0, .str [], .nils]) := by rw [hg1]; exact new_self _ _
  have s1 := st3_get (a := .int .i64 2) (b := .str bs) (c := vz) e1
  obtain ⟨g2, hg2⟩ : ∃ g2, g2 = g1.put g.next (some (.cells true [.int .i64 2, .str bs, vz])) := ⟨_, rfl⟩
  rw [← hg2] at s1
  have n1 : g1.next.nat = g.next.nat + 1 := by rw [hg1]; exact new_next_nat _ _
  have c2 : Ch (fun _ => False) g g2 := ⟨by rw [hg2, put_next]; omega, fun j hj hn => by rw [hg2, put_ne g1 (by omega) _]; exact c1.get j hj hn⟩
  have e2 : g2.get g.next = some (.cells true [.int .i64 2, .str bs, vz]) := by rw [hg2]; exact put_self _ _ _
  have n2 : g2.next.nat = g.next.nat + 1 := by rw [hg2, put_next]; exact n1
  -- another reader
  have hmax : max (1000 : Int) 1 = 1000 := rfl
  obtain ⟨g3, d3, a3, c3, -⟩ := new_ok 1000 g2
  rw [hmax] at a3
  have k0 : RdOk 1000 0 {} := RdOk.fresh (by decide) (by decide) (Nat.zero_le _)
  obtain ⟨T, hT⟩ : ∃ T, T = eol cr := ⟨_, rfl⟩
  obtain ⟨G, hG⟩ : ∃ G, G = signM plus := ⟨_, rfl⟩
  have lT : T.length ≤ 2 ∧ ∀ x ∈ T, x < 256 := by subst hT; cases cr <;> exact ⟨by decide, by decide⟩
  have lG : G.length ≤ 1 ∧ ∀ x ∈ G, x < 256 := by subst hG; cases plus <;> exact ⟨by decide, by decide⟩
  rw [← hT] at f7
  rw [← hG] at f8
  have m1 : ∀ h, oBin .add .none (.str [97, 32, 123, 49, 48, 48, 49]) (.str G) h = .ok (.str ([97, 32, 123, 49, 48, 48, 49] ++ G)) h := fun h => oBin_str_add (by simp only [List.length_cons, List.length_nil]; omega)
  have m2 : ∀ h, oBin .add .none (.str ([97, 32, 123, 49, 48, 48, 49] ++ G)) (.str [125]) h = .ok (.str ([97, 32, 123, 49, 48, 48, 49] ++ G ++ [125])) h := fun h => oBin_str_add (by simp only [List.length_append, List.length_cons, List.length_nil]; omega)
  have m3 : ∀ h, oBin .add .none (.str ([97, 32, 123, 49, 48, 48, 49] ++ G ++ [125])) (.str T) h = .ok (.str ([97, 32, 123, 49, 48, 48, 49] ++ G ++ [125] ++ T)) h := fun h => oBin_str_add (by simp only [List.length_append, List.length_cons, List.length_nil]; omega)
  have lS : ([97, 32, 123, 49, 48, 48, 49] ++ G ++ [125] ++ T).length ≤ 20 := by simp only [List.length_append, List.length_cons, List.length_nil]; omega
  have b1 := oStrBytes_ok (h := g3) (s := [97, 32, 123, 49, 48, 48, 49] ++ G ++ [125] ++ T) (by omega)
  obtain ⟨v4, g4, vt, vl, vn, vq, e4, a4, p4, t4⟩ := feed_s (by decide) a3 k0 (s := [97, 32, 123, 49, 48, 48, 49] ++ G ++ [125] ++ T) (by omega) (fun x hx => by
    simp only [List.mem_append, List.mem_cons, List.not_mem_nil, or_false] at hx
    rcases hx with ((hx | hx) | hx) | hx
    · omega
    · exact lG.2 x hx
    · omega
    · exact lT.2 x hx)
  obtain ⟨rr, fd⟩ := lit_d plus cr
  rw [← hT, ← hG] at fd
  rw [fd] at t4
  obtain ⟨j5, q5, w5, r1, r2, -, -⟩ := t4.at (k := 0) rfl
  replace r1 : ∀ h', oIdxS 2 v4 (.int .i64 0) h' = .ok (.ptr j5 q5) h' := r1
  have lv4 : ∀ h', oLenK 2 v4 h' = .ok (.int .i64 1) h' := t4.len
  -- the heap at the end
  have c34 : Ch (fun j => j = g2.next) g3 g4 := p4.ch.mono fun j _ q => RdF0 q
  have c04 : Ch (fun _ => False) g g4 := ⟨Nat.le_trans c2.next (Nat.le_trans c3.next c34.next), fun j hj hn => by
    rw [c34.get j (by have := c2.next; have := c3.next; omega) (fun q => by have := congrArg Pos.nat q; omega), c3.get j (by have := c2.next; omega) hn, c2.get j hj hn]⟩
  have e4' : g4.get g.next = some (.cells true [.int .i64 2, .str bs, vz]) := by
    rw [c34.get _ (by have := c3.next; omega) (fun q => by have := congrArg Pos.nat q; omega), c3.get _ (by omega) (fun q => q)]; exact e2
  have t' := t.ch (P' := P) c04 fun j _ q => ⟨q, fun q => q⟩
  obtain ⟨i, k, vw', x1', -, x3', x4'⟩ := t'.at (k := 0) (g := ⟨1, litW bs⟩) rfl
  replace x1' : ∀ h', oIdxS 2 u (.int .i64 0) h' = .ok (.ptr i k) h' := x1'
  have xe := x1' g
  rw [x1 g] at xe
  obtain ⟨rfl, rfl⟩ : j = i ∧ q = k := by cases xe; exact ⟨rfl, rfl⟩
  obtain ⟨i3, k3, -, y1', -, y3', -, -⟩ := WRow.at x4' (k := 3) (w := ⟨1, [99], .nil⟩) rfl
  replace y1' : ∀ h', oIdxS 3 vw' (.int .i64 3) h' = .ok (.ptr i3 k3) h' := y1'
  have L0 : oLoad1 (.ptr g.next 0) g4 = .ok (.int .i64 2) g4 := ld_get e4' 0
  have L1 : oLoad1 (.ptr g.next 1) g4 = .ok (.str bs) g4 := ld_get e4' 1
  have B0 : oBytesStr v0 g4 = .ok (.str bs) g4 := oBytesStr_ok (s.ch c04 hc fun _ _ q => q) h256 (fun _ _ => rfl)
  simp only [wag] at z2
  simp (disch := omega) only [seqO_eq, thenO_nor, thenO_ret, thenO_ex, gtO_some, bndO_ok, get_set_of, cndX_tmp, ifB_true, ifB_false, ifB_pos, ifB_neg, blkO_eq, blkX_nor, blkX_ret, blkX_ex, Nat.reduceEqDiff, Nat.zero_ne_one, Nat.one_ne_zero, reduceCtorEq, ↓reduceIte, oBin_add, oBin_sub, oBin_eql, oBin_neq, oBin_lss, oBin_leq, oBin_gtr, oBin_geq, oUn_not, oPick_true, oPick_false, oExtract_0, oExtract_1, oExtract_2, oMin_eq, oMax_eq, oFieldAddr_eq, oConvInt_i64, oBin_rem, oBuildSlice_11, oBinAgg_eql2, oBinAgg_neq2, oBuildSlice_1, oBuild_2, oBuildSlice_2, chk_zero, chk_nil, bumpH_zero, aBuildSlice_1, oBuildSlice_22, alcO_some, Bool.not_true, Bool.not_false, Option.getD_some, Option.getD_none, Option.isSome_some, Option.isSome_none, oBin_str_eql, oBin_str_neq, oLenK_str, oNilCheck_ptr, Nat.zero_add, bumpH_zero, put_bump, decide_true, decide_false, ne_eq, not_true, not_false_eq_true, Rest5b, Tryr5_19, Tryr5_21, Tryr5_22, Tryr5_23, Tryr5_24, f0, f7, f8, f11, lu, x1, Nat.add_zero, x2, x3, lw, y1, y4, lk, z1, z2, oNew_w, ← hg1, s1, d3, m1, m2, m3, b1, e4, L0, L1, B0, x3', y1', y3', lv4, r1, r2, awake_eq]
  exact Tells.ret (by simp only [resK, seqO_eq, thenO_nor, thenO_ret, thenO_ex, gtO_some, bndO_ok, get_set_of, cndX_tmp, ifB_true, ifB_false, ifB_pos, ifB_neg, blkO_eq, blkX_nor, blkX_ret, blkX_ex, Nat.reduceEqDiff, Nat.zero_ne_one, Nat.one_ne_zero, reduceCtorEq, ↓reduceIte, oBin_add, oBin_sub, oBin_eql, oBin_neq, oBin_lss, oBin_leq, oBin_gtr, oBin_geq, oUn_not, oPick_true, oPick_false, oExtract_0, oExtract_1, oExtract_2, oMin_eq, oMax_eq, oFieldAddr_eq, oConvInt_i64, oBin_rem, oBuildSlice_11, oBinAgg_eql2, oBinAgg_neq2, oBuildSlice_1, oBuild_2, oBuildSlice_2, chk_zero, chk_nil, bumpH_zero, aBuildSlice_1, oBuildSlice_22, alcO_some, Bool.not_true, Bool.not_false, Option.getD_some, Option.getD_none, Option.isSome_some, Option.isSome_none, oBin_str_eql, oBin_str_neq, oLenK_str, oNilCheck_ptr, Nat.zero_add, bumpH_zero, put_bump, decide_true, decide_false, ne_eq, not_true, not_false_eq_true, tupR] <;> rfl) rfl
theorem lit_rest {c : Nat} {v0 : V} {bs : List Nat} {h : Hp} (plus cr : Bool) (s : Sl c h 1 v0 bs.length (bys bs)) (hc : c ≤ h.next.nat) (h256 : ∀ x ∈ bs, x < 256) (hlen : bs.length ≤ 1000)
    {fr : F} (f0 : fr.get (Pos.of 0) = some v0) (f1 : fr.get (Pos.of 1) = some (.bool plus)) (f7 : fr.get (Pos.of 7) = some (.str (eol cr))) (f8 : fr.get (Pos.of 8) = some (.str (signM plus))) : Tells Try.prog [.tmp 6] (fun v _ => v = .bool true) (Rest5 fr h) := by
  obtain ⟨T, hT⟩ : ∃ T, T = eol cr := ⟨_, rfl⟩
  obtain ⟨G, hG⟩ : ∃ G, G = signM plus := ⟨_, rfl⟩
  have lT : T.length ≤ 2 ∧ ∀ x ∈ T, x < 256 := by subst hT; cases cr <;> exact ⟨by decide, by decide⟩
  have lG : G.length ≤ 1 ∧ ∀ x ∈ G, x < 256 := by subst hG; cases plus <;> exact ⟨by decide, by decide⟩
  have f7' := f7
  have f8' := f8
  rw [← hT] at f7
  rw [← hG] at f8
  obtain ⟨k, hk⟩ : ∃ k, k = bs.length := ⟨_, rfl⟩
  have lb : ∀ h', oLenK 2 v0 h' = .ok (.int .i64 (k : Int)) h' := fun h' => by rw [hk]; exact s.length
  have hdl := digM_len k
  obtain ⟨g1, d1, c1⟩ := dig_r h (n := k) (by omega)
  have m1 : ∀ h, oBin .add .none (.str [97, 32, 88, 32, 40, 123]) (.str (digM k)) h = .ok (.str ([97, 32, 88, 32, 40, 123] ++ digM k)) h := fun h => oBin_str_add (by simp only [List.length_cons, List.length_nil]; omega)
  have m2 : ∀ h, oBin .add .none (.str ([97, 32, 88, 32, 40, 123] ++ digM k)) (.str G) h = .ok (.str ([97, 32, 88, 32, 40, 123] ++ digM k ++ G)) h := fun h => oBin_str_add (by simp only [List.length_append, List.length_cons, List.length_nil]; omega)
  have m3 : ∀ h, oBin .add .none (.str ([97, 32, 88, 32, 40, 123] ++ digM k ++ G)) (.str [125]) h = .ok (.str ([97, 32, 88, 32, 40, 123] ++ digM k ++ G ++ [125])) h := fun h => oBin_str_add (by simp only [List.length_append, List.length_cons, List.length_nil]; omega)
  obtain ⟨S1, hS1⟩ : ∃ S1, S1 = [97, 32, 88, 32, 40, 123] ++ digM k ++ G ++ [125] ++ T := ⟨_, rfl⟩
  have lS1 : S1.length ≤ 20 := by rw [hS1]; simp only [List.length_append, List.length_cons, List.length_nil]; omega
  have m4 : ∀ h, oBin .add .none (.str ([97, 32, 88, 32, 40, 123] ++ digM k ++ G ++ [125])) (.str T) h = .ok (.str S1) h := fun h => by rw [hS1]; exact oBin_str_add (by simp only [List.length_append, List.length_cons, List.length_nil]; omega)
  have b1 := oStrBytes_ok (h := g1) (s := S1) (by omega)
  obtain ⟨g4, hg4⟩ : ∃ g4, g4 = g1.new (.bytes (bys S1)) := ⟨_, rfl⟩
  have B4 := Byt.new S1 g1
  have c4 : Ch (fun _ => False) g1 g4 := by rw [hg4]; exact Ch.new _ _ _
  rw [← hg4] at B4 b1
  have s4 := (s.ch c1 hc fun _ _ q => q).ch c4 (Nat.le_trans hc c1.next) fun _ _ q => q
  obtain ⟨v5, g5, e5, B5, c5, i5⟩ := app_sl B4 s4 (by omega)
  have m5 : ∀ h, oBin .add .none (.str [32, 98, 41, 32, 99]) (.str T) h = .ok (.str ([32, 98, 41, 32, 99] ++ T)) h := fun h => oBin_str_add (by simp only [List.length_cons, List.length_nil]; omega)
  obtain ⟨v6, g6, e6, B6, c6, i6⟩ := app_str (t := [32, 98, 41, 32, 99] ++ T) B5 (by simp only [List.length_append, List.length_cons, List.length_nil]; omega)
  have n1 := c1.next
  have n4 := c4.next
  have n5 := c5.next
  have id5 : ∀ j, idOf v5 = some j → g1.next.nat ≤ j.nat := fun j hj => by
    rcases i5 j hj with q | q
    · cases q; exact Nat.le_refl _
    · omega
  have id6 : ∀ j, idOf v6 = some j → g1.next.nat ≤ j.nat := fun j hj => by
    rcases i6 j hj with q | q
    · exact id5 j q
    · omega
  have c06 : Ch (fun _ => False) h g6 := ⟨by have := c6.next; omega, fun j hj hn => by
    rw [c6.get j (by omega) (fun q => by have := id5 j q; omega), c5.get j (by omega) (fun q => by cases q; omega), c4.get j (by omega) hn, c1.get j hj hn]⟩
  obtain ⟨g7, d7, a7, c7, n7⟩ := new_ok 1000 g6
  have hmax : max (1000 : Int) 1 = 1000 := rfl
  rw [hmax] at a7
  have k0 : RdOk 1000 0 {} := RdOk.fresh (by decide) (by decide) (Nat.zero_le _)
  have eS : S1 ++ bs ++ ([32, 98, 41, 32, 99] ++ T) = litS bs plus cr := by
    rw [hS1, hT, hG, hk]; unfold litS markT; simp
  rw [eS] at B6
  have lS : (litS bs plus cr).length ≤ 1100 := by rw [← eS]; simp only [List.length_append, List.length_cons, List.length_nil]; omega
  have pS256 : ∀ x ∈ litS bs plus cr, x < 256 := fun x hx => by
    rw [← eS, hS1] at hx
    simp only [List.mem_append, List.mem_cons, List.not_mem_nil, or_false] at hx
    rcases hx with (((((hx | hx) | hx) | hx) | hx) | hx) | hx | hx
    · omega
    · have := digM_digit k x hx; omega
    · exact lG.2 x hx
    · omega
    · exact lT.2 x hx
    · exact h256 x hx
    · omega
    · exact lT.2 x hx
  have B7 := B6.ch c7 fun _ _ q => q
  obtain ⟨v8, g8, vt, vl, vn, vq, e8, x8, p8, t8⟩ := feed_b (by decide) a7 k0 B7.sl (Nat.le_refl _) B7.cap (fun j hj q => by
    have h1 := RdF0 q
    have h2 := B6.sl.idlt hj
    rw [h1] at h2
    omega) (by omega) pS256
  rw [lit_c plus cr hlen] at x8 t8
  have c08 : Ch (fun _ => False) h g8 := ⟨by have := c06.next; have := c7.next; have := p8.ch.next; omega, fun j hj hn => by
    have := c06.next
    have := c7.next
    rw [p8.ch.get j (by omega) (fun q => by have := RdF0 q; have := congrArg Pos.nat this; omega), c7.get j (by omega) hn, c06.get j hj hn]⟩
  have s8 := s.ch c08 hc fun _ _ q => q
  have hc8 : c ≤ g8.next.nat := Nat.le_trans hc c08.next
  cases plus with
  | true =>
    simp only [if_true, List.nil_append] at t8
    simp (disch := omega) only [seqO_eq, thenO_nor, thenO_ret, thenO_ex, gtO_some, bndO_ok, get_set_of, cndX_tmp, ifB_true, ifB_false, ifB_pos, ifB_neg, blkO_eq, blkX_nor, blkX_ret, blkX_ex, Nat.reduceEqDiff, Nat.zero_ne_one, Nat.one_ne_zero, reduceCtorEq, ↓reduceIte, oBin_add, oBin_sub, oBin_eql, oBin_neq, oBin_lss, oBin_leq, oBin_gtr, oBin_geq, oUn_not, oPick_true, oPick_false, oExtract_0, oExtract_1, oExtract_2, oMin_eq, oMax_eq, oFieldAddr_eq, oConvInt_i64, oBin_rem, oBuildSlice_11, oBinAgg_eql2, oBinAgg_neq2, oBuildSlice_1, oBuild_2, oBuildSlice_2, chk_zero, chk_nil, bumpH_zero, aBuildSlice_1, oBuildSlice_22, alcO_some, Bool.not_true, Bool.not_false, Option.getD_some, Option.getD_none, Option.isSome_some, Option.isSome_none, oBin_str_eql, oBin_str_neq, oLenK_str, oNilCheck_ptr, Nat.zero_add, bumpH_zero, put_bump, decide_true, decide_false, ne_eq, not_true, not_false_eq_true, Rest5, Tryr5_9, Tryr5_10, Tryr5_11, Tryr5_12, Tryr5_14, Tryr5_15, f0, f1, f7, f8, lb, d1, m1, m2, m3, m4, b1, e5, m5, e6, d7, nilcmp, e8]
    exact lit_end true cr s8 hc8 h256 t8.s (by simp only [seqO_eq, thenO_nor, thenO_ret, thenO_ex, gtO_some, bndO_ok, get_set_of, cndX_tmp, ifB_true, ifB_false, ifB_pos, ifB_neg, blkO_eq, blkX_nor, blkX_ret, blkX_ex, Nat.reduceEqDiff, Nat.zero_ne_one, Nat.one_ne_zero, reduceCtorEq, ↓reduceIte, oBin_add, oBin_sub, oBin_eql, oBin_neq, oBin_lss, oBin_leq, oBin_gtr, oBin_geq, oUn_not, oPick_true, oPick_false, oExtract_0, oExtract_1, oExtract_2, oMin_eq, oMax_eq, oFieldAddr_eq, oConvInt_i64, oBin_rem, oBuildSlice_11, oBinAgg_eql2, oBinAgg_neq2, oBuildSlice_1, oBuild_2, oBuildSlice_2, chk_zero, chk_nil, bumpH_zero, aBuildSlice_1, oBuildSlice_22, alcO_some, Bool.not_true, Bool.not_false, Option.getD_some, Option.getD_none, Option.isSome_some, Option.isSome_none, oBin_str_eql, oBin_str_neq, oLenK_str, oNilCheck_ptr, Nat.zero_add, bumpH_zero, put_bump, decide_true, decide_false, ne_eq, not_true, not_false_eq_true, f0]) (by simp only [seqO_eq, thenO_nor, thenO_ret, thenO_ex, gtO_some, bndO_ok, get_set_of, cndX_tmp, ifB_true, ifB_false, ifB_pos, ifB_neg, blkO_eq, blkX_nor, blkX_ret, blkX_ex, Nat.reduceEqDiff, Nat.zero_ne_one, Nat.one_ne_zero, reduceCtorEq, ↓reduceIte, oBin_add, oBin_sub, oBin_eql, oBin_neq, oBin_lss, oBin_leq, oBin_gtr, oBin_geq, oUn_not, oPick_true, oPick_false, oExtract_0, oExtract_1, oExtract_2, oMin_eq, oMax_eq, oFieldAddr_eq, oConvInt_i64, oBin_rem, oBuildSlice_11, oBinAgg_eql2, oBinAgg_neq2, oBuildSlice_1, oBuild_2, oBuildSlice_2, chk_zero, chk_nil, bumpH_zero, aBuildSlice_1, oBuildSlice_22, alcO_some, Bool.not_true, Bool.not_false, Option.getD_some, Option.getD_none, Option.isSome_some, Option.isSome_none, oBin_str_eql, oBin_str_neq, oLenK_str, oNilCheck_ptr, Nat.zero_add, bumpH_zero, put_bump, decide_true, decide_false, ne_eq, not_true, not_false_eq_true, f7']) (by simp only [seqO_eq, thenO_nor, thenO_ret, thenO_ex, gtO_some, bndO_ok, get_set_of, cndX_tmp, ifB_true, ifB_false, ifB_pos, ifB_neg, blkO_eq, blkX_nor, blkX_ret, blkX_ex, Nat.reduceEqDiff, Nat.zero_ne_one, Nat.one_ne_zero, reduceCtorEq, ↓reduceIte, oBin_add, oBin_sub, oBin_eql, oBin_neq, oBin_lss, oBin_leq, oBin_gtr, oBin_geq, oUn_not, oPick_true, oPick_false, oExtract_0, oExtract_1, oExtract_2, oMin_eq, oMax_eq, oFieldAddr_eq, oConvInt_i64, oBin_rem, oBuildSlice_11, oBinAgg_eql2, oBinAgg_neq2, oBuildSlice_1, oBuild_2, oBuildSlice_2, chk_zero, chk_nil, bumpH_zero, aBuildSlice_1, oBuildSlice_22, alcO_some, Bool.not_true, Bool.not_false, Option.getD_some, Option.getD_none, Option.isSome_some, Option.isSome_none, oBin_str_eql, oBin_str_neq, oLenK_str, oNilCheck_ptr, Nat.zero_add, bumpH_zero, put_bump, decide_true, decide_false, ne_eq, not_true, not_false_eq_true, f8']) (by simp only [seqO_eq, thenO_nor, thenO_ret, thenO_ex, gtO_some, bndO_ok, get_set_of, cndX_tmp, ifB_true, ifB_false, ifB_pos, ifB_neg, blkO_eq, blkX_nor, blkX_ret, blkX_ex, Nat.reduceEqDiff, Nat.zero_ne_one, Nat.one_ne_zero, reduceCtorEq, ↓reduceIte, oBin_add, oBin_sub, oBin_eql, oBin_neq, oBin_lss, oBin_leq, oBin_gtr, oBin_geq, oUn_not, oPick_true, oPick_false, oExtract_0, oExtract_1, oExtract_2, oMin_eq, oMax_eq, oFieldAddr_eq, oConvInt_i64, oBin_rem, oBuildSlice_11, oBinAgg_eql2, oBinAgg_neq2, oBuildSlice_1, oBuild_2, oBuildSlice_2, chk_zero, chk_nil, bumpH_zero, aBuildSlice_1, oBuildSlice_22, alcO_some, Bool.not_true, Bool.not_false, Option.getD_some, Option.getD_none, Option.isSome_some, Option.isSome_none, oBin_str_eql, oBin_str_neq, oLenK_str, oNilCheck_ptr, Nat.zero_add, bumpH_zero, put_bump, decide_true, decide_false, ne_eq, not_true, not_false_eq_true])
  | false =>
    simp only [Bool.false_eq_true, if_false, List.cons_append, List.nil_append] at t8
    obtain ⟨j, q, vw, x1, x2, -, -⟩ := t8.at (k := 0) (g := ⟨2, .nil⟩) rfl
    replace x1 : ∀ h', oIdxS 2 v8 (.int .i64 0) h' = .ok (.ptr j q) h' := x1
    have l8 : ∀ h', oLenK 2 v8 h' = .ok (.int .i64 2) h' := t8.len
    obtain ⟨u, u1, u2⟩ := t8.tail
    simp (disch := omega) only [seqO_eq, thenO_nor, thenO_ret, thenO_ex, gtO_some, bndO_ok, get_set_of, cndX_tmp, ifB_true, ifB_false, ifB_pos, ifB_neg, blkO_eq, blkX_nor, blkX_ret, blkX_ex, Nat.reduceEqDiff, Nat.zero_ne_one, Nat.one_ne_zero, reduceCtorEq, ↓reduceIte, oBin_add, oBin_sub, oBin_eql, oBin_neq, oBin_lss, oBin_leq, oBin_gtr, oBin_geq, oUn_not, oPick_true, oPick_false, oExtract_0, oExtract_1, oExtract_2, oMin_eq, oMax_eq, oFieldAddr_eq, oConvInt_i64, oBin_rem, oBuildSlice_11, oBinAgg_eql2, oBinAgg_neq2, oBuildSlice_1, oBuild_2, oBuildSlice_2, chk_zero, chk_nil, bumpH_zero, aBuildSlice_1, oBuildSlice_22, alcO_some, Bool.not_true, Bool.not_false, Option.getD_some, Option.getD_none, Option.isSome_some, Option.isSome_none, oBin_str_eql, oBin_str_neq, oLenK_str, oNilCheck_ptr, Nat.zero_add, bumpH_zero, put_bump, decide_true, decide_false, ne_eq, not_true, not_false_eq_true, Rest5, Tryr5_9, Tryr5_10, Tryr5_11, Tryr5_12, Tryr5_14, Tryr5_15, Tryr5_16, Tryr5_18, f0, f1, f7, f8, lb, d1, m1, m2, m3, m4, b1, e5, m5, e6, d7, nilcmp, e8, l8, x1, Nat.add_zero, x2, u1]
    exact lit_end false cr s8 hc8 h256 u2 (by simp only [seqO_eq, thenO_nor, thenO_ret, thenO_ex, gtO_some, bndO_ok, get_set_of, cndX_tmp, ifB_true, ifB_false, ifB_pos, ifB_neg, blkO_eq, blkX_nor, blkX_ret, blkX_ex, Nat.reduceEqDiff, Nat.zero_ne_one, Nat.one_ne_zero, reduceCtorEq, ↓reduceIte, oBin_add, oBin_sub, oBin_eql, oBin_neq, oBin_lss, oBin_leq, oBin_gtr, oBin_geq, oUn_not, oPick_true, oPick_false, oExtract_0, oExtract_1, oExtract_2, oMin_eq, oMax_eq, oFieldAddr_eq, oConvInt_i64, oBin_rem, oBuildSlice_11, oBinAgg_eql2, oBinAgg_neq2, oBuildSlice_1, oBuild_2, oBuildSlice_2, chk_zero, chk_nil, bumpH_zero, aBuildSlice_1, oBuildSlice_22, alcO_some, Bool.not_true, Bool.not_false, Option.getD_some, Option.getD_none, Option.isSome_some, Option.isSome_none, oBin_str_eql, oBin_str_neq, oLenK_str, oNilCheck_ptr, Nat.zero_add, bumpH_zero, put_bump, decide_true, decide_false, ne_eq, not_true, not_false_eq_true, f0]) (by simp only [seqO_eq, thenO_nor, thenO_ret, thenO_ex, gtO_some, bndO_ok, get_set_of, cndX_tmp, ifB_true, ifB_false, ifB_pos, ifB_neg, blkO_eq, blkX_nor, blkX_ret, blkX_ex, Nat.reduceEqDiff, Nat.zero_ne_one, Nat.one_ne_zero, reduceCtorEq, ↓reduceIte, oBin_add, oBin_sub, oBin_eql, oBin_neq, oBin_lss, oBin_leq, oBin_gtr, oBin_geq, oUn_not, oPick_true, oPick_false, oExtract_0, oExtract_1, oExtract_2, oMin_eq, oMax_eq, oFieldAddr_eq, oConvInt_i64, oBin_rem, oBuildSlice_11, oBinAgg_eql2, oBinAgg_neq2, oBuildSlice_1, oBuild_2, oBuildSlice_2, chk_zero, chk_nil, bumpH_zero, aBuildSlice_1, oBuildSlice_22, alcO_some, Bool.not_true, Bool.not_false, Option.getD_some, Option.getD_none, Option.isSome_some, Option.isSome_none, oBin_str_eql, oBin_str_neq, oLenK_str, oNilCheck_ptr, Nat.zero_add, bumpH_zero, put_bump, decide_true, decide_false, ne_eq, not_true, not_false_eq_true, f7']) (by simp only [seqO_eq, thenO_nor, thenO_ret, thenO_ex, gtO_some, bndO_ok, get_set_of, cndX_tmp, ifB_true, ifB_false, ifB_pos, ifB_neg, blkO_eq, blkX_nor, blkX_ret, blkX_ex, Nat.reduceEqDiff, Nat.zero_ne_one, Nat.one_ne_zero, reduceCtorEq, ↓reduceIte, oBin_add, oBin_sub, oBin_eql, oBin_neq, oBin_lss, oBin_leq, oBin_gtr, oBin_geq, oUn_not, oPick_true, oPick_false, oExtract_0, oExtract_1, oExtract_2, oMin_eq, oMax_eq, oFieldAddr_eq, oConvInt_i64, oBin_rem, oBuildSlice_11, oBinAgg_eql2, oBinAgg_neq2, oBuildSlice_1, oBuild_2, oBuildSlice_2, chk_zero, chk_nil, bumpH_zero, aBuildSlice_1, oBuildSlice_22, alcO_some, Bool.not_true, Bool.not_false, Option.getD_some, Option.getD_none, Option.isSome_some, Option.isSome_none, oBin_str_eql, oBin_str_neq, oLenK_str, oNilCheck_ptr, Nat.zero_add, bumpH_zero, put_bump, decide_true, decide_false, ne_eq, not_true, not_false_eq_true, f8']) (by simp only [seqO_eq, thenO_nor, thenO_ret, thenO_ex, gtO_some, bndO_ok, get_set_of, cndX_tmp, ifB_true, ifB_false, ifB_pos, ifB_neg, blkO_eq, blkX_nor, blkX_ret, blkX_ex, Nat.reduceEqDiff, Nat.zero_ne_one, Nat.one_ne_zero, reduceCtorEq, ↓reduceIte, oBin_add, oBin_sub, oBin_eql, oBin_neq, oBin_lss, oBin_leq, oBin_gtr, oBin_geq, oUn_not, oPick_true, oPick_false, oExtract_0, oExtract_1, oExtract_2, oMin_eq, oMax_eq, oFieldAddr_eq, oConvInt_i64, oBin_rem, oBuildSlice_11, oBinAgg_eql2, oBinAgg_neq2, oBuildSlice_1, oBuild_2, oBuildSlice_2, chk_zero, chk_nil, bumpH_zero, aBuildSlice_1, oBuildSlice_22, alcO_some, Bool.not_true, Bool.not_false, Option.getD_some, Option.getD_none, Option.isSome_some, Option.isSome_none, oBin_str_eql, oBin_str_neq, oLenK_str, oNilCheck_ptr, Nat.zero_add, bumpH_zero, put_bump, decide_true, decide_false, ne_eq, not_true, not_false_eq_true])
theorem lit_law_ok {c : Nat} {v0 : V} {bs : List Nat} {h : Hp} (plus cr : Bool) (s : Sl c h 1 v0 bs.length (bys bs)) (hc : c ≤ h.next.nat) (h256 : ∀ x ∈ bs, x < 256) (hlen : bs.length < 9223372036854775808) : ∃ h', TryF5 [v0, .bool plus, .bool cr] h = .ok (.bool true) h' := by
  suffices hs : Tells Try.prog [.tmp 6] (fun v _ => v = .bool true) (Tryd5 (T.set (some (.bool cr)) (Pos.of 2) (T.set (some (.bool plus)) (Pos.of 1) (T.set (some v0) (Pos.of 0) T.nil))) h) by
    rw [TryF5_eq]
    obtain ⟨r, h', e, rfl⟩ := hs
    exact ⟨h', e⟩
  by_cases h1000 : bs.length > 1000
  · have h1000' : (bs.length : Int) > 1000 := by omega
    simp (disch := omega) only [seqO_eq, thenO_nor, thenO_ret, thenO_ex, gtO_some, bndO_ok, get_set_of, cndX_tmp, ifB_true, ifB_false, ifB_pos, ifB_neg, blkO_eq, blkX_nor, blkX_ret, blkX_ex, Nat.reduceEqDiff, Nat.zero_ne_one, Nat.one_ne_zero, reduceCtorEq, ↓reduceIte, oBin_add, oBin_sub, oBin_eql, oBin_neq, oBin_lss, oBin_leq, oBin_gtr, oBin_geq, oUn_not, oPick_true, oPick_false, oExtract_0, oExtract_1, oExtract_2, oMin_eq, oMax_eq, oFieldAddr_eq, oConvInt_i64, oBin_rem, oBuildSlice_11, oBinAgg_eql2, oBinAgg_neq2, oBuildSlice_1, oBuild_2, oBuildSlice_2, chk_zero, chk_nil, bumpH_zero, aBuildSlice_1, oBuildSlice_22, alcO_some, Bool.not_true, Bool.not_false, Option.getD_some, Option.getD_none, Option.isSome_some, Option.isSome_none, oBin_str_eql, oBin_str_neq, oLenK_str, oNilCheck_ptr, Nat.zero_add, bumpH_zero, put_bump, decide_true, decide_false, ne_eq, not_true, not_false_eq_true, Tryd5, Tryr5_0, Tryr5_1, Tryr5_2, s.length, h1000', awake_eq]
    exact Tells.ret (by simp only [resK, seqO_eq, thenO_nor, thenO_ret, thenO_ex, gtO_some, bndO_ok, get_set_of, cndX_tmp, ifB_true, ifB_false, ifB_pos, ifB_neg, blkO_eq, blkX_nor, blkX_ret, blkX_ex, Nat.reduceEqDiff, Nat.zero_ne_one, Nat.one_ne_zero, reduceCtorEq, ↓reduceIte, oBin_add, oBin_sub, oBin_eql, oBin_neq, oBin_lss, oBin_leq, oBin_gtr, oBin_geq, oUn_not, oPick_true, oPick_false, oExtract_0, oExtract_1, oExtract_2, oMin_eq, oMax_eq, oFieldAddr_eq, oConvInt_i64, oBin_rem, oBuildSlice_11, oBinAgg_eql2, oBinAgg_neq2, oBuildSlice_1, oBuild_2, oBuildSlice_2, chk_zero, chk_nil, bumpH_zero, aBuildSlice_1, oBuildSlice_22, alcO_some, Bool.not_true, Bool.not_false, Option.getD_some, Option.getD_none, Option.isSome_some, Option.isSome_none, oBin_str_eql, oBin_str_neq, oLenK_str, oNilCheck_ptr, Nat.zero_add, bumpH_zero, put_bump, decide_true, decide_false, ne_eq, not_true, not_false_eq_true, tupR] <;> rfl) rfl
  have h1000' : ¬ (bs.length : Int) > 1000 := by omega
  have key := fun fr => lit_rest (fr := fr) plus cr s hc h256 (by omega)
  cases cr <;> cases plus
  all_goals
    simp (disch := omega) only [seqO_eq, thenO_nor, thenO_ret, thenO_ex, gtO_some, bndO_ok, get_set_of, cndX_tmp, ifB_true, ifB_false, ifB_pos, ifB_neg, blkO_eq, blkX_nor, blkX_ret, blkX_ex, Nat.reduceEqDiff, Nat.zero_ne_one, Nat.one_ne_zero, reduceCtorEq, ↓reduceIte, oBin_add, oBin_sub, oBin_eql, oBin_neq, oBin_lss, oBin_leq, oBin_gtr, oBin_geq, oUn_not, oPick_true, oPick_false, oExtract_0, oExtract_1, oExtract_2, oMin_eq, oMax_eq, oFieldAddr_eq, oConvInt_i64, oBin_rem, oBuildSlice_11, oBinAgg_eql2, oBinAgg_neq2, oBuildSlice_1, oBuild_2, oBuildSlice_2, chk_zero, chk_nil, bumpH_zero, aBuildSlice_1, oBuildSlice_22, alcO_some, Bool.not_true, Bool.not_false, Option.getD_some, Option.getD_none, Option.isSome_some, Option.isSome_none, oBin_str_eql, oBin_str_neq, oLenK_str, oNilCheck_ptr, Nat.zero_add, bumpH_zero, put_bump, decide_true, decide_false, ne_eq, not_true, not_false_eq_true, Tryd5, Tryr5_0, Tryr5_1, Tryr5_3, Tryr5_4, Tryr5_5, Tryr5_6, Tryr5_7, Tryr5_8, s.length, h1000']
    exact key _ (by simp only [seqO_eq, thenO_nor, thenO_ret, thenO_ex, gtO_some, bndO_ok, get_set_of, cndX_tmp, ifB_true, ifB_false, ifB_pos, ifB_neg, blkO_eq, blkX_nor, blkX_ret, blkX_ex, Nat.reduceEqDiff, Nat.zero_ne_one, Nat.one_ne_zero, reduceCtorEq, ↓reduceIte, oBin_add, oBin_sub, oBin_eql, oBin_neq, oBin_lss, oBin_leq, oBin_gtr, oBin_geq, oUn_not, oPick_true, oPick_false, oExtract_0, oExtract_1, oExtract_2, oMin_eq, oMax_eq, oFieldAddr_eq, oConvInt_i64, oBin_rem, oBuildSlice_11, oBinAgg_eql2, oBinAgg_neq2, oBuildSlice_1, oBuild_2, oBuildSlice_2, chk_zero, chk_nil, bumpH_zero, aBuildSlice_1, oBuildSlice_22, alcO_some, Bool.not_true, Bool.not_false, Option.getD_some, Option.getD_none, Option.isSome_some, Option.isSome_none, oBin_str_eql, oBin_str_neq, oLenK_str, oNilCheck_ptr, Nat.zero_add, bumpH_zero, put_bump, decide_true, decide_false, ne_eq, not_true, not_false_eq_true]) (by simp only [seqO_eq, thenO_nor, thenO_ret, thenO_ex, gtO_some, bndO_ok, get_set_of, cndX_tmp, ifB_true, ifB_false, ifB_pos, ifB_neg, blkO_eq, blkX_nor, blkX_ret, blkX_ex, Nat.reduceEqDiff, Nat.zero_ne_one, Nat.one_ne_zero, reduceCtorEq, ↓reduceIte, oBin_add, oBin_sub, oBin_eql, oBin_neq, oBin_lss, oBin_leq, oBin_gtr, oBin_geq, oUn_not, oPick_true, oPick_false, oExtract_0, oExtract_1, oExtract_2, oMin_eq, oMax_eq, oFieldAddr_eq, oConvInt_i64, oBin_rem, oBuildSlice_11, oBinAgg_eql2, oBinAgg_neq2, oBuildSlice_1, oBuild_2, oBuildSlice_2, chk_zero, chk_nil, bumpH_zero, aBuildSlice_1, oBuildSlice_22, alcO_some, Bool.not_true, Bool.not_false, Option.getD_some, Option.getD_none, Option.isSome_some, Option.isSome_none, oBin_str_eql, oBin_str_neq, oLenK_str, oNilCheck_ptr, Nat.zero_add, bumpH_zero, put_bump, decide_true, decide_false, ne_eq, not_true, not_false_eq_true]) (by simp only [seqO_eq, thenO_nor, thenO_ret, thenO_ex, gtO_some, bndO_ok, get_set_of, cndX_tmp, ifB_true, ifB_false, ifB_pos, ifB_neg, blkO_eq, blkX_nor, blkX_ret, blkX_ex, Nat.reduceEqDiff, Nat.zero_ne_one, Nat.one_ne_zero, reduceCtorEq, ↓reduceIte, oBin_add, oBin_sub, oBin_eql, oBin_neq, oBin_lss, oBin_leq, oBin_gtr, oBin_geq, oUn_not, oPick_true, oPick_false, oExtract_0, oExtract_1, oExtract_2, oMin_eq, oMax_eq, oFieldAddr_eq, oConvInt_i64, oBin_rem, oBuildSlice_11, oBinAgg_eql2, oBinAgg_neq2, oBuildSlice_1, oBuild_2, oBuildSlice_2, chk_zero, chk_nil, bumpH_zero, aBuildSlice_1, oBuildSlice_22, alcO_some, Bool.not_true, Bool.not_false, Option.getD_some, Option.getD_none, Option.isSome_some, Option.isSome_none, oBin_str_eql, oBin_str_neq, oLenK_str, oNilCheck_ptr, Nat.zero_add, bumpH_zero, put_bump, decide_true, decide_false, ne_eq, not_true, not_false_eq_true]; rfl) (by simp only [seqO_eq, thenO_nor, thenO_ret, thenO_ex, gtO_some, bndO_ok, get_set_of, cndX_tmp, ifB_true, ifB_false, ifB_pos, ifB_neg, blkO_eq, blkX_nor, blkX_ret, blkX_ex, Nat.reduceEqDiff, Nat.zero_ne_one, Nat.one_ne_zero, reduceCtorEq, ↓reduceIte, oBin_add, oBin_sub, oBin_eql, oBin_neq, oBin_lss, oBin_leq, oBin_gtr, oBin_geq, oUn_not, oPick_true, oPick_false, oExtract_0, oExtract_1, oExtract_2, oMin_eq, oMax_eq, oFieldAddr_eq, oConvInt_i64, oBin_rem, oBuildSlice_11, oBinAgg_eql2, oBinAgg_neq2, oBuildSlice_1, oBuild_2, oBuildSlice_2, chk_zero, chk_nil, bumpH_zero, aBuildSlice_1, oBuildSlice_22, alcO_some, Bool.not_true, Bool.not_false, Option.getD_some, Option.getD_none, Option.isSome_some, Option.isSome_none, oBin_str_eql, oBin_str_neq, oLenK_str, oNilCheck_ptr, Nat.zero_add, bumpH_zero, put_bump, decide_true, decide_false, ne_eq, not_true, not_false_eq_true]; rfl)
end Go.Proofs.Ytgnfkfmhjgbhhaa
