/- Part of the value machine, or of a walk by it: lemmas that the claim's last text uses. No conditions. -/
import Derived.Test.YtlafgccdobeinaaGreatDoorTImM
import Derived.Test.YtlafgccdobeinaaGreatDoorTImS
import Derived.Test.YtlafgccdobeinaaGreatDoorTVmO
import Derived.Test.YtlafgccdobeinaaGreatDoorTImN
set_option linter.unusedVariables false
set_option linter.unusedSimpArgs false
set_option linter.unnecessarySimpa false
noncomputable section
namespace Go.Proofs.Im
open Go Go.Proofs Go.Vm
set_option linter.unusedVariables false
set_option maxRecDepth 100000
set_option maxHeartbeats 4000000
abbrev ImF12 : Fun := Go.Proofs.ImD.TryF13
theorem Imc12 : CallOk Tryz.prog TryG 13 ImF12 := Go.Proofs.ImD.Tryc13
def Imk11 : Nat → Bool := fun t => memN t [0]
def Ime11 : FuncId → Option Fun := fun f => match Nat.beq f 7 with | true => some ImF6 | false => none
def Imp11 : Plans := fun id => none
def ImF11 : Fun := funX Tryz.prog TryG Imk11 Ime11 Imp11 lf Tryz.f12
theorem Imc11 : CallOk Tryz.prog TryG 12 ImF11 := funX_ok Trymix (callsOk_cons Imc6 callsOk_0) Tryz.func12 (by kernel_rfl)
def Imk4 : Nat → Bool := fun t => memN t [0, 1, 4, 5, 6, 7, 8, 9, 10, 11, 12, 13, 14, 17]
def Imr4_0 (fr : F) (h : Hp) : Out :=
  Out.nor (T.set (some (.bool false)) (Pos.of 4) fr) h
def Imr4_1 (fr : F) (h : Hp) : Out :=
  bndO (ImF11 [] h) fun v15 h0 =>
  Out.nor (T.set (some v15) (Pos.of 5) fr) h0
def Imr4_2 (fr : F) (h : Hp) : Out :=
  gtO (T.get fr (Pos.of 5)) fun v5 => bndO (oBin .eql (.ptr 16) v5 .nilp h) fun v17 h1 =>
  Out.nor (T.set (some v17) (Pos.of 17) fr) h1
def Imr4_3 (fr : F) (h : Hp) : Out :=
  Out.nor (T.set (some (.bool false)) (Pos.of 4) fr) h
def Imr4_4 (fr : F) (h : Hp) : Out :=
  gtO (T.get fr (Pos.of 1)) fun v1 => bndO (oConvInt .i64 v1 h) fun v19 h1 =>
  bndO (ImF12 [v19] h1) fun v20 h2 =>
  bndO (oBin .add .none (.str [116]) v20 h2) fun v21 h3 =>
  bndO (oBin .add .none v21 (.str [93, 42]) h3) fun v22 h4 =>
  Out.nor (T.set (some v22) (Pos.of 6) fr) h4
def Imr4_5 (fr : F) (h : Hp) : Out :=
  bndO (oBuildSlice 9 [(.str []), (.str []), (.str []), (.str []), (.str []), (.str []), (.str []), (.str [])] 8 [(0, 1, (.str [83, 69, 76, 69, 67, 84, 32, 97])), (1, 1, (.str [69, 88, 65, 77, 73, 78, 69, 32, 97])), (2, 1, (.str [67, 82, 69, 65, 84, 69, 32, 97])), (3, 1, (.str [68, 69, 76, 69, 84, 69, 32, 97])), (4, 1, (.str [82, 69, 78, 65, 77, 69, 32, 97, 32, 98])), (5, 1, (.str [76, 73, 83, 84, 32, 97, 32, 98])), (6, 1, (.str [83, 84, 65, 84, 85, 83, 32, 97, 32, 40, 77, 69, 83, 83, 65, 71, 69, 83, 41])), (7, 1, (.str [65, 80, 80, 69, 78, 68, 32, 97, 32, 98]))] h) fun v23 h0 =>
  Out.nor (T.set (some v23) (Pos.of 7) fr) h0
def Imr4_6 (fr : F) (h : Hp) : Out :=
  bndO (oBuildSlice 9 [(.str []), (.str []), (.str []), (.str []), (.str []), (.str []), (.str []), (.str []), (.str []), (.str []), (.str []), (.str []), (.str []), (.str [])] 14 [(0, 1, (.str [67, 72, 69, 67, 75])), (1, 1, (.str [67, 76, 79, 83, 69])), (2, 1, (.str [69, 88, 80, 85, 78, 71, 69])), (3, 1, (.str [85, 73, 68, 32, 69, 88, 80, 85, 78, 71, 69, 32, 49])), (4, 1, (.str [83, 69, 65, 82, 67, 72, 32, 65, 76, 76])), (5, 1, (.str [85, 73, 68, 32, 83, 69, 65, 82, 67, 72, 32, 65, 76, 76])), (6, 1, (.str [70, 69, 84, 67, 72, 32, 49, 32, 85, 73, 68])), (7, 1, (.str [85, 73, 68, 32, 70, 69, 84, 67, 72, 32, 49, 32, 85, 73, 68])), (8, 1, (.str [83, 84, 79, 82, 69, 32, 49, 32, 70, 76, 65, 71, 83, 32, 120])), (9, 1, (.str [85, 73, 68, 32, 83, 84, 79, 82, 69, 32, 49, 32, 70, 76, 65, 71, 83, 32, 120])), (10, 1, (.str [67, 79, 80, 89, 32, 49, 32, 97])), (11, 1, (.str [85, 73, 68, 32, 67, 79, 80, 89, 32, 49, 32, 97])), (12, 1, (.str [77, 79, 86, 69, 32, 49, 32, 97])), (13, 1, (.str [85, 73, 68, 32, 77, 79, 86, 69, 32, 49, 32, 97]))] h) fun v24 h0 =>
  Out.nor (T.set (some v24) (Pos.of 8) fr) h0
def Imr4_7 (fr : F) (h : Hp) : Out :=
  gtO (T.get fr (Pos.of 7)) fun w0_7 => gtO (T.get fr (Pos.of 0)) fun w1_0 => bndO (oConvInt .i64 w1_0 (bumpH 0 h)) fun v27 _ =>
  gtO (T.get fr (Pos.of 7)) fun w3_7 => bndO (oLenK 2 w3_7 (bumpH 0 h)) fun v29 _ =>
  bndO (oBin .rem .none v27 v29 (bumpH 0 h)) fun v30 _ =>
  bndO (oIdxS 1 w0_7 v30 (bumpH 0 h)) fun v31 _ =>
  bndO (oLoad1 v31 (bumpH 0 h)) fun v32 _ =>
  gtO (T.get fr (Pos.of 8)) fun w8_8 => gtO (T.get fr (Pos.of 0)) fun w9_0 => bndO (oConvInt .i64 w9_0 (bumpH 0 h)) fun v35 _ =>
  gtO (T.get fr (Pos.of 8)) fun w11_8 => bndO (oLenK 2 w11_8 (bumpH 0 h)) fun v37 _ =>
  bndO (oBin .rem .none v35 v37 (bumpH 0 h)) fun v38 _ =>
  bndO (oIdxS 1 w8_8 v38 (bumpH 0 h)) fun v39 _ =>
  bndO (oLoad1 v39 (bumpH 0 h)) fun v40 _ =>
  Out.nor (T.set (some v40) (Pos.of 10) (T.set (some v32) (Pos.of 9) fr)) (bumpH 0 h)
def Imr4_8 (fr : F) (h : Hp) : Out :=
  bndO (ImF7 [] h) fun v41 h0 =>
  Out.nor (T.set (some v41) (Pos.of 11) fr) h0
def Imr4_9 (fr : F) (h : Hp) : Out :=
  gtO (T.get fr (Pos.of 11)) fun v11 => gtO (T.get fr (Pos.of 5)) fun v5 => gtO (T.get fr (Pos.of 6)) fun v6 => bndO (oBin .add .none v6 (.str [32]) h) fun v45 h3 =>
  gtO (T.get fr (Pos.of 9)) fun v9 => bndO (oBin .add .none v45 v9 h3) fun v47 h5 =>
  bndO (oBin .add .none v47 (.str [13, 10]) h5) fun v48 h6 =>
  bndO (oBin .add .none v48 v6 h6) fun v50 h8 =>
  bndO (oBin .add .none v50 (.str [32]) h8) fun v51 h9 =>
  gtO (T.get fr (Pos.of 10)) fun v10 => bndO (oBin .add .none v51 v10 h9) fun v53 h11 =>
  bndO (oBin .add .none v53 (.str [13, 10]) h11) fun v54 h12 =>
  bndO (oBin .add .none v54 v6 h12) fun v56 h14 =>
  bndO (oBin .add .none v56 (.str [32, 76, 79, 71, 73, 78, 32, 117, 13, 10]) h14) fun v57 h15 =>
  bndO (oBin .add .none v57 v6 h15) fun v59 h17 =>
  bndO (oBin .add .none v59 (.str [32, 76, 79, 71, 73, 78, 32, 117, 32, 113, 13, 10]) h17) fun v60 h18 =>
  bndO (oBin .add .none v60 v6 h18) fun v62 h20 =>
  bndO (oBin .add .none v62 (.str [32, 78, 79, 79, 80, 32, 120, 13, 10]) h20) fun v63 h21 =>
  bndO (oBin .add .none v63 v6 h21) fun v65 h23 =>
  bndO (oBin .add .none v65 (.str [32, 87, 72, 65, 84, 13, 10]) h23) fun v66 h24 =>
  bndO (oBin .add .none v66 v6 h24) fun v68 h26 =>
  bndO (oBin .add .none v68 (.str [32, 85, 73, 68, 13, 10]) h26) fun v69 h27 =>
  bndO (oBin .add .none v69 v6 h27) fun v71 h29 =>
  bndO (oBin .add .none v71 (.str [32, 85, 73, 68, 32, 78, 79, 79, 80, 13, 10]) h29) fun v72 h30 =>
  bndO (oBin .add .none v72 v6 h30) fun v74 h32 =>
  bndO (oBin .add .none v74 (.str [13, 10]) h32) fun v75 h33 =>
  bndO (ImF10 [v11, v5, v75] h33) fun v76 h34 =>
  Out.nor (T.set (some v76) (Pos.of 12) fr) h34
def Imr4_10 (fr : F) (h : Hp) : Out :=
  gtO (T.get fr (Pos.of 6)) fun v6 => bndO (oBin .add .none v6 (.str [32, 78, 79, 32, 115, 116, 97, 116, 101, 13, 10]) h) fun v78 h1 =>
  bndO (oBin .add .none v78 v6 h1) fun v80 h3 =>
  bndO (oBin .add .none v80 (.str [32, 78, 79, 32, 115, 116, 97, 116, 101, 13, 10]) h3) fun v81 h4 =>
  bndO (oBin .add .none v81 v6 h4) fun v83 h6 =>
  bndO (oBin .add .none v83 (.str [32, 66, 65, 68, 32, 119, 111, 114, 100, 115, 13, 10]) h6) fun v84 h7 =>
  bndO (oBin .add .none v84 v6 h7) fun v86 h9 =>
  bndO (oBin .add .none v86 (.str [32, 78, 79, 32, 108, 111, 103, 105, 110, 13, 10]) h9) fun v87 h10 =>
  bndO (oBin .add .none v87 v6 h10) fun v89 h12 =>
  bndO (oBin .add .none v89 (.str [32, 66, 65, 68, 32, 119, 111, 114, 100, 115, 13, 10]) h12) fun v90 h13 =>
  bndO (oBin .add .none v90 v6 h13) fun v92 h15 =>
  bndO (oBin .add .none v92 (.str [32, 66, 65, 68, 32, 99, 111, 109, 109, 97, 110, 100, 13, 10]) h15) fun v93 h16 =>
  bndO (oBin .add .none v93 v6 h16) fun v95 h18 =>
  bndO (oBin .add .none v95 (.str [32, 66, 65, 68, 32, 99, 111, 109, 109, 97, 110, 100, 13, 10]) h18) fun v96 h19 =>
  bndO (oBin .add .none v96 v6 h19) fun v98 h21 =>
  bndO (oBin .add .none v98 (.str [32, 66, 65, 68, 32, 99, 111, 109, 109, 97, 110, 100, 13, 10, 42, 32, 66, 65, 68, 32, 108, 105, 110, 101, 13, 10]) h21) fun v99 h22 =>
  Out.nor (T.set (some v99) (Pos.of 13) fr) h22
def Imr4_11 (fr : F) (h : Hp) : Out :=
  gtO (T.get fr (Pos.of 11)) fun v11 => gtO (T.get fr (Pos.of 5)) fun v5 => gtO (T.get fr (Pos.of 6)) fun v6 => bndO (oBin .add .none v6 (.str [32, 108, 111, 103, 105, 110, 32, 34, 117, 34, 32, 123, 49, 43, 125, 13, 10, 112, 13, 10]) h) fun v103 h3 =>
  bndO (oBin .add .none v103 v6 h3) fun v105 h5 =>
  bndO (oBin .add .none v105 (.str [32, 76, 79, 71, 73, 78, 32, 117, 32, 112, 13, 10]) h5) fun v106 h6 =>
  bndO (oBin .add .none v106 v6 h6) fun v108 h8 =>
  bndO (oBin .add .none v108 (.str [32]) h8) fun v109 h9 =>
  gtO (T.get fr (Pos.of 10)) fun v10 => bndO (oBin .add .none v109 v10 h9) fun v111 h11 =>
  bndO (oBin .add .none v111 (.str [13, 10]) h11) fun v112 h12 =>
  bndO (ImF10 [v11, v5, v112] h12) fun v113 h13 =>
  Out.nor (T.set (some v113) (Pos.of 14) fr) h13
def Imr4_12 (fr : F) (h : Hp) : Out :=
  gtO (T.get fr (Pos.of 12)) fun v12 => gtO (T.get fr (Pos.of 13)) fun v13 => bndO (oBin .eql .none v12 v13 h) fun v116 h2 =>
  ifB v116 (gtO (T.get fr (Pos.of 14)) fun v14 => gtO (T.get fr (Pos.of 6)) fun v6 => bndO (oBin .add .none v6 (.str [32, 79, 75, 32, 100, 111, 110, 101, 13, 10]) h2) fun v120 h6 =>
  bndO (oBin .add .none v120 v6 h6) fun v122 h8 =>
  bndO (oBin .add .none v122 (.str [32, 78, 79, 32, 115, 116, 97, 116, 101, 13, 10]) h8) fun v123 h9 =>
  bndO (oBin .add .none v123 v6 h9) fun v125 h11 =>
  bndO (oBin .add .none v125 (.str [32, 78, 79, 32, 115, 116, 97, 116, 101, 13, 10]) h11) fun v126 h12 =>
  bndO (oBin .eql .none v14 v126 h12) fun v127 h13 =>
  ifB v127 (gtO (T.get fr (Pos.of 5)) fun v5 => bndO (ImF8 [v5] h13) fun v131 h17 =>
  bndO (oBin .eql .none v131 (.int .i64 1) h17) fun v132 h18 =>
  ifB v132 (bndO (ImF5 [] h18) fun v135 h21 =>
  Out.nor (T.set (some v135) (Pos.of 4) fr) h21) (Out.nor (T.set (some (.bool false)) (Pos.of 4) fr) h18)) (Out.nor (T.set (some (.bool false)) (Pos.of 4) fr) h13)) (Out.nor (T.set (some (.bool false)) (Pos.of 4) fr) h2)
def Imd4 : F → Hp → Out := (seqO Imr4_0 (seqO Imr4_1 (seqO (seqO Imr4_2 (cndX (.tmp 17) (seqO Imr4_3 Out.ret) Out.nor)) (seqO Imr4_4 (seqO Imr4_5 (seqO Imr4_6 (seqO Imr4_7 (seqO Imr4_8 (seqO Imr4_9 (seqO Imr4_10 (seqO Imr4_11 (seqO Imr4_12 Out.ret))))))))))))
def Ime4 : FuncId → Option Fun := fun f => match Nat.beq f 12 with | true => some ImF11 | false => match Nat.beq f 13 with | true => some ImF12 | false => match Nat.beq f 8 with | true => some ImF7 | false => match Nat.beq f 11 with | true => some ImF10 | false => match Nat.beq f 9 with | true => some ImF8 | false => match Nat.beq f 6 with | true => some ImF5 | false => none
def Imp4 : Plans := fun id => match Nat.beq id 7 with | true => some ([0, 0, 2, 0, 8, 30, 63, 127, 0, 0, 512, 0, 2048, 7680, 16128, 32512, 255, 131071], [(0, .pure), (1, .pure), (2, .pure), (3, .pure), (4, .pure), (5, .pure), (6, .pure), (7, .read 0), (8, .pure), (9, .pure), (10, .pure), (11, .pure), (12, .pure), (13, .pure), (14, .pure), (15, .read 0), (16, .pure), (17, .pure)]) | false => none
def ImF4 : Fun := funX Tryz.prog TryG Imk4 Ime4 Imp4 lf Tryz.f4
theorem ImD4 : denX Tryz.prog TryG Tryz.f4.ntmps Imk4 Ime4 Imp4 lf (codeOf Tryz.f4) = Imd4 := by kernel_rfl
theorem ImF4_eq (x0 x1 : V) (h : Hp) : ImF4 [x0, x1] h = outR Tryz.prog [.tmp 4] (Imd4 (T.set (some x1) (Pos.of 1) (T.set (some x0) (Pos.of 0) T.nil)) h) := funX_eq (by kernel_rfl) ImD4 (by kernel_rfl) h
theorem Imc4 : CallOk Tryz.prog TryG 4 ImF4 := funX_ok Trymix (callsOk_cons Imc11 (callsOk_cons Imc12 (callsOk_cons Imc7 (callsOk_cons Imc10 (callsOk_cons Imc8 (callsOk_cons Imc5 callsOk_0)))))) Tryz.func4 (by kernel_rfl)
end Go.Proofs.Im

noncomputable section
namespace Go.Proofs.Im
open Go Go.Proofs Go.Vm Go.Ln
open Go.ChangeShapes Go.WideShapes Go.ChangeAt Go.RowKit
set_option linter.unusedVariables false
set_option maxRecDepth 100000
set_option maxHeartbeats 4000000
set_option linter.unusedSimpArgs false
theorem bs8 (h : Hp) : oBuildSlice 9 [(.str []), (.str []), (.str []), (.str []), (.str []), (.str []), (.str []), (.str [])] 8 [(0, 1, (.str [83, 69, 76, 69, 67, 84, 32, 97])), (1, 1, (.str [69, 88, 65, 77, 73, 78, 69, 32, 97])), (2, 1, (.str [67, 82, 69, 65, 84, 69, 32, 97])), (3, 1, (.str [68, 69, 76, 69, 84, 69, 32, 97])), (4, 1, (.str [82, 69, 78, 65, 77, 69, 32, 97, 32, 98])), (5, 1, (.str [76, 73, 83, 84, 32, 97, 32, 98])), (6, 1, (.str [83, 84, 65, 84, 85, 83, 32, 97, 32, 40, 77, 69, 83, 83, 65, 71, 69, 83, 41])), (7, 1, (.str [65, 80, 80, 69, 78, 68, 32, 97, 32, 98]))] h = .ok (.slice h.next 0 8 (.kn 8)) (h.new (.cells (.rw 9 true) (behL.map V.str))) := rfl
theorem bs14 (h : Hp) : oBuildSlice 9 [(.str []), (.str []), (.str []), (.str []), (.str []), (.str []), (.str []), (.str []), (.str []), (.str []), (.str []), (.str []), (.str []), (.str [])] 14 [(0, 1, (.str [67, 72, 69, 67, 75])), (1, 1, (.str [67, 76, 79, 83, 69])), (2, 1, (.str [69, 88, 80, 85, 78, 71, 69])), (3, 1, (.str [85, 73, 68, 32, 69, 88, 80, 85, 78, 71, 69, 32, 49])), (4, 1, (.str [83, 69, 65, 82, 67, 72, 32, 65, 76, 76])), (5, 1, (.str [85, 73, 68, 32, 83, 69, 65, 82, 67, 72, 32, 65, 76, 76])), (6, 1, (.str [70, 69, 84, 67, 72, 32, 49, 32, 85, 73, 68])), (7, 1, (.str [85, 73, 68, 32, 70, 69, 84, 67, 72, 32, 49, 32, 85, 73, 68])), (8, 1, (.str [83, 84, 79, 82, 69, 32, 49, 32, 70, 76, 65, 71, 83, 32, 120])), (9, 1, (.str [85, 73, 68, 32, 83, 84, 79, 82, 69, 32, 49, 32, 70, 76, 65, 71, 83, 32, 120])), (10, 1, (.str [67, 79, 80, 89, 32, 49, 32, 97])), (11, 1, (.str [85, 73, 68, 32, 67, 79, 80, 89, 32, 49, 32, 97])), (12, 1, (.str [77, 79, 86, 69, 32, 49, 32, 97])), (13, 1, (.str [85, 73, 68, 32, 77, 79, 86, 69, 32, 49, 32, 97]))] h = .ok (.slice h.next 0 14 (.kn 14)) (h.new (.cells (.rw 9 true) (choL.map V.str))) := rfl
def sF : R V := ImF11 [] (h0 TryG)
def sA : Hp := (hpR sF).new (.cells (.rw 9 true) (behL.map V.str))
def sB : Hp := sA.new (.cells (.rw 9 true) (choL.map V.str))
def sC : R V := ImF7 [] sB
def sI : Pos := imP ((hpR sC).get (posR sC))
def cfgOk (o : Option Ob) : Bool := match o with
  | some x => (match x with
    | .cells _ l => (match l with
      | a :: l => (match l with
        | b :: l => eqVV a (.str [117]) && (eqVV b (.str [112]) && Nat.ble 7 l.length)
        | [] => false)
      | [] => false)
    | _ => false)
  | none => false
theorem cfg_ok {o : Option Ob} (e : cfgOk o = true) : ∃ w rest r, o = some (.cells w ((.str [117] :: .str [112] :: rest) ++ r)) ∧ rest.length = 7 := by
  unfold cfgOk at e
  split at e
  · split at e
    · rename_i w l
      split at e
      · split at e
        · rename_i a b l
          simp only [Bool.and_eq_true] at e
          obtain ⟨e1, e2, e3⟩ := e
          rw [eqVV_ok _ _ e1, eqVV_ok _ _ e2]
          exact ⟨w, l.take 7, l.drop 7, by simp [List.take_append_drop], by have := Nat.le_of_ble_eq_true e3; rw [List.length_take]; omega⟩
        · cases e
      · cases e
    · cases e
  · cases e
theorem sF_eq : sF = .ok (.ptr (posR sF) 0) (hpR sF) := by kernel_rfl
theorem sC_eq : sC = .ok (.ptr (posR sC) 0) (hpR sC) := by kernel_rfl
theorem sC_c : (hpR sC).get (posR sC) = some (.cells (.rw tCn true) [.bool false, .nilp, .bool false, .int .i64 0, .map sI]) := by kernel_rfl
theorem sC_d : (hpR sC).get sI = some (.map (cmdM (posR sC))) := by kernel_rfl
theorem sC_e : clk ((hpR sC).get (posR sF)) = some 1 := by kernel_rfl
theorem sC_g : cfgOk ((hpR sC).get (posR sF)) = true := by kernel_rfl
theorem sC_f1 : Nat.blt (posR sF).nat (hpR sC).next.nat = true := by kernel_rfl
theorem sC_f2 : Nat.beq (posR sF).nat (posR sC).nat = false := by kernel_rfl
theorem sC_f3 : Nat.beq (posR sC).nat sI.nat = false := by kernel_rfl
theorem sC_f4 : Nat.blt (posR sC).nat (hpR sC).next.nat = true := by kernel_rfl
theorem sC_f5 : Nat.blt sI.nat (hpR sC).next.nat = true := by kernel_rfl
theorem digM_len (n : Nat) : (digM n).length ≤ 3 := by unfold digM; split <;> (try split) <;> simp
theorem len_all {l : List (List Nat)} {k : Nat} (h : l.all (fun a => Nat.ble a.length k) = true) {a : List Nat} (ha : a ∈ l) : a.length ≤ k := Nat.le_of_ble_eq_true (List.all_eq_true.1 h a ha)
theorem states_run {which n : Nat} (hw : which < 256) (hn : n < 256) : ∃ h', ImF4 [.int .u8 (which : Int), .int .u8 (n : Int)] (h0 TryG) = .ok (.bool true) h' := by
  rw [ImF4_eq]
  suffices hT : Tells Tryz.prog [.tmp 4] (fun r _ => r = .bool true) (Imd4 (T.set (some (.int .u8 (n : Int))) (Pos.of 1) (T.set (some (.int .u8 (which : Int))) (Pos.of 0) T.nil)) (h0 TryG)) by
    obtain ⟨r, h', e, rfl⟩ := hT
    exact ⟨h', e⟩
  have eF : ImF11 [] (h0 TryG) = .ok (.ptr (posR sF) 0) (hpR sF) := sF_eq
  have eC : ImF7 [] sB = .ok (.ptr (posR sC) 0) (hpR sC) := sC_eq
  -- the two texts
  have h8 : which % 8 < behL.length := by show _ < 8; omega
  have h14 : which % 14 < choL.length := by show _ < 14; omega
  obtain ⟨a, ha⟩ : ∃ a, a = behL[which % 8] := ⟨_, rfl⟩
  obtain ⟨b, hb⟩ : ∃ b, b = choL[which % 14] := ⟨_, rfl⟩
  have ma : a ∈ behL := by rw [ha]; exact List.getElem_mem h8
  have mb : b ∈ choL := by rw [hb]; exact List.getElem_mem h14
  have la : a.length ≤ 30 := len_all (by decide) ma
  have lb : b.length ≤ 30 := len_all (by decide) mb
  have T8 : ((which : Nat) : Int).tmod 8 = ((which % 8 : Nat) : Int) := rfl
  have T14 : ((which : Nat) : Int).tmod 14 = ((which % 14 : Nat) : Int) := rfl
  have gA : sB.get (hpR sF).next = some (.cells (.rw 9 true) (behL.map V.str)) := by kernel_rfl
  have gB : sB.get sA.next = some (.cells (.rw 9 true) (choL.map V.str)) := by kernel_rfl
  have I8 : ∀ h', oIdxS 1 (.slice (hpR sF).next 0 8 (.kn 8)) (.int .i64 ((which % 8 : Nat) : Int)) h' = .ok (.ptr (hpR sF).next (0 + which % 8 * 1)) h' := fun h' => oIdxS_slice (by omega)
  have I14 : ∀ h', oIdxS 1 (.slice sA.next 0 14 (.kn 14)) (.int .i64 ((which % 14 : Nat) : Int)) h' = .ok (.ptr sA.next (0 + which % 14 * 1)) h' := fun h' => oIdxS_slice (by omega)
  have L8 : oLoad1 (.ptr (hpR sF).next (which % 8 * 1)) sB = .ok (.str a) sB := ld_at gA (by rw [Nat.mul_one, List.getElem?_map, List.getElem?_eq_getElem h8, ha]; rfl)
  have L14 : oLoad1 (.ptr sA.next (which % 14 * 1)) sB = .ok (.str b) sB := ld_at gB (by rw [Nat.mul_one, List.getElem?_map, List.getElem?_eq_getElem h14, hb]; rfl)
  have K8 : ∀ h', oLenK 2 (.slice (hpR sF).next 0 8 (.kn 8)) h' = .ok (.int .i64 8) h' := fun _ => rfl
  have K14 : ∀ h', oLenK 2 (.slice sA.next 0 14 (.kn 14)) h' = .ok (.int .i64 14) h' := fun _ => rfl
  -- the tag
  have eD : ∀ h, ImF12 [.int .i64 (n : Int)] h = .ok (.str (digM n)) h := fun h => ImD.dig_eq hn h
  have ld := digM_len n
  have et : [116] ++ digM n ++ [93, 42] = tagM n := rfl
  have rx := x_ok hn ma mb
  have ry := y_ok hn mb
  obtain ⟨t, ht⟩ : ∃ t, t = tagM n := ⟨_, rfl⟩
  rw [← ht] at et rx ry
  have lt : t.length ≤ 6 := by rw [ht]; unfold tagM; simp only [List.length_cons, List.length_append, List.length_nil]; omega
  -- the account
  obtain ⟨w, rest, r, hg, hr⟩ := cfg_ok sC_g
  have hq : ((.str [117] :: .str [112] :: rest) ++ r)[9]? = some (V.int .i64 1) := by
    have e := sC_e
    rw [hg] at e
    unfold clk at e
    simp only [] at e
    rw [← nthV_eq]
    split at e
    · rename_i v hv
      split at e
      · split at e
        · cases e; exact hv
        · cases e
      · cases e
    · cases e
  have n1 := lt_of_blt sC_f1
  have n2 : posR sF ≠ posR sC := ne_of_beq sC_f2
  have cn : Cn (hpR sC) (posR sC) sI false := ⟨false, 0, sC_c, sC_d, ne_of_beq sC_f3, lt_of_blt sC_f4, lt_of_blt sC_f5⟩
  -- what is sent
  have eX : (((((((((((((((((((((t ++ [32]) ++ a) ++ [13, 10]) ++ t) ++ [32]) ++ b) ++ [13, 10]) ++ t) ++ [32, 76, 79, 71, 73, 78, 32, 117, 13, 10]) ++ t) ++ [32, 76, 79, 71, 73, 78, 32, 117, 32, 113, 13, 10]) ++ t) ++ [32, 78, 79, 79, 80, 32, 120, 13, 10]) ++ t) ++ [32, 87, 72, 65, 84, 13, 10]) ++ t) ++ [32, 85, 73, 68, 13, 10]) ++ t) ++ [32, 85, 73, 68, 32, 78, 79, 79, 80, 13, 10]) ++ t) ++ [13, 10]) = xM t a b := by simp only [xM, List.append_assoc, List.cons_append, List.nil_append]
  have eY : (((((((t ++ [32, 108, 111, 103, 105, 110, 32, 34, 117, 34, 32, 123, 49, 43, 125, 13, 10, 112, 13, 10]) ++ t) ++ [32, 76, 79, 71, 73, 78, 32, 117, 32, 112, 13, 10]) ++ t) ++ [32]) ++ b) ++ [13, 10]) = yM t b := by simp only [yM, List.append_assoc, List.cons_append, List.nil_append]
  have eW : (((((((((((((((t ++ [32, 78, 79, 32, 115, 116, 97, 116, 101, 13, 10]) ++ t) ++ [32, 78, 79, 32, 115, 116, 97, 116, 101, 13, 10]) ++ t) ++ [32, 66, 65, 68, 32, 119, 111, 114, 100, 115, 13, 10]) ++ t) ++ [32, 78, 79, 32, 108, 111, 103, 105, 110, 13, 10]) ++ t) ++ [32, 66, 65, 68, 32, 119, 111, 114, 100, 115, 13, 10]) ++ t) ++ [32, 66, 65, 68, 32, 99, 111, 109, 109, 97, 110, 100, 13, 10]) ++ t) ++ [32, 66, 65, 68, 32, 99, 111, 109, 109, 97, 110, 100, 13, 10]) ++ t) ++ [32, 66, 65, 68, 32, 99, 111, 109, 109, 97, 110, 100, 13, 10, 42, 32, 66, 65, 68, 32, 108, 105, 110, 101, 13, 10]) = wantM t := by simp only [wantM, noSt, List.append_assoc, List.cons_append, List.nil_append]
  have eD2 : (((((t ++ [32, 79, 75, 32, 100, 111, 110, 101, 13, 10]) ++ t) ++ [32, 78, 79, 32, 115, 116, 97, 116, 101, 13, 10]) ++ t) ++ [32, 78, 79, 32, 115, 116, 97, 116, 101, 13, 10]) = doneM t := by simp only [doneM, noSt, List.append_assoc, List.cons_append, List.nil_append]
  obtain ⟨r5, h5, e5, rfl, cn5, c5⟩ := allL_ok cn (by have := rx.len; omega) rx.lt hg hr n1 n2 (allN_allL rx.all)
  have hg5 := (c5.get _ n1 n2).trans hg
  have n5 := c5.next
  obtain ⟨r6, h6, e6, rfl, cn6, c6⟩ := allL_ok cn5 (by have := ry.len; omega) ry.lt hg5 hr (by omega) n2 (allN_allL ry.all)
  have hg6 := (c6.get _ (by omega) n2).trans hg5
  have eK := clock_ok hg6 hq
  rw [← eX] at e5
  rw [← eY] at e6
  have A1 : ∀ (x y : List Nat) (h : Hp), x.length + y.length < 4611686018427387904 → oBin .add .none (.str x) (.str y) h = .ok (.str (x ++ y)) h := fun x y h hl => oBin_str_add hl
  simp (disch := first | omega | (simp only [List.length_append, List.length_cons, List.length_nil]; omega)) only [vmL, Nat.reduceEqDiff, reduceCtorEq, ↓reduceIte, vsL, vqL, Imd4, Imr4_0, Imr4_1, Imr4_2, Imr4_4, Imr4_5, Imr4_6, Imr4_7, Imr4_8, Imr4_9, Imr4_10, Imr4_11, Imr4_12, eF, ptr_eql_nil, eD, A1, et, bs8, bs14, show (hpR sF).new (.cells (.rw 9 true) (behL.map V.str)) = sA from rfl, show sA.new (.cells (.rw 9 true) (choL.map V.str)) = sB from rfl, K8, K14, T8, T14, I8, I14, L8, L14, eC, e5, e6, eW, eD2, eq_self, eK, awake_eq]
  exact Tells.ret (by simp only [resK, vmL, ↓reduceIte, tupR]; rfl) rfl
end Go.Proofs.Im

noncomputable section
namespace Go.Proofs.Im
open Go Go.Proofs Go.Vm Go.Ln
open Go.ChangeShapes Go.WideShapes Go.ChangeAt Go.RowKit
set_option linter.unusedVariables false
set_option maxRecDepth 100000
theorem u8_nat {z : Int} (h : (Lit.int .u8 z).wf = true) : ∃ a : Nat, z = (a : Int) ∧ a < 256 := by
  have h2 : 0 ≤ z ∧ z ≤ 255 := by
    unfold Lit.wf at h
    simp only [Bool.and_eq_true, decide_eq_true_eq] at h
    exact h
  exact ⟨z.toNat, by omega, by omega⟩
theorem walkOfImapStates {H : Type} {enc : TypeId × Value → H} {spare : Nat → Bool} {held : Bool} (W : World) {r : Reach} {b0 base : Nat} {v0 v1 : Value} {d0 d1 : DataW H} {p0 p1 : List MemPlace}
    (h0 : Value.okWide Tryz.prog W r b0 5 v0) (k0 : DataW.Trod enc Tryz.prog W base spare held 5 v0 d0 p0) (h1 : Value.okWide Tryz.prog W r b0 5 v1) (k1 : DataW.Trod enc Tryz.prog W base spare held 5 v1 d1 p1) :
    Calls Tryz.prog 4 #[v0, v1] W fun e W' => e = .returned (.bool true) ∧ Below W.heap.size W W' := by
  obtain ⟨z0, rfl, -, -, w0⟩ := open_int Tryz.underlying5 h0 k0
  obtain ⟨z1, rfl, -, -, w1⟩ := open_int Tryz.underlying5 h1 k1
  obtain ⟨a, rfl, ha⟩ := u8_nat w0
  obtain ⟨b, rfl, hb⟩ := u8_nat w1
  obtain ⟨h', e⟩ := states_run ha hb
  exact calls_of_vm (cargs := [_, _]) (args := [_, _]) Imc4 Tryz.func4 (by kernel_rfl) (c := codeOf Tryz.f4) (by kernel_rfl) (Seen.empty TryG W) ⟨_, _, rp_int _ .u8 a, ⟨_, [], rp_int _ .u8 b, rfl, rfl⟩, rfl⟩ e
end Go.Proofs.Im
