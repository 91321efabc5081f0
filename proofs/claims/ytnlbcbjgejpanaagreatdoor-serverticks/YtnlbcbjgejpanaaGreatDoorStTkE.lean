/- Part of the value machine, or of a walk by it: lemmas that the claim's last text uses. No conditions. -/
import Derived.Test.YtnlbcbjgejpanaaGreatDoorStTkD
import Derived.KernelRfl
set_option linter.unusedVariables false
set_option linter.unusedSimpArgs false
set_option linter.unnecessarySimpa false
noncomputable section
namespace Go.Proofs.ImT
open Go Go.Proofs Go.Vm
set_option linter.unusedVariables false
set_option linter.unusedSimpArgs false
set_option maxRecDepth 100000
set_option maxHeartbeats 4000000
def wT (hi : Hp) : R V := TryF7 [] hi
def nT (hi : Hp) : R V := TryF6 [valE (wT hi)] (hpT (wT hi))
def ptrT (o : Option V) : Pos := match o with | some v => (match v with | .ptr i _ => i | .slice i _ _ _ => i | .map i => i | _ => Pos.of 0) | none => Pos.of 0
def fstT (v : V) : V := match v with | .tuple l => (match l with | .cons a _ => a | _ => .nil) | _ => .nil
def cellsT (o : Option Ob) : List V := match o with | some b => (match b with | .cells _ l => l | _ => []) | none => []
def tyT (o : Option Ob) : TypeId := match o with | some b => (match b with | .cells w _ => (match w with | .rw t _ => t | .ro => 0) | _ => 0) | none => 0
def pvT (hi : Hp) : Pos := ptrT (some (fstT (valE (nT hi))))
def obT (hi : Hp) (a c : Int) : Ob := .cells (.rw (tyT ((hpT (nT hi)).get (pvT hi))) true) [.ptr (ptrT (nthV 0 (cellsT ((hpT (nT hi)).get (pvT hi))))) 0, .ptr (ptrT (nthV 1 (cellsT ((hpT (nT hi)).get (pvT hi))))) 0, .int .u32 0, .int .i32 0, .int .u32 0, .nils, .int .i64 a, .int .i64 c]
def oT (hi : Hp) (a c : Int) : Hp := (hpT (nT hi)).put (pvT hi) (some (obT hi a c))
def rowT : List Nat := [97, 32, 76, 79, 71, 73, 78, 32, 117, 32, 112, 13, 10, 98, 32, 65, 80, 80, 69, 78, 68, 32, 73, 78, 66, 79, 88, 32, 120, 13, 10]
def gT (hi : Hp) (a c : Int) : Hp := ((oT hi a c).new (.cells (.rw 5 true) (bys rowT))).put (oT hi a c).next (some (.cells .ro (bys rowT)))
def vT (hi : Hp) (a c : Int) : V := .slice (oT hi a c).next 0 31 (.kn 31)
abbrev hL (l : List V) : Hp := (h0 TryG).new (.cells .ro l)
def lvE10 (hi : Hp) (a c : Int) : List V := [.ptr (pvT hi) 0, vT hi a c]
def lvH10 (hi : Hp) (a c : Int) : Hp := gT hi a c
def lvF10 (hi : Hp) (a c : Int) : F := (T.set (some (nthE 1 (lvE10 hi a c))) (Pos.of 1) (T.set (some (nthE 0 (lvE10 hi a c))) (Pos.of 0) T.nil))
def lvP10 (hi : Hp) (a c : Int) : Option (F × Hp) := lvC10.reach (lvF10 hi a c) (lvH10 hi a c)
def lvX10 (hi : Hp) (a c : Int) : F := rF (lvP10 hi a c)
def lvY10 (hi : Hp) (a c : Int) : Hp := rH (lvP10 hi a c)
def lvE9 (hi : Hp) (a c : Int) : List V := argsO (lvS10 (lvX10 hi a c) (lvY10 hi a c))
def lvH9 (hi : Hp) (a c : Int) : Hp := heapO (lvS10 (lvX10 hi a c) (lvY10 hi a c))
def lvF9 (hi : Hp) (a c : Int) : F := (T.set (some (nthE 1 (lvE9 hi a c))) (Pos.of 1) (T.set (some (nthE 0 (lvE9 hi a c))) (Pos.of 0) T.nil))
def lvP9 (hi : Hp) (a c : Int) : Option (F × Hp) := lvC9.reach (lvF9 hi a c) (lvH9 hi a c)
def lvX9 (hi : Hp) (a c : Int) : F := rF (lvP9 hi a c)
def lvY9 (hi : Hp) (a c : Int) : Hp := rH (lvP9 hi a c)
def lvE18 (hi : Hp) (a c : Int) : List V := argsO (lvS9 (lvX9 hi a c) (lvY9 hi a c))
def lvH18 (hi : Hp) (a c : Int) : Hp := heapO (lvS9 (lvX9 hi a c) (lvY9 hi a c))
def lvF18 (hi : Hp) (a c : Int) : F := (T.set (some (nthE 1 (lvE18 hi a c))) (Pos.of 1) (T.set (some (nthE 0 (lvE18 hi a c))) (Pos.of 0) T.nil))
def lvP18 (hi : Hp) (a c : Int) : Option (F × Hp) := lvC18.reach (lvF18 hi a c) (lvH18 hi a c)
def lvX18 (hi : Hp) (a c : Int) : F := rF (lvP18 hi a c)
def lvY18 (hi : Hp) (a c : Int) : Hp := rH (lvP18 hi a c)
def lvE32 (hi : Hp) (a c : Int) : List V := argsO (lvS18 (lvX18 hi a c) (lvY18 hi a c))
def lvH32 (hi : Hp) (a c : Int) : Hp := heapO (lvS18 (lvX18 hi a c) (lvY18 hi a c))
def lvF32 (hi : Hp) (a c : Int) : F := (T.set (some (nthE 2 (lvE32 hi a c))) (Pos.of 2) (T.set (some (nthE 1 (lvE32 hi a c))) (Pos.of 1) (T.set (some (nthE 0 (lvE32 hi a c))) (Pos.of 0) T.nil)))
def lvP32 (hi : Hp) (a c : Int) : Option (F × Hp) := lvC32.reach (lvF32 hi a c) (lvH32 hi a c)
def lvX32 (hi : Hp) (a c : Int) : F := rF (lvP32 hi a c)
def lvY32 (hi : Hp) (a c : Int) : Hp := rH (lvP32 hi a c)
def lvE70 (hi : Hp) (a c : Int) : List V := argsO (lvS32 (lvX32 hi a c) (lvY32 hi a c))
def lvH70 (hi : Hp) (a c : Int) : Hp := heapO (lvS32 (lvX32 hi a c) (lvY32 hi a c))
def lvF70 (hi : Hp) (a c : Int) : F := (T.set (some (nthE 3 (lvE70 hi a c))) (Pos.of 3) (T.set (some (nthE 2 (lvE70 hi a c))) (Pos.of 2) (T.set (some (nthE 1 (lvE70 hi a c))) (Pos.of 1) (T.set (some (nthE 0 (lvE70 hi a c))) (Pos.of 0) T.nil))))
def lvP70 (hi : Hp) (a c : Int) : Option (F × Hp) := lvC70.reach (lvF70 hi a c) (lvH70 hi a c)
def lvX70 (hi : Hp) (a c : Int) : F := rF (lvP70 hi a c)
def lvY70 (hi : Hp) (a c : Int) : Hp := rH (lvP70 hi a c)
def lvE158 (hi : Hp) (a c : Int) : List V := argsO (lvS70 (lvX70 hi a c) (lvY70 hi a c))
def lvH158 (hi : Hp) (a c : Int) : Hp := heapO (lvS70 (lvX70 hi a c) (lvY70 hi a c))
def lvF158 (hi : Hp) (a c : Int) : F := (T.set (some (nthE 2 (lvE158 hi a c))) (Pos.of 2) (T.set (some (nthE 1 (lvE158 hi a c))) (Pos.of 1) (T.set (some (nthE 0 (lvE158 hi a c))) (Pos.of 0) T.nil)))
def lvP158 (hi : Hp) (a c : Int) : Option (F × Hp) := lvC158.reach (lvF158 hi a c) (lvH158 hi a c)
def lvX158 (hi : Hp) (a c : Int) : F := rF (lvP158 hi a c)
def lvY158 (hi : Hp) (a c : Int) : Hp := rH (lvP158 hi a c)
def lvE61 (hi : Hp) (a c : Int) : List V := argsO (lvS158 (lvX158 hi a c) (lvY158 hi a c))
def lvH61 (hi : Hp) (a c : Int) : Hp := heapO (lvS158 (lvX158 hi a c) (lvY158 hi a c))
def lvF61 (hi : Hp) (a c : Int) : F := (T.set (some (nthE 1 (lvE61 hi a c))) (Pos.of 1) T.nil)
def lvP61 (hi : Hp) (a c : Int) : Option (F × Hp) := lvC61.reach (lvF61 hi a c) (lvH61 hi a c)
def lvX61 (hi : Hp) (a c : Int) : F := rF (lvP61 hi a c)
def lvY61 (hi : Hp) (a c : Int) : Hp := rH (lvP61 hi a c)
def lvE122 (hi : Hp) (a c : Int) : List V := argsO (lvS61 (lvX61 hi a c) (lvY61 hi a c))
def lvH122 (hi : Hp) (a c : Int) : Hp := heapO (lvS61 (lvX61 hi a c) (lvY61 hi a c))
def lvF122 (hi : Hp) (a c : Int) : F := (T.set (some (nthE 4 (lvE122 hi a c))) (Pos.of 4) (T.set (some (nthE 3 (lvE122 hi a c))) (Pos.of 3) (T.set (some (nthE 2 (lvE122 hi a c))) (Pos.of 2) (T.set (some (nthE 1 (lvE122 hi a c))) (Pos.of 1) (T.set (some (nthE 0 (lvE122 hi a c))) (Pos.of 0) T.nil)))))
def lvP122 (hi : Hp) (a c : Int) : Option (F × Hp) := lvC122.reach (lvF122 hi a c) (lvH122 hi a c)
def lvX122 (hi : Hp) (a c : Int) : F := rF (lvP122 hi a c)
def lvY122 (hi : Hp) (a c : Int) : Hp := rH (lvP122 hi a c)
def lvO122 (hi : Hp) (a c : Int) : R V := outR Tryz.prog [.tmp 10, .tmp 11] (lvC122.after (lvK122 (.ok (.bool false) (lvY122 hi a c)) (fun h => .ok (.bool false) h) (lvX122 hi a c) (lvY122 hi a c)))
def lvV122 (hi : Hp) (a c : Int) : V := valE (lvO122 hi a c)
def lvG122 (hi : Hp) (a c : Int) : Hp := hpT (lvO122 hi a c)
def lvO61 (hi : Hp) (a c : Int) : R V := outR Tryz.prog [.cell 4 192] (lvC61.after (lvK61 (.ok (lvV122 hi a c) (lvG122 hi a c)) (lvX61 hi a c) (lvY61 hi a c)))
def lvV61 (hi : Hp) (a c : Int) : V := valE (lvO61 hi a c)
def lvG61 (hi : Hp) (a c : Int) : Hp := hpT (lvO61 hi a c)
def lvO158 (hi : Hp) (a c : Int) : R V := outR Tryz.prog [.cell 6 192] (lvC158.after (lvK158 (.ok (lvV61 hi a c) (lvG61 hi a c)) (lvX158 hi a c) (lvY158 hi a c)))
def lvV158 (hi : Hp) (a c : Int) : V := valE (lvO158 hi a c)
def lvG158 (hi : Hp) (a c : Int) : Hp := hpT (lvO158 hi a c)
def lvO70 (hi : Hp) (a c : Int) : R V := outR Tryz.prog [.tmp 8, .tmp 9] (lvC70.after (lvK70 (.ok (lvV158 hi a c) (lvG158 hi a c)) (lvX70 hi a c) (lvY70 hi a c)))
def lvV70 (hi : Hp) (a c : Int) : V := valE (lvO70 hi a c)
def lvG70 (hi : Hp) (a c : Int) : Hp := hpT (lvO70 hi a c)
def lvO32 (hi : Hp) (a c : Int) : R V := outR Tryz.prog [.tmp 6] (lvC32.after (lvK32 (.ok (lvV70 hi a c) (lvG70 hi a c)) (lvX32 hi a c) (lvY32 hi a c)))
def lvV32 (hi : Hp) (a c : Int) : V := valE (lvO32 hi a c)
def lvG32 (hi : Hp) (a c : Int) : Hp := hpT (lvO32 hi a c)
def lvO18 (hi : Hp) (a c : Int) : R V := outR Tryz.prog [.tmp 4] (lvC18.after (lvK18 (.ok (lvV32 hi a c) (lvG32 hi a c)) (lvX18 hi a c) (lvY18 hi a c)))
def lvV18 (hi : Hp) (a c : Int) : V := valE (lvO18 hi a c)
def lvG18 (hi : Hp) (a c : Int) : Hp := hpT (lvO18 hi a c)
def lvO9 (hi : Hp) (a c : Int) : R V := outR Tryz.prog [.tmp 4] (lvC9.after (lvK9 (.ok (lvV18 hi a c) (lvG18 hi a c)) (lvX9 hi a c) (lvY9 hi a c)))
def lvV9 (hi : Hp) (a c : Int) : V := valE (lvO9 hi a c)
def lvG9 (hi : Hp) (a c : Int) : Hp := hpT (lvO9 hi a c)
def lvO10 (hi : Hp) (a c : Int) : R V := outR Tryz.prog [.tmp 4] (lvC10.after (lvK10 (.ok (lvV9 hi a c) (lvG9 hi a c)) (lvX10 hi a c) (lvY10 hi a c)))
def lvV10 (hi : Hp) (a c : Int) : V := valE (lvO10 hi a c)
def lvG10 (hi : Hp) (a c : Int) : Hp := hpT (lvO10 hi a c)
def Lev122 (hi : Hp) (a c : Int) : Prop := lvP122 hi a c = some (lvX122 hi a c, lvY122 hi a c) ∧ (∀ A1 A2 : V → Hp → R V, lvA122 A1 A2 (lvX122 hi a c) (lvY122 hi a c) = lvK122 (A1 (.int .i64 a) (lvY122 hi a c)) (fun h => A2 (.int .i64 a) h) (lvX122 hi a c) (lvY122 hi a c)) ∧ lvE122 hi a c = [nthE 0 (lvE122 hi a c), nthE 1 (lvE122 hi a c), nthE 2 (lvE122 hi a c), nthE 3 (lvE122 hi a c), nthE 4 (lvE122 hi a c)] ∧ lvO122 hi a c = .ok (lvV122 hi a c) (lvG122 hi a c)
theorem res122 {hi : Hp} {a c : Int} (h : Lev122 hi a c) (h0 : 0 ≤ a) (h1 : a ≤ 253402300799) : TryF122p (lvE122 hi a c) (lvH122 hi a c) = .ok (lvV122 hi a c) (lvG122 hi a c) := by
  obtain ⟨p1, p2, p3, p4⟩ := h
  have q := p2 (fun v h => oBin .lss .none v (.int .i64 0) h) (fun v h => oBin .gtr .none v (.int .i64 253402300799) h)
  have e1 : ∀ h, oBin .lss .none (.int .i64 a) (.int .i64 0) h = .ok (.bool false) h := fun h => by rw [oBin_lss, decide_eq_false (by omega)]
  have e2 : ∀ h, oBin .gtr .none (.int .i64 a) (.int .i64 253402300799) h = .ok (.bool false) h := fun h => by rw [oBin_gtr, decide_eq_false (by omega)]
  simp only [e1, e2] at q
  rw [p3, TryF122p_eq, lvD122]
  show outR Tryz.prog [.tmp 10, .tmp 11] (lvC122.fill Tryr122p_3 (lvF122 hi a c) (lvH122 hi a c)) = _
  rw [Ctx.plug _ p1, show Tryr122p_3 = lvA122 (fun v h => oBin .lss .none v (.int .i64 0) h) (fun v h => oBin .gtr .none v (.int .i64 253402300799) h) from rfl, q]
  exact p4
def Lev61 (hi : Hp) (a c : Int) : Prop := lvP61 hi a c = some (lvX61 hi a c, lvY61 hi a c) ∧ (∀ A : Fun, lvA61 A (lvX61 hi a c) (lvY61 hi a c) = lvK61 (A (lvE122 hi a c) (lvH122 hi a c)) (lvX61 hi a c) (lvY61 hi a c)) ∧ lvE61 hi a c = [nthE 0 (lvE61 hi a c), nthE 1 (lvE61 hi a c)] ∧ lvO61 hi a c = .ok (lvV61 hi a c) (lvG61 hi a c)
theorem res61 {hi : Hp} {a c : Int} (h : Lev61 hi a c) (hc : TryF122p (lvE122 hi a c) (lvH122 hi a c) = .ok (lvV122 hi a c) (lvG122 hi a c)) : TryF61p (lvE61 hi a c) (lvH61 hi a c) = .ok (lvV61 hi a c) (lvG61 hi a c) := by
  obtain ⟨p1, p2, p3, p4⟩ := h
  rw [p3, TryF61p_eq, lvD61]
  show outR Tryz.prog [.cell 4 192] (lvC61.fill Tryr61p_27 (lvF61 hi a c) (lvH61 hi a c)) = _
  rw [Ctx.plug _ p1, (show Tryr61p_27 = lvA61 TryF122p from rfl), p2, hc]
  exact p4
def Lev158 (hi : Hp) (a c : Int) : Prop := lvP158 hi a c = some (lvX158 hi a c, lvY158 hi a c) ∧ (∀ A : Fun, lvA158 A (lvX158 hi a c) (lvY158 hi a c) = lvK158 (A (lvE61 hi a c) (lvH61 hi a c)) (lvX158 hi a c) (lvY158 hi a c)) ∧ lvE158 hi a c = [nthE 0 (lvE158 hi a c), nthE 1 (lvE158 hi a c), nthE 2 (lvE158 hi a c)] ∧ lvO158 hi a c = .ok (lvV158 hi a c) (lvG158 hi a c)
theorem envA158 : (fun f : FuncId => match Nat.beq f 61 with | true => some TryF61p | false => Trye158p f) = Trye158p := by
  funext f
  cases hb : Nat.beq f 61 with
  | false => rfl
  | true => rw [Nat.eq_of_beq_eq_true hb]; rfl
theorem lvR158 : Tryr158p_19 = lvA158 TryF61p := congrArg (fun (E : FuncId → Option Fun) (fr : F) (h : Hp) => ((gtO (T.get fr (Pos.of 7)) fun v7 => bndO (oFieldAddr 0 v7 h) fun v86 h0 =>
  bndO (oLoad1 v86 h0) fun v87 h1 =>
  gtO (T.get fr (Pos.of 1)) fun v1 => bndO (oCallV E v87 [v1] h1) fun v89 h3 =>
  gtO (T.get fr (Pos.of 6)) fun v6 => bndO (oStore 5 v6 v89 h3) fun _u4 h4 =>
  Out.nor fr h4) : Out)) envA158.symm
theorem res158 {hi : Hp} {a c : Int} (h : Lev158 hi a c) (hc : TryF61p (lvE61 hi a c) (lvH61 hi a c) = .ok (lvV61 hi a c) (lvG61 hi a c)) : TryF158p (lvE158 hi a c) (lvH158 hi a c) = .ok (lvV158 hi a c) (lvG158 hi a c) := by
  obtain ⟨p1, p2, p3, p4⟩ := h
  rw [p3, TryF158p_eq, lvD158]
  show outR Tryz.prog [.cell 6 192] (lvC158.fill Tryr158p_19 (lvF158 hi a c) (lvH158 hi a c)) = _
  rw [Ctx.plug _ p1, (lvR158), p2, hc]
  exact p4
def Lev70 (hi : Hp) (a c : Int) : Prop := lvP70 hi a c = some (lvX70 hi a c, lvY70 hi a c) ∧ (∀ A : Fun, lvA70 A (lvX70 hi a c) (lvY70 hi a c) = lvK70 (A (lvE158 hi a c) (lvH158 hi a c)) (lvX70 hi a c) (lvY70 hi a c)) ∧ lvE70 hi a c = [nthE 0 (lvE70 hi a c), nthE 1 (lvE70 hi a c), nthE 2 (lvE70 hi a c), nthE 3 (lvE70 hi a c)] ∧ lvO70 hi a c = .ok (lvV70 hi a c) (lvG70 hi a c)
theorem res70 {hi : Hp} {a c : Int} (h : Lev70 hi a c) (hc : TryF158p (lvE158 hi a c) (lvH158 hi a c) = .ok (lvV158 hi a c) (lvG158 hi a c)) : TryF70p (lvE70 hi a c) (lvH70 hi a c) = .ok (lvV70 hi a c) (lvG70 hi a c) := by
  obtain ⟨p1, p2, p3, p4⟩ := h
  rw [p3, TryF70p_eq, lvD70]
  show outR Tryz.prog [.tmp 8, .tmp 9] (lvC70.fill Tryr70p_9 (lvF70 hi a c) (lvH70 hi a c)) = _
  rw [Ctx.plug _ p1, (show Tryr70p_9 = lvA70 TryF158p from rfl), p2, hc]
  exact p4
def Lev32 (hi : Hp) (a c : Int) : Prop := lvP32 hi a c = some (lvX32 hi a c, lvY32 hi a c) ∧ (∀ A : Fun, lvA32 A (lvX32 hi a c) (lvY32 hi a c) = lvK32 (A (lvE70 hi a c) (lvH70 hi a c)) (lvX32 hi a c) (lvY32 hi a c)) ∧ lvE32 hi a c = [nthE 0 (lvE32 hi a c), nthE 1 (lvE32 hi a c), nthE 2 (lvE32 hi a c)] ∧ lvO32 hi a c = .ok (lvV32 hi a c) (lvG32 hi a c)
theorem res32 {hi : Hp} {a c : Int} (h : Lev32 hi a c) (hc : TryF70p (lvE70 hi a c) (lvH70 hi a c) = .ok (lvV70 hi a c) (lvG70 hi a c)) : TryF32p (lvE32 hi a c) (lvH32 hi a c) = .ok (lvV32 hi a c) (lvG32 hi a c) := by
  obtain ⟨p1, p2, p3, p4⟩ := h
  rw [p3, TryF32p_eq, lvD32]
  show outR Tryz.prog [.tmp 6] (lvC32.fill Tryr32p_5 (lvF32 hi a c) (lvH32 hi a c)) = _
  rw [Ctx.plug _ p1, (show Tryr32p_5 = lvA32 TryF70p from rfl), p2, hc]
  exact p4
def Lev18 (hi : Hp) (a c : Int) : Prop := lvP18 hi a c = some (lvX18 hi a c, lvY18 hi a c) ∧ (∀ A : Fun, lvA18 A (lvX18 hi a c) (lvY18 hi a c) = lvK18 (A (lvE32 hi a c) (lvH32 hi a c)) (lvX18 hi a c) (lvY18 hi a c)) ∧ lvE18 hi a c = [nthE 0 (lvE18 hi a c), nthE 1 (lvE18 hi a c)] ∧ lvO18 hi a c = .ok (lvV18 hi a c) (lvG18 hi a c)
theorem res18 {hi : Hp} {a c : Int} (h : Lev18 hi a c) (hc : TryF32p (lvE32 hi a c) (lvH32 hi a c) = .ok (lvV32 hi a c) (lvG32 hi a c)) : TryF18p (lvE18 hi a c) (lvH18 hi a c) = .ok (lvV18 hi a c) (lvG18 hi a c) := by
  obtain ⟨p1, p2, p3, p4⟩ := h
  rw [p3, TryF18p_eq, lvD18]
  show outR Tryz.prog [.tmp 4] (lvC18.fill Tryr18p_9 (lvF18 hi a c) (lvH18 hi a c)) = _
  rw [Ctx.plug _ p1, (show Tryr18p_9 = lvA18 TryF32p from rfl), p2, hc]
  exact p4
def Lev9 (hi : Hp) (a c : Int) : Prop := lvP9 hi a c = some (lvX9 hi a c, lvY9 hi a c) ∧ (∀ A : Fun, lvA9 A (lvX9 hi a c) (lvY9 hi a c) = lvK9 (A (lvE18 hi a c) (lvH18 hi a c)) (lvX9 hi a c) (lvY9 hi a c)) ∧ lvE9 hi a c = [nthE 0 (lvE9 hi a c), nthE 1 (lvE9 hi a c)] ∧ lvO9 hi a c = .ok (lvV9 hi a c) (lvG9 hi a c)
theorem res9 {hi : Hp} {a c : Int} (h : Lev9 hi a c) (hc : TryF18p (lvE18 hi a c) (lvH18 hi a c) = .ok (lvV18 hi a c) (lvG18 hi a c)) : TryF9p (lvE9 hi a c) (lvH9 hi a c) = .ok (lvV9 hi a c) (lvG9 hi a c) := by
  obtain ⟨p1, p2, p3, p4⟩ := h
  rw [p3, TryF9p_eq, lvD9]
  show outR Tryz.prog [.tmp 4] (lvC9.fill Tryr9p_8 (lvF9 hi a c) (lvH9 hi a c)) = _
  rw [Ctx.plug _ p1, (show Tryr9p_8 = lvA9 TryF18p from rfl), p2, hc]
  exact p4
def Lev10 (hi : Hp) (a c : Int) : Prop := lvP10 hi a c = some (lvX10 hi a c, lvY10 hi a c) ∧ (∀ A : Fun, lvA10 A (lvX10 hi a c) (lvY10 hi a c) = lvK10 (A (lvE9 hi a c) (lvH9 hi a c)) (lvX10 hi a c) (lvY10 hi a c)) ∧ lvE10 hi a c = [nthE 0 (lvE10 hi a c), nthE 1 (lvE10 hi a c)] ∧ lvO10 hi a c = .ok (lvV10 hi a c) (lvG10 hi a c)
theorem res10 {hi : Hp} {a c : Int} (h : Lev10 hi a c) (hc : TryF9p (lvE9 hi a c) (lvH9 hi a c) = .ok (lvV9 hi a c) (lvG9 hi a c)) : TryF10p (lvE10 hi a c) (lvH10 hi a c) = .ok (lvV10 hi a c) (lvG10 hi a c) := by
  obtain ⟨p1, p2, p3, p4⟩ := h
  rw [p3, TryF10p_eq, lvD10]
  show outR Tryz.prog [.tmp 4] (lvC10.fill Tryr10p_2 (lvF10 hi a c) (lvH10 hi a c)) = _
  rw [Ctx.plug _ p1, (show Tryr10p_2 = lvA10 TryF9p from rfl), p2, hc]
  exact p4
end Go.Proofs.ImT
