/- Part of the value machine, or of a walk by it: lemmas that the claim's last text uses. No conditions. -/
import Derived.Test.YtghbifaaedobfaaGreatDoorVmK
set_option linter.unusedVariables false
set_option linter.unusedSimpArgs false
set_option linter.unnecessarySimpa false
noncomputable section
namespace Go.Proofs.YtghbifaaedobfaaGreatDoor
open Go Go.Proofs Go.Vm
set_option linter.unusedVariables false
set_option maxRecDepth 100000
set_option maxHeartbeats 4000000
/-! pieces of a run -/
def outF : Out → F
  | .nor fr _ => fr
  | .ret fr _ => fr
  | .ex _ fr _ => fr
  | .bad => T.nil
def outH : Out → Hp
  | .nor _ h => h
  | .ret _ h => h
  | .ex _ _ h => h
  | .bad => h0 TryzG
def isNor : Out → Bool
  | .nor _ _ => true
  | .ret _ _ => false
  | .ex _ _ _ => false
  | .bad => false
theorem isNor_ok {x : Out} (e : isNor x = true) : x = .nor (outF x) (outH x) := by cases x <;> first | rfl | cases e
def rv : R V → V
  | .ok v _ => v
  | .bad => .nil
def rh : R V → Hp
  | .ok _ h => h
  | .bad => h0 TryzG
def gv (fr : F) (t : Nat) : V := match T.get fr (Pos.of t) with
  | some v => v
  | none => .nil
def blkQ (id : Nat) (x : Out) : Out := match x with
  | .nor fr h => .nor fr h
  | .ret fr h => .ret fr h
  | .ex i fr h => (match Nat.beq i id with | true => .nor fr h | false => .ex i fr h)
  | .bad => .bad
theorem seq_to {a b : F → Hp → Out} {fr fr' : F} {h h' : Hp} (e : a fr h = .nor fr' h') : seqO a b fr h = b fr' h' := by unfold seqO; rw [e]
theorem seq_th (a b : F → Hp → Out) (fr : F) (h : Hp) : seqO a b fr h = thenO (a fr h) b := by unfold seqO thenO; cases a fr h <;> rfl
theorem blk_q (id : Nat) (b : F → Hp → Out) (fr : F) (h : Hp) : blkO id b fr h = blkQ id (b fr h) := by unfold blkO blkQ; cases b fr h <;> rfl
theorem cnd_to {t : Nat} {a b : F → Hp → Out} {fr : F} {h : Hp} {q : Bool} (e : T.get fr (Pos.of t) = some (.bool q)) : cndX (.tmp t) a b fr h = (match q with | true => a fr h | false => b fr h) := by
  rw [cndX_eq]
  cases q <;> simp [cndO, opdK, tmpK, findE, Go.Vm.gt, e]
theorem chk_one {m : Hp → R V} {v : V} {k : Out} {g g' : Hp} (e : m g = .ok v g') (he : eqV v v = true) : chk m v k 1 [g] = k := by
  simp only [chk, e, he]
theorem eqI (k : IntKind) (a : Int) : eqV (.int k a) (.int k a) = true := by
  show (match Nat.beq (kix k) (kix k) with | true => intEq a a | false => false) = true
  simp [Nat.beq_refl, intEq_eq]
theorem gtrB (a b : Int) (h : Hp) : ∃ q, oBin .gtr .none (.int .i64 a) (.int .i64 b) h = .ok (.bool q) h := ⟨_, okBool_eq _ h⟩
theorem addI (a b : Int) (h : Hp) : ∃ z, oBin .add .none (.int .i64 a) (.int .i64 b) h = .ok (.int .i64 z) h := ⟨_, okInt_eq _ _ h⟩
/-! ### ServerOthers -/
def oA : F → Hp → Out := cndX (.tmp 14) (seqO Tryzr4_2 Out.ret) Out.nor
def p1 : F → Hp → Out := seqO Tryzr4_3 (cndX (.tmp 25) Tryzr4_4 Out.nor)
def p3 : F → Hp → Out := seqO Tryzr4_6 (cndX (.tmp 39) (seqO Tryzr4_7 Out.ret) Out.nor)
def pE : F → Hp → Out := seqO Tryzr4_8 (seqO Tryzr4_9 Out.ret)
def oF0 (k c n x : V) : F := T.set (some (.bool false)) (Pos.of 8) (T.set (some x) (Pos.of 3) (T.set (some n) (Pos.of 2) (T.set (some c) (Pos.of 1) (T.set (some k) (Pos.of 0) T.nil))))
def oF (b : Bool) (k c n x : V) : F := T.set (some (.bool b)) (Pos.of 14) (oF0 k c n x)
def oth (b : Bool) (k c n x : V) (h : Hp) : R V := outR Tryz.prog [.tmp 8] (seqO oA (seqO p1 (seqO Tryzr4_5 (seqO p3 pE))) (oF b k c n x) h)
theorem oth_len (b : Bool) (k c n x : V) (h : Hp) (e : Tryzr4_1 (oF0 k c n x) h = .nor (oF b k c n x) h) : TryzF4 [k, c, n, x] h = oth b k c n x h := by
  rw [TryzF4_eq]
  have e1 : Tryzd4 (T.set (some x) (Pos.of 3) (T.set (some n) (Pos.of 2) (T.set (some c) (Pos.of 1) (T.set (some k) (Pos.of 0) T.nil)))) h = seqO (seqO Tryzr4_1 oA) (seqO p1 (seqO Tryzr4_5 (seqO p3 pE))) (oF0 k c n x) h := rfl
  rw [e1]
  have e2 : seqO Tryzr4_1 oA (oF0 k c n x) h = oA (oF b k c n x) h := seq_to e
  unfold oth
  rw [seq_th, e2, seq_th]
theorem oth_long (k c n x : V) (h : Hp) : isT (oth true k c n x h) = true := by kernel_rfl
def iv (z : Int) : V := .int .i64 z
/-! the pieces of Do -/
def q1 : F → Hp → Out := seqO Tryzr5p_1 (cndX (.tmp 6) (seqO Tryzr5p_2 Out.ret) Out.nor)
def q5 : F → Hp → Out := seqO Tryzr5p_5 (cndX (.tmp 13) Out.nor (seqO Tryzr5p_6 (cndX (.tmp 13) Out.nor Tryzr5p_7)))
def qZ : F → Hp → Out := cndX (.tmp 32) Tryzr5p_11 Tryzr5p_12
def qW : F → Hp → Out := seqO Tryzr5p_13 (cndX (.tmp 46) (seqO Tryzr5p_14 Out.ret) Out.nor)
def qY : F → Hp → Out := seqO Tryzr5p_9 (cndX (.tmp 23) (seqO Tryzr5p_10 qZ) qW)
def qX : F → Hp → Out := seqO Tryzr5p_8 Out.ret
def tail5 (x : Out) : R V := outR Tryz.prog [.tmp 4] (thenO (blkQ 0 x) (seqO Tryzr5p_15 Out.ret))
def tail4 (fr8 : F) (r : R V) : R V := outR Tryz.prog [.tmp 8] (thenO (bndO r fun v46 h6 => Out.nor (T.set (some v46) (Pos.of 11) fr8) h6) (seqO Tryzr4_9 Out.ret))
theorem d5p_eq (fr : F) (h : Hp) : Tryzd5p fr h = seqO Tryzr5p_0 (seqO q1 (seqO Tryzr5p_3 (seqO (seqO Tryzr5p_4 (blkO 0 (seqO q5 (cndX (.tmp 13) qX qY)))) (seqO Tryzr5p_15 Out.ret)))) fr h := rfl

/-! heap 0 -/
theorem o0_k0 (c n : Int) : isT (oth false (iv (.ofNat 0)) (iv c) (iv n) .nils (h0 TryzG)) = true := by kernel_rfl
theorem o0_k1 (c n : Int) : isT (oth false (iv (.ofNat 1)) (iv c) (iv n) .nils (h0 TryzG)) = true := by kernel_rfl
theorem o0_k3 (c n : Int) : isT (oth false (iv (.ofNat 3)) (iv c) (iv n) .nils (h0 TryzG)) = true := by kernel_rfl
theorem o0_k5 (c n : Int) : isT (oth false (iv (.ofNat 5)) (iv c) (iv n) .nils (h0 TryzG)) = true := by kernel_rfl
theorem o0_k6 (m : Nat) (c n : Int) : isT (oth false (iv (.ofNat (m + 6))) (iv c) (iv n) .nils (h0 TryzG)) = true := by kernel_rfl
theorem o0_kn (m : Nat) (c n : Int) : isT (oth false (iv (.negSucc m)) (iv c) (iv n) .nils (h0 TryzG)) = true := by kernel_rfl
theorem o0_k2_0 (n : Int) : isT (oth false (iv (.ofNat 2)) (iv (.ofNat 0)) (iv n) .nils (h0 TryzG)) = true := by kernel_rfl
theorem o0_k2_1 (n : Int) : isT (oth false (iv (.ofNat 2)) (iv (.ofNat 1)) (iv n) .nils (h0 TryzG)) = true := by kernel_rfl
theorem o0_k2_2 (n : Int) : isT (oth false (iv (.ofNat 2)) (iv (.ofNat 2)) (iv n) .nils (h0 TryzG)) = true := by kernel_rfl
theorem o0_k2_3 (n : Int) : isT (oth false (iv (.ofNat 2)) (iv (.ofNat 3)) (iv n) .nils (h0 TryzG)) = true := by kernel_rfl
theorem o0_k2_4 (n : Int) : isT (oth false (iv (.ofNat 2)) (iv (.ofNat 4)) (iv n) .nils (h0 TryzG)) = true := by kernel_rfl
theorem o0_k2_5 (n : Int) : isT (oth false (iv (.ofNat 2)) (iv (.ofNat 5)) (iv n) .nils (h0 TryzG)) = true := by kernel_rfl
theorem o0_k2_6 (n : Int) : isT (oth false (iv (.ofNat 2)) (iv (.ofNat 6)) (iv n) .nils (h0 TryzG)) = true := by kernel_rfl
theorem o0_k2_7 (n : Int) : isT (oth false (iv (.ofNat 2)) (iv (.ofNat 7)) (iv n) .nils (h0 TryzG)) = true := by kernel_rfl
theorem o0_k4n (m : Nat) (c : Int) : isT (oth false (iv (.ofNat 4)) (iv c) (iv (.negSucc m)) .nils (h0 TryzG)) = true := by kernel_rfl
def fr0_1 (k c n : Int) : F := outF (p1 (oF false (iv k) (iv c) (iv n) .nils) (h0 TryzG))
def hp0_1 (k c n : Int) : Hp := outH (p1 (oF false (iv k) (iv c) (iv n) .nils) (h0 TryzG))
def fr0_2 (k c n : Int) : F := outF (Tryzr4_5 (fr0_1 k c n ) (hp0_1 k c n ))
def hp0_2 (k c n : Int) : Hp := outH (Tryzr4_5 (fr0_1 k c n ) (hp0_1 k c n ))
def fr0_3 (k c n : Int) : F := outF (p3 (fr0_2 k c n ) (hp0_2 k c n ))
def hp0_3 (k c n : Int) : Hp := outH (p3 (fr0_2 k c n ) (hp0_2 k c n ))
def dF0 (k c n : Int) : F := T.set (some (.agg (V.ofList [iv k, iv c, iv n, .nils]))) (Pos.of 1) (T.set (some (gv (fr0_3 k c n ) 9)) (Pos.of 0) T.nil)
def fr0_4 (k c n : Int) : F := outF (Tryzr5p_0 (dF0 k c n ) (hp0_3 k c n ))
def hp0_4 (k c n : Int) : Hp := outH (Tryzr5p_0 (dF0 k c n ) (hp0_3 k c n ))
def fr0_5 (k c n : Int) : F := outF (q1 (fr0_4 k c n ) (hp0_4 k c n ))
def hp0_5 (k c n : Int) : Hp := outH (q1 (fr0_4 k c n ) (hp0_4 k c n ))
def fr0_6 (k c n : Int) : F := outF (Tryzr5p_3 (fr0_5 k c n ) (hp0_5 k c n ))
def hp0_6 (k c n : Int) : Hp := outH (Tryzr5p_3 (fr0_5 k c n ) (hp0_5 k c n ))
def fr0_7 (k c n : Int) : F := outF (Tryzr5p_4 (fr0_6 k c n ) (hp0_6 k c n ))
def hp0_7 (k c n : Int) : Hp := outH (Tryzr5p_4 (fr0_6 k c n ) (hp0_6 k c n ))
def fr0_8 (k c n : Int) : F := outF (q5 (fr0_7 k c n ) (hp0_7 k c n ))
def hp0_8 (k c n : Int) : Hp := outH (q5 (fr0_7 k c n ) (hp0_7 k c n ))
theorem s0t_1 (m : Nat) (c : Int) : isNor (p1 (oF false (iv (.ofNat 4)) (iv c) (iv (.ofNat m)) .nils) (h0 TryzG)) = true := by kernel_rfl
theorem n0t_1 (m : Nat) (c : Int) : p1 (oF false (iv (.ofNat 4)) (iv c) (iv (.ofNat m)) .nils) (h0 TryzG) = .nor (fr0_1 (.ofNat 4) c (.ofNat m) ) (hp0_1 (.ofNat 4) c (.ofNat m) ) := isNor_ok (s0t_1 m c )
theorem s0t_2 (m : Nat) (c : Int) : isNor (Tryzr4_5 (fr0_1 (.ofNat 4) c (.ofNat m) ) (hp0_1 (.ofNat 4) c (.ofNat m) )) = true := by kernel_rfl
theorem n0t_2 (m : Nat) (c : Int) : Tryzr4_5 (fr0_1 (.ofNat 4) c (.ofNat m) ) (hp0_1 (.ofNat 4) c (.ofNat m) ) = .nor (fr0_2 (.ofNat 4) c (.ofNat m) ) (hp0_2 (.ofNat 4) c (.ofNat m) ) := isNor_ok (s0t_2 m c )
theorem s0t_3 (m : Nat) (c : Int) : isNor (p3 (fr0_2 (.ofNat 4) c (.ofNat m) ) (hp0_2 (.ofNat 4) c (.ofNat m) )) = true := by kernel_rfl
theorem n0t_3 (m : Nat) (c : Int) : p3 (fr0_2 (.ofNat 4) c (.ofNat m) ) (hp0_2 (.ofNat 4) c (.ofNat m) ) = .nor (fr0_3 (.ofNat 4) c (.ofNat m) ) (hp0_3 (.ofNat 4) c (.ofNat m) ) := isNor_ok (s0t_3 m c )
theorem s0t_4 (m : Nat) (c : Int) : isNor (Tryzr5p_0 (dF0 (.ofNat 4) c (.ofNat m) ) (hp0_3 (.ofNat 4) c (.ofNat m) )) = true := by kernel_rfl
theorem n0t_4 (m : Nat) (c : Int) : Tryzr5p_0 (dF0 (.ofNat 4) c (.ofNat m) ) (hp0_3 (.ofNat 4) c (.ofNat m) ) = .nor (fr0_4 (.ofNat 4) c (.ofNat m) ) (hp0_4 (.ofNat 4) c (.ofNat m) ) := isNor_ok (s0t_4 m c )
theorem s0t_5 (m : Nat) (c : Int) : isNor (q1 (fr0_4 (.ofNat 4) c (.ofNat m) ) (hp0_4 (.ofNat 4) c (.ofNat m) )) = true := by kernel_rfl
theorem n0t_5 (m : Nat) (c : Int) : q1 (fr0_4 (.ofNat 4) c (.ofNat m) ) (hp0_4 (.ofNat 4) c (.ofNat m) ) = .nor (fr0_5 (.ofNat 4) c (.ofNat m) ) (hp0_5 (.ofNat 4) c (.ofNat m) ) := isNor_ok (s0t_5 m c )
theorem s0t_6 (m : Nat) (c : Int) : isNor (Tryzr5p_3 (fr0_5 (.ofNat 4) c (.ofNat m) ) (hp0_5 (.ofNat 4) c (.ofNat m) )) = true := by kernel_rfl
theorem n0t_6 (m : Nat) (c : Int) : Tryzr5p_3 (fr0_5 (.ofNat 4) c (.ofNat m) ) (hp0_5 (.ofNat 4) c (.ofNat m) ) = .nor (fr0_6 (.ofNat 4) c (.ofNat m) ) (hp0_6 (.ofNat 4) c (.ofNat m) ) := isNor_ok (s0t_6 m c )
theorem s0t_7 (m : Nat) (c : Int) : isNor (Tryzr5p_4 (fr0_6 (.ofNat 4) c (.ofNat m) ) (hp0_6 (.ofNat 4) c (.ofNat m) )) = true := by kernel_rfl
theorem n0t_7 (m : Nat) (c : Int) : Tryzr5p_4 (fr0_6 (.ofNat 4) c (.ofNat m) ) (hp0_6 (.ofNat 4) c (.ofNat m) ) = .nor (fr0_7 (.ofNat 4) c (.ofNat m) ) (hp0_7 (.ofNat 4) c (.ofNat m) ) := isNor_ok (s0t_7 m c )
theorem s0t_8 (m : Nat) (c : Int) : isNor (q5 (fr0_7 (.ofNat 4) c (.ofNat m) ) (hp0_7 (.ofNat 4) c (.ofNat m) )) = true := by kernel_rfl
theorem n0t_8 (m : Nat) (c : Int) : q5 (fr0_7 (.ofNat 4) c (.ofNat m) ) (hp0_7 (.ofNat 4) c (.ofNat m) ) = .nor (fr0_8 (.ofNat 4) c (.ofNat m) ) (hp0_8 (.ofNat 4) c (.ofNat m) ) := isNor_ok (s0t_8 m c )
theorem s0t_d (m : Nat) (c : Int) : Tryzr4_8 (fr0_3 (.ofNat 4) c (.ofNat m) ) (hp0_3 (.ofNat 4) c (.ofNat m) ) = bndO (TryzF5p [gv (fr0_3 (.ofNat 4) c (.ofNat m) ) 9, .agg (V.ofList [iv (.ofNat 4), iv c, iv (.ofNat m), .nils])] (hp0_3 (.ofNat 4) c (.ofNat m) )) fun v46 h6 => Out.nor (T.set (some v46) (Pos.of 11) (fr0_3 (.ofNat 4) c (.ofNat m) )) h6 := by kernel_rfl
theorem s0t (m : Nat) (c : Int) : oth false (iv (.ofNat 4)) (iv c) (iv (.ofNat m)) .nils (h0 TryzG) = tail4 (fr0_3 (.ofNat 4) c (.ofNat m) ) (tail5 (cndX (.tmp 13) qX qY (fr0_8 (.ofNat 4) c (.ofNat m) ) (hp0_8 (.ofNat 4) c (.ofNat m) ))) := by
  have hA : oA (oF false (iv (.ofNat 4)) (iv c) (iv (.ofNat m)) .nils) (h0 TryzG) = .nor (oF false (iv (.ofNat 4)) (iv c) (iv (.ofNat m)) .nils) (h0 TryzG) := by kernel_rfl
  unfold oth
  rw [seq_to hA, seq_to (n0t_1 m c ), seq_to (n0t_2 m c ), seq_to (n0t_3 m c )]
  show outR Tryz.prog [.tmp 8] (seqO Tryzr4_8 (seqO Tryzr4_9 Out.ret) (fr0_3 (.ofNat 4) c (.ofNat m) ) (hp0_3 (.ofNat 4) c (.ofNat m) )) = _
  rw [seq_th, s0t_d, TryzF5p_eq]
  show tail4 (fr0_3 (.ofNat 4) c (.ofNat m) ) (outR Tryz.prog [.tmp 4] (Tryzd5p (dF0 (.ofNat 4) c (.ofNat m) ) (hp0_3 (.ofNat 4) c (.ofNat m) ))) = _
  rw [d5p_eq, seq_to (n0t_4 m c ), seq_to (n0t_5 m c ), seq_to (n0t_6 m c ), seq_th, seq_to (n0t_7 m c ), blk_q, seq_to (n0t_8 m c )]
  rfl
theorem s0a_1 (m : Nat) (n : Int) : isNor (p1 (oF false (iv (.ofNat 2)) (iv (.ofNat (m + 8))) (iv n) .nils) (h0 TryzG)) = true := by kernel_rfl
theorem n0a_1 (m : Nat) (n : Int) : p1 (oF false (iv (.ofNat 2)) (iv (.ofNat (m + 8))) (iv n) .nils) (h0 TryzG) = .nor (fr0_1 (.ofNat 2) (.ofNat (m + 8)) n ) (hp0_1 (.ofNat 2) (.ofNat (m + 8)) n ) := isNor_ok (s0a_1 m n )
theorem s0a_2 (m : Nat) (n : Int) : isNor (Tryzr4_5 (fr0_1 (.ofNat 2) (.ofNat (m + 8)) n ) (hp0_1 (.ofNat 2) (.ofNat (m + 8)) n )) = true := by kernel_rfl
theorem n0a_2 (m : Nat) (n : Int) : Tryzr4_5 (fr0_1 (.ofNat 2) (.ofNat (m + 8)) n ) (hp0_1 (.ofNat 2) (.ofNat (m + 8)) n ) = .nor (fr0_2 (.ofNat 2) (.ofNat (m + 8)) n ) (hp0_2 (.ofNat 2) (.ofNat (m + 8)) n ) := isNor_ok (s0a_2 m n )
theorem s0a_3 (m : Nat) (n : Int) : isNor (p3 (fr0_2 (.ofNat 2) (.ofNat (m + 8)) n ) (hp0_2 (.ofNat 2) (.ofNat (m + 8)) n )) = true := by kernel_rfl
theorem n0a_3 (m : Nat) (n : Int) : p3 (fr0_2 (.ofNat 2) (.ofNat (m + 8)) n ) (hp0_2 (.ofNat 2) (.ofNat (m + 8)) n ) = .nor (fr0_3 (.ofNat 2) (.ofNat (m + 8)) n ) (hp0_3 (.ofNat 2) (.ofNat (m + 8)) n ) := isNor_ok (s0a_3 m n )
theorem s0a_4 (m : Nat) (n : Int) : isNor (Tryzr5p_0 (dF0 (.ofNat 2) (.ofNat (m + 8)) n ) (hp0_3 (.ofNat 2) (.ofNat (m + 8)) n )) = true := by kernel_rfl
theorem n0a_4 (m : Nat) (n : Int) : Tryzr5p_0 (dF0 (.ofNat 2) (.ofNat (m + 8)) n ) (hp0_3 (.ofNat 2) (.ofNat (m + 8)) n ) = .nor (fr0_4 (.ofNat 2) (.ofNat (m + 8)) n ) (hp0_4 (.ofNat 2) (.ofNat (m + 8)) n ) := isNor_ok (s0a_4 m n )
theorem s0a_5 (m : Nat) (n : Int) : isNor (q1 (fr0_4 (.ofNat 2) (.ofNat (m + 8)) n ) (hp0_4 (.ofNat 2) (.ofNat (m + 8)) n )) = true := by kernel_rfl
theorem n0a_5 (m : Nat) (n : Int) : q1 (fr0_4 (.ofNat 2) (.ofNat (m + 8)) n ) (hp0_4 (.ofNat 2) (.ofNat (m + 8)) n ) = .nor (fr0_5 (.ofNat 2) (.ofNat (m + 8)) n ) (hp0_5 (.ofNat 2) (.ofNat (m + 8)) n ) := isNor_ok (s0a_5 m n )
theorem s0a_6 (m : Nat) (n : Int) : isNor (Tryzr5p_3 (fr0_5 (.ofNat 2) (.ofNat (m + 8)) n ) (hp0_5 (.ofNat 2) (.ofNat (m + 8)) n )) = true := by kernel_rfl
theorem n0a_6 (m : Nat) (n : Int) : Tryzr5p_3 (fr0_5 (.ofNat 2) (.ofNat (m + 8)) n ) (hp0_5 (.ofNat 2) (.ofNat (m + 8)) n ) = .nor (fr0_6 (.ofNat 2) (.ofNat (m + 8)) n ) (hp0_6 (.ofNat 2) (.ofNat (m + 8)) n ) := isNor_ok (s0a_6 m n )
theorem s0a_7 (m : Nat) (n : Int) : isNor (Tryzr5p_4 (fr0_6 (.ofNat 2) (.ofNat (m + 8)) n ) (hp0_6 (.ofNat 2) (.ofNat (m + 8)) n )) = true := by kernel_rfl
theorem n0a_7 (m : Nat) (n : Int) : Tryzr5p_4 (fr0_6 (.ofNat 2) (.ofNat (m + 8)) n ) (hp0_6 (.ofNat 2) (.ofNat (m + 8)) n ) = .nor (fr0_7 (.ofNat 2) (.ofNat (m + 8)) n ) (hp0_7 (.ofNat 2) (.ofNat (m + 8)) n ) := isNor_ok (s0a_7 m n )
theorem s0a_8 (m : Nat) (n : Int) : isNor (q5 (fr0_7 (.ofNat 2) (.ofNat (m + 8)) n ) (hp0_7 (.ofNat 2) (.ofNat (m + 8)) n )) = true := by kernel_rfl
theorem n0a_8 (m : Nat) (n : Int) : q5 (fr0_7 (.ofNat 2) (.ofNat (m + 8)) n ) (hp0_7 (.ofNat 2) (.ofNat (m + 8)) n ) = .nor (fr0_8 (.ofNat 2) (.ofNat (m + 8)) n ) (hp0_8 (.ofNat 2) (.ofNat (m + 8)) n ) := isNor_ok (s0a_8 m n )
theorem s0a_d (m : Nat) (n : Int) : Tryzr4_8 (fr0_3 (.ofNat 2) (.ofNat (m + 8)) n ) (hp0_3 (.ofNat 2) (.ofNat (m + 8)) n ) = bndO (TryzF5p [gv (fr0_3 (.ofNat 2) (.ofNat (m + 8)) n ) 9, .agg (V.ofList [iv (.ofNat 2), iv (.ofNat (m + 8)), iv n, .nils])] (hp0_3 (.ofNat 2) (.ofNat (m + 8)) n )) fun v46 h6 => Out.nor (T.set (some v46) (Pos.of 11) (fr0_3 (.ofNat 2) (.ofNat (m + 8)) n )) h6 := by kernel_rfl
theorem s0a (m : Nat) (n : Int) : oth false (iv (.ofNat 2)) (iv (.ofNat (m + 8))) (iv n) .nils (h0 TryzG) = tail4 (fr0_3 (.ofNat 2) (.ofNat (m + 8)) n ) (tail5 (cndX (.tmp 13) qX qY (fr0_8 (.ofNat 2) (.ofNat (m + 8)) n ) (hp0_8 (.ofNat 2) (.ofNat (m + 8)) n ))) := by
  have hA : oA (oF false (iv (.ofNat 2)) (iv (.ofNat (m + 8))) (iv n) .nils) (h0 TryzG) = .nor (oF false (iv (.ofNat 2)) (iv (.ofNat (m + 8))) (iv n) .nils) (h0 TryzG) := by kernel_rfl
  unfold oth
  rw [seq_to hA, seq_to (n0a_1 m n ), seq_to (n0a_2 m n ), seq_to (n0a_3 m n )]
  show outR Tryz.prog [.tmp 8] (seqO Tryzr4_8 (seqO Tryzr4_9 Out.ret) (fr0_3 (.ofNat 2) (.ofNat (m + 8)) n ) (hp0_3 (.ofNat 2) (.ofNat (m + 8)) n )) = _
  rw [seq_th, s0a_d, TryzF5p_eq]
  show tail4 (fr0_3 (.ofNat 2) (.ofNat (m + 8)) n ) (outR Tryz.prog [.tmp 4] (Tryzd5p (dF0 (.ofNat 2) (.ofNat (m + 8)) n ) (hp0_3 (.ofNat 2) (.ofNat (m + 8)) n ))) = _
  rw [d5p_eq, seq_to (n0a_4 m n ), seq_to (n0a_5 m n ), seq_to (n0a_6 m n ), seq_th, seq_to (n0a_7 m n ), blk_q, seq_to (n0a_8 m n )]
  rfl
theorem s0b_1 (m : Nat) (n : Int) : isNor (p1 (oF false (iv (.ofNat 2)) (iv (.negSucc m)) (iv n) .nils) (h0 TryzG)) = true := by kernel_rfl
theorem n0b_1 (m : Nat) (n : Int) : p1 (oF false (iv (.ofNat 2)) (iv (.negSucc m)) (iv n) .nils) (h0 TryzG) = .nor (fr0_1 (.ofNat 2) (.negSucc m) n ) (hp0_1 (.ofNat 2) (.negSucc m) n ) := isNor_ok (s0b_1 m n )
theorem s0b_2 (m : Nat) (n : Int) : isNor (Tryzr4_5 (fr0_1 (.ofNat 2) (.negSucc m) n ) (hp0_1 (.ofNat 2) (.negSucc m) n )) = true := by kernel_rfl
theorem n0b_2 (m : Nat) (n : Int) : Tryzr4_5 (fr0_1 (.ofNat 2) (.negSucc m) n ) (hp0_1 (.ofNat 2) (.negSucc m) n ) = .nor (fr0_2 (.ofNat 2) (.negSucc m) n ) (hp0_2 (.ofNat 2) (.negSucc m) n ) := isNor_ok (s0b_2 m n )
theorem s0b_3 (m : Nat) (n : Int) : isNor (p3 (fr0_2 (.ofNat 2) (.negSucc m) n ) (hp0_2 (.ofNat 2) (.negSucc m) n )) = true := by kernel_rfl
theorem n0b_3 (m : Nat) (n : Int) : p3 (fr0_2 (.ofNat 2) (.negSucc m) n ) (hp0_2 (.ofNat 2) (.negSucc m) n ) = .nor (fr0_3 (.ofNat 2) (.negSucc m) n ) (hp0_3 (.ofNat 2) (.negSucc m) n ) := isNor_ok (s0b_3 m n )
theorem s0b_4 (m : Nat) (n : Int) : isNor (Tryzr5p_0 (dF0 (.ofNat 2) (.negSucc m) n ) (hp0_3 (.ofNat 2) (.negSucc m) n )) = true := by kernel_rfl
theorem n0b_4 (m : Nat) (n : Int) : Tryzr5p_0 (dF0 (.ofNat 2) (.negSucc m) n ) (hp0_3 (.ofNat 2) (.negSucc m) n ) = .nor (fr0_4 (.ofNat 2) (.negSucc m) n ) (hp0_4 (.ofNat 2) (.negSucc m) n ) := isNor_ok (s0b_4 m n )
theorem s0b_5 (m : Nat) (n : Int) : isNor (q1 (fr0_4 (.ofNat 2) (.negSucc m) n ) (hp0_4 (.ofNat 2) (.negSucc m) n )) = true := by kernel_rfl
theorem n0b_5 (m : Nat) (n : Int) : q1 (fr0_4 (.ofNat 2) (.negSucc m) n ) (hp0_4 (.ofNat 2) (.negSucc m) n ) = .nor (fr0_5 (.ofNat 2) (.negSucc m) n ) (hp0_5 (.ofNat 2) (.negSucc m) n ) := isNor_ok (s0b_5 m n )
theorem s0b_6 (m : Nat) (n : Int) : isNor (Tryzr5p_3 (fr0_5 (.ofNat 2) (.negSucc m) n ) (hp0_5 (.ofNat 2) (.negSucc m) n )) = true := by kernel_rfl
theorem n0b_6 (m : Nat) (n : Int) : Tryzr5p_3 (fr0_5 (.ofNat 2) (.negSucc m) n ) (hp0_5 (.ofNat 2) (.negSucc m) n ) = .nor (fr0_6 (.ofNat 2) (.negSucc m) n ) (hp0_6 (.ofNat 2) (.negSucc m) n ) := isNor_ok (s0b_6 m n )
theorem s0b_7 (m : Nat) (n : Int) : isNor (Tryzr5p_4 (fr0_6 (.ofNat 2) (.negSucc m) n ) (hp0_6 (.ofNat 2) (.negSucc m) n )) = true := by kernel_rfl
theorem n0b_7 (m : Nat) (n : Int) : Tryzr5p_4 (fr0_6 (.ofNat 2) (.negSucc m) n ) (hp0_6 (.ofNat 2) (.negSucc m) n ) = .nor (fr0_7 (.ofNat 2) (.negSucc m) n ) (hp0_7 (.ofNat 2) (.negSucc m) n ) := isNor_ok (s0b_7 m n )
theorem s0b_8 (m : Nat) (n : Int) : isNor (q5 (fr0_7 (.ofNat 2) (.negSucc m) n ) (hp0_7 (.ofNat 2) (.negSucc m) n )) = true := by kernel_rfl
theorem n0b_8 (m : Nat) (n : Int) : q5 (fr0_7 (.ofNat 2) (.negSucc m) n ) (hp0_7 (.ofNat 2) (.negSucc m) n ) = .nor (fr0_8 (.ofNat 2) (.negSucc m) n ) (hp0_8 (.ofNat 2) (.negSucc m) n ) := isNor_ok (s0b_8 m n )
theorem s0b_d (m : Nat) (n : Int) : Tryzr4_8 (fr0_3 (.ofNat 2) (.negSucc m) n ) (hp0_3 (.ofNat 2) (.negSucc m) n ) = bndO (TryzF5p [gv (fr0_3 (.ofNat 2) (.negSucc m) n ) 9, .agg (V.ofList [iv (.ofNat 2), iv (.negSucc m), iv n, .nils])] (hp0_3 (.ofNat 2) (.negSucc m) n )) fun v46 h6 => Out.nor (T.set (some v46) (Pos.of 11) (fr0_3 (.ofNat 2) (.negSucc m) n )) h6 := by kernel_rfl
theorem s0b (m : Nat) (n : Int) : oth false (iv (.ofNat 2)) (iv (.negSucc m)) (iv n) .nils (h0 TryzG) = tail4 (fr0_3 (.ofNat 2) (.negSucc m) n ) (tail5 (cndX (.tmp 13) qX qY (fr0_8 (.ofNat 2) (.negSucc m) n ) (hp0_8 (.ofNat 2) (.negSucc m) n ))) := by
  have hA : oA (oF false (iv (.ofNat 2)) (iv (.negSucc m)) (iv n) .nils) (h0 TryzG) = .nor (oF false (iv (.ofNat 2)) (iv (.negSucc m)) (iv n) .nils) (h0 TryzG) := by kernel_rfl
  unfold oth
  rw [seq_to hA, seq_to (n0b_1 m n ), seq_to (n0b_2 m n ), seq_to (n0b_3 m n )]
  show outR Tryz.prog [.tmp 8] (seqO Tryzr4_8 (seqO Tryzr4_9 Out.ret) (fr0_3 (.ofNat 2) (.negSucc m) n ) (hp0_3 (.ofNat 2) (.negSucc m) n )) = _
  rw [seq_th, s0b_d, TryzF5p_eq]
  show tail4 (fr0_3 (.ofNat 2) (.negSucc m) n ) (outR Tryz.prog [.tmp 4] (Tryzd5p (dF0 (.ofNat 2) (.negSucc m) n ) (hp0_3 (.ofNat 2) (.negSucc m) n ))) = _
  rw [d5p_eq, seq_to (n0b_4 m n ), seq_to (n0b_5 m n ), seq_to (n0b_6 m n ), seq_th, seq_to (n0b_7 m n ), blk_q, seq_to (n0b_8 m n )]
  rfl
def fr0_9 (m : Nat) (c : Int) : F := outF (Tryzr5p_9 (fr0_8 (.ofNat 4) c (.ofNat m) ) (hp0_8 (.ofNat 4) c (.ofNat m) ))
def hp0_9 (m : Nat) (c : Int) : Hp := outH (Tryzr5p_9 (fr0_8 (.ofNat 4) c (.ofNat m) ) (hp0_8 (.ofNat 4) c (.ofNat m) ))
theorem t0_9 (m : Nat) (c : Int) : isNor (Tryzr5p_9 (fr0_8 (.ofNat 4) c (.ofNat m) ) (hp0_8 (.ofNat 4) c (.ofNat m) )) = true := by kernel_rfl
theorem u0_9 (m : Nat) (c : Int) : Tryzr5p_9 (fr0_8 (.ofNat 4) c (.ofNat m) ) (hp0_8 (.ofNat 4) c (.ofNat m) ) = .nor (fr0_9 m c ) (hp0_9 m c ) := isNor_ok (t0_9 m c )
theorem t0_c (m : Nat) (c : Int) : T.get (fr0_8 (.ofNat 4) c (.ofNat m) ) (Pos.of 13) = some (.bool false) := by kernel_rfl
theorem t0_e (m : Nat) (c : Int) : T.get (fr0_9 m c ) (Pos.of 23) = some (.bool true) := by kernel_rfl
theorem t0_10 (m : Nat) (c : Int) : Tryzr5p_10 (fr0_9 m c ) (hp0_9 m c ) = bndO (oBin .gtr .none (.int .i64 (.ofNat m)) (.int .i64 (.ofNat 253402300799)) (bumpH 0 (hp0_9 m c ))) fun v32 _ => Out.nor (T.set (some v32) (Pos.of 32) (fr0_9 m c )) (bumpH 0 (hp0_9 m c )) := by kernel_rfl
def fr0_b (q : Bool) (m : Nat) (c : Int) : F := T.set (some (.bool q)) (Pos.of 32) (fr0_9 m c )
def hp0_b (m : Nat) (c : Int) : Hp := bumpH 0 (hp0_9 m c )
def k43_0 (m : Nat) (c : Int) (v43 : V) : Out := bndO (oNilCheck (gv (fr0_b false m c ) 0) (bumpH 0 (hp0_b m c ))) fun v44 _ => bndO (oFieldAddr 6 v44 (bumpH 0 (hp0_b m c ))) fun v45 _ => bndO (oStore 1 v45 v43 (bumpH 0 (hp0_b m c ))) fun _ h10 => Out.nor (fr0_b false m c ) h10
theorem t0_12 (m : Nat) (c : Int) : qZ (fr0_b false m c ) (hp0_b m c ) = bndO (oBin .add .none (.int .i64 (.ofNat 0)) (.int .i64 (.ofNat m)) (bumpH 0 (hp0_b m c ))) fun v43 _ => k43_0 m c v43 := by kernel_rfl
theorem t0_great (m : Nat) (c : Int) : isT (tail4 (fr0_3 (.ofNat 4) c (.ofNat m) ) (tail5 (qZ (fr0_b true m c ) (hp0_b m c )))) = true := by kernel_rfl
theorem t0_small (m : Nat) (c : Int) (z : Int) : isT (tail4 (fr0_3 (.ofNat 4) c (.ofNat m) ) (tail5 (k43_0 m c (.int .i64 z)))) = true := by kernel_rfl
theorem o0_k4 (m : Nat) (c : Int) : isT (oth false (iv (.ofNat 4)) (iv c) (iv (.ofNat m)) .nils (h0 TryzG)) = true := by
  rw [s0t, cnd_to (t0_c m c )]
  show isT (tail4 _ (tail5 (seqO Tryzr5p_9 (cndX (.tmp 23) (seqO Tryzr5p_10 qZ) qW) (fr0_8 (.ofNat 4) c (.ofNat m) ) (hp0_8 (.ofNat 4) c (.ofNat m) )))) = true
  rw [seq_to (u0_9 m c )]
  show isT (tail4 _ (tail5 (cndX (.tmp 23) (seqO Tryzr5p_10 qZ) qW (fr0_9 m c ) (hp0_9 m c )))) = true
  rw [cnd_to (t0_e m c )]
  show isT (tail4 _ (tail5 (seqO Tryzr5p_10 qZ (fr0_9 m c ) (hp0_9 m c )))) = true
  obtain ⟨q, hq⟩ := gtrB (.ofNat m) (.ofNat 253402300799) (bumpH 0 (hp0_9 m c ))
  have e10 : Tryzr5p_10 (fr0_9 m c ) (hp0_9 m c ) = .nor (fr0_b q m c ) (hp0_b m c ) := by rw [t0_10, hq]; rfl
  rw [seq_to e10]
  cases q
  · obtain ⟨z, hz⟩ := addI (.ofNat 0) (.ofNat m) (bumpH 0 (hp0_b m c ))
    rw [t0_12, hz]
    exact t0_small m c z
  · exact t0_great m c 
def w0a (m : Nat) (n : Int) : R V := TryzF15 [gv (fr0_8 (.ofNat 2) (.ofNat (m + 8)) n ) 0, .agg (V.ofList [iv (.ofNat 2), iv (.ofNat (m + 8)), iv n, .nils])] (bumpH 0 (hp0_8 (.ofNat 2) (.ofNat (m + 8)) n ))
def k0a (m : Nat) (n : Int) : Out := bndO (TryzF14 [iv (.ofNat (m + 8)), rv (w0a m n )] (rh (w0a m n ))) fun v22 h5 => Out.nor (T.set (some v22) (Pos.of 4) (fr0_8 (.ofNat 2) (.ofNat (m + 8)) n )) h5
def a0a (m : Nat) (n : Int) : V := rv (oFieldAddr 1 (gv (fr0_8 (.ofNat 2) (.ofNat (m + 8)) n ) 3) (rh (w0a m n )))
theorem c0a_c (m : Nat) (n : Int) : T.get (fr0_8 (.ofNat 2) (.ofNat (m + 8)) n ) (Pos.of 13) = some (.bool true) := by kernel_rfl
theorem c0a_8 (m : Nat) (n : Int) : Tryzr5p_8 (fr0_8 (.ofNat 2) (.ofNat (m + 8)) n ) (hp0_8 (.ofNat 2) (.ofNat (m + 8)) n ) = chk (fun h => oLoad1 (a0a m n ) h) (iv (.ofNat (m + 8))) (k0a m n ) 1 [(bumpH 0 (hp0_8 (.ofNat 2) (.ofNat (m + 8)) n ))] := by kernel_rfl
theorem c0a_l (m : Nat) (n : Int) : oLoad1 (a0a m n ) (bumpH 0 (hp0_8 (.ofNat 2) (.ofNat (m + 8)) n )) = .ok (iv (.ofNat (m + 8))) (bumpH 0 (hp0_8 (.ofNat 2) (.ofNat (m + 8)) n )) := by kernel_rfl
theorem c0a_k (m : Nat) (n : Int) : isT (tail4 (fr0_3 (.ofNat 2) (.ofNat (m + 8)) n ) (tail5 (thenO (k0a m n ) Out.ret))) = true := by kernel_rfl
theorem o0_k2a (m : Nat) (n : Int) : isT (oth false (iv (.ofNat 2)) (iv (.ofNat (m + 8))) (iv n) .nils (h0 TryzG)) = true := by
  rw [s0a, cnd_to (c0a_c m n )]
  show isT (tail4 _ (tail5 (seqO Tryzr5p_8 Out.ret (fr0_8 (.ofNat 2) (.ofNat (m + 8)) n ) (hp0_8 (.ofNat 2) (.ofNat (m + 8)) n )))) = true
  rw [seq_th, c0a_8, chk_one (c0a_l m n ) (eqI _ _)]
  exact c0a_k m n 
def w0b (m : Nat) (n : Int) : R V := TryzF15 [gv (fr0_8 (.ofNat 2) (.negSucc m) n ) 0, .agg (V.ofList [iv (.ofNat 2), iv (.negSucc m), iv n, .nils])] (bumpH 0 (hp0_8 (.ofNat 2) (.negSucc m) n ))
def k0b (m : Nat) (n : Int) : Out := bndO (TryzF14 [iv (.negSucc m), rv (w0b m n )] (rh (w0b m n ))) fun v22 h5 => Out.nor (T.set (some v22) (Pos.of 4) (fr0_8 (.ofNat 2) (.negSucc m) n )) h5
def a0b (m : Nat) (n : Int) : V := rv (oFieldAddr 1 (gv (fr0_8 (.ofNat 2) (.negSucc m) n ) 3) (rh (w0b m n )))
theorem c0b_c (m : Nat) (n : Int) : T.get (fr0_8 (.ofNat 2) (.negSucc m) n ) (Pos.of 13) = some (.bool true) := by kernel_rfl
theorem c0b_8 (m : Nat) (n : Int) : Tryzr5p_8 (fr0_8 (.ofNat 2) (.negSucc m) n ) (hp0_8 (.ofNat 2) (.negSucc m) n ) = chk (fun h => oLoad1 (a0b m n ) h) (iv (.negSucc m)) (k0b m n ) 1 [(bumpH 0 (hp0_8 (.ofNat 2) (.negSucc m) n ))] := by kernel_rfl
theorem c0b_l (m : Nat) (n : Int) : oLoad1 (a0b m n ) (bumpH 0 (hp0_8 (.ofNat 2) (.negSucc m) n )) = .ok (iv (.negSucc m)) (bumpH 0 (hp0_8 (.ofNat 2) (.negSucc m) n )) := by kernel_rfl
theorem c0b_k (m : Nat) (n : Int) : isT (tail4 (fr0_3 (.ofNat 2) (.negSucc m) n ) (tail5 (thenO (k0b m n ) Out.ret))) = true := by kernel_rfl
theorem o0_k2b (m : Nat) (n : Int) : isT (oth false (iv (.ofNat 2)) (iv (.negSucc m)) (iv n) .nils (h0 TryzG)) = true := by
  rw [s0b, cnd_to (c0b_c m n )]
  show isT (tail4 _ (tail5 (seqO Tryzr5p_8 Out.ret (fr0_8 (.ofNat 2) (.negSucc m) n ) (hp0_8 (.ofNat 2) (.negSucc m) n )))) = true
  rw [seq_th, c0b_8, chk_one (c0b_l m n ) (eqI _ _)]
  exact c0b_k m n 
/-! heap 1 -/
theorem o1_k0 (c n : Int) : isT (oth false (iv (.ofNat 0)) (iv c) (iv n) .emp (h0 TryzG)) = true := by kernel_rfl
theorem o1_k1 (c n : Int) : isT (oth false (iv (.ofNat 1)) (iv c) (iv n) .emp (h0 TryzG)) = true := by kernel_rfl
theorem o1_k3 (c n : Int) : isT (oth false (iv (.ofNat 3)) (iv c) (iv n) .emp (h0 TryzG)) = true := by kernel_rfl
theorem o1_k5 (c n : Int) : isT (oth false (iv (.ofNat 5)) (iv c) (iv n) .emp (h0 TryzG)) = true := by kernel_rfl
theorem o1_k6 (m : Nat) (c n : Int) : isT (oth false (iv (.ofNat (m + 6))) (iv c) (iv n) .emp (h0 TryzG)) = true := by kernel_rfl
theorem o1_kn (m : Nat) (c n : Int) : isT (oth false (iv (.negSucc m)) (iv c) (iv n) .emp (h0 TryzG)) = true := by kernel_rfl
theorem o1_k2_0 (n : Int) : isT (oth false (iv (.ofNat 2)) (iv (.ofNat 0)) (iv n) .emp (h0 TryzG)) = true := by kernel_rfl
theorem o1_k2_1 (n : Int) : isT (oth false (iv (.ofNat 2)) (iv (.ofNat 1)) (iv n) .emp (h0 TryzG)) = true := by kernel_rfl
theorem o1_k2_2 (n : Int) : isT (oth false (iv (.ofNat 2)) (iv (.ofNat 2)) (iv n) .emp (h0 TryzG)) = true := by kernel_rfl
theorem o1_k2_3 (n : Int) : isT (oth false (iv (.ofNat 2)) (iv (.ofNat 3)) (iv n) .emp (h0 TryzG)) = true := by kernel_rfl
theorem o1_k2_4 (n : Int) : isT (oth false (iv (.ofNat 2)) (iv (.ofNat 4)) (iv n) .emp (h0 TryzG)) = true := by kernel_rfl
theorem o1_k2_5 (n : Int) : isT (oth false (iv (.ofNat 2)) (iv (.ofNat 5)) (iv n) .emp (h0 TryzG)) = true := by kernel_rfl
theorem o1_k2_6 (n : Int) : isT (oth false (iv (.ofNat 2)) (iv (.ofNat 6)) (iv n) .emp (h0 TryzG)) = true := by kernel_rfl
theorem o1_k2_7 (n : Int) : isT (oth false (iv (.ofNat 2)) (iv (.ofNat 7)) (iv n) .emp (h0 TryzG)) = true := by kernel_rfl
theorem o1_k4n (m : Nat) (c : Int) : isT (oth false (iv (.ofNat 4)) (iv c) (iv (.negSucc m)) .emp (h0 TryzG)) = true := by kernel_rfl
def fr1_1 (k c n : Int) : F := outF (p1 (oF false (iv k) (iv c) (iv n) .emp) (h0 TryzG))
def hp1_1 (k c n : Int) : Hp := outH (p1 (oF false (iv k) (iv c) (iv n) .emp) (h0 TryzG))
def fr1_2 (k c n : Int) : F := outF (Tryzr4_5 (fr1_1 k c n ) (hp1_1 k c n ))
def hp1_2 (k c n : Int) : Hp := outH (Tryzr4_5 (fr1_1 k c n ) (hp1_1 k c n ))
def fr1_3 (k c n : Int) : F := outF (p3 (fr1_2 k c n ) (hp1_2 k c n ))
def hp1_3 (k c n : Int) : Hp := outH (p3 (fr1_2 k c n ) (hp1_2 k c n ))
def dF1 (k c n : Int) : F := T.set (some (.agg (V.ofList [iv k, iv c, iv n, .emp]))) (Pos.of 1) (T.set (some (gv (fr1_3 k c n ) 9)) (Pos.of 0) T.nil)
def fr1_4 (k c n : Int) : F := outF (Tryzr5p_0 (dF1 k c n ) (hp1_3 k c n ))
def hp1_4 (k c n : Int) : Hp := outH (Tryzr5p_0 (dF1 k c n ) (hp1_3 k c n ))
def fr1_5 (k c n : Int) : F := outF (q1 (fr1_4 k c n ) (hp1_4 k c n ))
def hp1_5 (k c n : Int) : Hp := outH (q1 (fr1_4 k c n ) (hp1_4 k c n ))
def fr1_6 (k c n : Int) : F := outF (Tryzr5p_3 (fr1_5 k c n ) (hp1_5 k c n ))
def hp1_6 (k c n : Int) : Hp := outH (Tryzr5p_3 (fr1_5 k c n ) (hp1_5 k c n ))
def fr1_7 (k c n : Int) : F := outF (Tryzr5p_4 (fr1_6 k c n ) (hp1_6 k c n ))
def hp1_7 (k c n : Int) : Hp := outH (Tryzr5p_4 (fr1_6 k c n ) (hp1_6 k c n ))
def fr1_8 (k c n : Int) : F := outF (q5 (fr1_7 k c n ) (hp1_7 k c n ))
def hp1_8 (k c n : Int) : Hp := outH (q5 (fr1_7 k c n ) (hp1_7 k c n ))
theorem s1t_1 (m : Nat) (c : Int) : isNor (p1 (oF false (iv (.ofNat 4)) (iv c) (iv (.ofNat m)) .emp) (h0 TryzG)) = true := by kernel_rfl
theorem n1t_1 (m : Nat) (c : Int) : p1 (oF false (iv (.ofNat 4)) (iv c) (iv (.ofNat m)) .emp) (h0 TryzG) = .nor (fr1_1 (.ofNat 4) c (.ofNat m) ) (hp1_1 (.ofNat 4) c (.ofNat m) ) := isNor_ok (s1t_1 m c )
theorem s1t_2 (m : Nat) (c : Int) : isNor (Tryzr4_5 (fr1_1 (.ofNat 4) c (.ofNat m) ) (hp1_1 (.ofNat 4) c (.ofNat m) )) = true := by kernel_rfl
theorem n1t_2 (m : Nat) (c : Int) : Tryzr4_5 (fr1_1 (.ofNat 4) c (.ofNat m) ) (hp1_1 (.ofNat 4) c (.ofNat m) ) = .nor (fr1_2 (.ofNat 4) c (.ofNat m) ) (hp1_2 (.ofNat 4) c (.ofNat m) ) := isNor_ok (s1t_2 m c )
theorem s1t_3 (m : Nat) (c : Int) : isNor (p3 (fr1_2 (.ofNat 4) c (.ofNat m) ) (hp1_2 (.ofNat 4) c (.ofNat m) )) = true := by kernel_rfl
theorem n1t_3 (m : Nat) (c : Int) : p3 (fr1_2 (.ofNat 4) c (.ofNat m) ) (hp1_2 (.ofNat 4) c (.ofNat m) ) = .nor (fr1_3 (.ofNat 4) c (.ofNat m) ) (hp1_3 (.ofNat 4) c (.ofNat m) ) := isNor_ok (s1t_3 m c )
theorem s1t_4 (m : Nat) (c : Int) : isNor (Tryzr5p_0 (dF1 (.ofNat 4) c (.ofNat m) ) (hp1_3 (.ofNat 4) c (.ofNat m) )) = true := by kernel_rfl
theorem n1t_4 (m : Nat) (c : Int) : Tryzr5p_0 (dF1 (.ofNat 4) c (.ofNat m) ) (hp1_3 (.ofNat 4) c (.ofNat m) ) = .nor (fr1_4 (.ofNat 4) c (.ofNat m) ) (hp1_4 (.ofNat 4) c (.ofNat m) ) := isNor_ok (s1t_4 m c )
theorem s1t_5 (m : Nat) (c : Int) : isNor (q1 (fr1_4 (.ofNat 4) c (.ofNat m) ) (hp1_4 (.ofNat 4) c (.ofNat m) )) = true := by kernel_rfl
theorem n1t_5 (m : Nat) (c : Int) : q1 (fr1_4 (.ofNat 4) c (.ofNat m) ) (hp1_4 (.ofNat 4) c (.ofNat m) ) = .nor (fr1_5 (.ofNat 4) c (.ofNat m) ) (hp1_5 (.ofNat 4) c (.ofNat m) ) := isNor_ok (s1t_5 m c )
theorem s1t_6 (m : Nat) (c : Int) : isNor (Tryzr5p_3 (fr1_5 (.ofNat 4) c (.ofNat m) ) (hp1_5 (.ofNat 4) c (.ofNat m) )) = true := by kernel_rfl
theorem n1t_6 (m : Nat) (c : Int) : Tryzr5p_3 (fr1_5 (.ofNat 4) c (.ofNat m) ) (hp1_5 (.ofNat 4) c (.ofNat m) ) = .nor (fr1_6 (.ofNat 4) c (.ofNat m) ) (hp1_6 (.ofNat 4) c (.ofNat m) ) := isNor_ok (s1t_6 m c )
theorem s1t_7 (m : Nat) (c : Int) : isNor (Tryzr5p_4 (fr1_6 (.ofNat 4) c (.ofNat m) ) (hp1_6 (.ofNat 4) c (.ofNat m) )) = true := by kernel_rfl
theorem n1t_7 (m : Nat) (c : Int) : Tryzr5p_4 (fr1_6 (.ofNat 4) c (.ofNat m) ) (hp1_6 (.ofNat 4) c (.ofNat m) ) = .nor (fr1_7 (.ofNat 4) c (.ofNat m) ) (hp1_7 (.ofNat 4) c (.ofNat m) ) := isNor_ok (s1t_7 m c )
theorem s1t_8 (m : Nat) (c : Int) : isNor (q5 (fr1_7 (.ofNat 4) c (.ofNat m) ) (hp1_7 (.ofNat 4) c (.ofNat m) )) = true := by kernel_rfl
theorem n1t_8 (m : Nat) (c : Int) : q5 (fr1_7 (.ofNat 4) c (.ofNat m) ) (hp1_7 (.ofNat 4) c (.ofNat m) ) = .nor (fr1_8 (.ofNat 4) c (.ofNat m) ) (hp1_8 (.ofNat 4) c (.ofNat m) ) := isNor_ok (s1t_8 m c )
theorem s1t_d (m : Nat) (c : Int) : Tryzr4_8 (fr1_3 (.ofNat 4) c (.ofNat m) ) (hp1_3 (.ofNat 4) c (.ofNat m) ) = bndO (TryzF5p [gv (fr1_3 (.ofNat 4) c (.ofNat m) ) 9, .agg (V.ofList [iv (.ofNat 4), iv c, iv (.ofNat m), .emp])] (hp1_3 (.ofNat 4) c (.ofNat m) )) fun v46 h6 => Out.nor (T.set (some v46) (Pos.of 11) (fr1_3 (.ofNat 4) c (.ofNat m) )) h6 := by kernel_rfl
theorem s1t (m : Nat) (c : Int) : oth false (iv (.ofNat 4)) (iv c) (iv (.ofNat m)) .emp (h0 TryzG) = tail4 (fr1_3 (.ofNat 4) c (.ofNat m) ) (tail5 (cndX (.tmp 13) qX qY (fr1_8 (.ofNat 4) c (.ofNat m) ) (hp1_8 (.ofNat 4) c (.ofNat m) ))) := by
  have hA : oA (oF false (iv (.ofNat 4)) (iv c) (iv (.ofNat m)) .emp) (h0 TryzG) = .nor (oF false (iv (.ofNat 4)) (iv c) (iv (.ofNat m)) .emp) (h0 TryzG) := by kernel_rfl
  unfold oth
  rw [seq_to hA, seq_to (n1t_1 m c ), seq_to (n1t_2 m c ), seq_to (n1t_3 m c )]
  show outR Tryz.prog [.tmp 8] (seqO Tryzr4_8 (seqO Tryzr4_9 Out.ret) (fr1_3 (.ofNat 4) c (.ofNat m) ) (hp1_3 (.ofNat 4) c (.ofNat m) )) = _
  rw [seq_th, s1t_d, TryzF5p_eq]
  show tail4 (fr1_3 (.ofNat 4) c (.ofNat m) ) (outR Tryz.prog [.tmp 4] (Tryzd5p (dF1 (.ofNat 4) c (.ofNat m) ) (hp1_3 (.ofNat 4) c (.ofNat m) ))) = _
  rw [d5p_eq, seq_to (n1t_4 m c ), seq_to (n1t_5 m c ), seq_to (n1t_6 m c ), seq_th, seq_to (n1t_7 m c ), blk_q, seq_to (n1t_8 m c )]
  rfl
theorem s1a_1 (m : Nat) (n : Int) : isNor (p1 (oF false (iv (.ofNat 2)) (iv (.ofNat (m + 8))) (iv n) .emp) (h0 TryzG)) = true := by kernel_rfl
theorem n1a_1 (m : Nat) (n : Int) : p1 (oF false (iv (.ofNat 2)) (iv (.ofNat (m + 8))) (iv n) .emp) (h0 TryzG) = .nor (fr1_1 (.ofNat 2) (.ofNat (m + 8)) n ) (hp1_1 (.ofNat 2) (.ofNat (m + 8)) n ) := isNor_ok (s1a_1 m n )
theorem s1a_2 (m : Nat) (n : Int) : isNor (Tryzr4_5 (fr1_1 (.ofNat 2) (.ofNat (m + 8)) n ) (hp1_1 (.ofNat 2) (.ofNat (m + 8)) n )) = true := by kernel_rfl
theorem n1a_2 (m : Nat) (n : Int) : Tryzr4_5 (fr1_1 (.ofNat 2) (.ofNat (m + 8)) n ) (hp1_1 (.ofNat 2) (.ofNat (m + 8)) n ) = .nor (fr1_2 (.ofNat 2) (.ofNat (m + 8)) n ) (hp1_2 (.ofNat 2) (.ofNat (m + 8)) n ) := isNor_ok (s1a_2 m n )
theorem s1a_3 (m : Nat) (n : Int) : isNor (p3 (fr1_2 (.ofNat 2) (.ofNat (m + 8)) n ) (hp1_2 (.ofNat 2) (.ofNat (m + 8)) n )) = true := by kernel_rfl
theorem n1a_3 (m : Nat) (n : Int) : p3 (fr1_2 (.ofNat 2) (.ofNat (m + 8)) n ) (hp1_2 (.ofNat 2) (.ofNat (m + 8)) n ) = .nor (fr1_3 (.ofNat 2) (.ofNat (m + 8)) n ) (hp1_3 (.ofNat 2) (.ofNat (m + 8)) n ) := isNor_ok (s1a_3 m n )
theorem s1a_4 (m : Nat) (n : Int) : isNor (Tryzr5p_0 (dF1 (.ofNat 2) (.ofNat (m + 8)) n ) (hp1_3 (.ofNat 2) (.ofNat (m + 8)) n )) = true := by kernel_rfl
theorem n1a_4 (m : Nat) (n : Int) : Tryzr5p_0 (dF1 (.ofNat 2) (.ofNat (m + 8)) n ) (hp1_3 (.ofNat 2) (.ofNat (m + 8)) n ) = .nor (fr1_4 (.ofNat 2) (.ofNat (m + 8)) n ) (hp1_4 (.ofNat 2) (.ofNat (m + 8)) n ) := isNor_ok (s1a_4 m n )
theorem s1a_5 (m : Nat) (n : Int) : isNor (q1 (fr1_4 (.ofNat 2) (.ofNat (m + 8)) n ) (hp1_4 (.ofNat 2) (.ofNat (m + 8)) n )) = true := by kernel_rfl
theorem n1a_5 (m : Nat) (n : Int) : q1 (fr1_4 (.ofNat 2) (.ofNat (m + 8)) n ) (hp1_4 (.ofNat 2) (.ofNat (m + 8)) n ) = .nor (fr1_5 (.ofNat 2) (.ofNat (m + 8)) n ) (hp1_5 (.ofNat 2) (.ofNat (m + 8)) n ) := isNor_ok (s1a_5 m n )
theorem s1a_6 (m : Nat) (n : Int) : isNor (Tryzr5p_3 (fr1_5 (.ofNat 2) (.ofNat (m + 8)) n ) (hp1_5 (.ofNat 2) (.ofNat (m + 8)) n )) = true := by kernel_rfl
theorem n1a_6 (m : Nat) (n : Int) : Tryzr5p_3 (fr1_5 (.ofNat 2) (.ofNat (m + 8)) n ) (hp1_5 (.ofNat 2) (.ofNat (m + 8)) n ) = .nor (fr1_6 (.ofNat 2) (.ofNat (m + 8)) n ) (hp1_6 (.ofNat 2) (.ofNat (m + 8)) n ) := isNor_ok (s1a_6 m n )
theorem s1a_7 (m : Nat) (n : Int) : isNor (Tryzr5p_4 (fr1_6 (.ofNat 2) (.ofNat (m + 8)) n ) (hp1_6 (.ofNat 2) (.ofNat (m + 8)) n )) = true := by kernel_rfl
theorem n1a_7 (m : Nat) (n : Int) : Tryzr5p_4 (fr1_6 (.ofNat 2) (.ofNat (m + 8)) n ) (hp1_6 (.ofNat 2) (.ofNat (m + 8)) n ) = .nor (fr1_7 (.ofNat 2) (.ofNat (m + 8)) n ) (hp1_7 (.ofNat 2) (.ofNat (m + 8)) n ) := isNor_ok (s1a_7 m n )
theorem s1a_8 (m : Nat) (n : Int) : isNor (q5 (fr1_7 (.ofNat 2) (.ofNat (m + 8)) n ) (hp1_7 (.ofNat 2) (.ofNat (m + 8)) n )) = true := by kernel_rfl
theorem n1a_8 (m : Nat) (n : Int) : q5 (fr1_7 (.ofNat 2) (.ofNat (m + 8)) n ) (hp1_7 (.ofNat 2) (.ofNat (m + 8)) n ) = .nor (fr1_8 (.ofNat 2) (.ofNat (m + 8)) n ) (hp1_8 (.ofNat 2) (.ofNat (m + 8)) n ) := isNor_ok (s1a_8 m n )
theorem s1a_d (m : Nat) (n : Int) : Tryzr4_8 (fr1_3 (.ofNat 2) (.ofNat (m + 8)) n ) (hp1_3 (.ofNat 2) (.ofNat (m + 8)) n ) = bndO (TryzF5p [gv (fr1_3 (.ofNat 2) (.ofNat (m + 8)) n ) 9, .agg (V.ofList [iv (.ofNat 2), iv (.ofNat (m + 8)), iv n, .emp])] (hp1_3 (.ofNat 2) (.ofNat (m + 8)) n )) fun v46 h6 => Out.nor (T.set (some v46) (Pos.of 11) (fr1_3 (.ofNat 2) (.ofNat (m + 8)) n )) h6 := by kernel_rfl
theorem s1a (m : Nat) (n : Int) : oth false (iv (.ofNat 2)) (iv (.ofNat (m + 8))) (iv n) .emp (h0 TryzG) = tail4 (fr1_3 (.ofNat 2) (.ofNat (m + 8)) n ) (tail5 (cndX (.tmp 13) qX qY (fr1_8 (.ofNat 2) (.ofNat (m + 8)) n ) (hp1_8 (.ofNat 2) (.ofNat (m + 8)) n ))) := by
  have hA : oA (oF false (iv (.ofNat 2)) (iv (.ofNat (m + 8))) (iv n) .emp) (h0 TryzG) = .nor (oF false (iv (.ofNat 2)) (iv (.ofNat (m + 8))) (iv n) .emp) (h0 TryzG) := by kernel_rfl
  unfold oth
  rw [seq_to hA, seq_to (n1a_1 m n ), seq_to (n1a_2 m n ), seq_to (n1a_3 m n )]
  show outR Tryz.prog [.tmp 8] (seqO Tryzr4_8 (seqO Tryzr4_9 Out.ret) (fr1_3 (.ofNat 2) (.ofNat (m + 8)) n ) (hp1_3 (.ofNat 2) (.ofNat (m + 8)) n )) = _
  rw [seq_th, s1a_d, TryzF5p_eq]
  show tail4 (fr1_3 (.ofNat 2) (.ofNat (m + 8)) n ) (outR Tryz.prog [.tmp 4] (Tryzd5p (dF1 (.ofNat 2) (.ofNat (m + 8)) n ) (hp1_3 (.ofNat 2) (.ofNat (m + 8)) n ))) = _
  rw [d5p_eq, seq_to (n1a_4 m n ), seq_to (n1a_5 m n ), seq_to (n1a_6 m n ), seq_th, seq_to (n1a_7 m n ), blk_q, seq_to (n1a_8 m n )]
  rfl
theorem s1b_1 (m : Nat) (n : Int) : isNor (p1 (oF false (iv (.ofNat 2)) (iv (.negSucc m)) (iv n) .emp) (h0 TryzG)) = true := by kernel_rfl
theorem n1b_1 (m : Nat) (n : Int) : p1 (oF false (iv (.ofNat 2)) (iv (.negSucc m)) (iv n) .emp) (h0 TryzG) = .nor (fr1_1 (.ofNat 2) (.negSucc m) n ) (hp1_1 (.ofNat 2) (.negSucc m) n ) := isNor_ok (s1b_1 m n )
theorem s1b_2 (m : Nat) (n : Int) : isNor (Tryzr4_5 (fr1_1 (.ofNat 2) (.negSucc m) n ) (hp1_1 (.ofNat 2) (.negSucc m) n )) = true := by kernel_rfl
theorem n1b_2 (m : Nat) (n : Int) : Tryzr4_5 (fr1_1 (.ofNat 2) (.negSucc m) n ) (hp1_1 (.ofNat 2) (.negSucc m) n ) = .nor (fr1_2 (.ofNat 2) (.negSucc m) n ) (hp1_2 (.ofNat 2) (.negSucc m) n ) := isNor_ok (s1b_2 m n )
theorem s1b_3 (m : Nat) (n : Int) : isNor (p3 (fr1_2 (.ofNat 2) (.negSucc m) n ) (hp1_2 (.ofNat 2) (.negSucc m) n )) = true := by kernel_rfl
theorem n1b_3 (m : Nat) (n : Int) : p3 (fr1_2 (.ofNat 2) (.negSucc m) n ) (hp1_2 (.ofNat 2) (.negSucc m) n ) = .nor (fr1_3 (.ofNat 2) (.negSucc m) n ) (hp1_3 (.ofNat 2) (.negSucc m) n ) := isNor_ok (s1b_3 m n )
theorem s1b_4 (m : Nat) (n : Int) : isNor (Tryzr5p_0 (dF1 (.ofNat 2) (.negSucc m) n ) (hp1_3 (.ofNat 2) (.negSucc m) n )) = true := by kernel_rfl
theorem n1b_4 (m : Nat) (n : Int) : Tryzr5p_0 (dF1 (.ofNat 2) (.negSucc m) n ) (hp1_3 (.ofNat 2) (.negSucc m) n ) = .nor (fr1_4 (.ofNat 2) (.negSucc m) n ) (hp1_4 (.ofNat 2) (.negSucc m) n ) := isNor_ok (s1b_4 m n )
theorem s1b_5 (m : Nat) (n : Int) : isNor (q1 (fr1_4 (.ofNat 2) (.negSucc m) n ) (hp1_4 (.ofNat 2) (.negSucc m) n )) = true := by kernel_rfl
theorem n1b_5 (m : Nat) (n : Int) : q1 (fr1_4 (.ofNat 2) (.negSucc m) n ) (hp1_4 (.ofNat 2) (.negSucc m) n ) = .nor (fr1_5 (.ofNat 2) (.negSucc m) n ) (hp1_5 (.ofNat 2) (.negSucc m) n ) := isNor_ok (s1b_5 m n )
theorem s1b_6 (m : Nat) (n : Int) : isNor (Tryzr5p_3 (fr1_5 (.ofNat 2) (.negSucc m) n ) (hp1_5 (.ofNat 2) (.negSucc m) n )) = true := by kernel_rfl
theorem n1b_6 (m : Nat) (n : Int) : Tryzr5p_3 (fr1_5 (.ofNat 2) (.negSucc m) n ) (hp1_5 (.ofNat 2) (.negSucc m) n ) = .nor (fr1_6 (.ofNat 2) (.negSucc m) n ) (hp1_6 (.ofNat 2) (.negSucc m) n ) := isNor_ok (s1b_6 m n )
theorem s1b_7 (m : Nat) (n : Int) : isNor (Tryzr5p_4 (fr1_6 (.ofNat 2) (.negSucc m) n ) (hp1_6 (.ofNat 2) (.negSucc m) n )) = true := by kernel_rfl
theorem n1b_7 (m : Nat) (n : Int) : Tryzr5p_4 (fr1_6 (.ofNat 2) (.negSucc m) n ) (hp1_6 (.ofNat 2) (.negSucc m) n ) = .nor (fr1_7 (.ofNat 2) (.negSucc m) n ) (hp1_7 (.ofNat 2) (.negSucc m) n ) := isNor_ok (s1b_7 m n )
theorem s1b_8 (m : Nat) (n : Int) : isNor (q5 (fr1_7 (.ofNat 2) (.negSucc m) n ) (hp1_7 (.ofNat 2) (.negSucc m) n )) = true := by kernel_rfl
theorem n1b_8 (m : Nat) (n : Int) : q5 (fr1_7 (.ofNat 2) (.negSucc m) n ) (hp1_7 (.ofNat 2) (.negSucc m) n ) = .nor (fr1_8 (.ofNat 2) (.negSucc m) n ) (hp1_8 (.ofNat 2) (.negSucc m) n ) := isNor_ok (s1b_8 m n )
theorem s1b_d (m : Nat) (n : Int) : Tryzr4_8 (fr1_3 (.ofNat 2) (.negSucc m) n ) (hp1_3 (.ofNat 2) (.negSucc m) n ) = bndO (TryzF5p [gv (fr1_3 (.ofNat 2) (.negSucc m) n ) 9, .agg (V.ofList [iv (.ofNat 2), iv (.negSucc m), iv n, .emp])] (hp1_3 (.ofNat 2) (.negSucc m) n )) fun v46 h6 => Out.nor (T.set (some v46) (Pos.of 11) (fr1_3 (.ofNat 2) (.negSucc m) n )) h6 := by kernel_rfl
theorem s1b (m : Nat) (n : Int) : oth false (iv (.ofNat 2)) (iv (.negSucc m)) (iv n) .emp (h0 TryzG) = tail4 (fr1_3 (.ofNat 2) (.negSucc m) n ) (tail5 (cndX (.tmp 13) qX qY (fr1_8 (.ofNat 2) (.negSucc m) n ) (hp1_8 (.ofNat 2) (.negSucc m) n ))) := by
  have hA : oA (oF false (iv (.ofNat 2)) (iv (.negSucc m)) (iv n) .emp) (h0 TryzG) = .nor (oF false (iv (.ofNat 2)) (iv (.negSucc m)) (iv n) .emp) (h0 TryzG) := by kernel_rfl
  unfold oth
  rw [seq_to hA, seq_to (n1b_1 m n ), seq_to (n1b_2 m n ), seq_to (n1b_3 m n )]
  show outR Tryz.prog [.tmp 8] (seqO Tryzr4_8 (seqO Tryzr4_9 Out.ret) (fr1_3 (.ofNat 2) (.negSucc m) n ) (hp1_3 (.ofNat 2) (.negSucc m) n )) = _
  rw [seq_th, s1b_d, TryzF5p_eq]
  show tail4 (fr1_3 (.ofNat 2) (.negSucc m) n ) (outR Tryz.prog [.tmp 4] (Tryzd5p (dF1 (.ofNat 2) (.negSucc m) n ) (hp1_3 (.ofNat 2) (.negSucc m) n ))) = _
  rw [d5p_eq, seq_to (n1b_4 m n ), seq_to (n1b_5 m n ), seq_to (n1b_6 m n ), seq_th, seq_to (n1b_7 m n ), blk_q, seq_to (n1b_8 m n )]
  rfl
def fr1_9 (m : Nat) (c : Int) : F := outF (Tryzr5p_9 (fr1_8 (.ofNat 4) c (.ofNat m) ) (hp1_8 (.ofNat 4) c (.ofNat m) ))
def hp1_9 (m : Nat) (c : Int) : Hp := outH (Tryzr5p_9 (fr1_8 (.ofNat 4) c (.ofNat m) ) (hp1_8 (.ofNat 4) c (.ofNat m) ))
theorem t1_9 (m : Nat) (c : Int) : isNor (Tryzr5p_9 (fr1_8 (.ofNat 4) c (.ofNat m) ) (hp1_8 (.ofNat 4) c (.ofNat m) )) = true := by kernel_rfl
theorem u1_9 (m : Nat) (c : Int) : Tryzr5p_9 (fr1_8 (.ofNat 4) c (.ofNat m) ) (hp1_8 (.ofNat 4) c (.ofNat m) ) = .nor (fr1_9 m c ) (hp1_9 m c ) := isNor_ok (t1_9 m c )
theorem t1_c (m : Nat) (c : Int) : T.get (fr1_8 (.ofNat 4) c (.ofNat m) ) (Pos.of 13) = some (.bool false) := by kernel_rfl
theorem t1_e (m : Nat) (c : Int) : T.get (fr1_9 m c ) (Pos.of 23) = some (.bool true) := by kernel_rfl
theorem t1_10 (m : Nat) (c : Int) : Tryzr5p_10 (fr1_9 m c ) (hp1_9 m c ) = bndO (oBin .gtr .none (.int .i64 (.ofNat m)) (.int .i64 (.ofNat 253402300799)) (bumpH 0 (hp1_9 m c ))) fun v32 _ => Out.nor (T.set (some v32) (Pos.of 32) (fr1_9 m c )) (bumpH 0 (hp1_9 m c )) := by kernel_rfl
def fr1_b (q : Bool) (m : Nat) (c : Int) : F := T.set (some (.bool q)) (Pos.of 32) (fr1_9 m c )
def hp1_b (m : Nat) (c : Int) : Hp := bumpH 0 (hp1_9 m c )
def k43_1 (m : Nat) (c : Int) (v43 : V) : Out := bndO (oNilCheck (gv (fr1_b false m c ) 0) (bumpH 0 (hp1_b m c ))) fun v44 _ => bndO (oFieldAddr 6 v44 (bumpH 0 (hp1_b m c ))) fun v45 _ => bndO (oStore 1 v45 v43 (bumpH 0 (hp1_b m c ))) fun _ h10 => Out.nor (fr1_b false m c ) h10
theorem t1_12 (m : Nat) (c : Int) : qZ (fr1_b false m c ) (hp1_b m c ) = bndO (oBin .add .none (.int .i64 (.ofNat 0)) (.int .i64 (.ofNat m)) (bumpH 0 (hp1_b m c ))) fun v43 _ => k43_1 m c v43 := by kernel_rfl
theorem t1_great (m : Nat) (c : Int) : isT (tail4 (fr1_3 (.ofNat 4) c (.ofNat m) ) (tail5 (qZ (fr1_b true m c ) (hp1_b m c )))) = true := by kernel_rfl
theorem t1_small (m : Nat) (c : Int) (z : Int) : isT (tail4 (fr1_3 (.ofNat 4) c (.ofNat m) ) (tail5 (k43_1 m c (.int .i64 z)))) = true := by kernel_rfl
theorem o1_k4 (m : Nat) (c : Int) : isT (oth false (iv (.ofNat 4)) (iv c) (iv (.ofNat m)) .emp (h0 TryzG)) = true := by
  rw [s1t, cnd_to (t1_c m c )]
  show isT (tail4 _ (tail5 (seqO Tryzr5p_9 (cndX (.tmp 23) (seqO Tryzr5p_10 qZ) qW) (fr1_8 (.ofNat 4) c (.ofNat m) ) (hp1_8 (.ofNat 4) c (.ofNat m) )))) = true
  rw [seq_to (u1_9 m c )]
  show isT (tail4 _ (tail5 (cndX (.tmp 23) (seqO Tryzr5p_10 qZ) qW (fr1_9 m c ) (hp1_9 m c )))) = true
  rw [cnd_to (t1_e m c )]
  show isT (tail4 _ (tail5 (seqO Tryzr5p_10 qZ (fr1_9 m c ) (hp1_9 m c )))) = true
  obtain ⟨q, hq⟩ := gtrB (.ofNat m) (.ofNat 253402300799) (bumpH 0 (hp1_9 m c ))
  have e10 : Tryzr5p_10 (fr1_9 m c ) (hp1_9 m c ) = .nor (fr1_b q m c ) (hp1_b m c ) := by rw [t1_10, hq]; rfl
  rw [seq_to e10]
  cases q
  · obtain ⟨z, hz⟩ := addI (.ofNat 0) (.ofNat m) (bumpH 0 (hp1_b m c ))
    rw [t1_12, hz]
    exact t1_small m c z
  · exact t1_great m c 
def w1a (m : Nat) (n : Int) : R V := TryzF15 [gv (fr1_8 (.ofNat 2) (.ofNat (m + 8)) n ) 0, .agg (V.ofList [iv (.ofNat 2), iv (.ofNat (m + 8)), iv n, .emp])] (bumpH 0 (hp1_8 (.ofNat 2) (.ofNat (m + 8)) n ))
def k1a (m : Nat) (n : Int) : Out := bndO (TryzF14 [iv (.ofNat (m + 8)), rv (w1a m n )] (rh (w1a m n ))) fun v22 h5 => Out.nor (T.set (some v22) (Pos.of 4) (fr1_8 (.ofNat 2) (.ofNat (m + 8)) n )) h5
def a1a (m : Nat) (n : Int) : V := rv (oFieldAddr 1 (gv (fr1_8 (.ofNat 2) (.ofNat (m + 8)) n ) 3) (rh (w1a m n )))
theorem c1a_c (m : Nat) (n : Int) : T.get (fr1_8 (.ofNat 2) (.ofNat (m + 8)) n ) (Pos.of 13) = some (.bool true) := by kernel_rfl
theorem c1a_8 (m : Nat) (n : Int) : Tryzr5p_8 (fr1_8 (.ofNat 2) (.ofNat (m + 8)) n ) (hp1_8 (.ofNat 2) (.ofNat (m + 8)) n ) = chk (fun h => oLoad1 (a1a m n ) h) (iv (.ofNat (m + 8))) (k1a m n ) 1 [(bumpH 0 (hp1_8 (.ofNat 2) (.ofNat (m + 8)) n ))] := by kernel_rfl
theorem c1a_l (m : Nat) (n : Int) : oLoad1 (a1a m n ) (bumpH 0 (hp1_8 (.ofNat 2) (.ofNat (m + 8)) n )) = .ok (iv (.ofNat (m + 8))) (bumpH 0 (hp1_8 (.ofNat 2) (.ofNat (m + 8)) n )) := by kernel_rfl
theorem c1a_k (m : Nat) (n : Int) : isT (tail4 (fr1_3 (.ofNat 2) (.ofNat (m + 8)) n ) (tail5 (thenO (k1a m n ) Out.ret))) = true := by kernel_rfl
theorem o1_k2a (m : Nat) (n : Int) : isT (oth false (iv (.ofNat 2)) (iv (.ofNat (m + 8))) (iv n) .emp (h0 TryzG)) = true := by
  rw [s1a, cnd_to (c1a_c m n )]
  show isT (tail4 _ (tail5 (seqO Tryzr5p_8 Out.ret (fr1_8 (.ofNat 2) (.ofNat (m + 8)) n ) (hp1_8 (.ofNat 2) (.ofNat (m + 8)) n )))) = true
  rw [seq_th, c1a_8, chk_one (c1a_l m n ) (eqI _ _)]
  exact c1a_k m n 
def w1b (m : Nat) (n : Int) : R V := TryzF15 [gv (fr1_8 (.ofNat 2) (.negSucc m) n ) 0, .agg (V.ofList [iv (.ofNat 2), iv (.negSucc m), iv n, .emp])] (bumpH 0 (hp1_8 (.ofNat 2) (.negSucc m) n ))
def k1b (m : Nat) (n : Int) : Out := bndO (TryzF14 [iv (.negSucc m), rv (w1b m n )] (rh (w1b m n ))) fun v22 h5 => Out.nor (T.set (some v22) (Pos.of 4) (fr1_8 (.ofNat 2) (.negSucc m) n )) h5
def a1b (m : Nat) (n : Int) : V := rv (oFieldAddr 1 (gv (fr1_8 (.ofNat 2) (.negSucc m) n ) 3) (rh (w1b m n )))
theorem c1b_c (m : Nat) (n : Int) : T.get (fr1_8 (.ofNat 2) (.negSucc m) n ) (Pos.of 13) = some (.bool true) := by kernel_rfl
theorem c1b_8 (m : Nat) (n : Int) : Tryzr5p_8 (fr1_8 (.ofNat 2) (.negSucc m) n ) (hp1_8 (.ofNat 2) (.negSucc m) n ) = chk (fun h => oLoad1 (a1b m n ) h) (iv (.negSucc m)) (k1b m n ) 1 [(bumpH 0 (hp1_8 (.ofNat 2) (.negSucc m) n ))] := by kernel_rfl
theorem c1b_l (m : Nat) (n : Int) : oLoad1 (a1b m n ) (bumpH 0 (hp1_8 (.ofNat 2) (.negSucc m) n )) = .ok (iv (.negSucc m)) (bumpH 0 (hp1_8 (.ofNat 2) (.negSucc m) n )) := by kernel_rfl
theorem c1b_k (m : Nat) (n : Int) : isT (tail4 (fr1_3 (.ofNat 2) (.negSucc m) n ) (tail5 (thenO (k1b m n ) Out.ret))) = true := by kernel_rfl
theorem o1_k2b (m : Nat) (n : Int) : isT (oth false (iv (.ofNat 2)) (iv (.negSucc m)) (iv n) .emp (h0 TryzG)) = true := by
  rw [s1b, cnd_to (c1b_c m n )]
  show isT (tail4 _ (tail5 (seqO Tryzr5p_8 Out.ret (fr1_8 (.ofNat 2) (.negSucc m) n ) (hp1_8 (.ofNat 2) (.negSucc m) n )))) = true
  rw [seq_th, c1b_8, chk_one (c1b_l m n ) (eqI _ _)]
  exact c1b_k m n 
/-! heap 2 -/
theorem o2_k0 (c n : Int) (len cap : Nat) (l : List V) : isT (oth false (iv (.ofNat 0)) (iv c) (iv n) (.slice (h0 TryzG).next 0 len (.kn cap)) ((h0 TryzG).new (.cells .ro l))) = true := by kernel_rfl
theorem o2_k1 (c n : Int) (len cap : Nat) (l : List V) : isT (oth false (iv (.ofNat 1)) (iv c) (iv n) (.slice (h0 TryzG).next 0 len (.kn cap)) ((h0 TryzG).new (.cells .ro l))) = true := by kernel_rfl
theorem o2_k3 (c n : Int) (len cap : Nat) (l : List V) : isT (oth false (iv (.ofNat 3)) (iv c) (iv n) (.slice (h0 TryzG).next 0 len (.kn cap)) ((h0 TryzG).new (.cells .ro l))) = true := by kernel_rfl
theorem o2_k5 (c n : Int) (len cap : Nat) (l : List V) : isT (oth false (iv (.ofNat 5)) (iv c) (iv n) (.slice (h0 TryzG).next 0 len (.kn cap)) ((h0 TryzG).new (.cells .ro l))) = true := by kernel_rfl
theorem o2_k6 (m : Nat) (c n : Int) (len cap : Nat) (l : List V) : isT (oth false (iv (.ofNat (m + 6))) (iv c) (iv n) (.slice (h0 TryzG).next 0 len (.kn cap)) ((h0 TryzG).new (.cells .ro l))) = true := by kernel_rfl
theorem o2_kn (m : Nat) (c n : Int) (len cap : Nat) (l : List V) : isT (oth false (iv (.negSucc m)) (iv c) (iv n) (.slice (h0 TryzG).next 0 len (.kn cap)) ((h0 TryzG).new (.cells .ro l))) = true := by kernel_rfl
theorem o2_k2_0 (n : Int) (len cap : Nat) (l : List V) : isT (oth false (iv (.ofNat 2)) (iv (.ofNat 0)) (iv n) (.slice (h0 TryzG).next 0 len (.kn cap)) ((h0 TryzG).new (.cells .ro l))) = true := by kernel_rfl
theorem o2_k2_1 (n : Int) (len cap : Nat) (l : List V) : isT (oth false (iv (.ofNat 2)) (iv (.ofNat 1)) (iv n) (.slice (h0 TryzG).next 0 len (.kn cap)) ((h0 TryzG).new (.cells .ro l))) = true := by kernel_rfl
theorem o2_k2_2 (n : Int) (len cap : Nat) (l : List V) : isT (oth false (iv (.ofNat 2)) (iv (.ofNat 2)) (iv n) (.slice (h0 TryzG).next 0 len (.kn cap)) ((h0 TryzG).new (.cells .ro l))) = true := by kernel_rfl
theorem o2_k2_3 (n : Int) (len cap : Nat) (l : List V) : isT (oth false (iv (.ofNat 2)) (iv (.ofNat 3)) (iv n) (.slice (h0 TryzG).next 0 len (.kn cap)) ((h0 TryzG).new (.cells .ro l))) = true := by kernel_rfl
theorem o2_k2_4 (n : Int) (len cap : Nat) (l : List V) : isT (oth false (iv (.ofNat 2)) (iv (.ofNat 4)) (iv n) (.slice (h0 TryzG).next 0 len (.kn cap)) ((h0 TryzG).new (.cells .ro l))) = true := by kernel_rfl
theorem o2_k2_5 (n : Int) (len cap : Nat) (l : List V) : isT (oth false (iv (.ofNat 2)) (iv (.ofNat 5)) (iv n) (.slice (h0 TryzG).next 0 len (.kn cap)) ((h0 TryzG).new (.cells .ro l))) = true := by kernel_rfl
theorem o2_k2_6 (n : Int) (len cap : Nat) (l : List V) : isT (oth false (iv (.ofNat 2)) (iv (.ofNat 6)) (iv n) (.slice (h0 TryzG).next 0 len (.kn cap)) ((h0 TryzG).new (.cells .ro l))) = true := by kernel_rfl
theorem o2_k2_7 (n : Int) (len cap : Nat) (l : List V) : isT (oth false (iv (.ofNat 2)) (iv (.ofNat 7)) (iv n) (.slice (h0 TryzG).next 0 len (.kn cap)) ((h0 TryzG).new (.cells .ro l))) = true := by kernel_rfl
theorem o2_k4n (m : Nat) (c : Int) (len cap : Nat) (l : List V) : isT (oth false (iv (.ofNat 4)) (iv c) (iv (.negSucc m)) (.slice (h0 TryzG).next 0 len (.kn cap)) ((h0 TryzG).new (.cells .ro l))) = true := by kernel_rfl
def fr2_1 (k c n : Int) (len cap : Nat) (l : List V) : F := outF (p1 (oF false (iv k) (iv c) (iv n) (.slice (h0 TryzG).next 0 len (.kn cap))) ((h0 TryzG).new (.cells .ro l)))
def hp2_1 (k c n : Int) (len cap : Nat) (l : List V) : Hp := outH (p1 (oF false (iv k) (iv c) (iv n) (.slice (h0 TryzG).next 0 len (.kn cap))) ((h0 TryzG).new (.cells .ro l)))
def fr2_2 (k c n : Int) (len cap : Nat) (l : List V) : F := outF (Tryzr4_5 (fr2_1 k c n len cap l ) (hp2_1 k c n len cap l ))
def hp2_2 (k c n : Int) (len cap : Nat) (l : List V) : Hp := outH (Tryzr4_5 (fr2_1 k c n len cap l ) (hp2_1 k c n len cap l ))
def fr2_3 (k c n : Int) (len cap : Nat) (l : List V) : F := outF (p3 (fr2_2 k c n len cap l ) (hp2_2 k c n len cap l ))
def hp2_3 (k c n : Int) (len cap : Nat) (l : List V) : Hp := outH (p3 (fr2_2 k c n len cap l ) (hp2_2 k c n len cap l ))
def dF2 (k c n : Int) (len cap : Nat) (l : List V) : F := T.set (some (.agg (V.ofList [iv k, iv c, iv n, (.slice (h0 TryzG).next 0 len (.kn cap))]))) (Pos.of 1) (T.set (some (gv (fr2_3 k c n len cap l ) 9)) (Pos.of 0) T.nil)
def fr2_4 (k c n : Int) (len cap : Nat) (l : List V) : F := outF (Tryzr5p_0 (dF2 k c n len cap l ) (hp2_3 k c n len cap l ))
def hp2_4 (k c n : Int) (len cap : Nat) (l : List V) : Hp := outH (Tryzr5p_0 (dF2 k c n len cap l ) (hp2_3 k c n len cap l ))
def fr2_5 (k c n : Int) (len cap : Nat) (l : List V) : F := outF (q1 (fr2_4 k c n len cap l ) (hp2_4 k c n len cap l ))
def hp2_5 (k c n : Int) (len cap : Nat) (l : List V) : Hp := outH (q1 (fr2_4 k c n len cap l ) (hp2_4 k c n len cap l ))
def fr2_6 (k c n : Int) (len cap : Nat) (l : List V) : F := outF (Tryzr5p_3 (fr2_5 k c n len cap l ) (hp2_5 k c n len cap l ))
def hp2_6 (k c n : Int) (len cap : Nat) (l : List V) : Hp := outH (Tryzr5p_3 (fr2_5 k c n len cap l ) (hp2_5 k c n len cap l ))
def fr2_7 (k c n : Int) (len cap : Nat) (l : List V) : F := outF (Tryzr5p_4 (fr2_6 k c n len cap l ) (hp2_6 k c n len cap l ))
def hp2_7 (k c n : Int) (len cap : Nat) (l : List V) : Hp := outH (Tryzr5p_4 (fr2_6 k c n len cap l ) (hp2_6 k c n len cap l ))
def fr2_8 (k c n : Int) (len cap : Nat) (l : List V) : F := outF (q5 (fr2_7 k c n len cap l ) (hp2_7 k c n len cap l ))
def hp2_8 (k c n : Int) (len cap : Nat) (l : List V) : Hp := outH (q5 (fr2_7 k c n len cap l ) (hp2_7 k c n len cap l ))
theorem s2t_1 (m : Nat) (c : Int) (len cap : Nat) (l : List V) : isNor (p1 (oF false (iv (.ofNat 4)) (iv c) (iv (.ofNat m)) (.slice (h0 TryzG).next 0 len (.kn cap))) ((h0 TryzG).new (.cells .ro l))) = true := by kernel_rfl
theorem n2t_1 (m : Nat) (c : Int) (len cap : Nat) (l : List V) : p1 (oF false (iv (.ofNat 4)) (iv c) (iv (.ofNat m)) (.slice (h0 TryzG).next 0 len (.kn cap))) ((h0 TryzG).new (.cells .ro l)) = .nor (fr2_1 (.ofNat 4) c (.ofNat m) len cap l ) (hp2_1 (.ofNat 4) c (.ofNat m) len cap l ) := isNor_ok (s2t_1 m c len cap l )
theorem s2t_2 (m : Nat) (c : Int) (len cap : Nat) (l : List V) : isNor (Tryzr4_5 (fr2_1 (.ofNat 4) c (.ofNat m) len cap l ) (hp2_1 (.ofNat 4) c (.ofNat m) len cap l )) = true := by kernel_rfl
theorem n2t_2 (m : Nat) (c : Int) (len cap : Nat) (l : List V) : Tryzr4_5 (fr2_1 (.ofNat 4) c (.ofNat m) len cap l ) (hp2_1 (.ofNat 4) c (.ofNat m) len cap l ) = .nor (fr2_2 (.ofNat 4) c (.ofNat m) len cap l ) (hp2_2 (.ofNat 4) c (.ofNat m) len cap l ) := isNor_ok (s2t_2 m c len cap l )
theorem s2t_3 (m : Nat) (c : Int) (len cap : Nat) (l : List V) : isNor (p3 (fr2_2 (.ofNat 4) c (.ofNat m) len cap l ) (hp2_2 (.ofNat 4) c (.ofNat m) len cap l )) = true := by kernel_rfl
theorem n2t_3 (m : Nat) (c : Int) (len cap : Nat) (l : List V) : p3 (fr2_2 (.ofNat 4) c (.ofNat m) len cap l ) (hp2_2 (.ofNat 4) c (.ofNat m) len cap l ) = .nor (fr2_3 (.ofNat 4) c (.ofNat m) len cap l ) (hp2_3 (.ofNat 4) c (.ofNat m) len cap l ) := isNor_ok (s2t_3 m c len cap l )
theorem s2t_4 (m : Nat) (c : Int) (len cap : Nat) (l : List V) : isNor (Tryzr5p_0 (dF2 (.ofNat 4) c (.ofNat m) len cap l ) (hp2_3 (.ofNat 4) c (.ofNat m) len cap l )) = true := by kernel_rfl
theorem n2t_4 (m : Nat) (c : Int) (len cap : Nat) (l : List V) : Tryzr5p_0 (dF2 (.ofNat 4) c (.ofNat m) len cap l ) (hp2_3 (.ofNat 4) c (.ofNat m) len cap l ) = .nor (fr2_4 (.ofNat 4) c (.ofNat m) len cap l ) (hp2_4 (.ofNat 4) c (.ofNat m) len cap l ) := isNor_ok (s2t_4 m c len cap l )
theorem s2t_5 (m : Nat) (c : Int) (len cap : Nat) (l : List V) : isNor (q1 (fr2_4 (.ofNat 4) c (.ofNat m) len cap l ) (hp2_4 (.ofNat 4) c (.ofNat m) len cap l )) = true := by kernel_rfl
theorem n2t_5 (m : Nat) (c : Int) (len cap : Nat) (l : List V) : q1 (fr2_4 (.ofNat 4) c (.ofNat m) len cap l ) (hp2_4 (.ofNat 4) c (.ofNat m) len cap l ) = .nor (fr2_5 (.ofNat 4) c (.ofNat m) len cap l ) (hp2_5 (.ofNat 4) c (.ofNat m) len cap l ) := isNor_ok (s2t_5 m c len cap l )
theorem s2t_6 (m : Nat) (c : Int) (len cap : Nat) (l : List V) : isNor (Tryzr5p_3 (fr2_5 (.ofNat 4) c (.ofNat m) len cap l ) (hp2_5 (.ofNat 4) c (.ofNat m) len cap l )) = true := by kernel_rfl
theorem n2t_6 (m : Nat) (c : Int) (len cap : Nat) (l : List V) : Tryzr5p_3 (fr2_5 (.ofNat 4) c (.ofNat m) len cap l ) (hp2_5 (.ofNat 4) c (.ofNat m) len cap l ) = .nor (fr2_6 (.ofNat 4) c (.ofNat m) len cap l ) (hp2_6 (.ofNat 4) c (.ofNat m) len cap l ) := isNor_ok (s2t_6 m c len cap l )
theorem s2t_7 (m : Nat) (c : Int) (len cap : Nat) (l : List V) : isNor (Tryzr5p_4 (fr2_6 (.ofNat 4) c (.ofNat m) len cap l ) (hp2_6 (.ofNat 4) c (.ofNat m) len cap l )) = true := by kernel_rfl
theorem n2t_7 (m : Nat) (c : Int) (len cap : Nat) (l : List V) : Tryzr5p_4 (fr2_6 (.ofNat 4) c (.ofNat m) len cap l ) (hp2_6 (.ofNat 4) c (.ofNat m) len cap l ) = .nor (fr2_7 (.ofNat 4) c (.ofNat m) len cap l ) (hp2_7 (.ofNat 4) c (.ofNat m) len cap l ) := isNor_ok (s2t_7 m c len cap l )
theorem s2t_8 (m : Nat) (c : Int) (len cap : Nat) (l : List V) : isNor (q5 (fr2_7 (.ofNat 4) c (.ofNat m) len cap l ) (hp2_7 (.ofNat 4) c (.ofNat m) len cap l )) = true := by kernel_rfl
theorem n2t_8 (m : Nat) (c : Int) (len cap : Nat) (l : List V) : q5 (fr2_7 (.ofNat 4) c (.ofNat m) len cap l ) (hp2_7 (.ofNat 4) c (.ofNat m) len cap l ) = .nor (fr2_8 (.ofNat 4) c (.ofNat m) len cap l ) (hp2_8 (.ofNat 4) c (.ofNat m) len cap l ) := isNor_ok (s2t_8 m c len cap l )
theorem s2t_d (m : Nat) (c : Int) (len cap : Nat) (l : List V) : Tryzr4_8 (fr2_3 (.ofNat 4) c (.ofNat m) len cap l ) (hp2_3 (.ofNat 4) c (.ofNat m) len cap l ) = bndO (TryzF5p [gv (fr2_3 (.ofNat 4) c (.ofNat m) len cap l ) 9, .agg (V.ofList [iv (.ofNat 4), iv c, iv (.ofNat m), (.slice (h0 TryzG).next 0 len (.kn cap))])] (hp2_3 (.ofNat 4) c (.ofNat m) len cap l )) fun v46 h6 => Out.nor (T.set (some v46) (Pos.of 11) (fr2_3 (.ofNat 4) c (.ofNat m) len cap l )) h6 := by kernel_rfl
theorem s2t (m : Nat) (c : Int) (len cap : Nat) (l : List V) : oth false (iv (.ofNat 4)) (iv c) (iv (.ofNat m)) (.slice (h0 TryzG).next 0 len (.kn cap)) ((h0 TryzG).new (.cells .ro l)) = tail4 (fr2_3 (.ofNat 4) c (.ofNat m) len cap l ) (tail5 (cndX (.tmp 13) qX qY (fr2_8 (.ofNat 4) c (.ofNat m) len cap l ) (hp2_8 (.ofNat 4) c (.ofNat m) len cap l ))) := by
  have hA : oA (oF false (iv (.ofNat 4)) (iv c) (iv (.ofNat m)) (.slice (h0 TryzG).next 0 len (.kn cap))) ((h0 TryzG).new (.cells .ro l)) = .nor (oF false (iv (.ofNat 4)) (iv c) (iv (.ofNat m)) (.slice (h0 TryzG).next 0 len (.kn cap))) ((h0 TryzG).new (.cells .ro l)) := by kernel_rfl
  unfold oth
  rw [seq_to hA, seq_to (n2t_1 m c len cap l ), seq_to (n2t_2 m c len cap l ), seq_to (n2t_3 m c len cap l )]
  show outR Tryz.prog [.tmp 8] (seqO Tryzr4_8 (seqO Tryzr4_9 Out.ret) (fr2_3 (.ofNat 4) c (.ofNat m) len cap l ) (hp2_3 (.ofNat 4) c (.ofNat m) len cap l )) = _
  rw [seq_th, s2t_d, TryzF5p_eq]
  show tail4 (fr2_3 (.ofNat 4) c (.ofNat m) len cap l ) (outR Tryz.prog [.tmp 4] (Tryzd5p (dF2 (.ofNat 4) c (.ofNat m) len cap l ) (hp2_3 (.ofNat 4) c (.ofNat m) len cap l ))) = _
  rw [d5p_eq, seq_to (n2t_4 m c len cap l ), seq_to (n2t_5 m c len cap l ), seq_to (n2t_6 m c len cap l ), seq_th, seq_to (n2t_7 m c len cap l ), blk_q, seq_to (n2t_8 m c len cap l )]
  rfl
theorem s2a_1 (m : Nat) (n : Int) (len cap : Nat) (l : List V) : isNor (p1 (oF false (iv (.ofNat 2)) (iv (.ofNat (m + 8))) (iv n) (.slice (h0 TryzG).next 0 len (.kn cap))) ((h0 TryzG).new (.cells .ro l))) = true := by kernel_rfl
theorem n2a_1 (m : Nat) (n : Int) (len cap : Nat) (l : List V) : p1 (oF false (iv (.ofNat 2)) (iv (.ofNat (m + 8))) (iv n) (.slice (h0 TryzG).next 0 len (.kn cap))) ((h0 TryzG).new (.cells .ro l)) = .nor (fr2_1 (.ofNat 2) (.ofNat (m + 8)) n len cap l ) (hp2_1 (.ofNat 2) (.ofNat (m + 8)) n len cap l ) := isNor_ok (s2a_1 m n len cap l )
theorem s2a_2 (m : Nat) (n : Int) (len cap : Nat) (l : List V) : isNor (Tryzr4_5 (fr2_1 (.ofNat 2) (.ofNat (m + 8)) n len cap l ) (hp2_1 (.ofNat 2) (.ofNat (m + 8)) n len cap l )) = true := by kernel_rfl
theorem n2a_2 (m : Nat) (n : Int) (len cap : Nat) (l : List V) : Tryzr4_5 (fr2_1 (.ofNat 2) (.ofNat (m + 8)) n len cap l ) (hp2_1 (.ofNat 2) (.ofNat (m + 8)) n len cap l ) = .nor (fr2_2 (.ofNat 2) (.ofNat (m + 8)) n len cap l ) (hp2_2 (.ofNat 2) (.ofNat (m + 8)) n len cap l ) := isNor_ok (s2a_2 m n len cap l )
theorem s2a_3 (m : Nat) (n : Int) (len cap : Nat) (l : List V) : isNor (p3 (fr2_2 (.ofNat 2) (.ofNat (m + 8)) n len cap l ) (hp2_2 (.ofNat 2) (.ofNat (m + 8)) n len cap l )) = true := by kernel_rfl
theorem n2a_3 (m : Nat) (n : Int) (len cap : Nat) (l : List V) : p3 (fr2_2 (.ofNat 2) (.ofNat (m + 8)) n len cap l ) (hp2_2 (.ofNat 2) (.ofNat (m + 8)) n len cap l ) = .nor (fr2_3 (.ofNat 2) (.ofNat (m + 8)) n len cap l ) (hp2_3 (.ofNat 2) (.ofNat (m + 8)) n len cap l ) := isNor_ok (s2a_3 m n len cap l )
theorem s2a_4 (m : Nat) (n : Int) (len cap : Nat) (l : List V) : isNor (Tryzr5p_0 (dF2 (.ofNat 2) (.ofNat (m + 8)) n len cap l ) (hp2_3 (.ofNat 2) (.ofNat (m + 8)) n len cap l )) = true := by kernel_rfl
theorem n2a_4 (m : Nat) (n : Int) (len cap : Nat) (l : List V) : Tryzr5p_0 (dF2 (.ofNat 2) (.ofNat (m + 8)) n len cap l ) (hp2_3 (.ofNat 2) (.ofNat (m + 8)) n len cap l ) = .nor (fr2_4 (.ofNat 2) (.ofNat (m + 8)) n len cap l ) (hp2_4 (.ofNat 2) (.ofNat (m + 8)) n len cap l ) := isNor_ok (s2a_4 m n len cap l )
theorem s2a_5 (m : Nat) (n : Int) (len cap : Nat) (l : List V) : isNor (q1 (fr2_4 (.ofNat 2) (.ofNat (m + 8)) n len cap l ) (hp2_4 (.ofNat 2) (.ofNat (m + 8)) n len cap l )) = true := by kernel_rfl
theorem n2a_5 (m : Nat) (n : Int) (len cap : Nat) (l : List V) : q1 (fr2_4 (.ofNat 2) (.ofNat (m + 8)) n len cap l ) (hp2_4 (.ofNat 2) (.ofNat (m + 8)) n len cap l ) = .nor (fr2_5 (.ofNat 2) (.ofNat (m + 8)) n len cap l ) (hp2_5 (.ofNat 2) (.ofNat (m + 8)) n len cap l ) := isNor_ok (s2a_5 m n len cap l )
theorem s2a_6 (m : Nat) (n : Int) (len cap : Nat) (l : List V) : isNor (Tryzr5p_3 (fr2_5 (.ofNat 2) (.ofNat (m + 8)) n len cap l ) (hp2_5 (.ofNat 2) (.ofNat (m + 8)) n len cap l )) = true := by kernel_rfl
theorem n2a_6 (m : Nat) (n : Int) (len cap : Nat) (l : List V) : Tryzr5p_3 (fr2_5 (.ofNat 2) (.ofNat (m + 8)) n len cap l ) (hp2_5 (.ofNat 2) (.ofNat (m + 8)) n len cap l ) = .nor (fr2_6 (.ofNat 2) (.ofNat (m + 8)) n len cap l ) (hp2_6 (.ofNat 2) (.ofNat (m + 8)) n len cap l ) := isNor_ok (s2a_6 m n len cap l )
theorem s2a_7 (m : Nat) (n : Int) (len cap : Nat) (l : List V) : isNor (Tryzr5p_4 (fr2_6 (.ofNat 2) (.ofNat (m + 8)) n len cap l ) (hp2_6 (.ofNat 2) (.ofNat (m + 8)) n len cap l )) = true := by kernel_rfl
theorem n2a_7 (m : Nat) (n : Int) (len cap : Nat) (l : List V) : Tryzr5p_4 (fr2_6 (.ofNat 2) (.ofNat (m + 8)) n len cap l ) (hp2_6 (.ofNat 2) (.ofNat (m + 8)) n len cap l ) = .nor (fr2_7 (.ofNat 2) (.ofNat (m + 8)) n len cap l ) (hp2_7 (.ofNat 2) (.ofNat (m + 8)) n len cap l ) := isNor_ok (s2a_7 m n len cap l )
theorem s2a_8 (m : Nat) (n : Int) (len cap : Nat) (l : List V) : isNor (q5 (fr2_7 (.ofNat 2) (.ofNat (m + 8)) n len cap l ) (hp2_7 (.ofNat 2) (.ofNat (m + 8)) n len cap l )) = true := by kernel_rfl
theorem n2a_8 (m : Nat) (n : Int) (len cap : Nat) (l : List V) : q5 (fr2_7 (.ofNat 2) (.ofNat (m + 8)) n len cap l ) (hp2_7 (.ofNat 2) (.ofNat (m + 8)) n len cap l ) = .nor (fr2_8 (.ofNat 2) (.ofNat (m + 8)) n len cap l ) (hp2_8 (.ofNat 2) (.ofNat (m + 8)) n len cap l ) := isNor_ok (s2a_8 m n len cap l )
theorem s2a_d (m : Nat) (n : Int) (len cap : Nat) (l : List V) : Tryzr4_8 (fr2_3 (.ofNat 2) (.ofNat (m + 8)) n len cap l ) (hp2_3 (.ofNat 2) (.ofNat (m + 8)) n len cap l ) = bndO (TryzF5p [gv (fr2_3 (.ofNat 2) (.ofNat (m + 8)) n len cap l ) 9, .agg (V.ofList [iv (.ofNat 2), iv (.ofNat (m + 8)), iv n, (.slice (h0 TryzG).next 0 len (.kn cap))])] (hp2_3 (.ofNat 2) (.ofNat (m + 8)) n len cap l )) fun v46 h6 => Out.nor (T.set (some v46) (Pos.of 11) (fr2_3 (.ofNat 2) (.ofNat (m + 8)) n len cap l )) h6 := by kernel_rfl
theorem s2a (m : Nat) (n : Int) (len cap : Nat) (l : List V) : oth false (iv (.ofNat 2)) (iv (.ofNat (m + 8))) (iv n) (.slice (h0 TryzG).next 0 len (.kn cap)) ((h0 TryzG).new (.cells .ro l)) = tail4 (fr2_3 (.ofNat 2) (.ofNat (m + 8)) n len cap l ) (tail5 (cndX (.tmp 13) qX qY (fr2_8 (.ofNat 2) (.ofNat (m + 8)) n len cap l ) (hp2_8 (.ofNat 2) (.ofNat (m + 8)) n len cap l ))) := by
  have hA : oA (oF false (iv (.ofNat 2)) (iv (.ofNat (m + 8))) (iv n) (.slice (h0 TryzG).next 0 len (.kn cap))) ((h0 TryzG).new (.cells .ro l)) = .nor (oF false (iv (.ofNat 2)) (iv (.ofNat (m + 8))) (iv n) (.slice (h0 TryzG).next 0 len (.kn cap))) ((h0 TryzG).new (.cells .ro l)) := by kernel_rfl
  unfold oth
  rw [seq_to hA, seq_to (n2a_1 m n len cap l ), seq_to (n2a_2 m n len cap l ), seq_to (n2a_3 m n len cap l )]
  show outR Tryz.prog [.tmp 8] (seqO Tryzr4_8 (seqO Tryzr4_9 Out.ret) (fr2_3 (.ofNat 2) (.ofNat (m + 8)) n len cap l ) (hp2_3 (.ofNat 2) (.ofNat (m + 8)) n len cap l )) = _
  rw [seq_th, s2a_d, TryzF5p_eq]
  show tail4 (fr2_3 (.ofNat 2) (.ofNat (m + 8)) n len cap l ) (outR Tryz.prog [.tmp 4] (Tryzd5p (dF2 (.ofNat 2) (.ofNat (m + 8)) n len cap l ) (hp2_3 (.ofNat 2) (.ofNat (m + 8)) n len cap l ))) = _
  rw [d5p_eq, seq_to (n2a_4 m n len cap l ), seq_to (n2a_5 m n len cap l ), seq_to (n2a_6 m n len cap l ), seq_th, seq_to (n2a_7 m n len cap l ), blk_q, seq_to (n2a_8 m n len cap l )]
  rfl
theorem s2b_1 (m : Nat) (n : Int) (len cap : Nat) (l : List V) : isNor (p1 (oF false (iv (.ofNat 2)) (iv (.negSucc m)) (iv n) (.slice (h0 TryzG).next 0 len (.kn cap))) ((h0 TryzG).new (.cells .ro l))) = true := by kernel_rfl
theorem n2b_1 (m : Nat) (n : Int) (len cap : Nat) (l : List V) : p1 (oF false (iv (.ofNat 2)) (iv (.negSucc m)) (iv n) (.slice (h0 TryzG).next 0 len (.kn cap))) ((h0 TryzG).new (.cells .ro l)) = .nor (fr2_1 (.ofNat 2) (.negSucc m) n len cap l ) (hp2_1 (.ofNat 2) (.negSucc m) n len cap l ) := isNor_ok (s2b_1 m n len cap l )
theorem s2b_2 (m : Nat) (n : Int) (len cap : Nat) (l : List V) : isNor (Tryzr4_5 (fr2_1 (.ofNat 2) (.negSucc m) n len cap l ) (hp2_1 (.ofNat 2) (.negSucc m) n len cap l )) = true := by kernel_rfl
theorem n2b_2 (m : Nat) (n : Int) (len cap : Nat) (l : List V) : Tryzr4_5 (fr2_1 (.ofNat 2) (.negSucc m) n len cap l ) (hp2_1 (.ofNat 2) (.negSucc m) n len cap l ) = .nor (fr2_2 (.ofNat 2) (.negSucc m) n len cap l ) (hp2_2 (.ofNat 2) (.negSucc m) n len cap l ) := isNor_ok (s2b_2 m n len cap l )
theorem s2b_3 (m : Nat) (n : Int) (len cap : Nat) (l : List V) : isNor (p3 (fr2_2 (.ofNat 2) (.negSucc m) n len cap l ) (hp2_2 (.ofNat 2) (.negSucc m) n len cap l )) = true := by kernel_rfl
theorem n2b_3 (m : Nat) (n : Int) (len cap : Nat) (l : List V) : p3 (fr2_2 (.ofNat 2) (.negSucc m) n len cap l ) (hp2_2 (.ofNat 2) (.negSucc m) n len cap l ) = .nor (fr2_3 (.ofNat 2) (.negSucc m) n len cap l ) (hp2_3 (.ofNat 2) (.negSucc m) n len cap l ) := isNor_ok (s2b_3 m n len cap l )
theorem s2b_4 (m : Nat) (n : Int) (len cap : Nat) (l : List V) : isNor (Tryzr5p_0 (dF2 (.ofNat 2) (.negSucc m) n len cap l ) (hp2_3 (.ofNat 2) (.negSucc m) n len cap l )) = true := by kernel_rfl
theorem n2b_4 (m : Nat) (n : Int) (len cap : Nat) (l : List V) : Tryzr5p_0 (dF2 (.ofNat 2) (.negSucc m) n len cap l ) (hp2_3 (.ofNat 2) (.negSucc m) n len cap l ) = .nor (fr2_4 (.ofNat 2) (.negSucc m) n len cap l ) (hp2_4 (.ofNat 2) (.negSucc m) n len cap l ) := isNor_ok (s2b_4 m n len cap l )
theorem s2b_5 (m : Nat) (n : Int) (len cap : Nat) (l : List V) : isNor (q1 (fr2_4 (.ofNat 2) (.negSucc m) n len cap l ) (hp2_4 (.ofNat 2) (.negSucc m) n len cap l )) = true := by kernel_rfl
theorem n2b_5 (m : Nat) (n : Int) (len cap : Nat) (l : List V) : q1 (fr2_4 (.ofNat 2) (.negSucc m) n len cap l ) (hp2_4 (.ofNat 2) (.negSucc m) n len cap l ) = .nor (fr2_5 (.ofNat 2) (.negSucc m) n len cap l ) (hp2_5 (.ofNat 2) (.negSucc m) n len cap l ) := isNor_ok (s2b_5 m n len cap l )
theorem s2b_6 (m : Nat) (n : Int) (len cap : Nat) (l : List V) : isNor (Tryzr5p_3 (fr2_5 (.ofNat 2) (.negSucc m) n len cap l ) (hp2_5 (.ofNat 2) (.negSucc m) n len cap l )) = true := by kernel_rfl
theorem n2b_6 (m : Nat) (n : Int) (len cap : Nat) (l : List V) : Tryzr5p_3 (fr2_5 (.ofNat 2) (.negSucc m) n len cap l ) (hp2_5 (.ofNat 2) (.negSucc m) n len cap l ) = .nor (fr2_6 (.ofNat 2) (.negSucc m) n len cap l ) (hp2_6 (.ofNat 2) (.negSucc m) n len cap l ) := isNor_ok (s2b_6 m n len cap l )
theorem s2b_7 (m : Nat) (n : Int) (len cap : Nat) (l : List V) : isNor (Tryzr5p_4 (fr2_6 (.ofNat 2) (.negSucc m) n len cap l ) (hp2_6 (.ofNat 2) (.negSucc m) n len cap l )) = true := by kernel_rfl
theorem n2b_7 (m : Nat) (n : Int) (len cap : Nat) (l : List V) : Tryzr5p_4 (fr2_6 (.ofNat 2) (.negSucc m) n len cap l ) (hp2_6 (.ofNat 2) (.negSucc m) n len cap l ) = .nor (fr2_7 (.ofNat 2) (.negSucc m) n len cap l ) (hp2_7 (.ofNat 2) (.negSucc m) n len cap l ) := isNor_ok (s2b_7 m n len cap l )
theorem s2b_8 (m : Nat) (n : Int) (len cap : Nat) (l : List V) : isNor (q5 (fr2_7 (.ofNat 2) (.negSucc m) n len cap l ) (hp2_7 (.ofNat 2) (.negSucc m) n len cap l )) = true := by kernel_rfl
theorem n2b_8 (m : Nat) (n : Int) (len cap : Nat) (l : List V) : q5 (fr2_7 (.ofNat 2) (.negSucc m) n len cap l ) (hp2_7 (.ofNat 2) (.negSucc m) n len cap l ) = .nor (fr2_8 (.ofNat 2) (.negSucc m) n len cap l ) (hp2_8 (.ofNat 2) (.negSucc m) n len cap l ) := isNor_ok (s2b_8 m n len cap l )
theorem s2b_d (m : Nat) (n : Int) (len cap : Nat) (l : List V) : Tryzr4_8 (fr2_3 (.ofNat 2) (.negSucc m) n len cap l ) (hp2_3 (.ofNat 2) (.negSucc m) n len cap l ) = bndO (TryzF5p [gv (fr2_3 (.ofNat 2) (.negSucc m) n len cap l ) 9, .agg (V.ofList [iv (.ofNat 2), iv (.negSucc m), iv n, (.slice (h0 TryzG).next 0 len (.kn cap))])] (hp2_3 (.ofNat 2) (.negSucc m) n len cap l )) fun v46 h6 => Out.nor (T.set (some v46) (Pos.of 11) (fr2_3 (.ofNat 2) (.negSucc m) n len cap l )) h6 := by kernel_rfl
theorem s2b (m : Nat) (n : Int) (len cap : Nat) (l : List V) : oth false (iv (.ofNat 2)) (iv (.negSucc m)) (iv n) (.slice (h0 TryzG).next 0 len (.kn cap)) ((h0 TryzG).new (.cells .ro l)) = tail4 (fr2_3 (.ofNat 2) (.negSucc m) n len cap l ) (tail5 (cndX (.tmp 13) qX qY (fr2_8 (.ofNat 2) (.negSucc m) n len cap l ) (hp2_8 (.ofNat 2) (.negSucc m) n len cap l ))) := by
  have hA : oA (oF false (iv (.ofNat 2)) (iv (.negSucc m)) (iv n) (.slice (h0 TryzG).next 0 len (.kn cap))) ((h0 TryzG).new (.cells .ro l)) = .nor (oF false (iv (.ofNat 2)) (iv (.negSucc m)) (iv n) (.slice (h0 TryzG).next 0 len (.kn cap))) ((h0 TryzG).new (.cells .ro l)) := by kernel_rfl
  unfold oth
  rw [seq_to hA, seq_to (n2b_1 m n len cap l ), seq_to (n2b_2 m n len cap l ), seq_to (n2b_3 m n len cap l )]
  show outR Tryz.prog [.tmp 8] (seqO Tryzr4_8 (seqO Tryzr4_9 Out.ret) (fr2_3 (.ofNat 2) (.negSucc m) n len cap l ) (hp2_3 (.ofNat 2) (.negSucc m) n len cap l )) = _
  rw [seq_th, s2b_d, TryzF5p_eq]
  show tail4 (fr2_3 (.ofNat 2) (.negSucc m) n len cap l ) (outR Tryz.prog [.tmp 4] (Tryzd5p (dF2 (.ofNat 2) (.negSucc m) n len cap l ) (hp2_3 (.ofNat 2) (.negSucc m) n len cap l ))) = _
  rw [d5p_eq, seq_to (n2b_4 m n len cap l ), seq_to (n2b_5 m n len cap l ), seq_to (n2b_6 m n len cap l ), seq_th, seq_to (n2b_7 m n len cap l ), blk_q, seq_to (n2b_8 m n len cap l )]
  rfl
def fr2_9 (m : Nat) (c : Int) (len cap : Nat) (l : List V) : F := outF (Tryzr5p_9 (fr2_8 (.ofNat 4) c (.ofNat m) len cap l ) (hp2_8 (.ofNat 4) c (.ofNat m) len cap l ))
def hp2_9 (m : Nat) (c : Int) (len cap : Nat) (l : List V) : Hp := outH (Tryzr5p_9 (fr2_8 (.ofNat 4) c (.ofNat m) len cap l ) (hp2_8 (.ofNat 4) c (.ofNat m) len cap l ))
theorem t2_9 (m : Nat) (c : Int) (len cap : Nat) (l : List V) : isNor (Tryzr5p_9 (fr2_8 (.ofNat 4) c (.ofNat m) len cap l ) (hp2_8 (.ofNat 4) c (.ofNat m) len cap l )) = true := by kernel_rfl
theorem u2_9 (m : Nat) (c : Int) (len cap : Nat) (l : List V) : Tryzr5p_9 (fr2_8 (.ofNat 4) c (.ofNat m) len cap l ) (hp2_8 (.ofNat 4) c (.ofNat m) len cap l ) = .nor (fr2_9 m c len cap l ) (hp2_9 m c len cap l ) := isNor_ok (t2_9 m c len cap l )
theorem t2_c (m : Nat) (c : Int) (len cap : Nat) (l : List V) : T.get (fr2_8 (.ofNat 4) c (.ofNat m) len cap l ) (Pos.of 13) = some (.bool false) := by kernel_rfl
theorem t2_e (m : Nat) (c : Int) (len cap : Nat) (l : List V) : T.get (fr2_9 m c len cap l ) (Pos.of 23) = some (.bool true) := by kernel_rfl
theorem t2_10 (m : Nat) (c : Int) (len cap : Nat) (l : List V) : Tryzr5p_10 (fr2_9 m c len cap l ) (hp2_9 m c len cap l ) = bndO (oBin .gtr .none (.int .i64 (.ofNat m)) (.int .i64 (.ofNat 253402300799)) (bumpH 0 (hp2_9 m c len cap l ))) fun v32 _ => Out.nor (T.set (some v32) (Pos.of 32) (fr2_9 m c len cap l )) (bumpH 0 (hp2_9 m c len cap l )) := by kernel_rfl
def fr2_b (q : Bool) (m : Nat) (c : Int) (len cap : Nat) (l : List V) : F := T.set (some (.bool q)) (Pos.of 32) (fr2_9 m c len cap l )
def hp2_b (m : Nat) (c : Int) (len cap : Nat) (l : List V) : Hp := bumpH 0 (hp2_9 m c len cap l )
def k43_2 (m : Nat) (c : Int) (len cap : Nat) (l : List V) (v43 : V) : Out := bndO (oNilCheck (gv (fr2_b false m c len cap l ) 0) (bumpH 0 (hp2_b m c len cap l ))) fun v44 _ => bndO (oFieldAddr 6 v44 (bumpH 0 (hp2_b m c len cap l ))) fun v45 _ => bndO (oStore 1 v45 v43 (bumpH 0 (hp2_b m c len cap l ))) fun _ h10 => Out.nor (fr2_b false m c len cap l ) h10
theorem t2_12 (m : Nat) (c : Int) (len cap : Nat) (l : List V) : qZ (fr2_b false m c len cap l ) (hp2_b m c len cap l ) = bndO (oBin .add .none (.int .i64 (.ofNat 0)) (.int .i64 (.ofNat m)) (bumpH 0 (hp2_b m c len cap l ))) fun v43 _ => k43_2 m c len cap l v43 := by kernel_rfl
theorem t2_great (m : Nat) (c : Int) (len cap : Nat) (l : List V) : isT (tail4 (fr2_3 (.ofNat 4) c (.ofNat m) len cap l ) (tail5 (qZ (fr2_b true m c len cap l ) (hp2_b m c len cap l )))) = true := by kernel_rfl
theorem t2_small (m : Nat) (c : Int) (len cap : Nat) (l : List V) (z : Int) : isT (tail4 (fr2_3 (.ofNat 4) c (.ofNat m) len cap l ) (tail5 (k43_2 m c len cap l (.int .i64 z)))) = true := by kernel_rfl
theorem o2_k4 (m : Nat) (c : Int) (len cap : Nat) (l : List V) : isT (oth false (iv (.ofNat 4)) (iv c) (iv (.ofNat m)) (.slice (h0 TryzG).next 0 len (.kn cap)) ((h0 TryzG).new (.cells .ro l))) = true := by
  rw [s2t, cnd_to (t2_c m c len cap l )]
  show isT (tail4 _ (tail5 (seqO Tryzr5p_9 (cndX (.tmp 23) (seqO Tryzr5p_10 qZ) qW) (fr2_8 (.ofNat 4) c (.ofNat m) len cap l ) (hp2_8 (.ofNat 4) c (.ofNat m) len cap l )))) = true
  rw [seq_to (u2_9 m c len cap l )]
  show isT (tail4 _ (tail5 (cndX (.tmp 23) (seqO Tryzr5p_10 qZ) qW (fr2_9 m c len cap l ) (hp2_9 m c len cap l )))) = true
  rw [cnd_to (t2_e m c len cap l )]
  show isT (tail4 _ (tail5 (seqO Tryzr5p_10 qZ (fr2_9 m c len cap l ) (hp2_9 m c len cap l )))) = true
  obtain ⟨q, hq⟩ := gtrB (.ofNat m) (.ofNat 253402300799) (bumpH 0 (hp2_9 m c len cap l ))
  have e10 : Tryzr5p_10 (fr2_9 m c len cap l ) (hp2_9 m c len cap l ) = .nor (fr2_b q m c len cap l ) (hp2_b m c len cap l ) := by rw [t2_10, hq]; rfl
  rw [seq_to e10]
  cases q
  · obtain ⟨z, hz⟩ := addI (.ofNat 0) (.ofNat m) (bumpH 0 (hp2_b m c len cap l ))
    rw [t2_12, hz]
    exact t2_small m c len cap l z
  · exact t2_great m c len cap l 
def w2a (m : Nat) (n : Int) (len cap : Nat) (l : List V) : R V := TryzF15 [gv (fr2_8 (.ofNat 2) (.ofNat (m + 8)) n len cap l ) 0, .agg (V.ofList [iv (.ofNat 2), iv (.ofNat (m + 8)), iv n, (.slice (h0 TryzG).next 0 len (.kn cap))])] (bumpH 0 (hp2_8 (.ofNat 2) (.ofNat (m + 8)) n len cap l ))
def k2a (m : Nat) (n : Int) (len cap : Nat) (l : List V) : Out := bndO (TryzF14 [iv (.ofNat (m + 8)), rv (w2a m n len cap l )] (rh (w2a m n len cap l ))) fun v22 h5 => Out.nor (T.set (some v22) (Pos.of 4) (fr2_8 (.ofNat 2) (.ofNat (m + 8)) n len cap l )) h5
def a2a (m : Nat) (n : Int) (len cap : Nat) (l : List V) : V := rv (oFieldAddr 1 (gv (fr2_8 (.ofNat 2) (.ofNat (m + 8)) n len cap l ) 3) (rh (w2a m n len cap l )))
theorem c2a_c (m : Nat) (n : Int) (len cap : Nat) (l : List V) : T.get (fr2_8 (.ofNat 2) (.ofNat (m + 8)) n len cap l ) (Pos.of 13) = some (.bool true) := by kernel_rfl
theorem c2a_8 (m : Nat) (n : Int) (len cap : Nat) (l : List V) : Tryzr5p_8 (fr2_8 (.ofNat 2) (.ofNat (m + 8)) n len cap l ) (hp2_8 (.ofNat 2) (.ofNat (m + 8)) n len cap l ) = chk (fun h => oLoad1 (a2a m n len cap l ) h) (iv (.ofNat (m + 8))) (k2a m n len cap l ) 1 [(bumpH 0 (hp2_8 (.ofNat 2) (.ofNat (m + 8)) n len cap l ))] := by kernel_rfl
theorem c2a_l (m : Nat) (n : Int) (len cap : Nat) (l : List V) : oLoad1 (a2a m n len cap l ) (bumpH 0 (hp2_8 (.ofNat 2) (.ofNat (m + 8)) n len cap l )) = .ok (iv (.ofNat (m + 8))) (bumpH 0 (hp2_8 (.ofNat 2) (.ofNat (m + 8)) n len cap l )) := by kernel_rfl
theorem c2a_k (m : Nat) (n : Int) (len cap : Nat) (l : List V) : isT (tail4 (fr2_3 (.ofNat 2) (.ofNat (m + 8)) n len cap l ) (tail5 (thenO (k2a m n len cap l ) Out.ret))) = true := by kernel_rfl
theorem o2_k2a (m : Nat) (n : Int) (len cap : Nat) (l : List V) : isT (oth false (iv (.ofNat 2)) (iv (.ofNat (m + 8))) (iv n) (.slice (h0 TryzG).next 0 len (.kn cap)) ((h0 TryzG).new (.cells .ro l))) = true := by
  rw [s2a, cnd_to (c2a_c m n len cap l )]
  show isT (tail4 _ (tail5 (seqO Tryzr5p_8 Out.ret (fr2_8 (.ofNat 2) (.ofNat (m + 8)) n len cap l ) (hp2_8 (.ofNat 2) (.ofNat (m + 8)) n len cap l )))) = true
  rw [seq_th, c2a_8, chk_one (c2a_l m n len cap l ) (eqI _ _)]
  exact c2a_k m n len cap l 
def w2b (m : Nat) (n : Int) (len cap : Nat) (l : List V) : R V := TryzF15 [gv (fr2_8 (.ofNat 2) (.negSucc m) n len cap l ) 0, .agg (V.ofList [iv (.ofNat 2), iv (.negSucc m), iv n, (.slice (h0 TryzG).next 0 len (.kn cap))])] (bumpH 0 (hp2_8 (.ofNat 2) (.negSucc m) n len cap l ))
def k2b (m : Nat) (n : Int) (len cap : Nat) (l : List V) : Out := bndO (TryzF14 [iv (.negSucc m), rv (w2b m n len cap l )] (rh (w2b m n len cap l ))) fun v22 h5 => Out.nor (T.set (some v22) (Pos.of 4) (fr2_8 (.ofNat 2) (.negSucc m) n len cap l )) h5
def a2b (m : Nat) (n : Int) (len cap : Nat) (l : List V) : V := rv (oFieldAddr 1 (gv (fr2_8 (.ofNat 2) (.negSucc m) n len cap l ) 3) (rh (w2b m n len cap l )))
theorem c2b_c (m : Nat) (n : Int) (len cap : Nat) (l : List V) : T.get (fr2_8 (.ofNat 2) (.negSucc m) n len cap l ) (Pos.of 13) = some (.bool true) := by kernel_rfl
theorem c2b_8 (m : Nat) (n : Int) (len cap : Nat) (l : List V) : Tryzr5p_8 (fr2_8 (.ofNat 2) (.negSucc m) n len cap l ) (hp2_8 (.ofNat 2) (.negSucc m) n len cap l ) = chk (fun h => oLoad1 (a2b m n len cap l ) h) (iv (.negSucc m)) (k2b m n len cap l ) 1 [(bumpH 0 (hp2_8 (.ofNat 2) (.negSucc m) n len cap l ))] := by kernel_rfl
theorem c2b_l (m : Nat) (n : Int) (len cap : Nat) (l : List V) : oLoad1 (a2b m n len cap l ) (bumpH 0 (hp2_8 (.ofNat 2) (.negSucc m) n len cap l )) = .ok (iv (.negSucc m)) (bumpH 0 (hp2_8 (.ofNat 2) (.negSucc m) n len cap l )) := by kernel_rfl
theorem c2b_k (m : Nat) (n : Int) (len cap : Nat) (l : List V) : isT (tail4 (fr2_3 (.ofNat 2) (.negSucc m) n len cap l ) (tail5 (thenO (k2b m n len cap l ) Out.ret))) = true := by kernel_rfl
theorem o2_k2b (m : Nat) (n : Int) (len cap : Nat) (l : List V) : isT (oth false (iv (.ofNat 2)) (iv (.negSucc m)) (iv n) (.slice (h0 TryzG).next 0 len (.kn cap)) ((h0 TryzG).new (.cells .ro l))) = true := by
  rw [s2b, cnd_to (c2b_c m n len cap l )]
  show isT (tail4 _ (tail5 (seqO Tryzr5p_8 Out.ret (fr2_8 (.ofNat 2) (.negSucc m) n len cap l ) (hp2_8 (.ofNat 2) (.negSucc m) n len cap l )))) = true
  rw [seq_th, c2b_8, chk_one (c2b_l m n len cap l ) (eqI _ _)]
  exact c2b_k m n len cap l 
end Go.Proofs.YtghbifaaedobfaaGreatDoor
