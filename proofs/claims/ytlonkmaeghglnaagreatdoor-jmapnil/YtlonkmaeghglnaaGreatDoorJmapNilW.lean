/- Part of the value machine, or of a walk by it: lemmas that the claim's last text uses. No conditions. -/
import Derived.Test.YtlonkmaeghglnaaGreatDoorJmapNilB
import Derived.Test.YtlonkmaeghglnaaGreatDoorVmI
set_option linter.unusedVariables false
set_option linter.unusedSimpArgs false
set_option linter.unnecessarySimpa false
noncomputable section
namespace Go.Proofs.YtlonkmaeghglnaaGreatDoor
open Go Go.Proofs Go.Vm
open Go.ChangeShapes Go.WideShapes Go.ChangeAt Go.RowKit
set_option linter.unusedVariables false
set_option maxRecDepth 100000
set_option maxHeartbeats 4000000
/-- awake, in any heap: true, and the heap is left as it was -/
def TryzF4c : Fun := constB true
theorem Tryzc4c : CallOk Tryz.prog TryzG 4 TryzF4c := (isT_ok awake_run).elim fun h e => constB_ok Tryzc4m e
/-! 3: pillarbox/pillarboxlaw27.JmapNil -/
def Tryzk3 : Nat → Bool := fun t => memN t [0, 2, 3, 4, 5, 8]
def Tryzr3_0 (fr : F) (h : Hp) : Out :=
  Out.nor (T.set (some (.bool false)) (Pos.of 2) fr) h
def Tryzr3_1 (fr : F) (h : Hp) : Out :=
  gtO (T.get fr (Pos.of 0)) fun v0 => bndO (oLenK 2 v0 h) fun v7 h1 =>
  bndO (oBin .gtr .none v7 (.int .i64 1000) h1) fun v8 h2 =>
  Out.nor (T.set (some v8) (Pos.of 8) fr) h2
def Tryzr3_2 (fr : F) (h : Hp) : Out :=
  bndO (TryzF4c [] h) fun v9 h0 =>
  Out.nor (T.set (some v9) (Pos.of 2) fr) h0
def Tryzr3_3 (fr : F) (h : Hp) : Out :=
  Out.nor (T.set (some .nilp) (Pos.of 3) fr) h
def Tryzr3_4 (fr : F) (h : Hp) : Out :=
  bndO (TryzF5 [.nils] h) fun v10 h0 =>
  Out.nor (T.set (some v10) (Pos.of 4) fr) h0
def Tryzr3_5 (fr : F) (h : Hp) : Out :=
  bndO (TryzF6 [] h) fun v11 h0 =>
  Out.nor (T.set (some v11) (Pos.of 5) fr) h0
def Tryzr3_6 (fr : F) (h : Hp) : Out :=
  gtO (T.get fr (Pos.of 4)) fun v4 => bndO (oBin .neq (.ptr 16) v4 .nilp h) fun v13 h1 =>
  ifB v13 (gtO (T.get fr (Pos.of 5)) fun v5 => bndO (oBin .neq (.ptr 6) v5 .nilp h1) fun v16 h4 =>
  ifB v16 (gtO (T.get fr (Pos.of 3)) fun v3 => gtO (T.get fr (Pos.of 0)) fun v0 => bndO (TryzF7 [v3, v4, (.int .i64 0), v0] h4) fun v22 h10 =>
  bndO (oBin .eql .none v22 (.str []) h10) fun v23 h11 =>
  ifB v23 (bndO (TryzF7 [v5, .nilp, (.int .i64 0), v0] h11) fun v28 h16 =>
  bndO (oBin .eql .none v28 (.str []) h16) fun v29 h17 =>
  ifB v29 (bndO (oBuildSlice 9 [(.str [])] 1 [(0, 1, (.str [97]))] h17) fun v32 h20 =>
  bndO (TryzF8 [v32, (.str [97])] h20) fun v33 h21 =>
  ifB v33 (bndO (TryzF4c [] h21) fun v36 h24 =>
  Out.nor (T.set (some v36) (Pos.of 2) fr) h24) (Out.nor (T.set (some (.bool false)) (Pos.of 2) fr) h21)) (Out.nor (T.set (some (.bool false)) (Pos.of 2) fr) h17)) (Out.nor (T.set (some (.bool false)) (Pos.of 2) fr) h11)) (Out.nor (T.set (some (.bool false)) (Pos.of 2) fr) h4)) (Out.nor (T.set (some (.bool false)) (Pos.of 2) fr) h1)
def Tryzd3 : F → Hp → Out := (seqO Tryzr3_0 (seqO (seqO Tryzr3_1 (cndX (.tmp 8) (seqO Tryzr3_2 Out.ret) Out.nor)) (seqO Tryzr3_3 (seqO Tryzr3_4 (seqO Tryzr3_5 (seqO Tryzr3_6 Out.ret))))))
def Tryze3 : FuncId → Option Fun := fun f => match Nat.beq f 4 with | true => some TryzF4c | false => match Nat.beq f 5 with | true => some TryzF5 | false => match Nat.beq f 6 with | true => some TryzF6 | false => match Nat.beq f 7 with | true => some TryzF7 | false => match Nat.beq f 8 with | true => some TryzF8 | false => none
def Tryzp3 : Plans := fun id => none
def TryzF3 : Fun := funX Tryz.prog TryzG Tryzk3 Tryze3 Tryzp3 lf Tryz.f3
theorem TryzD3 : denX Tryz.prog TryzG Tryz.f3.ntmps Tryzk3 Tryze3 Tryzp3 lf (codeOf Tryz.f3) = Tryzd3 := by kernel_rfl
theorem TryzF3_eq (x0 : V) (h : Hp) : TryzF3 [x0] h = outR Tryz.prog [.tmp 2] (Tryzd3 (T.set (some x0) (Pos.of 0) T.nil) h) := funX_eq (by kernel_rfl) TryzD3 (by kernel_rfl) h
theorem Tryzc3 : CallOk Tryz.prog TryzG 3 TryzF3 := funX_ok Tryzmix (callsOk_cons Tryzc4c (callsOk_cons Tryzc5 (callsOk_cons Tryzc6 (callsOk_cons Tryzc7 (callsOk_cons Tryzc8 callsOk_0))))) Tryz.func3 (by kernel_rfl)


def oA : F → Hp → Out := cndX (.tmp 8) (seqO Tryzr3_2 Out.ret) Out.nor
def oR : F → Hp → Out := seqO Tryzr3_3 (seqO Tryzr3_4 (seqO Tryzr3_5 (seqO Tryzr3_6 Out.ret)))
def oF0 (x : V) : F := T.set (some (.bool false)) (Pos.of 2) (T.set (some x) (Pos.of 0) T.nil)
def oF (q : Bool) (x : V) : F := T.set (some (.bool q)) (Pos.of 8) (oF0 x)
def oth (q : Bool) (x : V) (h : Hp) : R V := outR Tryz.prog [.tmp 2] (seqO oA oR (oF q x) h)
theorem gtrB (a b : Int) (h : Hp) : ∃ q, oBin .gtr .none (.int .i64 a) (.int .i64 b) h = .ok (.bool q) h := ⟨_, okBool_eq _ h⟩
theorem seq_to {a b : F → Hp → Out} {fr fr' : F} {h h' : Hp} (e : a fr h = .nor fr' h') : seqO a b fr h = b fr' h' := by unfold seqO; rw [e]
theorem seq_th (a b : F → Hp → Out) (fr : F) (h : Hp) : seqO a b fr h = thenO (a fr h) b := by unfold seqO thenO; cases a fr h <;> rfl
theorem oth_len (q : Bool) (x : V) (h : Hp) (e : Tryzr3_1 (oF0 x) h = .nor (oF q x) h) : TryzF3 [x] h = oth q x h := by
  rw [TryzF3_eq]
  have e1 : Tryzd3 (T.set (some x) (Pos.of 0) T.nil) h = seqO (seqO Tryzr3_1 oA) oR (oF0 x) h := rfl
  rw [e1]
  have e2 : seqO Tryzr3_1 oA (oF0 x) h = oA (oF q x) h := seq_to e
  unfold oth
  rw [seq_th, e2, seq_th]
theorem oth_long (x : V) (h : Hp) : isT (oth true x h) = true := by kernel_rfl
theorem o0_short : isT (oth false .nils (h0 TryzG)) = true := by kernel_rfl
theorem l0 : Tryzr3_1 (oF0 .nils) (h0 TryzG) = .nor (oF false .nils) (h0 TryzG) := by kernel_rfl
theorem run0 : isT (TryzF3 [.nils] (h0 TryzG)) = true := by
  rw [oth_len false _ _ l0]
  exact o0_short
theorem o1_short : isT (oth false .emp (h0 TryzG)) = true := by kernel_rfl
theorem l1 : Tryzr3_1 (oF0 .emp) (h0 TryzG) = .nor (oF false .emp) (h0 TryzG) := by kernel_rfl
theorem run1 : isT (TryzF3 [.emp] (h0 TryzG)) = true := by
  rw [oth_len false _ _ l1]
  exact o1_short
theorem o2_short (len cap : Nat) (l : List V) : isT (oth false (.slice (h0 TryzG).next 0 len (.kn cap)) ((h0 TryzG).new (.cells .ro l))) = true := by kernel_rfl
theorem l2 (len cap : Nat) (l : List V) : Tryzr3_1 (oF0 (.slice (h0 TryzG).next 0 len (.kn cap))) ((h0 TryzG).new (.cells .ro l)) = bndO (oBin .gtr .none (.int .i64 (.ofNat len)) (.int .i64 (.ofNat 1000)) ((h0 TryzG).new (.cells .ro l))) fun v8 h2 => Out.nor (T.set (some v8) (Pos.of 8) (oF0 (.slice (h0 TryzG).next 0 len (.kn cap)))) h2 := by kernel_rfl
theorem run2 (len cap : Nat) (l : List V) : isT (TryzF3 [(.slice (h0 TryzG).next 0 len (.kn cap))] ((h0 TryzG).new (.cells .ro l))) = true := by
  obtain ⟨q, hq⟩ := gtrB (.ofNat len) (.ofNat 1000) ((h0 TryzG).new (.cells .ro l))
  have e : Tryzr3_1 (oF0 (.slice (h0 TryzG).next 0 len (.kn cap))) ((h0 TryzG).new (.cells .ro l)) = .nor (oF q (.slice (h0 TryzG).next 0 len (.kn cap))) ((h0 TryzG).new (.cells .ro l)) := by rw [l2 len cap l , hq]; rfl
  rw [oth_len q _ _ e]
  cases q
  · exact o2_short len cap l 
  · exact oth_long _ _
/-- the walk -/
theorem walkOfJmapNil {H : Type} {enc : TypeId × Value → H} {spare : Nat → Bool} {held : Bool} (W : World) {r : Reach} {b0 base : Nat} {v0 : Value} {d : DataW H} {p : List MemPlace} (hv : Value.okWide Tryz.prog W r b0 22 v0) (hd : DataW.Trod enc Tryz.prog W base spare held 22 v0 d p) :
    Calls Tryz.prog 3 #[v0] W fun e W' => e = .returned (.bool true) ∧ Below W.heap.size W W' := by
  obtain ⟨a, len, cap, rfl⟩ := okWide_slice Tryz.underlying22 hv
  obtain ⟨m, hm⟩ := hd
  obtain ⟨c, v, M', h', els, h1, h2, h3, -, -, -, h4⟩ := open_rowK Tryz.underlying22 (n := 1) (by kernel_rfl) (by omega) (rd_int Tryz.underlying5) hm (Seen.empty TryzG W)
  obtain rfl : Value.slice a len cap = c := by simpa [Value.cells] using h1
  have hT : isT (TryzF3 [v] h') = true := by
    rcases h4 with ⟨rfl, rfl, -⟩ | ⟨rfl, rfl, -⟩ | ⟨cap, rfl, rfl, -, -⟩
    · exact run0
    · exact run1
    · exact run2 _ cap _
  obtain ⟨h'', e⟩ := isT_ok hT
  exact calls_of_vm (cargs := [_]) (args := [_]) Tryzc3 Tryz.func3 (by kernel_rfl) (c := codeOf Tryz.f3) (by kernel_rfl) h3 ⟨_, [], h2, rfl, rfl⟩ e
end Go.Proofs.YtlonkmaeghglnaaGreatDoor
