/- Part of the value machine, or of a walk by it: lemmas that the claim's last text uses. No conditions. -/
import Derived.Test.YtnlbcbjgejpanaaGreatDoorStVmO
import Derived.Test.YtnlbcbjgejpanaaGreatDoorStTkA
import Derived.Test.YtnlbcbjgejpanaaGreatDoorStVmS
import Derived.Test.YtnlbcbjgejpanaaGreatDoorStVmI
set_option linter.unusedVariables false
set_option linter.unusedSimpArgs false
set_option linter.unnecessarySimpa false
noncomputable section
namespace Go.Proofs.ImT
open Go Go.Proofs Go.Vm
set_option linter.unusedVariables false
set_option linter.unusedSimpArgs false
set_option maxRecDepth 100000
set_option maxHeartbeats 4000000
def Tryk16p : Nat → Bool := fun t => memN t [0, 1, 4]
def Tryr16p_0 (fr : F) (h : Hp) : Out :=
  Out.nor (T.set (some (.int .i64 0)) (Pos.of 4) fr) h
def Tryr16p_1 (fr : F) (h : Hp) : Out :=
  gtO (T.get fr (Pos.of 0)) fun v0 => bndO (oNilCheck v0 h) fun v6 h1 =>
  bndO (oFieldAddr 0 v6 h1) fun v7 h2 =>
  gtO (T.get fr (Pos.of 1)) fun v1 => bndO (TryF26 [v7, v1] h2) fun v9 h4 =>
  Out.nor (T.set (some v9) (Pos.of 4) fr) h4
def Tryd16p : F → Hp → Out := (seqO Tryr16p_0 (seqO Tryr16p_1 Out.ret))
def Trye16p : FuncId → Option Fun := fun f => match Nat.beq f 26 with | true => some TryF26 | false => none
def Tryp16p : Plans := fun id => none
def TryF16p : Fun := funX Tryz.prog TryG Tryk16p Trye16p Tryp16p lf Tryz.f16
theorem TryD16p : denX Tryz.prog TryG Tryz.f16.ntmps Tryk16p Trye16p Tryp16p lf (codeOf Tryz.f16) = Tryd16p := by kernel_rfl
theorem TryF16p_eq (x0 x1 : V) (h : Hp) : TryF16p [x0, x1] h = outR Tryz.prog [.tmp 4] (Tryd16p (T.set (some x1) (Pos.of 1) (T.set (some x0) (Pos.of 0) T.nil)) h) := funX_eq (by kernel_rfl) TryD16p (by kernel_rfl) h
theorem Tryc16p : CallOk Tryz.prog TryG 16 TryF16p := funX_ok Trymix (callsOk_cons Tryc26 callsOk_0) Tryz.func16 (by kernel_rfl)
theorem addT_ok {h : Hp} {i : Pos} {q : Nat} {t : TypeId} {f : Bool} {l : List V} {n : Int} (hg : h.get i = some (.cells (.rw t f) l)) (hq : l[q]? = some (.int .i64 n)) :
    TryF16p [.ptr i q, .int .i64 1] h = .ok (.int .i64 (wrapK .i64 (n + 1))) (h.put i (some (.cells (.rw t f) (l.set q (.int .i64 (wrapK .i64 (n + 1))))))) := by
  have e1 : TryF26 [.ptr i q, .int .i64 1] h = .ok (.int .i64 (wrapK .i64 (n + 1))) (h.put i (some (.cells (.rw t f) (l.set q (.int .i64 (wrapK .i64 (n + 1))))))) := by
    show hCells h i (fun wr cs => (match nthV q cs with
      | some v => (match v with
        | .int k' n => (match sameK .i64 k', sameK .i64 .i64 with
          | true, true => (match wr with
            | .rw t f => (match okInt .i64 (wrapK .i64 (n + 1)) h with
              | .ok s _ => (match putV q [s] cs with | some cs' => R.ok s (h.put i (some (.cells (.rw t f) cs'))) | none => .bad)
              | .bad => .bad)
            | .ro => .bad)
          | _, _ => .bad)
        | _ => .bad)
      | none => .bad)) = _
    rw [hCells_rowA (wr := .rw t f) (all := l) (by rw [hg]; rfl), nthV_eq, hq]
    simp only [show sameK .i64 .i64 = true from rfl, okInt_eq]
    rw [putV_one (List.getElem?_eq_some_iff.1 hq).1]
  rw [TryF16p_eq]
  simp (disch := omega) only [vmL, Nat.reduceEqDiff, reduceCtorEq, ↓reduceIte, vpL, vsL, vqL, Tryd16p, Tryr16p_0, Tryr16p_1, Nat.add_zero, e1]
  simp only [outR, resK, vmL, Nat.reduceEqDiff, reduceCtorEq, ↓reduceIte, vpL, vsL, vqL, tupR]
def cntW (i : Pos) (q : Nat) (h : Hp) : Option (V × Hp) := match h.get i with
  | some (.cells (.rw t f) l) => (match nthV q l with
    | some (.int .i64 n) => some (.int .i64 (wrapK .i64 (n + 1)), h.put i (some (.cells (.rw t f) (l.set q (.int .i64 (wrapK .i64 (n + 1)))))))
    | _ => none)
  | _ => none
def TryF16w : Fun := fun args h => match args with
  | [.ptr i q, .int .i64 1] => (match cntW i q h with
    | some p => .ok p.1 p.2
    | none => TryF16p [.ptr i q, .int .i64 1] h)
  | _ => TryF16p args h
theorem addW_ok {h : Hp} {i : Pos} {q : Nat} {t : TypeId} {f : Bool} {l : List V} {n : Int} (hg : h.get i = some (.cells (.rw t f) l)) (hq : l[q]? = some (.int .i64 n)) :
    TryF16w [.ptr i q, .int .i64 1] h = .ok (.int .i64 (wrapK .i64 (n + 1))) (h.put i (some (.cells (.rw t f) (l.set q (.int .i64 (wrapK .i64 (n + 1))))))) := by
  have e : cntW i q h = some (.int .i64 (wrapK .i64 (n + 1)), h.put i (some (.cells (.rw t f) (l.set q (.int .i64 (wrapK .i64 (n + 1))))))) := by
    unfold cntW
    rw [hg]
    simp only [nthV_eq, hq]
  show (match cntW i q h with
    | some p => R.ok p.1 p.2
    | none => TryF16p [.ptr i q, .int .i64 1] h) = _
  rw [e]
theorem Tryc16w : CallOk Tryz.prog TryG 16 TryF16w := forget_ok Tryc16p fun args h r h2 _ e => by
  unfold TryF16w at e
  split at e
  · rename_i i q
    split at e
    · rename_i p hp
      unfold cntW at hp
      split at hp
      · rename_i t f l hg
        split at hp
        · rename_i n hn
          cases hp
          left
          rw [nthV_eq] at hn
          rw [addT_ok hg hn]
          exact e
        · cases hp
      · cases hp
    · exact .inl e
  · exact .inl e
end Go.Proofs.ImT
