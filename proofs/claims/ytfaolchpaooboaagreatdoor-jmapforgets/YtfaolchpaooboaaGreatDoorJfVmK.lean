/- Part of the value machine, or of a walk by it: lemmas that the claim's last text uses. No conditions. -/
import Derived.Test.YtfaolchpaooboaaGreatDoorJfVmE
set_option linter.unusedVariables false
set_option linter.unusedSimpArgs false
set_option linter.unnecessarySimpa false
namespace Go.Vm
noncomputable section
variable {P : Program} {G : Nat}
def cntB (c : Nat) : List Nat → Nat
  | [] => 0
  | d :: l => (match Nat.beq d c with | true => Nat.succ (cntB c l) | false => cntB c l)
theorem cntB_eq {c : Nat} (hc : c < 256) : ∀ {l : List Nat}, (∀ b ∈ l, b < 256) → cntB c l = Go.Lib.countByte (l.map UInt8.ofNat) (UInt8.ofNat c)
  | [], _ => rfl
  | d :: l, h => by
    have hd := h d (by simp)
    have ih := cntB_eq hc (l := l) fun b hb => h b (by simp [hb])
    have e : (UInt8.ofNat d == UInt8.ofNat c) = Nat.beq d c := by
      rw [Bool.eq_iff_iff]
      simp only [beq_iff_eq]
      exact ⟨fun h => by rw [u8_ofNat_inj hd hc h]; exact Nat.beq_refl c, fun h => by rw [Nat.eq_of_beq_eq_true h]⟩
    unfold Go.Lib.countByte at ih ⊢
    rw [List.map_cons, List.count_cons, e]
    simp only [cntB]
    cases Nat.beq d c <;> simp [ih]
def cntF : Fun := fun args h => match args with
  | [s, c] => (match s with
    | .str l => (match c with
      | .int k n => (match Nat.beq (kix k) 4 with
        | true => (match n with
          | .ofNat b => (match Nat.blt b 256 with | true => okInt .i64 (.ofNat (cntB b l)) h | false => .bad)
          | .negSucc _ => .bad)
        | false => .bad)
      | _ => .bad)
    | _ => .bad)
  | _ => .bad
theorem cntF_ok {f : FuncId} {fn : Func} (hf : P.funcs[f]? = some fn) (hname : (fn.name == "runtime.NumGoroutine") = false) (hb : fn.body.isNone = true) (hn : Extern.findNext fn = none) (he : Extern.find fn = some Extern.BytealgCount.count) : CallOk P G f cntF := by
  intro args h r h' M w cargs e hr hargs
  unfold cntF at e
  split at e
  · rename_i s c
    split at e
    · rename_i l
      split at e
      · rename_i k n
        split at e
        · rename_i hk
          have hk' : k = .u8 := by cases k <;> first | rfl | cases hk
          subst hk'
          split at e
          · rename_i b
            split at e
            · rename_i hb2
              have hb3 : b < 256 := by simpa [Nat.blt_eq] using hb2
              obtain ⟨cs, x1, hcs, ⟨cc, x2, hcc, hx2, rfl⟩, rfl⟩ := hargs
              rw [show x2 = [] from hx2]
              obtain ⟨hl, rfl⟩ := hcs.str
              have hcc' := hcc.int
              subst hcc'
              rw [okInt_eq] at e
              cases e
              rw [run_callFunc_extern hf hname hb hn he, Go.Lib.run_countString]
              simp only [Result.andThen, Opq]
              refine ⟨M, ?_, hr, .refl hr⟩
              have e1 : (bts l).data.toList = l.map UInt8.ofNat := by simp [bts]
              have e2 : ((Int.ofNat b).toNat.toUInt8) = UInt8.ofNat b := rfl
              rw [e1, e2, ← cntB_eq hb3 hl]
              exact rp_int M _ _
            · cases e
          · cases e
        · cases e
      · cases e
    · cases e
  · cases e
end
end Go.Vm
