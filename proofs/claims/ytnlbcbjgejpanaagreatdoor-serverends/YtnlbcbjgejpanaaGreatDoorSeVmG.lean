/- Part of the value machine, or of a walk by it: lemmas that the claim's last text uses. No conditions. -/
import Derived.Test.YtnlbcbjgejpanaaGreatDoorSeVmF
set_option linter.unusedVariables false
set_option linter.unusedSimpArgs false
set_option linter.unnecessarySimpa false
namespace Go.Vm
noncomputable section
variable {P : Program} {G N : Nat} {M : Mp} {h h' : Hp} {w : World} {keep : Nat → Bool} {e e2 : FuncId → Option Fun} {r : V}
def DCallOk (P : Program) (G : Nat) (f : FuncId) (F : Fun) : Prop :=
  ∀ (args : List V) (h : Hp) (r : V) (h' : Hp) (M : Mp) (w : World) (cargs : List Value), F args h = .ok r h' → Rel G M h w → RepL M args cargs →
    (callFunc f cargs.toArray).run P w = .ok (.enter f cargs.toArray) w ∧
    CallsD P f cargs.toArray .returning w fun e u w' => u = .returning ∧ ∃ c, e = .returned c ∧ Post G M h w r h' c w'
def BodyOk (P : Program) (G : Nat) (f : FuncId) (F : Fun) : Prop :=
  ∃ fn c, P.funcs[f]? = some fn ∧ fn.body = some c ∧ (∀ args w, (callFunc f args).run P w = .ok (.enter f args) w) ∧
  ∀ (args : List V) (h : Hp) (r : V) (h' : Hp) (M : Mp) (w : World) (cargs : List Value), F args h = .ok r h' → Rel G M h w → RepL M args cargs →
    c.wp P (bodyPost P fn fun e w' => ∃ c, e = .returned c ∧ Post G M h w r h' c w') { tmps := cargs.toArray ++ Array.replicate (fn.ntmps - cargs.toArray.size) undef, defers := [] } w
theorem BodyOk.deferred {f : FuncId} {F : Fun} (hb : BodyOk P G f F) : DCallOk P G f F := by
  obtain ⟨fn, c, h1, h2, h3, h4⟩ := hb
  intro args h r h' M w cargs e hr ha
  exact ⟨h3 _ _, callsD_of_wp h1 h2 (h4 args h r h' M w cargs e hr ha)⟩
theorem run_callFunc {f : FuncId} {fn : Func} {c : Code} (hf : P.funcs[f]? = some fn) (hn : (fn.name == "runtime.NumGoroutine") = false) (hb : fn.body = some c) (args : Array Value) (w : World) :
    (callFunc f args).run P w = .ok (.enter f args) w := by
  unfold callFunc
  rw [Sem.run_bind, run_program]; have hn' : ¬fn.name = "runtime.NumGoroutine" := by simpa using hn
  simp [hf, hn', hb]
theorem init_at {fn : Func} {args : List V} {cargs : List Value} (hr : Rel G M h w) (ha : RepL M args cargs) (hle : args.length ≤ fn.ntmps) :
    At keep G fn.ntmps [] M (initF keep 0 args .nil) h { tmps := cargs.toArray ++ Array.replicate (fn.ntmps - cargs.toArray.size) undef, defers := [] } w := by
  have hlen := ha.length
  refine ⟨hr, initF_ok keep _ args 0 _ (fun j v hj => ?_) (fun t v hv => by rw [T.get_nil] at hv; cases hv), by simp; omega, rfl⟩
  obtain ⟨x, hx, hrx⟩ := ha.get hj
  have hj' : j < cargs.length := by
    rcases Nat.lt_or_ge j cargs.length with h1 | h1
    · exact h1
    · rw [List.getElem?_eq_none h1] at hx; cases hx
  have : (cargs.toArray ++ Array.replicate (fn.ntmps - cargs.toArray.size) undef).getD (0 + j) undef = x := by
    rw [Array.getD_eq_getD_getElem?, Array.getElem?_append_left (by simpa using hj')]
    simp [hx]
  simp only [this]
  exact hrx
theorem body_ok {f : FuncId} {fn : Func} {c : Code} {D : F → Hp → Out} (hf : P.funcs[f]? = some fn) (hn : (fn.name == "runtime.NumGoroutine") = false) (hb : fn.body = some c) (hD : SoundC P keep G fn.ntmps c D) :
    BodyOk P G f (funO P keep fn.ntmps fn.results.toList D) := by
  refine ⟨fn, c, hf, hb, run_callFunc hf hn hb, ?_⟩
  intro args h r h' M w cargs e hr hargs
  unfold funO at e
  split at e
  · rename_i hle
    have hat := init_at (keep := keep) (fn := fn) hr hargs (Nat.le_of_ble_eq_true hle)
    cases e1 : D (initF keep 0 args .nil) h with
    | bad => rw [e1] at e; cases e
    | ex i fr2 h2 => rw [e1] at e; cases e
    | nor fr2 h2 =>
      rw [e1] at e
      refine wp_mono (hD.wp _ _ _ _ _ _ (by rw [e1]; simp) hat) ?_
      intro x a' w' q
      rw [e1] at q
      cases x <;> simp only [OutQ] at q
      obtain ⟨M', at', hx⟩ := q
      obtain ⟨rfl, v, hv, hrv⟩ := results_ok at'.rel at'.fr e
      exact ⟨at'.plain, v, hv, v, rfl, M', hrv, at'.rel, hx⟩
    | ret fr2 h2 =>
      rw [e1] at e
      refine wp_mono (hD.wp _ _ _ _ _ _ (by rw [e1]; simp) hat) ?_
      intro x a' w' q
      rw [e1] at q
      cases x <;> simp only [OutQ] at q
      obtain ⟨M', at', hx⟩ := q
      obtain ⟨rfl, v, hv, hrv⟩ := results_ok at'.rel at'.fr e
      exact ⟨at'.plain, v, hv, v, rfl, M', hrv, at'.rel, hx⟩
  · cases e
theorem funX_body (hm : P.follows .mixedOrders = true) {f : FuncId} {fn : Func} {pl : Plans} {lf : Nat} (hE : ∀ f F, e f = some F → CallOk P G f F) (hf : P.funcs[f]? = some fn) (ho : funOk G fn = true) : BodyOk P G f (funX P G keep e pl lf fn) := by
  unfold funOk at ho
  simp only [Bool.and_eq_true, Bool.not_eq_true'] at ho
  unfold funX
  cases hb : fn.body with
  | none => rw [hb] at ho; cases ho.1
  | some c =>
    rw [hb] at ho
    exact body_ok hf ho.2 hb (denX_ok hm hE pl lf c ho.1)
def codeOkT (G N : Nat) : Code → Bool
  | .region id ops d => (match defers (.region id ops d) with
    | true => (match d with | false => ops.toList.dropLast.all (operOk G N) | true => false)
    | false => codeOk G N (.region id ops d))
  | .seq a b => (match defers (.seq a b) with | true => codeOkT G N a && codeOkT G N b | false => codeOk G N (.seq a b))
  | .cond c a b => (match defers (.cond c a b) with | true => codeOkT G N a && codeOkT G N b | false => codeOk G N (.cond c a b))
  | c => codeOk G N c
theorem denT_ok (hm : P.follows .mixedOrders = true) (hE : ∀ f F, e f = some F → CallOk P G f F) (pl : Plans) (lf : Nat) : (c : Code) → codeOkT G N c = true → SoundT P keep G N c (denT P G N keep e pl lf c)
  | .region id ops d, hc => by
    unfold codeOkT at hc
    unfold denT
    split at hc
    · rename_i hd
      rw [hd]
      split at hc
      · refine SoundT.region hE fun i o ho hi => ?_
        have hm : o ∈ ops.toList.dropLast := by
          rw [List.dropLast_eq_take, List.mem_take_iff_getElem]
          have hlt : i < ops.size := by omega
          refine ⟨i, by simp; omega, ?_⟩
          rw [Array.getElem?_eq_getElem hlt] at ho
          simpa using ho
        exact List.all_eq_true.1 hc o hm
      · cases hc
    · rename_i hd
      rw [hd]
      exact SoundT.lift (denX_ok hm hE pl lf _ hc)
  | .seq a b, hc => by
    unfold codeOkT at hc
    unfold denT
    split at hc
    · rename_i hd
      rw [hd]
      simp only [Bool.and_eq_true] at hc
      exact .seq (denT_ok hm hE pl lf a hc.1) (denT_ok hm hE pl lf b hc.2)
    · rename_i hd
      rw [hd]
      exact SoundT.lift (denX_ok hm hE pl lf _ hc)
  | .cond c a b, hc => by
    unfold codeOkT at hc
    unfold denT
    split at hc
    · rename_i hd
      rw [hd]
      simp only [Bool.and_eq_true] at hc
      exact .cond (denT_ok hm hE pl lf a hc.1) (denT_ok hm hE pl lf b hc.2)
    · rename_i hd
      rw [hd]
      exact SoundT.lift (denX_ok hm hE pl lf _ hc)
  | .skip, hc => SoundT.lift (denX_ok hm hE pl lf _ hc)
  | .label _, hc => SoundT.lift (denX_ok hm hE pl lf _ hc)
  | .block _ _, hc => SoundT.lift (denX_ok hm hE pl lf _ hc)
  | .loop _, hc => SoundT.lift (denX_ok hm hE pl lf _ hc)
  | .exit _, hc => SoundT.lift (denX_ok hm hE pl lf _ hc)
  | .ret, hc => SoundT.lift (denX_ok hm hE pl lf _ hc)
  | .scope _, hc => SoundT.lift (denX_ok hm hE pl lf _ hc)
  | .goto _, hc => SoundT.lift (denX_ok hm hE pl lf _ hc)
  | .rangeFunc .., hc => SoundT.lift (denX_ok hm hE pl lf _ hc)
  | .refuse _, hc => SoundT.lift (denX_ok hm hE pl lf _ hc)
def leaveT (e2 : FuncId → Option Fun) : DS → Hp → Option Hp
  | [], h => some h
  | d :: ds, h => (match e2 d.1 with
    | some F => (match F (d.2.1 ++ d.2.2) h with | .ok _ h' => leaveT e2 ds h' | .bad => none)
    | none => none)
def outT (e2 : FuncId → Option Fun) : OutD → Out
  | .nor fr h ds => (match leaveT e2 ds h with | some h' => .nor fr h' | none => .bad)
  | .ret fr h ds => (match leaveT e2 ds h with | some h' => .nor fr h' | none => .bad)
  | .bad => .bad
def funXT (P : Program) (G : Nat) (keep : Nat → Bool) (e e2 : FuncId → Option Fun) (pl : Plans) (lf : Nat) (fn : Func) : Fun := match fn.body with
  | some c => funO P keep fn.ntmps fn.results.toList (fun fr h => outT e2 (denT P G fn.ntmps keep e pl lf c fr h []))
  | none => fun _ _ => .bad
theorem leaveT_ok (hE2 : ∀ f F, e2 f = some F → DCallOk P G f F) {fn : Func} {tmps : Array Value} {R : Ending → World → Prop} : ∀ {ds : DS} {Df : List Deferred} {h h' : Hp} {M : Mp} {w : World}, DSRep M ds Df → Rel G M h w → leaveT e2 ds h = some h' →
    (∀ M' w', Rel G M' h' w' → Ext M h w M' h' w' → ∃ v, (results fn tmps).run P w' = .ok v w' ∧ R (.returned v) w') → Leaves P fn tmps R Df .returning w
  | [], Df, h, h', M, w, hd, hr, e0, hK => by
    cases hd
    cases e0
    exact hK M w hr (.refl hr)
  | d :: ds, Df, h, h', M, w, hd, hr, e0, hK => by
    obtain ⟨dd, Ds, ⟨xs, ys, hx, hy, rfl⟩, hds, rfl⟩ := hd
    simp only [leaveT] at e0
    split at e0
    · rename_i F hF
      split at e0
      · rename_i r1 h1 hcall
        obtain ⟨hrun, hc⟩ := hE2 _ F hF _ _ _ _ M w (xs ++ ys) hcall hr (hx.append hy)
        refine leaves_cons (by simp) (by simpa [invoke] using hrun) ?_
        have ea : xs.toArray ++ ys.toArray = (xs ++ ys).toArray := by simp
        refine (CallsD.mono hc ?_)
        rintro ee u' w' ⟨rfl, c, rfl, M', _, hr', hx'⟩
        exact leaveT_ok hE2 (hds.mono hx'.le) hr' e0 fun M2 w2 hr2 hx2 => hK M2 w2 hr2 (hx'.trans hx2)
      · cases e0
    · cases e0
theorem leave2 (hE2 : ∀ f F, e2 f = some F → DCallOk P G f F) {fn : Func} {fr2 : F} {h2 : Hp} {ds : DS} {Df : List Deferred} {M' : Mp} {a' : Act} {w' : World}
    (e : outR P fn.results.toList (match leaveT e2 ds h2 with | some h' => .nor fr2 h' | none => .bad) = .ok r h') (hds : DSRep M' ds Df) (at_ : At keep G N Df M' fr2 h2 a' w') (hx : Ext M h w M' h2 w') :
    Leaves P fn a'.tmps (fun e w' => ∃ c, e = .returned c ∧ Post G M h w r h' c w') a'.defers .returning w' := by
  rw [show a'.defers = Df from at_.plain]
  cases e1 : leaveT e2 ds h2 with
  | none => rw [e1] at e; cases e
  | some h3 =>
    rw [e1] at e
    refine leaveT_ok hE2 hds at_.rel e1 fun M2 w2 hr2 hx2 => ?_
    have hf2 : FRel keep M2 fr2 a' := at_.fr.mono hx2.le
    obtain ⟨rfl, v, hv, hrv⟩ := results_ok hr2 hf2 e
    exact ⟨v, hv, v, rfl, M2, hrv, hr2, hx.trans hx2⟩
theorem call_okT (hE2 : ∀ f F, e2 f = some F → DCallOk P G f F) {f : FuncId} {fn : Func} {c : Code} {T : F → Hp → DS → OutD} (hf : P.funcs[f]? = some fn) (hn : (fn.name == "runtime.NumGoroutine") = false) (hb : fn.body = some c) (hT : SoundT P keep G fn.ntmps c T) :
    CallOk P G f (funO P keep fn.ntmps fn.results.toList fun fr h => outT e2 (T fr h [])) := by
  intro args h r h' M w cargs e hr hargs
  rw [run_callFunc hf hn hb]
  simp only [Opq]
  unfold funO at e
  split at e
  · rename_i hle
    have e : outR P fn.results.toList (outT e2 (T (initF keep 0 args .nil) h [])) = .ok r h' := e
    have hat := init_at (keep := keep) (fn := fn) hr hargs (Nat.le_of_ble_eq_true hle)
    refine calls_of_wp_defers hf hb ?_
    refine wp_mono (hT [] [] _ _ _ _ _ ?_ rfl hat) ?_
    · intro e1
      rw [e1] at e
      cases e
    · intro x a' w' q
      cases e1 : T (initF keep 0 args .nil) h [] with
      | bad => rw [e1] at q; cases x <;> exact q.elim
      | nor fr2 h2 ds =>
        rw [e1] at e q
        cases x <;> simp only [OutQT] at q
        obtain ⟨M', Df, hds, at', hx⟩ := q
        exact leave2 hE2 e hds at' hx
      | ret fr2 h2 ds =>
        rw [e1] at e q
        cases x <;> simp only [OutQT] at q
        obtain ⟨M', Df, hds, at', hx⟩ := q
        exact leave2 hE2 e hds at' hx
  · cases e
theorem funXT_ok (hm : P.follows .mixedOrders = true) {f : FuncId} {fn : Func} {pl : Plans} {lf : Nat} (hE : ∀ f F, e f = some F → CallOk P G f F) (hE2 : ∀ f F, e2 f = some F → DCallOk P G f F) (hf : P.funcs[f]? = some fn) (ho : ((match fn.body with | some c => codeOkT G fn.ntmps c | none => false) && !(fn.name == "runtime.NumGoroutine")) = true) : CallOk P G f (funXT P G keep e e2 pl lf fn) := by
  simp only [Bool.and_eq_true, Bool.not_eq_true'] at ho
  unfold funXT
  cases hb : fn.body with
  | none => rw [hb] at ho; cases ho.1
  | some c =>
    rw [hb] at ho
    exact call_okT hE2 hf ho.2 hb (denT_ok hm hE pl lf c ho.1)
end
end Go.Vm
