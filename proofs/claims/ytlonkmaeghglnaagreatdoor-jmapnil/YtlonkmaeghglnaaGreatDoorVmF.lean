/- Part of the value machine, or of a walk by it: lemmas that the claim's last text uses. No conditions. -/
import Derived.Test.YtlonkmaeghglnaaGreatDoorVmE
import Derived.Defers
import Derived.Laws.LoneSync
import Derived.Recover
import Derived.ProofKit
import Derived.OpenShut
import Derived.ShutString
import Derived.ChangeOld
import Derived.Below
set_option linter.unusedVariables false
set_option linter.unusedSimpArgs false
set_option linter.unnecessarySimpa false
/- The value machine, part 33: functions that defer (and no panic comes through). -/
namespace Go.Vm
noncomputable section
variable {P : Program} {G N : Nat} {M : Mp} {h h' : Hp} {w : World} {keep : Nat → Bool} {e : FuncId → Option Fun}

/-- deferred calls: the function, what stands ahead of its captured values, and these -/
abbrev DV := FuncId × List V × List V
abbrev DS := List DV
inductive OutD where
  | nor (fr : F) (h : Hp) (ds : DS)
  | ret (fr : F) (h : Hp) (ds : DS)
  | bad

/-! ### what it is -/
def liftT (D : F → Hp → Out) (fr : F) (h : Hp) (ds : DS) : OutD := match D fr h with
  | .nor fr h => .nor fr h ds
  | .ret fr h => .ret fr h ds
  | .ex _ _ _ => .bad
  | .bad => .bad
def seqT (a b : F → Hp → DS → OutD) (fr : F) (h : Hp) (ds : DS) : OutD := match a fr h ds with
  | .nor fr h ds => b fr h ds
  | .ret fr h ds => .ret fr h ds
  | .bad => .bad
def cndT (c : Operand) (a b : F → Hp → DS → OutD) (fr : F) (h : Hp) (ds : DS) : OutD := match c with
  | .tmp t => (match fr.get (Pos.of t) with
    | some v => (match v with | .bool q => (match q with | true => a fr h ds | false => b fr h ds) | _ => .bad)
    | none => .bad)
  | _ => .bad
def opdsT (fr : F) : List Operand → Option (List V)
  | [] => some []
  | x :: l => (match x with
    | .tmp t => (match fr.get (Pos.of t) with | some v => (match opdsT fr l with | some vs => some (v :: vs) | none => none) | none => none)
    | .const c => (match const c with | some v => (match opdsT fr l with | some vs => some (v :: vs) | none => none) | none => none)
    | .func f => (match opdsT fr l with | some vs => some (.func (.func f) .nil .nil :: vs) | none => none)
    | .global _ => none)
/-- what is deferred -/
def defOf (o : Oper) (fr : F) : Option DV := match o.op with
  | .defer c => (match c.callee with
    | .value f => (match opdsT fr (f :: c.args.toList) with
      | some vs => (match vs with
        | g :: args => (match g with
          | .func fn x y => (match fn with | .func g => some (g, x.list ++ args, y.list) | _ => none)
          | _ => none)
        | [] => none)
      | none => none)
    | _ => none)
  | _ => none
def regT (P : Program) (keep : Nat → Bool) (e : FuncId → Option Fun) (ops : Array Oper) (fr : F) (h : Hp) (ds : DS) : OutD :=
  match ops.back? with
  | none => .bad
  | some o => (match o.guard, o.dst, ops.toList.dropLast.all (fun o => match o.guard with | none => true | some _ => false) with
    | none, none, true => (match regK P keep e ops ops.toList.dropLast [] fr h with
      | .nor fr h => (match defOf o fr with | some d => .nor fr h (d :: ds) | none => .bad)
      | _ => .bad)
    | _, _, _ => .bad)
def isDefer (o : Oper) : Bool := match o.op with | .defer _ => true | _ => false
def defers : Code → Bool
  | .region _ ops _ => ops.toList.any isDefer
  | .seq a b => defers a || defers b
  | .cond _ a b => defers a || defers b
  | _ => false
def denT (P : Program) (G N : Nat) (keep : Nat → Bool) (e : FuncId → Option Fun) (pl : Plans) (lf : Nat) : Code → F → Hp → DS → OutD
  | .seq a b => (match defers (.seq a b) with
    | true => seqT (denT P G N keep e pl lf a) (denT P G N keep e pl lf b)
    | false => liftT (denX P G N keep e pl lf (.seq a b)))
  | .cond c a b => (match defers (.cond c a b) with
    | true => cndT c (denT P G N keep e pl lf a) (denT P G N keep e pl lf b)
    | false => liftT (denX P G N keep e pl lf (.cond c a b)))
  | .region id ops d => (match defers (.region id ops d) with
    | true => (match d with | false => regT P keep e ops | true => fun _ _ _ => .bad)
    | false => liftT (denX P G N keep e pl lf (.region id ops d)))
  | c => liftT (denX P G N keep e pl lf c)

/-! ### what it stands for -/
def DRep (M : Mp) (x : DV) (d : Deferred) : Prop :=
  ∃ xs ys, RepL M x.2.1 xs ∧ RepL M x.2.2 ys ∧ d = { target := .fn (.func x.1) ys.toArray, args := xs.toArray }
def DSRep (M : Mp) : DS → List Deferred → Prop
  | [], Df => Df = []
  | x :: ds, Df => ∃ d Ds, DRep M x d ∧ DSRep M ds Ds ∧ Df = d :: Ds
theorem DRep.mono {M N : Mp} (hle : M.le N) {x : DV} {d : Deferred} (hd : DRep M x d) : DRep N x d := by
  obtain ⟨xs, ys, h1, h2, h3⟩ := hd
  exact ⟨xs, ys, h1.mono hle, h2.mono hle, h3⟩
theorem DSRep.mono {M N : Mp} (hle : M.le N) : ∀ {ds : DS} {Df : List Deferred}, DSRep M ds Df → DSRep N ds Df
  | [], _, h => h
  | _ :: _, _, ⟨d, Ds, h1, h2, h3⟩ => ⟨d, Ds, h1.mono hle, DSRep.mono hle h2, h3⟩
def OutQT (keep : Nat → Bool) (G N : Nat) (M : Mp) (h : Hp) (w : World) : OutD → Exit → Act → World → Prop
  | .nor fr h' ds, .normal, a, w' => ∃ M' Df, DSRep M' ds Df ∧ At keep G N Df M' fr h' a w' ∧ Ext M h w M' h' w'
  | .ret fr h' ds, .ret, a, w' => ∃ M' Df, DSRep M' ds Df ∧ At keep G N Df M' fr h' a w' ∧ Ext M h w M' h' w'
  | _, _, _, _ => False
theorem OutQT.trans {M' : Mp} {w' : World} (x : Ext M h w M' h' w') {o : OutD} {e : Exit} {a : Act} {v : World} (q : OutQT keep G N M' h' w' o e a v) : OutQT keep G N M h w o e a v := by
  cases o <;> cases e <;> simp only [OutQT] at q ⊢
  · obtain ⟨M2, Df, d, p, y⟩ := q; exact ⟨M2, Df, d, p, x.trans y⟩
  · obtain ⟨M2, Df, d, p, y⟩ := q; exact ⟨M2, Df, d, p, x.trans y⟩
def SoundT (P : Program) (keep : Nat → Bool) (G N : Nat) (c : Code) (T : F → Hp → DS → OutD) : Prop :=
  ∀ ds Df fr h M a w, T fr h ds ≠ .bad → DSRep M ds Df → At keep G N Df M fr h a w → c.wp P (OutQT keep G N M h w (T fr h ds)) a w
theorem SoundT.lift {c : Code} {D : F → Hp → Out} (hc : SoundC P keep G N c D) : SoundT P keep G N c (liftT D) := by
  intro ds Df fr h M a w hne hds at_
  unfold liftT at hne ⊢
  cases e1 : D fr h with
  | bad => rw [e1] at hne; exact absurd rfl hne
  | ex i fr1 h1 => rw [e1] at hne; exact absurd rfl hne
  | nor fr1 h1 =>
    refine wp_mono (hc Df fr h M a w (by rw [e1]; simp) at_) ?_
    intro x a' w' q
    rw [e1] at q
    cases x <;> simp only [OutQ] at q
    obtain ⟨M', p, y⟩ := q
    exact ⟨M', Df, hds.mono y.le, p, y⟩
  | ret fr1 h1 =>
    refine wp_mono (hc Df fr h M a w (by rw [e1]; simp) at_) ?_
    intro x a' w' q
    rw [e1] at q
    cases x <;> simp only [OutQ] at q
    obtain ⟨M', p, y⟩ := q
    exact ⟨M', Df, hds.mono y.le, p, y⟩
theorem SoundT.seq {c d : Code} {A B : F → Hp → DS → OutD} (hc : SoundT P keep G N c A) (hd : SoundT P keep G N d B) : SoundT P keep G N (.seq c d) (seqT A B) := by
  intro ds Df fr h M a w hne hds at_
  refine wp_seq ?_
  unfold seqT at hne ⊢
  cases e1 : A fr h ds with
  | bad => rw [e1] at hne; exact absurd rfl hne
  | nor fr1 h1 ds1 =>
    rw [e1] at hne
    refine wp_mono (hc ds Df fr h M a w (by rw [e1]; simp) hds at_) ?_
    intro x a' w' q
    rw [e1] at q
    cases x <;> simp only [OutQT] at q
    obtain ⟨M', Df', hds', at', hx⟩ := q
    exact wp_mono (hd ds1 Df' fr1 h1 M' a' w' hne hds' at') fun x a w q => OutQT.trans hx q
  | ret fr1 h1 ds1 =>
    refine wp_mono (hc ds Df fr h M a w (by rw [e1]; simp) hds at_) ?_
    intro x a' w' q
    rw [e1] at q
    cases x <;> simp only [OutQT] at q
    exact q
theorem SoundT.cond {x : Operand} {c d : Code} {A B : F → Hp → DS → OutD} (hc : SoundT P keep G N c A) (hd : SoundT P keep G N d B) : SoundT P keep G N (.cond x c d) (cndT x A B) := by
  intro ds Df fr h M a w hne hds at_
  cases x with
  | tmp t =>
    simp only [cndT] at hne ⊢
    cases hv : fr.get (Pos.of t) with
    | none => rw [hv] at hne; exact absurd rfl hne
    | some v =>
      rw [hv] at hne
      cases v <;> try exact absurd rfl hne
      rename_i q
      have hb := (at_.fr t _ hv).2.bool
      cases q
      · exact wp_cond_false (show a.eval (.tmp t) = .bool false from hb) (hd ds Df fr h M a w hne hds at_)
      · exact wp_cond_true (show a.eval (.tmp t) = .bool true from hb) (hc ds Df fr h M a w hne hds at_)
  | const c => exact absurd rfl hne
  | global g => exact absurd rfl hne
  | func f => exact absurd rfl hne

/-- operations that do not hang on tests, and what comes behind them -/
theorem regN_ok {Df : List Deferred} (hE : ∀ f F, e f = some F → CallOk P G f F) {ops : Array Oper} (hops : ∀ i, ∀ o, ops[i]? = some o → i + 1 < ops.size → operOk G N o = true) {fr' : F} {h' : Hp} {Q : Exit → Act → World → Prop} {l2 : List Nat} :
    ∀ (l : List Nat) (env : Env) (fr : F) (h : Hp) (M : Mp) (a : Act) (w : World), (∀ i ∈ l, i + 1 < ops.size) → (∀ i ∈ l, ∀ o, ops[i]? = some o → o.guard = none) → At keep G N Df M fr h a w → ERel M env a →
      regK P keep e ops (l.filterMap (ops[·]?)) env fr h = .nor fr' h' →
      (∀ a' w' M', At keep G N Df M' fr' h' a' w' → Ext M h w M' h' w' → wpOps P ops Q l2 a' w') → wpOps P ops Q (l ++ l2) a w := by
  intro l
  induction l with
  | nil =>
    intro env fr h M a w _ _ at_ _ e0 hK
    simp only [List.filterMap_nil, regK] at e0
    cases e0
    exact hK a w M at_ (.refl at_.rel)
  | cons i l ih =>
    intro env fr h M a w hl hg at_ he e0 hK
    have hi : i < ops.size := by have := hl i (by simp); omega
    have ho : ops[i]? = some ops[i] := Array.getElem?_eq_getElem hi
    rw [List.cons_append, wpOps_cons]
    unfold wpOp
    simp only [ho]
    rw [List.filterMap_cons_some ho] at e0
    have hgi := hg i (by simp) _ ho
    unfold regK at e0
    simp only [hgi] at e0
    have hw : Region.wanted ops[i] (yielded ops a.tmps) = true := by simp [Region.wanted, hgi]
    simp only [hw, if_true]
    refine .inl (opK_ok hE (hops i _ ho (hl i (by simp))) (by simp) at_ he e0 ?_)
    intro env' fr2 h2 a' w' M' e1 at1 he1 hx
    exact ih env' fr2 h2 M' a' w' (fun j hj => hl j (by simp [hj])) (fun j hj => hg j (by simp [hj])) at1 he1 e1 fun a2 w2 M2 at2 hx2 => hK a2 w2 M2 at2 (hx.trans hx2)

theorem opdsT_ok {Df : List Deferred} {fr : F} {a : Act} (at_ : At keep G N Df M fr h a w) : ∀ {l : List Operand} {vs : List V}, opdsT fr l = some vs → RepL M vs (l.map a.eval)
  | [], vs, e0 => by cases e0; rfl
  | x :: l, vs, e0 => by
    simp only [opdsT] at e0
    split at e0
    · rename_i t
      split at e0
      · rename_i v hv
        split at e0
        · rename_i us hus
          cases e0
          exact ⟨_, _, (at_.fr t v hv).2, opdsT_ok at_ hus, rfl⟩
        · cases e0
      · cases e0
    · rename_i c
      split at e0
      · rename_i v hv
        split at e0
        · rename_i us hus
          cases e0
          exact ⟨_, _, const_ok hv M, opdsT_ok at_ hus, rfl⟩
        · cases e0
      · cases e0
    · rename_i f
      split at e0
      · rename_i us hus
        cases e0
        exact ⟨_, _, ⟨rfl, [], [], ⟨rfl, rfl⟩, rfl, rfl, rfl⟩, opdsT_ok at_ hus, rfl⟩
      · cases e0
    · cases e0

theorem SoundT.region (hE : ∀ f F, e f = some F → CallOk P G f F) {id : Nat} {ops : Array Oper} (hops : ∀ i, ∀ o, ops[i]? = some o → i + 1 < ops.size → operOk G N o = true) : SoundT P keep G N (.region id ops false) (regT P keep e ops) := by
  intro ds Df fr h M a w hne hds at_
  refine wp_region ?_
  unfold regT at hne ⊢
  split at hne
  · exact absurd rfl hne
  · rename_i o hback
    have hsz : 0 < ops.size := by
      rcases Nat.eq_zero_or_pos ops.size with h0 | h0
      · rw [Array.size_eq_zero_iff.1 h0] at hback
        simp at hback
      · exact h0
    have hlast : ops[ops.size - 1]? = some o := by rw [← hback, Array.back?_eq_getElem?]
    split at hne
    · rename_i hg hd hall
      split at hne
      · rename_i fr1 h1 hreg
        split at hne
        · rename_i d hdef
          have hrange : List.range ops.size = List.range (ops.size - 1) ++ [ops.size - 1] := by
            conv => lhs; rw [show ops.size = (ops.size - 1) + 1 by omega]
            rw [List.range_succ]
          rw [hrange]
          have hpre : (List.range (ops.size - 1)).filterMap (ops[·]?) = ops.toList.dropLast := by
            have : ∀ n, n ≤ ops.size → (List.range n).filterMap (ops[·]?) = ops.toList.take n := by
              intro n
              induction n with
              | zero => intro _; rfl
              | succ n ih =>
                intro hn
                rw [List.range_succ, List.filterMap_append, ih (by omega)]
                have hlt : n < ops.size := by omega
                rw [List.filterMap_cons_some (Array.getElem?_eq_getElem hlt), List.filterMap_nil, List.take_add_one, List.getElem?_eq_getElem (by simpa using hlt)]
                simp
            rw [this _ (by omega), List.dropLast_eq_take]
            simp
          refine regN_ok hE hops (List.range (ops.size - 1)) [] fr h M a w (fun i hi => by have := List.mem_range.1 hi; omega) (fun i hi o' ho' => ?_) at_ (ERel.nil M a) (by rw [hpre]; exact hreg) ?_
          · have hi' := List.mem_range.1 hi
            have hm : o' ∈ ops.toList.dropLast := by
              rw [← hpre]
              exact List.mem_filterMap.2 ⟨i, hi, ho'⟩
            have := List.all_eq_true.1 hall o' hm
            split at this
            · assumption
            · cases this
          · intro a' w' M' at' hx
            rw [wpOps_cons]
            unfold wpOp
            simp only [hlast]
            have hw : Region.wanted o (yielded ops a'.tmps) = true := by simp [Region.wanted, hg]
            simp only [hw, if_true]
            refine .inl ?_
            -- the deferred call
            obtain ⟨dst, op, type, pos, after, guard⟩ := o
            simp only at hg hd
            subst hg; subst hd
            simp only [defOf] at hdef
            split at hdef
            · rename_i c
              obtain ⟨callee, args, argTypes⟩ := c
              split at hdef
              · rename_i f hcal
                have hcal : callee = .value f := hcal
                subst hcal
                split at hdef
                · rename_i vs hvs
                  split at hdef
                  · rename_i g avs
                    split at hdef
                    · rename_i fn x y
                      split at hdef
                      · rename_i g
                        cases hdef
                        obtain ⟨cg, cargs, q1, q2, q3⟩ := (opdsT_ok at' hvs).cons_inv
                        rw [List.map_cons] at q1
                        cases q1
                        obtain ⟨xs, ys, hx', hy', hf⟩ := q2.func
                        have e2 : (args.toList.map a'.eval).toArray = args.map a'.eval := by apply Array.ext'; simp
                        have hex : (execOp a'.eval { dst := none, op := .defer ⟨.value f, args, argTypes⟩, type := type, pos := pos, after := after, guard := none }).run P w' = .ok (.defer { target := .fn (.func g) ys.toArray, args := xs.toArray ++ args.map a'.eval }) w' := by
                          simp [execOp, resolve, hf, Deferred.ofValue]
                        unfold Oper.wp
                        rw [hex]
                        simp only [Oper.upon_defer]
                        have hd : DRep M' (g, x.list ++ avs, y.list) { target := .fn (.func g) ys.toArray, args := xs.toArray ++ args.map a'.eval } :=
                          ⟨xs ++ args.toList.map a'.eval, ys, hx'.append q3, hy', by rw [← e2]; simp⟩
                        exact ⟨M', _ :: Df, ⟨_, Df, hd, hds.mono hx.le, rfl⟩, ⟨at'.rel, at'.fr, at'.size, by rw [show a'.defers = Df from at'.plain]; rfl⟩, hx⟩
                      · cases hdef
                    · cases hdef
                  · cases hdef
                · cases hdef
              · cases hdef
            · cases hdef
        · exact absurd rfl hne
      · exact absurd rfl hne
    · exact absurd rfl hne
end
end Go.Vm

/- The value machine, part 34: functions that defer, whole; functions that are deferred. -/
namespace Go.Vm
noncomputable section
variable {P : Program} {G N : Nat} {M : Mp} {h h' : Hp} {w : World} {keep : Nat → Bool} {e e2 : FuncId → Option Fun} {r : V}

/-- A deferred call of this function, where no panic is under way, does what the machine's function says. -/
def DCallOk (P : Program) (G : Nat) (f : FuncId) (F : Fun) : Prop :=
  ∀ (args : List V) (h : Hp) (r : V) (h' : Hp) (M : Mp) (w : World) (cargs : List Value), F args h = .ok r h' → Rel G M h w → RepL M args cargs →
    (callFunc f cargs.toArray).run P w = .ok (.enter f cargs.toArray) w ∧
    CallsD P f cargs.toArray .returning w fun e u w' => u = .returning ∧ ∃ c, e = .returned c ∧ Post G M h w r h' c w'
/-- What the body of this function does. -/
def BodyOk (P : Program) (G : Nat) (f : FuncId) (F : Fun) : Prop :=
  ∃ fn c, P.funcs[f]? = some fn ∧ fn.body = some c ∧ (∀ args w, (callFunc f args).run P w = .ok (.enter f args) w) ∧
  ∀ (args : List V) (h : Hp) (r : V) (h' : Hp) (M : Mp) (w : World) (cargs : List Value), F args h = .ok r h' → Rel G M h w → RepL M args cargs →
    c.wp P (bodyPost P fn fun e w' => ∃ c, e = .returned c ∧ Post G M h w r h' c w') { tmps := cargs.toArray ++ Array.replicate (fn.ntmps - cargs.toArray.size) undef, defers := [] } w
theorem BodyOk.deferred {f : FuncId} {F : Fun} (hb : BodyOk P G f F) : DCallOk P G f F := by
  obtain ⟨fn, c, h1, h2, h3, h4⟩ := hb
  intro args h r h' M w cargs e hr ha
  exact ⟨h3 _ _, callsD_of_wp h1 h2 (h4 args h r h' M w cargs e hr ha)⟩

theorem run_callFunc {f : FuncId} {fn : Func} {c : Code} (hf : P.funcs[f]? = some fn) (hn : (fn.name == "runtime.NumGoroutine") = false) (hb : fn.body = some c) (args : Array Value) (w : World) :
    (callFunc f args).run P w = .ok (.enter f args) w := by
  unfold callFunc
  rw [Sem.run_bind, run_program]; have hn' : ¬fn.name = "runtime.NumGoroutine" := by simpa using hn
  simp [hf, hn', hb]

theorem init_at {fn : Func} {args : List V} {cargs : List Value} (hr : Rel G M h w) (ha : RepL M args cargs) (hle : args.length ≤ fn.ntmps) :
    At keep G fn.ntmps [] M (initF keep 0 args .nil) h { tmps := cargs.toArray ++ Array.replicate (fn.ntmps - cargs.toArray.size) undef, defers := [] } w := by
  have hlen := ha.length
  refine ⟨hr, initF_ok keep _ args 0 _ (fun j v hj => ?_) (fun t v hv => by rw [T.get_nil] at hv; cases hv), by simp; omega, rfl⟩
  obtain ⟨x, hx, hrx⟩ := ha.get hj
  have hj' : j < cargs.length := by
    rcases Nat.lt_or_ge j cargs.length with h1 | h1
    · exact h1
    · rw [List.getElem?_eq_none h1] at hx; cases hx
  have : (cargs.toArray ++ Array.replicate (fn.ntmps - cargs.toArray.size) undef).getD (0 + j) undef = x := by
    rw [Array.getD_eq_getD_getElem?, Array.getElem?_append_left (by simpa using hj')]
    simp [hx]
  simp only [this]
  exact hrx

theorem body_ok {f : FuncId} {fn : Func} {c : Code} {D : F → Hp → Out} (hf : P.funcs[f]? = some fn) (hn : (fn.name == "runtime.NumGoroutine") = false) (hb : fn.body = some c) (hD : SoundC P keep G fn.ntmps c D) :
    BodyOk P G f (funO P keep fn.ntmps fn.results.toList D) := by
  refine ⟨fn, c, hf, hb, run_callFunc hf hn hb, ?_⟩
  intro args h r h' M w cargs e hr hargs
  unfold funO at e
  split at e
  · rename_i hle
    have hat := init_at (keep := keep) (fn := fn) hr hargs (Nat.le_of_ble_eq_true hle)
    cases e1 : D (initF keep 0 args .nil) h with
    | bad => rw [e1] at e; cases e
    | ex i fr2 h2 => rw [e1] at e; cases e
    | nor fr2 h2 =>
      rw [e1] at e
      refine wp_mono (hD _ _ _ _ _ _ (by rw [e1]; simp) hat) ?_
      intro x a' w' q
      rw [e1] at q
      cases x <;> simp only [OutQ] at q
      obtain ⟨M', at', hx⟩ := q
      obtain ⟨rfl, v, hv, hrv⟩ := results_ok at'.rel at'.fr e
      exact ⟨at'.plain, v, hv, v, rfl, M', hrv, at'.rel, hx⟩
    | ret fr2 h2 =>
      rw [e1] at e
      refine wp_mono (hD _ _ _ _ _ _ (by rw [e1]; simp) hat) ?_
      intro x a' w' q
      rw [e1] at q
      cases x <;> simp only [OutQ] at q
      obtain ⟨M', at', hx⟩ := q
      obtain ⟨rfl, v, hv, hrv⟩ := results_ok at'.rel at'.fr e
      exact ⟨at'.plain, v, hv, v, rfl, M', hrv, at'.rel, hx⟩
  · cases e
/-- A function by its tables may be deferred. -/
theorem funX_body (hm : P.follows .mixedOrders = true) {f : FuncId} {fn : Func} {pl : Plans} {lf : Nat} (hE : ∀ f F, e f = some F → CallOk P G f F) (hf : P.funcs[f]? = some fn) (ho : funOk G fn = true) : BodyOk P G f (funX P G keep e pl lf fn) := by
  unfold funOk at ho
  simp only [Bool.and_eq_true, Bool.not_eq_true'] at ho
  unfold funX
  cases hb : fn.body with
  | none => rw [hb] at ho; cases ho.1
  | some c =>
    rw [hb] at ho
    exact body_ok hf ho.2 hb (denX_ok hm hE pl lf c ho.1)

/-! ### code that defers -/
/-- every operation's, but of the last one of a region that defers -/
def codeOkT (G N : Nat) : Code → Bool
  | .region id ops d => (match defers (.region id ops d) with
    | true => (match d with | false => ops.toList.dropLast.all (operOk G N) | true => false)
    | false => codeOk G N (.region id ops d))
  | .seq a b => (match defers (.seq a b) with | true => codeOkT G N a && codeOkT G N b | false => codeOk G N (.seq a b))
  | .cond c a b => (match defers (.cond c a b) with | true => codeOkT G N a && codeOkT G N b | false => codeOk G N (.cond c a b))
  | c => codeOk G N c
theorem denT_ok (hm : P.follows .mixedOrders = true) (hE : ∀ f F, e f = some F → CallOk P G f F) (pl : Plans) (lf : Nat) : (c : Code) → codeOkT G N c = true → SoundT P keep G N c (denT P G N keep e pl lf c)
  | .region id ops d, hc => by
    unfold codeOkT at hc
    unfold denT
    split at hc
    · rename_i hd
      rw [hd]
      split at hc
      · refine SoundT.region hE fun i o ho hi => ?_
        have hm : o ∈ ops.toList.dropLast := by
          rw [List.dropLast_eq_take, List.mem_take_iff_getElem]
          have hlt : i < ops.size := by omega
          refine ⟨i, by simp; omega, ?_⟩
          rw [Array.getElem?_eq_getElem hlt] at ho
          simpa using ho
        exact List.all_eq_true.1 hc o hm
      · cases hc
    · rename_i hd
      rw [hd]
      exact SoundT.lift (denX_ok hm hE pl lf _ hc)
  | .seq a b, hc => by
    unfold codeOkT at hc
    unfold denT
    split at hc
    · rename_i hd
      rw [hd]
      simp only [Bool.and_eq_true] at hc
      exact .seq (denT_ok hm hE pl lf a hc.1) (denT_ok hm hE pl lf b hc.2)
    · rename_i hd
      rw [hd]
      exact SoundT.lift (denX_ok hm hE pl lf _ hc)
  | .cond c a b, hc => by
    unfold codeOkT at hc
    unfold denT
    split at hc
    · rename_i hd
      rw [hd]
      simp only [Bool.and_eq_true] at hc
      exact .cond (denT_ok hm hE pl lf a hc.1) (denT_ok hm hE pl lf b hc.2)
    · rename_i hd
      rw [hd]
      exact SoundT.lift (denX_ok hm hE pl lf _ hc)
  | .skip, hc => SoundT.lift (denX_ok hm hE pl lf _ hc)
  | .label _, hc => SoundT.lift (denX_ok hm hE pl lf _ hc)
  | .block _ _, hc => SoundT.lift (denX_ok hm hE pl lf _ hc)
  | .loop _, hc => SoundT.lift (denX_ok hm hE pl lf _ hc)
  | .exit _, hc => SoundT.lift (denX_ok hm hE pl lf _ hc)
  | .ret, hc => SoundT.lift (denX_ok hm hE pl lf _ hc)
  | .scope _, hc => SoundT.lift (denX_ok hm hE pl lf _ hc)
  | .goto _, hc => SoundT.lift (denX_ok hm hE pl lf _ hc)
  | .rangeFunc .., hc => SoundT.lift (denX_ok hm hE pl lf _ hc)
  | .refuse _, hc => SoundT.lift (denX_ok hm hE pl lf _ hc)

/-! ### leaving -/
def leaveT (e2 : FuncId → Option Fun) : DS → Hp → Option Hp
  | [], h => some h
  | d :: ds, h => (match e2 d.1 with
    | some F => (match F (d.2.1 ++ d.2.2) h with | .ok _ h' => leaveT e2 ds h' | .bad => none)
    | none => none)
def outT (e2 : FuncId → Option Fun) : OutD → Out
  | .nor fr h ds => (match leaveT e2 ds h with | some h' => .nor fr h' | none => .bad)
  | .ret fr h ds => (match leaveT e2 ds h with | some h' => .nor fr h' | none => .bad)
  | .bad => .bad
def funXT (P : Program) (G : Nat) (keep : Nat → Bool) (e e2 : FuncId → Option Fun) (pl : Plans) (lf : Nat) (fn : Func) : Fun := match fn.body with
  | some c => funO P keep fn.ntmps fn.results.toList (fun fr h => outT e2 (denT P G fn.ntmps keep e pl lf c fr h []))
  | none => fun _ _ => .bad
theorem leaveT_ok (hE2 : ∀ f F, e2 f = some F → DCallOk P G f F) {fn : Func} {tmps : Array Value} {R : Ending → World → Prop} : ∀ {ds : DS} {Df : List Deferred} {h h' : Hp} {M : Mp} {w : World}, DSRep M ds Df → Rel G M h w → leaveT e2 ds h = some h' →
    (∀ M' w', Rel G M' h' w' → Ext M h w M' h' w' → ∃ v, (results fn tmps).run P w' = .ok v w' ∧ R (.returned v) w') → Leaves P fn tmps R Df .returning w
  | [], Df, h, h', M, w, hd, hr, e0, hK => by
    cases hd
    cases e0
    exact hK M w hr (.refl hr)
  | d :: ds, Df, h, h', M, w, hd, hr, e0, hK => by
    obtain ⟨dd, Ds, ⟨xs, ys, hx, hy, rfl⟩, hds, rfl⟩ := hd
    simp only [leaveT] at e0
    split at e0
    · rename_i F hF
      split at e0
      · rename_i r1 h1 hcall
        obtain ⟨hrun, hc⟩ := hE2 _ F hF _ _ _ _ M w (xs ++ ys) hcall hr (hx.append hy)
        refine leaves_cons (by simp) (by simpa [invoke] using hrun) ?_
        have ea : xs.toArray ++ ys.toArray = (xs ++ ys).toArray := by simp
        refine (CallsD.mono hc ?_)
        rintro ee u' w' ⟨rfl, c, rfl, M', _, hr', hx'⟩
        exact leaveT_ok hE2 (hds.mono hx'.le) hr' e0 fun M2 w2 hr2 hx2 => hK M2 w2 hr2 (hx'.trans hx2)
      · cases e0
    · cases e0
theorem leave2 (hE2 : ∀ f F, e2 f = some F → DCallOk P G f F) {fn : Func} {fr2 : F} {h2 : Hp} {ds : DS} {Df : List Deferred} {M' : Mp} {a' : Act} {w' : World}
    (e : outR P fn.results.toList (match leaveT e2 ds h2 with | some h' => .nor fr2 h' | none => .bad) = .ok r h') (hds : DSRep M' ds Df) (at_ : At keep G N Df M' fr2 h2 a' w') (hx : Ext M h w M' h2 w') :
    Leaves P fn a'.tmps (fun e w' => ∃ c, e = .returned c ∧ Post G M h w r h' c w') a'.defers .returning w' := by
  rw [show a'.defers = Df from at_.plain]
  cases e1 : leaveT e2 ds h2 with
  | none => rw [e1] at e; cases e
  | some h3 =>
    rw [e1] at e
    refine leaveT_ok hE2 hds at_.rel e1 fun M2 w2 hr2 hx2 => ?_
    have hf2 : FRel keep M2 fr2 a' := at_.fr.mono hx2.le
    obtain ⟨rfl, v, hv, hrv⟩ := results_ok hr2 hf2 e
    exact ⟨v, hv, v, rfl, M2, hrv, hr2, hx.trans hx2⟩
theorem call_okT (hE2 : ∀ f F, e2 f = some F → DCallOk P G f F) {f : FuncId} {fn : Func} {c : Code} {T : F → Hp → DS → OutD} (hf : P.funcs[f]? = some fn) (hn : (fn.name == "runtime.NumGoroutine") = false) (hb : fn.body = some c) (hT : SoundT P keep G fn.ntmps c T) :
    CallOk P G f (funO P keep fn.ntmps fn.results.toList fun fr h => outT e2 (T fr h [])) := by
  intro args h r h' M w cargs e hr hargs
  rw [run_callFunc hf hn hb]
  simp only [Opq]
  unfold funO at e
  split at e
  · rename_i hle
    have e : outR P fn.results.toList (outT e2 (T (initF keep 0 args .nil) h [])) = .ok r h' := e
    have hat := init_at (keep := keep) (fn := fn) hr hargs (Nat.le_of_ble_eq_true hle)
    refine calls_of_wp_defers hf hb ?_
    refine wp_mono (hT [] [] _ _ _ _ _ ?_ rfl hat) ?_
    · intro e1
      rw [e1] at e
      cases e
    · intro x a' w' q
      cases e1 : T (initF keep 0 args .nil) h [] with
      | bad => rw [e1] at q; cases x <;> exact q.elim
      | nor fr2 h2 ds =>
        rw [e1] at e q
        cases x <;> simp only [OutQT] at q
        obtain ⟨M', Df, hds, at', hx⟩ := q
        exact leave2 hE2 e hds at' hx
      | ret fr2 h2 ds =>
        rw [e1] at e q
        cases x <;> simp only [OutQT] at q
        obtain ⟨M', Df, hds, at', hx⟩ := q
        exact leave2 hE2 e hds at' hx
  · cases e
theorem funXT_ok (hm : P.follows .mixedOrders = true) {f : FuncId} {fn : Func} {pl : Plans} {lf : Nat} (hE : ∀ f F, e f = some F → CallOk P G f F) (hE2 : ∀ f F, e2 f = some F → DCallOk P G f F) (hf : P.funcs[f]? = some fn) (ho : ((match fn.body with | some c => codeOkT G fn.ntmps c | none => false) && !(fn.name == "runtime.NumGoroutine")) = true) : CallOk P G f (funXT P G keep e e2 pl lf fn) := by
  simp only [Bool.and_eq_true, Bool.not_eq_true'] at ho
  unfold funXT
  cases hb : fn.body with
  | none => rw [hb] at ho; cases ho.1
  | some c =>
    rw [hb] at ho
    exact call_okT hE2 hf ho.2 hb (denT_ok hm hE pl lf c ho.1)
end
end Go.Vm

/- The value machine, part 35: marks (no function of the program's sees them); levels of calls. -/
namespace Go.Vm
noncomputable section
variable {P : Program} {G : Nat}

def markF0 : Fun := fun args h => match args with
  | [] => .ok V.undef h
  | _ :: _ => .bad
def markF1 : Fun := fun args h => match args with
  | [] => .bad
  | x :: l => (match l with
    | [] => asPtr x fun _ _ => .ok V.undef h
    | _ :: _ => .bad)
theorem markF0_ok {f : FuncId} {fn : Func} (hf : P.funcs[f]? = some fn) (hname : (fn.name == "runtime.NumGoroutine") = false) (hb : fn.body.isNone = true) (hn : Extern.findNext fn = none) (m : Mark)
    (he : Extern.find fn = some (fun _ => do mark m; pure Extern.Race.none_)) : CallOk P G f markF0 := by
  intro args h r h' M w cargs e hr ha
  unfold markF0 at e
  split at e
  · cases e
    cases (show cargs = [] from ha)
    have := run_call_mark0 hf hname hb hn m he w
    rw [show ([] : List Value).toArray = #[] from rfl, this]
    exact ⟨M, rp_undef M, hr, .refl hr⟩
  · cases e
theorem markF1_ok {f : FuncId} {fn : Func} (hf : P.funcs[f]? = some fn) (hname : (fn.name == "runtime.NumGoroutine") = false) (hb : fn.body.isNone = true) (hn : Extern.findNext fn = none) (m : Addr → Mark)
    (he : Extern.find fn = some (Extern.Race.marked m)) : CallOk P G f markF1 := by
  intro args h r h' M w cargs e hr ha
  unfold markF1 at e
  split at e
  · cases e
  · split at e
    · rename_i x l
      obtain ⟨c, cs, rfl, hx, hcs⟩ := RepL.cons_inv ha
      cases (show cs = [] from hcs)
      obtain ⟨i, o, rfl, e⟩ := asPtr_ok e
      obtain ⟨L, hL, rfl⟩ := hx.ptr
      cases e
      have := run_call_marked hf hname hb hn m he (L.at o) w
      rw [show ([Value.pointer (some (L.at o))] : List Value).toArray = #[.pointer (some (L.at o))] from rfl, this]
      exact ⟨M, rp_undef M, hr, .refl hr⟩
    · cases e

/-- a function that calls itself, through others: levels -/
def levels (base : FuncId → Option Fun) (st : (FuncId → Option Fun) → FuncId → Option Fun) : Nat → FuncId → Option Fun
  | 0 => base
  | n + 1 => st (levels base st n)
theorem levels_ok {base : FuncId → Option Fun} {st : (FuncId → Option Fun) → FuncId → Option Fun} (hb : ∀ f F, base f = some F → CallOk P G f F)
    (hs : ∀ e, (∀ f F, e f = some F → CallOk P G f F) → ∀ f F, st e f = some F → CallOk P G f F) : ∀ n f F, levels base st n f = some F → CallOk P G f F
  | 0 => hb
  | n + 1 => hs _ (levels_ok hb hs n)
def pickF (e : FuncId → Option Fun) (f : FuncId) : Fun := match e f with
  | some F => F
  | none => fun _ _ => .bad
theorem pickF_ok {e : FuncId → Option Fun} (he : ∀ f F, e f = some F → CallOk P G f F) (f : FuncId) : CallOk P G f (pickF e f) := by
  unfold pickF
  cases h : e f with
  | some F => exact he f F h
  | none => intro args h r h' M w cargs e; cases e
theorem dcallsOk_0 : ∀ f F, (fun _ => none : FuncId → Option Fun) f = some F → DCallOk P G f F := fun _ _ h => by cases h
theorem dcallsOk_cons {g : FuncId} {F : Fun} {e : FuncId → Option Fun} (h1 : DCallOk P G g F) (h2 : ∀ f F, e f = some F → DCallOk P G f F) : ∀ f F', (fun f => match Nat.beq f g with | true => some F | false => e f : FuncId → Option Fun) f = some F' → DCallOk P G f F' := by
  intro f F' h
  simp only [] at h
  split at h
  · rename_i hb; cases h; rw [Nat.eq_of_beq_eq_true hb]; exact h1
  · exact h2 f F' h
/-- a deferred function that asks whether a panic is under way, and does nothing where there is none -/
def recF : Fun := fun _ h => .ok V.undef h
theorem recF_ok {f : FuncId} {fn : Func} {id : Nat} {o0 o1 : Oper} {s t : Nat} {A : Code}
    (hf : P.funcs[f]? = some fn) (hn : (fn.name == "runtime.NumGoroutine") = false) (hb : fn.body = some (.seq (.region id #[o0, o1] false) (.cond (.tmp t) A .skip)))
    (g0 : o0.guard = none) (d0 : o0.dst = some s) (x0 : ∀ ρ w, (execOp ρ o0).run P w = .ok .recover w)
    (g1 : o1.guard = none) (d1 : o1.dst = some t) (x1 : ∀ ρ : Operand → Value, ∀ w, (∀ c, ρ (.const c) = c) → ρ (.tmp s) = .nilIface → (execOp ρ o1).run P w = .ok (.value (.bool false)) w)
    (hs : s < fn.ntmps) (ht : t < fn.ntmps) (hres : fn.results = #[]) : DCallOk P G f recF := by
  intro args h r h' M w cargs e hr ha
  cases e
  refine ⟨run_callFunc hf hn hb _ _, callsD_of_wpS hf hb fun c0 cs hc => ?_⟩
  have hz : fn.ntmps ≤ (cargs.toArray ++ Array.replicate (fn.ntmps - cargs.toArray.size) undef).size := by simp; omega
  generalize cargs.toArray ++ Array.replicate (fn.ntmps - cargs.toArray.size) undef = tm at hz
  refine wpS_seq (wpS_region ?_)
  simp only [List.range_succ, show (#[o0, o1] : Array Oper).size = 2 from rfl, List.range_zero, List.nil_append, List.cons_append, wpOpsS]
  have hw0 : ∀ y, Region.wanted o0 y = true := fun y => by simp [Region.wanted, g0]
  have hw1 : ∀ y, Region.wanted o1 y = true := fun y => by simp [Region.wanted, g1]
  have hrec : recoverD (c0 :: cs) = none := by simp [recoverD, hc]
  simp only [show (#[o0, o1] : Array Oper)[0]? = some o0 from rfl, show (#[o0, o1] : Array Oper)[1]? = some o1 from rfl, hw0, hw1, if_true, x0, hrec]
  have hv : (({ tmps := tm, defers := [] } : Act).put o0.dst .nilIface).eval (.tmp s) = .nilIface := by
    rw [d0]
    simp [Act.put, Act.eval, Array.getD_eq_getD_getElem?, show s < tm.size by omega]
  rw [x1 _ _ (fun _ => rfl) hv]
  simp only [Oper.upon_value]
  refine wpS_cond (t := false) ?_ ?_
  · rw [d1]
    simp [Act.put, Act.eval, Array.getD_eq_getD_getElem?, d0, show t < tm.size by omega]
  · refine wpS_of_wp (wp_skip ?_)
    refine ⟨?_, c0.mode, rfl, .tuple #[], ?_, ?_⟩
    · rw [d0, d1]; rfl
    · rw [results_eq, hres]
      simp
    · exact ⟨hc, _, rfl, M, rp_undef M, hr, .refl hr⟩
end
end Go.Vm

/- The value machine, part 36: rows that came in. -/
namespace Go.Vm
noncomputable section
open Go.ChangeShapes Go.WideShapes Go.ChangeAt Go.RowKit
variable {P : Program} {G : Nat} {M N : Mp} {h : Hp} {w : World}

/-- one more row -/
theorem Seen.row (S : Seen G M h w) {blk off : Nat} {cs : List V} (hne : cs ≠ []) (hc : ∀ k v, cs[k]? = some v → ∃ x, w.cell? ⟨blk, off + k, none⟩ = some x ∧ scalar x = true ∧ Rp M v x) :
    ∃ sz, Seen G (M.add h.next ⟨blk, off, sz⟩) (h.new (.cells .ro cs)) w ∧ M.le (M.add h.next ⟨blk, off, sz⟩) := by
  have hnone : M h.next = none := S.rel.fresh _ (Nat.le_refl _)
  obtain ⟨v0, hv0⟩ : ∃ v, cs[0]? = some v := by
    cases cs with
    | nil => exact absurd rfl hne
    | cons v l => exact ⟨v, rfl⟩
  obtain ⟨x0, hx0, -, -⟩ := hc 0 v0 hv0
  obtain ⟨c, el, fr, hb⟩ : ∃ c el fr, w.heap[blk]? = some (.cells c el fr) := by
    unfold World.cell? at hx0
    split at hx0
    · rename_i c el fr hb; exact ⟨c, el, fr, hb⟩
    · cases hx0
  have hle := Mp.le_add hnone ⟨blk, off, c.size⟩
  refine ⟨c.size, ⟨⟨fun i p hi => ?_, fun i hi => ?_, fun i j p q L K hn hi hj hp hL hK => ?_, fun g hg => ?_⟩, fun i o hi => ?_⟩, hle⟩
  · by_cases e : i = h.next
    · subst e
      rw [h.get_new_self] at hi
      cases hi
      refine ⟨_, M.add_self _ _, c, el, fr, hb, rfl, fun k v hk => ?_, trivial⟩
      obtain ⟨x, hx, hs, hr⟩ := hc k v hk
      refine ⟨x, ?_, hr.mono hle, hs⟩
      simpa [World.cell?, hb] using hx
    · rw [h.get_new_ne e] at hi
      obtain ⟨L, hL, hr⟩ := S.rel.ob i p hi
      exact ⟨L, by rw [M.add_ne e]; exact hL, hr.mono hle⟩
  · have hs : (h.new (.cells .ro cs)).next.nat = h.next.nat + 1 := Pos.nat_succ _
    rw [hs] at hi
    have e : i ≠ h.next := fun e => by rw [e] at hi; omega
    rw [M.add_ne e]
    exact S.rel.fresh i (by omega)
  · have ei : i ≠ h.next := by
      intro e; subst e
      rw [h.get_new_self] at hi; cases hi; cases hp
    rw [h.get_new_ne ei] at hi
    have := S.un i p hi
    rw [hp] at this; cases this
  · obtain ⟨z, hz⟩ := S.rel.gl g hg
    exact ⟨z, hle _ _ hz⟩
  · by_cases e : i = h.next
    · subst e; rw [h.get_new_self] at hi; cases hi; rfl
    · rw [h.get_new_ne e] at hi; exact S.un i o hi

section
variable {H : Type} {enc : TypeId × Value → H} {base : Nat} {spare : Nat → Bool} {held : Bool}
/-- A slice that came in, whose elements lead to no memory. -/
theorem open_rowK {t e n fuel : Nat} {x : DataW H × List MemPlace} {cs : List Value} (ht : P.underlying t = some (.slice e)) (hn : P.cellsOf e = n) (hn0 : 0 < n) {Q : List V → Prop}
    (rd : ∀ fuel cs x, DataW.trod enc P w base spare held fuel e cs = some x → cs.length = n → ∃ vs, vs.length = n ∧ Q vs ∧ (∀ N, RepL N vs cs) ∧ ∀ y ∈ cs, scalar y = true)
    (hd : DataW.trod enc P w base spare held fuel t cs = some x) (S : Seen G M h w) :
    ∃ (c : Value) (v : V) (M' : Mp) (h' : Hp) (els : List (List V)), cs = [c] ∧ Rp M' v c ∧ Seen G M' h' w ∧ M.le M' ∧ (∀ vs ∈ els, Q vs ∧ vs.length = n) ∧ els.length ≤ 9223372036854775807 ∧
      ((v = .nils ∧ h' = h ∧ els = []) ∨ (v = .emp ∧ h' = h ∧ els = []) ∨ (∃ cap, v = .slice h.next 0 els.length (.kn cap) ∧ h' = h.new (.cells .ro els.flatten) ∧ 0 < els.length ∧ els.length ≤ cap)) := by
  rcases DataW.trod_slice ht hd with ⟨rfl, rfl⟩ | ⟨a, len, cap, elems, rest, m, rfl, rfl, rfl, hb, hl, hm, hlen, hel, -, -⟩
  · exact ⟨_, .nils, M, h, [], rfl, ⟨rfl, rfl⟩, S, Mp.le_refl _, fun _ h => (by cases h), by simp, .inl ⟨rfl, rfl, rfl⟩⟩
  · -- each element
    have each : ∀ i, i < len → ∃ vs, vs.length = n ∧ Q vs ∧ ∀ j v, vs[j]? = some v → ∃ x, w.cell? (a.add (i * n + j)) = some x ∧ scalar x = true ∧ ∀ N, Rp N v x := fun i hi => by
      have h1 := hel i hi
      rw [hn, List.getElem?_eq_getElem (by omega), Option.bind_eq_some_iff] at h1
      obtain ⟨cs', h2, h3⟩ := h1
      obtain ⟨-, hl', hc'⟩ := World.cells?_some h2
      obtain ⟨vs, hv1, hv2, hv3, hv4⟩ := rd m cs' _ h3 hl'
      refine ⟨vs, hv1, hv2, fun j v hj => ?_⟩
      have hj' : j < n := by
        have := (List.getElem?_eq_some_iff.1 hj).1
        omega
      have h5 : (a.add (i * n)).add j = a.add (i * n + j) := by
        generalize i * n = p
        by_cases e1 : p = 0 <;> by_cases e2 : j = 0 <;> simp [Addr.add, e1, e2, Nat.add_assoc]
      have h4 := hc' j hj'
      rw [h5] at h4
      obtain ⟨x, hx, hr⟩ := (hv3 M).get hj
      refine ⟨x, by rw [h4, hx], hv4 x (List.mem_of_getElem? hx), fun N => ?_⟩
      obtain ⟨x', hx', hr'⟩ := (hv3 N).get hj
      rw [hx] at hx'; cases hx'
      exact hr'
    by_cases h0 : len = 0
    · subst h0
      exact ⟨_, .emp, M, h, [], rfl, ⟨rfl, a, cap, rfl⟩, S, Mp.le_refl _, fun _ h => (by cases h), by simp, .inr (.inl ⟨rfl, rfl, rfl⟩)⟩
    · -- all of them
      have all : ∀ l, l ≤ len → ∃ els : List (List V), els.length = l ∧ (∀ vs ∈ els, Q vs ∧ vs.length = n) ∧ els.flatten.length = l * n ∧ ∀ k v, els.flatten[k]? = some v → ∃ x, w.cell? (a.add k) = some x ∧ scalar x = true ∧ ∀ N, Rp N v x := by
        intro l
        induction l with
        | zero => intro _; exact ⟨[], rfl, fun _ h => (by cases h), by simp, fun k v hk => by simp at hk⟩
        | succ l ih =>
          intro hl'
          obtain ⟨els, h1, h2, h3, h4⟩ := ih (by omega)
          obtain ⟨vs, g1, g2, g3⟩ := each l (by omega)
          refine ⟨els ++ [vs], by simp [h1], fun us hu => ?_, by simp [h3, g1, Nat.succ_mul], fun k v hk => ?_⟩
          · rcases List.mem_append.1 hu with hu | hu
            · exact h2 us hu
            · rw [List.mem_singleton.1 hu]; exact ⟨g2, g1⟩
          · rw [List.flatten_append, List.getElem?_append] at hk
            split at hk
            · exact h4 k v hk
            · rename_i hge
              simp only [List.flatten_cons, List.flatten_nil, List.append_nil] at hk
              rw [h3] at hk hge
              have := g3 (k - l * n) v hk
              rwa [show l * n + (k - l * n) = k from by omega] at this
      obtain ⟨els, h1, h2, h3, h4⟩ := all len (Nat.le_refl _)
      have hne : els.flatten ≠ [] := by
        intro e
        rw [e] at h3
        have : 0 < len * n := Nat.mul_pos (by omega) hn0
        simp at h3; omega
      -- the address has no spot
      obtain ⟨ab, ao, asp⟩ := a
      have has : asp = none := by
        obtain ⟨v0, hv0⟩ : ∃ v, els.flatten[0]? = some v := by
          cases hf : els.flatten with
          | nil => exact absurd hf hne
          | cons v l => exact ⟨v, rfl⟩
        obtain ⟨x, hx, -, -⟩ := h4 0 v0 hv0
        simpa [Addr.add] using World.cell?_spot hx
      subst has
      obtain ⟨sz, S', hle⟩ := S.row (blk := ab) (off := ao) hne fun k v hk => by
        obtain ⟨x, hx, hs, hr⟩ := h4 k v hk
        have ea : (Addr.mk ab ao none).add k = ⟨ab, ao + k, none⟩ := by by_cases e1 : k = 0 <;> simp [Addr.add, e1]
        exact ⟨x, by rw [← ea]; exact hx, hs, hr M⟩
      refine ⟨_, .slice h.next 0 len (.kn cap), _, _, els, rfl, ⟨rfl, _, cap, M.add_self _ _, ⟨rfl, hl⟩, rfl⟩, S', hle, h2, by rw [h1]; unfold maxLen at hm; omega, .inr (.inr ⟨cap, by rw [h1], rfl, by omega, by omega⟩)⟩
theorem rd_int {e : TypeId} {k : IntKind} (he : P.underlying e = some (.int k)) : ∀ fuel cs x, DataW.trod enc P w base spare held fuel e cs = some x → cs.length = 1 → ∃ vs : List V, vs.length = 1 ∧ (∃ z, vs = [.int k z] ∧ (Lit.int k z).wf = true) ∧ (∀ N, RepL N vs cs) ∧ ∀ y ∈ cs, scalar y = true := by
  intro fuel cs x hx _
  obtain ⟨z, rfl, -, hw⟩ := DataW.trod_int he hx
  exact ⟨[.int k z], rfl, ⟨z, rfl, hw⟩, fun N => ⟨_, [], rp_int N k z, rfl, rfl⟩, fun y hy => by rw [List.mem_singleton.1 hy]; rfl⟩
theorem rd_bool {e : TypeId} (he : P.underlying e = some .bool) : ∀ fuel cs x, DataW.trod enc P w base spare held fuel e cs = some x → cs.length = 1 → ∃ vs : List V, vs.length = 1 ∧ (∃ z, vs = [.bool z]) ∧ (∀ N, RepL N vs cs) ∧ ∀ y ∈ cs, scalar y = true := by
  intro fuel cs x hx _
  obtain ⟨z, rfl, -⟩ := DataW.trod_bool he hx
  exact ⟨[.bool z], rfl, ⟨z, rfl⟩, fun N => ⟨_, [], rp_bool N z, rfl, rfl⟩, fun y hy => by rw [List.mem_singleton.1 hy]; rfl⟩
end
end
end Go.Vm

/- The value machine, part 42: results that are known. -/
namespace Go.Vm
noncomputable section
variable {P : Program} {G : Nat}
def eqFn : Fn → Fn → Bool
  | .func g, x => (match x with | .func k => Nat.beq g k | _ => false)
  | _, _ => false
theorem eqFn_ok {f g : Fn} (h : eqFn f g = true) : f = g := by
  unfold eqFn at h
  split at h
  · split at h
    · rw [Nat.eq_of_beq_eq_true h]
    · cases h
  · cases h
/-- the same value; functions too -/
def eqVV : V → V → Bool
  | .func f a b, x => (match x with | .func g c d => (match eqFn f g with | true => (match eqVV a c with | true => eqVV b d | false => false) | false => false) | _ => false)
  | .agg l, x => (match x with | .agg k => eqVV l k | _ => false)
  | .tuple l, x => (match x with | .tuple k => eqVV l k | _ => false)
  | .iface t v, x => (match x with | .iface u w => (match Nat.beq t u with | true => eqVV v w | false => false) | _ => false)
  | .cons a b, x => (match x with | .cons c d => (match eqVV a c with | true => eqVV b d | false => false) | _ => false)
  | v, x => eqV v x
theorem eqVV_ok : ∀ (a b : V), eqVV a b = true → a = b
  | .func f a b, x, h => by
    simp only [eqVV] at h
    split at h
    · split at h
      · rename_i e1
        split at h
        · rename_i e2
          rw [eqFn_ok e1, eqVV_ok a _ e2, eqVV_ok b _ h]
        · cases h
      · cases h
    · cases h
  | .agg l, x, h => by
    simp only [eqVV] at h
    split at h
    · rw [eqVV_ok l _ h]
    · cases h
  | .tuple l, x, h => by
    simp only [eqVV] at h
    split at h
    · rw [eqVV_ok l _ h]
    · cases h
  | .iface t v, x, h => by
    simp only [eqVV] at h
    split at h
    · split at h
      · rename_i e1
        rw [Nat.eq_of_beq_eq_true e1, eqVV_ok v _ h]
      · cases h
    · cases h
  | .cons a b, x, h => by
    simp only [eqVV] at h
    split at h
    · split at h
      · rename_i e2
        rw [eqVV_ok a _ e2, eqVV_ok b _ h]
      · cases h
    · cases h
  | .bool _, x, h => by unfold eqVV at h; exact eqV_ok h
  | .int _ _, x, h => by unfold eqVV at h; exact eqV_ok h
  | .str _, x, h => by unfold eqVV at h; exact eqV_ok h
  | .ptr _ _, x, h => by unfold eqVV at h; exact eqV_ok h
  | .nilp, x, h => by unfold eqVV at h; exact eqV_ok h
  | .slice _ _ _ _, x, h => by unfold eqVV at h; exact eqV_ok h
  | .nils, x, h => by unfold eqVV at h; exact eqV_ok h
  | .emp, x, h => by unfold eqVV at h; exact eqV_ok h
  | .map _, x, h => by unfold eqVV at h; exact eqV_ok h
  | .nilm, x, h => by unfold eqVV at h; exact eqV_ok h
  | .nilf, x, h => by unfold eqVV at h; exact eqV_ok h
  | .nili, x, h => by unfold eqVV at h; exact eqV_ok h
  | .nil, x, h => by unfold eqVV at h; exact eqV_ok h
def eqL : List V → List V → Bool
  | [], x => (match x with | [] => true | _ :: _ => false)
  | a :: l, x => (match x with | [] => false | b :: k => (match eqVV a b with | true => eqL l k | false => false))
theorem eqL_ok : ∀ {l k : List V}, eqL l k = true → l = k
  | [], k, h => by cases k with
    | nil => rfl
    | cons a k => cases h
  | a :: l, k, h => by
    cases k with
    | nil => cases h
    | cons b k =>
      simp only [eqL] at h
      split at h
      · rename_i e; rw [eqVV_ok _ _ e, eqL_ok h]
      · cases h
def eqEs : List (V × V) → List (V × V) → Bool
  | [], x => (match x with | [] => true | _ :: _ => false)
  | a :: l, x => (match x with | [] => false | b :: k => (match eqVV a.1 b.1, eqVV a.2 b.2 with | true, true => eqEs l k | _, _ => false))
theorem eqEs_ok : ∀ {l k : List (V × V)}, eqEs l k = true → l = k
  | [], k, h => by cases k with
    | nil => rfl
    | cons a k => cases h
  | a :: l, k, h => by
    cases k with
    | nil => cases h
    | cons b k =>
      simp only [eqEs] at h
      split at h
      · rename_i e1 e2
        obtain ⟨a1, a2⟩ := a
        obtain ⟨b1, b2⟩ := b
        have e1 := eqVV_ok _ _ e1
        have e2 := eqVV_ok _ _ e2
        simp only at e1 e2
        rw [e1, e2, eqEs_ok h]
      · cases h
def eqWr : Wr → Wr → Bool
  | .ro, x => (match x with | .ro => true | .rw _ _ => false)
  | .rw t f, x => (match x with | .ro => false | .rw u g => (match Nat.beq t u with | true => (match f, g with | true, true => true | false, false => true | true, false => false | false, true => false) | false => false))
theorem eqWr_ok {a b : Wr} (h : eqWr a b = true) : a = b := by
  cases a with
  | ro => cases b with
    | ro => rfl
    | rw t f => cases h
  | rw t f => cases b with
    | ro => cases h
    | rw u g =>
      simp only [eqWr] at h
      split at h
      · rename_i e
        rw [Nat.eq_of_beq_eq_true e]
        cases f <;> cases g <;> first | rfl | cases h
      · cases h
def eqOb (a b : Ob) : Bool := match a with
  | .cells w l => (match b with | .cells u k => (match eqWr w u with | true => eqL l k | false => false) | _ => false)
  | .bytes l => (match b with | .bytes k => eqL l k | _ => false)
  | .map l => (match b with | .map k => eqEs l k | _ => false)
  | _ => false
theorem eqOb_ok {a b : Ob} (h : eqOb a b = true) : a = b := by
  unfold eqOb at h
  split at h
  · split at h
    · split at h
      · rename_i e; rw [eqWr_ok e, eqL_ok h]
      · cases h
    · cases h
  · split at h
    · rw [eqL_ok h]
    · cases h
  · split at h
    · rw [eqEs_ok h]
    · cases h
  · cases h
def eqT : T Ob → T Ob → Bool
  | .nil, x => (match x with | .nil => true | .node _ _ _ => false)
  | .node v l r, x => (match x with
    | .nil => false
    | .node u l' r' => (match v with
      | none => (match u with | none => (match eqT l l' with | true => eqT r r' | false => false) | some _ => false)
      | some a => (match u with | none => false | some b => (match eqOb a b with | true => (match eqT l l' with | true => eqT r r' | false => false) | false => false))))
theorem eqT_ok : ∀ {a b : T Ob}, eqT a b = true → a = b
  | .nil, b, h => by cases b with
    | nil => rfl
    | node v l r => cases h
  | .node v l r, b, h => by
    cases b with
    | nil => cases h
    | node u l' r' =>
      simp only [eqT] at h
      split at h
      · split at h
        · split at h
          · rename_i e; rw [eqT_ok e, eqT_ok h]
          · cases h
        · cases h
      · split at h
        · cases h
        · split at h
          · rename_i e1
            split at h
            · rename_i e; rw [eqOb_ok e1, eqT_ok e, eqT_ok h]
            · cases h
          · cases h
def eqHp (a b : Hp) : Bool := match a.next.eq b.next with | true => eqT a.t b.t | false => false
theorem eqHp_ok {a b : Hp} (h : eqHp a b = true) : a = b := by
  unfold eqHp at h
  split at h
  · rename_i e
    obtain ⟨t, n⟩ := a
    obtain ⟨t', n'⟩ := b
    have e := Pos.eq_iff.1 e
    have h := eqT_ok h
    simp only at e h
    rw [e, h]
  · cases h
/-- at these arguments, in this heap, the result is known -/
def memoF (F : Fun) (as : List V) (g : Hp) (r : R V) : Fun := fun args h => match h.next.eq g.next with
  | true => (match eqL args as with
    | true => (match eqHp h g with | true => r | false => F args h)
    | false => F args h)
  | false => F args h
theorem memoF_ok {f : FuncId} {F : Fun} {as : List V} {g : Hp} {r : R V} (hF : CallOk P G f F) (e : F as g = r) : CallOk P G f (memoF F as g r) := by
  intro args h r' h' M w cargs e0 hr ha
  refine hF args h r' h' M w cargs ?_ hr ha
  unfold memoF at e0
  split at e0
  · split at e0
    · rename_i ea
      split at e0
      · rename_i eh
        rw [eqL_ok ea, eqHp_ok eh, e]
        exact e0
      · exact e0
    · exact e0
  · exact e0
theorem memo_miss {F : Fun} {as args : List V} {g h : Hp} {r : R V} (e : h.next.eq g.next = false) : memoF F as g r args h = F args h := by
  unfold memoF
  rw [e]
end
end Go.Vm
