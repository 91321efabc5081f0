/- Part of the value machine, or of a walk by it: lemmas that the claim's last text uses. No conditions. -/
import Derived.Test.YtgnfkfmhjgbhhaaVmB
import Derived.ProofKit
import Derived.OpenShut
import Derived.ShutString
import Derived.ChangeOld
import Derived.Below
set_option linter.unusedVariables false
set_option linter.unusedSimpArgs false
set_option linter.unnecessarySimpa false
/- The value machine, part 28: the same runs, with each guard looked at once (for printing, and for walks by hand). -/
namespace Go.Vm
noncomputable section
variable {P : Program} {G N : Nat} {keep : Nat → Bool} {e : FuncId → Option Fun} {ops : Array Oper}

def memN (t : Nat) : List Nat → Bool
  | [] => false
  | u :: l => (match Nat.beq t u with | true => true | false => memN t l)
theorem memN_iff {t : Nat} : ∀ {l : List Nat}, memN t l = true ↔ t ∈ l
  | [] => by simp [memN]
  | u :: l => by
    simp only [memN]
    split
    · rename_i h; simp [Nat.eq_of_beq_eq_true h]
    · rename_i h; simp [memN_iff, Nat.ne_of_beq_eq_false h]
def dropU (d : Option Nat) (us : List Nat) : List Nat := match d with
  | none => us
  | some d => us.filter fun u => not (Nat.beq u d)
def addU (d : Option Nat) (us : List Nat) : List Nat := match d with
  | none => us
  | some d => d :: us
/-- what stands on a test -/
def ifB (v : V) (t f : Out) : Out := match v with | .bool b => (match b with | true => t | false => f) | _ => .bad
def bndO (r : R V) (k : V → Hp → Out) : Out := match r with | .ok v h => k v h | .bad => .bad
def gtO (o : Option V) (k : V → Out) : Out := match o with | some v => k v | none => .bad
def thenO (o : Out) (k : F → Hp → Out) : Out := match o with
  | .nor fr h => k fr h
  | .ret fr h => .ret fr h
  | .ex i fr h => .ex i fr h
  | .bad => .bad

def regG (P : Program) (keep : Nat → Bool) (e : FuncId → Option Fun) (ops : Array Oper) : List Oper → List Nat → Env → F → Hp → Out
  | [], _, _, fr, h => .nor fr h
  | o :: l, us, env, fr, h => (match o.guard with
    | none => opK P keep e o env fr h (regG P keep e ops l (dropU o.dst us))
    | some (j, b) => (match (ops[j]?).bind (·.dst) with
      | none => .bad
      | some d => (match memN d us with
        | true => dstK keep o.dst V.undef env fr fun env fr => regG P keep e ops l (addU o.dst us) env fr h
        | false => tmpK d env fr fun v env => (match b with
          | true => ifB v (opK P keep e o ((d, .bool true) :: env) fr h (regG P keep e ops l (dropU o.dst us))) (dstK keep o.dst V.undef ((d, .bool false) :: env) fr fun env fr => regG P keep e ops l (addU o.dst us) env fr h)
          | false => ifB v (dstK keep o.dst V.undef ((d, .bool true) :: env) fr fun env fr => regG P keep e ops l (addU o.dst us) env fr h) (opK P keep e o ((d, .bool false) :: env) fr h (regG P keep e ops l (dropU o.dst us)))))))

/-- a run that tells at most what another one tells -/
def LeO (a b : Out) : Prop := a ≠ .bad → b = a
theorem LeO.refl (a : Out) : LeO a a := fun _ => rfl
theorem LeO.bad (b : Out) : LeO .bad b := fun h => absurd rfl h
theorem LeO.trans {a b c : Out} (h : LeO a b) (g : LeO b c) : LeO a c := fun ha => by have := h ha; rw [← this]; exact g (by rw [this]; exact ha)
def EqE (env env' : Env) : Prop := ∀ t, findE t env = findE t env'
theorem EqE.refl (env : Env) : EqE env env := fun _ => rfl
theorem EqE.cons {env env' : Env} (h : EqE env env') (d : Nat) (v : V) : EqE ((d, v) :: env) ((d, v) :: env') := fun t => by rw [findE_cons, findE_cons, h t]
theorem EqE.known {env env' : Env} (h : EqE env env') {d : Nat} {v : V} (hd : findE d env' = some v) : EqE ((d, v) :: env) env' := fun t => by
  rw [findE_cons]
  split
  · rename_i e; subst e; exact hd.symm
  · exact h t
def UsOk (us : List Nat) (env : Env) : Prop := ∀ d ∈ us, findE d env = some V.undef

theorem tmpK_le {t : Nat} {env env' : Env} {fr : F} {k k' : V → Env → Out} (he : EqE env env') (hk : ∀ v env1 env1', EqE env1 env1' → (∀ u x, findE u env = some x → findE u env1 = some x) → findE t env1 = some v → LeO (k v env1) (k' v env1')) : LeO (tmpK t env fr k) (tmpK t env' fr k') := by
  unfold tmpK
  rw [← he t]
  cases hf : findE t env with
  | some v => exact hk v env env' he (fun _ _ h => h) hf
  | none =>
    simp only [gt]
    cases fr.get (Pos.of t) with
    | none => exact LeO.bad _
    | some v =>
      refine hk v _ _ (he.cons t v) (fun u x hx => ?_) (by rw [findE_cons, if_pos rfl])
      rw [findE_cons, if_neg (fun e => by subst e; rw [hf] at hx; cases hx)]
      exact hx
theorem opdK_le {x : Operand} {env env' : Env} {fr : F} {k k' : V → Env → Out} (he : EqE env env') (hk : ∀ v env1 env1', EqE env1 env1' → (∀ u x, findE u env = some x → findE u env1 = some x) → LeO (k v env1) (k' v env1')) : LeO (opdK x env fr k) (opdK x env' fr k') := by
  cases x with
  | tmp t => exact tmpK_le he fun v a b h g _ => hk v a b h g
  | const c =>
    simp only [opdK]
    split
    · exact hk _ _ _ he (fun _ _ h => h)
    · exact LeO.bad _
  | global g => exact hk _ _ _ he (fun _ _ h => h)
  | func f => exact hk _ _ _ he (fun _ _ h => h)
theorem opdsK_le {fr : F} : ∀ {l : List Operand} {env env' : Env} {k k' : List V → Env → Out} (_ : EqE env env') (_ : ∀ vs env1 env1', EqE env1 env1' → (∀ u x, findE u env = some x → findE u env1 = some x) → LeO (k vs env1) (k' vs env1')), LeO (opdsK l env fr k) (opdsK l env' fr k')
  | [], _, _, _, _, he, hk => hk [] _ _ he (fun _ _ h => h)
  | _ :: l, _, _, _, _, he, hk => opdK_le he fun v _ _ h g => opdsK_le (l := l) h fun vs _ _ h' g' => hk (v :: vs) _ _ h' fun u x hx => g' u x (g u x hx)
theorem dstK_le {d : Option Nat} {v : V} {env env' : Env} {fr : F} {k k' : Env → F → Out} (he : EqE env env') (hk : ∀ env1 env1' fr, EqE env1 env1' → (∀ u x, d ≠ some u → findE u env = some x → findE u env1 = some x) → (∀ x, d = some x → findE x env1 = some v) → LeO (k env1 fr) (k' env1' fr)) : LeO (dstK keep d v env fr k) (dstK keep d v env' fr k') := by
  cases d with
  | none => exact hk _ _ _ he (fun _ _ _ h => h) (fun x h => by cases h)
  | some d =>
    have h1 : ∀ u x, some d ≠ some u → findE u env = some x → findE u ((d, v) :: env) = some x := fun u x hu hx => by rw [findE_cons, if_neg (fun e => hu (by rw [e]))]; exact hx
    have h2 : ∀ x, some d = some x → findE x ((d, v) :: env) = some v := fun x hx => by cases hx; rw [findE_cons, if_pos rfl]
    simp only [dstK, keepK]
    split <;> exact hk _ _ _ (he.cons d v) h1 h2
theorem opK_le {o : Oper} {env env' : Env} {fr : F} {h : Hp} {k k' : Env → F → Hp → Out} (he : EqE env env') (hk : ∀ env1 env1' fr h, EqE env1 env1' → (∀ u x, o.dst ≠ some u → findE u env = some x → findE u env1 = some x) → LeO (k env1 fr h) (k' env1' fr h)) : LeO (opK P keep e o env fr h k) (opK P keep e o env' fr h k') := by
  refine opdsK_le he fun vs env1 env1' h1 g1 => ?_
  unfold bnd
  cases opSem P e o.op vs h with
  | bad => exact LeO.bad _
  | ok v h2 => exact dstK_le h1 fun a b fr h3 g3 _ => hk a b fr h2 h3 fun u x hu hx => g3 u x hu (g1 u x hx)
theorem UsOk.drop {us : List Nat} {env env1 : Env} {d : Option Nat} (hu : UsOk us env) (h : ∀ u x, d ≠ some u → findE u env = some x → findE u env1 = some x) : UsOk (dropU d us) env1 := by
  intro t ht
  cases d with
  | none => exact h t _ (by simp) (hu t ht)
  | some d =>
    simp only [dropU, List.mem_filter] at ht
    have hne : t ≠ d := by
      intro e; subst e
      have := ht.2
      simp [Nat.beq_refl] at this
    exact h t _ (fun e => hne (by cases e; rfl)) (hu t ht.1)
theorem UsOk.add {us : List Nat} {env env1 : Env} {d : Option Nat} (hu : UsOk us env) (h : ∀ u x, d ≠ some u → findE u env = some x → findE u env1 = some x) (h2 : ∀ x, d = some x → findE x env1 = some V.undef) : UsOk (addU d us) env1 := by
  intro t ht
  cases d with
  | none => exact h t _ (by simp) (hu t ht)
  | some d =>
    by_cases e : t = d
    · subst e; exact h2 t rfl
    · simp only [addU, List.mem_cons, e, false_or] at ht
      exact h t _ (fun e' => e (by cases e'; rfl)) (hu t ht)
theorem UsOk.known {us : List Nat} {env : Env} {d : Nat} {v : V} (hu : UsOk us env) (hd : findE d env = some v) : UsOk us ((d, v) :: env) := fun t ht => by
  rw [findE_cons]
  split
  · rename_i e; subst e; rw [← hd]; exact hu t ht
  · exact hu t ht
theorem regG_le : ∀ (l : List Oper) (us : List Nat) (env env' : Env) (fr : F) (h : Hp), UsOk us env → EqE env env' → LeO (regG P keep e ops l us env fr h) (regK P keep e ops l env' fr h)
  | [], _, _, _, _, _, _, _ => LeO.refl _
  | o :: l, us, env, env', fr, h, hu, he => by
    have yes : ∀ env1 env1' : Env, UsOk us env1 → EqE env1 env1' → LeO (opK P keep e o env1 fr h (regG P keep e ops l (dropU o.dst us))) (opK P keep e o env1' fr h (regK P keep e ops l)) := fun env1 env1' hu1 he1 =>
      opK_le he1 fun a b fr h h3 g3 => regG_le l _ a b fr h (hu1.drop g3) h3
    have no : ∀ env1 env1' : Env, UsOk us env1 → EqE env1 env1' → LeO (dstK keep o.dst V.undef env1 fr fun env fr => regG P keep e ops l (addU o.dst us) env fr h) (dstK keep o.dst V.undef env1' fr fun env fr => regK P keep e ops l env fr h) := fun env1 env1' hu1 he1 =>
      dstK_le he1 fun a b fr h3 g3 g4 => regG_le l _ a b fr h (hu1.add g3 g4) h3
    rcases hg : o.guard with _ | ⟨j, b⟩
    · simp only [regG, regK, hg]
      exact yes env env' hu he
    · simp only [regG, regK, hg]
      cases hd : (ops[j]?).bind (·.dst) with
      | none => exact LeO.bad _
      | some d =>
        simp only []
        cases hm : memN d us with
        | true =>
          have hd' : findE d env' = some (.tuple .nil) := by rw [← he d]; exact hu d (memN_iff.1 hm)
          simp only [tmpK, hd', guardK]
          exact no env env' hu he
        | false =>
          refine tmpK_le he fun v env1 env1' h1 g1 hv => ?_
          have hu1 : UsOk us env1 := fun t ht => g1 _ _ (hu t ht)
          have hv' : findE d env1' = some v := by rw [← h1 d]; exact hv
          cases v <;> first | (cases b <;> exact LeO.bad _) | skip
          rename_i c
          cases c <;> cases b
          · exact yes _ _ (hu1.known hv) (h1.known hv')
          · exact no _ _ (hu1.known hv) (h1.known hv')
          · exact no _ _ (hu1.known hv) (h1.known hv')
          · exact yes _ _ (hu1.known hv) (h1.known hv')

/-! ### regions whose order is open -/
def drawG (P : Program) (e : FuncId → Option Fun) (ops : Array Oper) (sb : Nat → Nat → Bool) (fr : F) (k : Env → Hp → Out) : Plan → List Nat → Env → Hp → Hp → List Hp → Pos → Out
  | [], _, env, _, cur, _, _ => k env cur
  | (i, c) :: l, us, env, base, cur, past, q => (match ops[i]? with
    | none => .bad
    | some o => (match o.guard with
      | none => opdsD ops sb fr i env o.op.operands.toList fun vs => clsD P e o c vs base cur past q fun v base cur past q => dstD o.dst v env fun env => drawG P e ops sb fr k l us env base cur past q
      | some (g, b) => (match (ops[g]?).bind (·.dst) with
        | none => .bad
        | some d => (match memN d us with
          | true => skipD c base cur past q fun base cur past q => dstD o.dst V.undef env fun env => drawG P e ops sb fr k l (addU o.dst us) env base cur past q
          | false => (match findE d env with
            | none => .bad
            | some v => (match b with
              | true => ifB v
                (opdsD ops sb fr i ((d, .bool true) :: env) o.op.operands.toList fun vs => clsD P e o c vs base cur past q fun v base cur past q => dstD o.dst v ((d, .bool true) :: env) fun env => drawG P e ops sb fr k l us env base cur past q)
                (skipD c base cur past q fun base cur past q => dstD o.dst V.undef ((d, .bool false) :: env) fun env => drawG P e ops sb fr k l (addU o.dst us) env base cur past q)
              | false => ifB v
                (skipD c base cur past q fun base cur past q => dstD o.dst V.undef ((d, .bool true) :: env) fun env => drawG P e ops sb fr k l (addU o.dst us) env base cur past q)
                (opdsD ops sb fr i ((d, .bool false) :: env) o.op.operands.toList fun vs => clsD P e o c vs base cur past q fun v base cur past q => dstD o.dst v ((d, .bool false) :: env) fun env => drawG P e ops sb fr k l us env base cur past q)))))))
variable {sb : Nat → Nat → Bool} {fr : F}
theorem opdD_le {i : Nat} {env env' : Env} {x : Operand} {k k' : V → Out} (he : EqE env env') (hk : ∀ v, LeO (k v) (k' v)) : LeO (opdD ops sb fr i env x k) (opdD ops sb fr i env' x k') := by
  cases x with
  | tmp t =>
    simp only [opdD, ← he t]
    split
    · cases findE t env with
      | none => exact LeO.bad _
      | some v => exact hk v
    · simp only [gt]
      cases fr.get (Pos.of t) with
      | none => exact LeO.bad _
      | some v => exact hk v
  | const c =>
    simp only [opdD]
    split
    · exact hk _
    · exact LeO.bad _
  | global g => exact hk _
  | func f => exact hk _
theorem opdsD_le {i : Nat} {env env' : Env} (he : EqE env env') : ∀ {l : List Operand} {k k' : List V → Out}, (∀ vs, LeO (k vs) (k' vs)) → LeO (opdsD ops sb fr i env l k) (opdsD ops sb fr i env' l k')
  | [], _, _, hk => hk []
  | _ :: l, _, _, hk => opdD_le he fun v => opdsD_le he (l := l) fun vs => hk (v :: vs)
theorem dstD_le {d : Option Nat} {v : V} {env env' : Env} {k k' : Env → Out} (he : EqE env env') (hk : ∀ env1 env1', EqE env1 env1' → (∀ u x, findE u env = some x → findE u env1 = some x) → (∀ x, d = some x → findE x env1 = some v) → LeO (k env1) (k' env1')) : LeO (dstD d v env k) (dstD d v env' k') := by
  cases d with
  | none => exact hk _ _ he (fun _ _ h => h) (fun x h => by cases h)
  | some d =>
    simp only [dstD, ← he d]
    cases hd : findE d env with
    | some _ => exact LeO.bad _
    | none => exact hk _ _ (he.cons d v) (fun u x hx => by rw [findE_cons, if_neg (fun e => by subst e; rw [hd] at hx; cases hx)]; exact hx) (fun x hx => by cases hx; rw [findE_cons, if_pos rfl])
theorem chk_le {m : Hp → R V} {v : V} {k k' : Out} (hk : LeO k k') : ∀ (n : Nat) (l : List Hp), LeO (chk m v k n l) (chk m v k' n l)
  | 0, [] => hk
  | 0, _ :: _ => hk
  | n + 1, [] => hk
  | n + 1, g :: l => by
    unfold chk
    split
    · split
      · exact chk_le hk n l
      · exact LeO.bad _
    · exact LeO.bad _
theorem clsD_le {o : Oper} {c : Cls} {vs : List V} {base cur : Hp} {past : List Hp} {q : Pos} {k k' : V → Hp → Hp → List Hp → Pos → Out} (hk : ∀ v base cur past q, LeO (k v base cur past q) (k' v base cur past q)) : LeO (clsD P e o c vs base cur past q k) (clsD P e o c vs base cur past q k') := by
  cases c with
  | pure =>
    simp only [clsD]
    split
    · simp only [bnd]; split
      · exact hk _ _ _ _ _
      · exact LeO.bad _
    · exact LeO.bad _
  | read n =>
    simp only [clsD]
    split
    · simp only [bnd]; split
      · exact chk_le (hk _ _ _ _ _) _ _
      · exact LeO.bad _
    · exact LeO.bad _
  | alloc =>
    simp only [clsD]
    split
    · exact hk _ _ _ _ _
    · exact LeO.bad _
  | heavy =>
    simp only [clsD, bnd]
    split
    · exact hk _ _ _ _ _
    · exact LeO.bad _
  | own a =>
    simp only [clsD]
    split
    · split
      · unfold ownO
        split
        · split
          · simp only [bnd]; split
            · exact hk _ _ _ _ _
            · exact LeO.bad _
          · exact LeO.bad _
        · exact LeO.bad _
      · exact LeO.bad _
    · exact LeO.bad _
theorem skipD_le {c : Cls} {base cur : Hp} {past : List Hp} {q : Pos} {k k' : Hp → Hp → List Hp → Pos → Out} (hk : ∀ base cur past q, LeO (k base cur past q) (k' base cur past q)) : LeO (skipD c base cur past q k) (skipD c base cur past q k') := by
  cases c <;> exact hk _ _ _ _
theorem drawG_le {k k' : Env → Hp → Out} (hk : ∀ env env' h, EqE env env' → LeO (k env h) (k' env' h)) : ∀ (l : Plan) (us : List Nat) (env env' : Env) (base cur : Hp) (past : List Hp) (q : Pos), UsOk us env → EqE env env' → LeO (drawG P e ops sb fr k l us env base cur past q) (drawK P e ops sb fr k' l env' base cur past q)
  | [], _, env, env', _, cur, _, _, _, he => hk env env' cur he
  | (i, c) :: l, us, env, env', base, cur, past, q, hu, he => by
    cases ho : ops[i]? with
    | none => simp only [drawG, ho]; exact LeO.bad _
    | some o =>
      have yes : ∀ env1 env1' : Env, UsOk us env1 → EqE env1 env1' → LeO (opdsD ops sb fr i env1 o.op.operands.toList fun vs => clsD P e o c vs base cur past q fun v base cur past q => dstD o.dst v env1 fun env => drawG P e ops sb fr k l us env base cur past q)
          (opdsD ops sb fr i env1' o.op.operands.toList fun vs => clsD P e o c vs base cur past q fun v base cur past q => dstD o.dst v env1' fun env => drawK P e ops sb fr k' l env base cur past q) := fun env1 env1' hu1 he1 =>
        opdsD_le he1 fun vs => clsD_le fun v base cur past q => dstD_le he1 fun a b h3 g3 _ => drawG_le hk l us a b base cur past q (fun t ht => g3 _ _ (hu1 t ht)) h3
      have no : ∀ env1 env1' : Env, UsOk us env1 → EqE env1 env1' → LeO (skipD c base cur past q fun base cur past q => dstD o.dst V.undef env1 fun env => drawG P e ops sb fr k l (addU o.dst us) env base cur past q)
          (skipD c base cur past q fun base cur past q => dstD o.dst V.undef env1' fun env => drawK P e ops sb fr k' l env base cur past q) := fun env1 env1' hu1 he1 =>
        skipD_le fun base cur past q => dstD_le he1 fun a b h3 g3 g4 => drawG_le hk l _ a b base cur past q (hu1.add (fun u x _ => g3 u x) g4) h3
      rcases hg : o.guard with _ | ⟨g, b⟩
      · simp only [drawG, drawK, ho, hg]
        exact yes env env' hu he
      · simp only [drawG, drawK, ho, hg]
        cases hd : (ops[g]?).bind (·.dst) with
        | none => exact LeO.bad _
        | some d =>
          simp only []
          cases hm : memN d us with
          | true =>
            have hd' : findE d env' = some (.tuple .nil) := by rw [← he d]; exact hu d (memN_iff.1 hm)
            simp only [hd', grdD]
            exact no env env' hu he
          | false =>
            simp only [← he d]
            cases hf : findE d env with
            | none => exact LeO.bad _
            | some v =>
              have hf' : findE d env' = some v := by rw [← he d]; exact hf
              cases v <;> first | (cases b <;> exact LeO.bad _) | skip
              rename_i t
              cases t <;> cases b
              · exact yes _ _ (hu.known hf) (he.known hf')
              · exact no _ _ (hu.known hf) (he.known hf')
              · exact no _ _ (hu.known hf) (he.known hf')
              · exact yes _ _ (hu.known hf) (he.known hf')
theorem finK_eq {E E' : Env} (he : EqE E E') {k : F → Out} : ∀ (l : List Oper) (fr : F), finK keep E k l fr = finK keep E' k l fr
  | [], _ => rfl
  | o :: l, fr => by
    simp only [finK]
    split
    · exact finK_eq he l fr
    · rename_i d _
      split
      · exact finK_eq he l fr
      · rw [← he d]
        split
        · exact finK_eq he l _
        · rfl
def drawX (P : Program) (keep : Nat → Bool) (e : FuncId → Option Fun) (ops : Array Oper) (sb : Nat → Nat → Bool) (plan : Plan) (fr : F) (h : Hp) : Out :=
  drawG P e ops sb fr (fun E h => finK keep E (fun fr => .nor fr h) ops.toList fr) plan [] [] ⟨h.t, bump (allocs plan) h.next⟩ ⟨h.t, bump (allocs plan) h.next⟩ [] h.next
theorem drawX_le {plan : Plan} (fr : F) (h : Hp) : LeO (drawX P keep e ops sb plan fr h) (drawD P keep e ops sb plan fr h) :=
  drawG_le (fun env env' h he => by rw [finK_eq he]; exact LeO.refl _) plan [] [] [] _ _ _ _ (fun _ h => by cases h) (EqE.refl _)

/-! ### code, functions -/
theorem SoundC.le {c : Code} {D D' : F → Hp → Out} (hd : SoundC P keep G N c D) (h : ∀ fr g, LeO (D' fr g) (D fr g)) : SoundC P keep G N c D' := by
  intro fr g M a w hne at_
  have e := h fr g hne
  rw [← e]
  exact hd fr g M a w (by rw [e]; exact hne) at_
def cndX (c : Operand) (a b : F → Hp → Out) (fr : F) (h : Hp) : Out := opdK c [] fr fun v _ => ifB v (a fr h) (b fr h)
theorem cndX_eq (c : Operand) (a b : F → Hp → Out) : cndX c a b = cndO c a b := by
  funext fr h
  rfl
def denX (P : Program) (G N : Nat) (keep : Nat → Bool) (e : FuncId → Option Fun) (pl : Plans) (lf : Nat) : Code → F → Hp → Out
  | .skip => .nor
  | .label _ => .nor
  | .region id ops d => (match d with
    | false => regG P keep e ops ops.toList [] []
    | true => (match pl id with
      | some (ms, plan) => (match planOk ops ms G N plan with | true => drawX P keep e ops (sbOf ms) plan | false => fun _ _ => .bad)
      | none => fun _ _ => .bad))
  | .seq a b => seqO (denX P G N keep e pl lf a) (denX P G N keep e pl lf b)
  | .cond c a b => cndX c (denX P G N keep e pl lf a) (denX P G N keep e pl lf b)
  | .block id b => blkO id (denX P G N keep e pl lf b)
  | .loop b => loopO (denX P G N keep e pl lf b) lf
  | .exit id => .ex id
  | .ret => .ret
  | .scope b => denX P G N keep e pl lf b
  | _ => fun _ _ => .bad
theorem denX_ok (hm : P.follows .mixedOrders = true) (hE : ∀ f F, e f = some F → CallOk P G f F) (pl : Plans) (lf : Nat) : (c : Code) → codeOk G N c = true → SoundC P keep G N c (denX P G N keep e pl lf c)
  | .skip, _ => .nor fun _ _ _ h => wp_skip h
  | .label _, _ => .nor fun _ _ _ h => wp_label h
  | .region id ops d, hc => by
    cases d with
    | true =>
      simp only [denX]
      split
      · split
        · rename_i hp; exact (SoundC.draw hm hE (planOk_ok hp)).le fun fr h => drawX_le fr h
        · exact .bad
      · exact .bad
    | false =>
      have := SoundC.region (keep := keep) (id := id) hE (fun o ho => by simp only [codeOk, List.all_eq_true] at hc; exact hc o ho)
      exact this.le fun fr h => regG_le _ [] [] [] fr h (fun _ h => by cases h) (EqE.refl _)
  | .seq a b, hc => by simp only [codeOk, Bool.and_eq_true] at hc; exact .seq (denX_ok hm hE pl lf a hc.1) (denX_ok hm hE pl lf b hc.2)
  | .cond c a b, hc => by
    simp only [codeOk, Bool.and_eq_true] at hc
    simp only [denX, cndX_eq]
    refine .cond (fun g hg => ?_) (denX_ok hm hE pl lf a hc.2.1) (denX_ok hm hE pl lf b hc.2.2)
    subst hg
    simpa [Nat.blt_eq] using hc.1
  | .block id b, hc => .block (denX_ok hm hE pl lf b hc)
  | .loop b, hc => .loop (denX_ok hm hE pl lf b hc) lf
  | .exit id, _ => fun fr h M a w _ at_ => wp_exit ⟨rfl, M, at_, .refl at_.rel⟩
  | .ret, _ => fun fr h M a w _ at_ => wp_ret ⟨M, at_, .refl at_.rel⟩
  | .scope b, hc => .scope (denX_ok hm hE pl lf b hc)
  | .goto _, _ => .bad
  | .rangeFunc .., _ => .bad
  | .refuse _, _ => .bad
def funX (P : Program) (G : Nat) (keep : Nat → Bool) (e : FuncId → Option Fun) (pl : Plans) (lf : Nat) (fn : Func) : Fun := match fn.body with
  | some c => funO P keep fn.ntmps fn.results.toList (denX P G fn.ntmps keep e pl lf c)
  | none => fun _ _ => .bad
theorem funX_ok (hm : P.follows .mixedOrders = true) {f : FuncId} {fn : Func} {pl : Plans} {lf : Nat} (hE : ∀ f F, e f = some F → CallOk P G f F) (hf : P.funcs[f]? = some fn) (ho : funOk G fn = true) : CallOk P G f (funX P G keep e pl lf fn) := by
  unfold funOk at ho
  simp only [Bool.and_eq_true, Bool.not_eq_true'] at ho
  unfold funX
  cases hb : fn.body with
  | none => rw [hb] at ho; cases ho.1
  | some c =>
    rw [hb] at ho
    exact call_ok hf ho.2 hb (denX_ok hm hE pl lf c ho.1)
end
end Go.Vm

/- The value machine, part 29: words for walks by hand: equations that simp goes by, slices, rows of one's own, maps of integers, loops. -/
namespace Go.Vm
noncomputable section
variable {P : Program} {G N : Nat}

/-! ### what the printer writes -/
def oEmp (h : Hp) : R V := .ok (.slice h.next 0 0 (.kn 0)) (h.new (.cells true []))
def oBinAgg (op : BinOp) (offs : List (TypeDesc × Nat)) (x y : V) (h : Hp) : R V := match x, y with
  | .agg xs, .agg ys => (match eqAgg offs xs.list ys.list with
    | some b => (match op with | .eql => okBool b h | .neq => okBool (not b) h | _ => .bad)
    | none => .bad)
  | _, _ => .bad
def alcO (a : A) (k : Ob → (Pos → V) → Out) : Out := match a with | some (ob, mk) => k ob mk | none => .bad
def bumpH (n : Nat) (h : Hp) : Hp := ⟨h.t, bump n h.next⟩
def lf : Nat := 10000000000000000000
theorem lf_eq : lf = 10000000000000000000 := rfl
theorem callsOk_0 : ∀ f F, (fun _ => none : FuncId → Option Fun) f = some F → CallOk P G f F := fun _ _ h => by cases h
theorem callsOk_cons {g : FuncId} {F : Fun} {e : FuncId → Option Fun} (h1 : CallOk P G g F) (h2 : ∀ f F, e f = some F → CallOk P G f F) : ∀ f F', (fun f => match Nat.beq f g with | true => some F | false => e f : FuncId → Option Fun) f = some F' → CallOk P G f F' := by
  intro f F' h
  simp only [] at h
  split at h
  · rename_i hb; cases h; rw [Nat.eq_of_beq_eq_true hb]; exact h1
  · exact h2 f F' h

def codeOf (fn : Func) : Code := fn.body.getD .skip
theorem funX_eq {fn : Func} {keep : Nat → Bool} {e : FuncId → Option Fun} {pl : Plans} {l : Nat} {D : F → Hp → Out} (hb : fn.body = some (codeOf fn)) (hD : denX P G fn.ntmps keep e pl l (codeOf fn) = D) {args : List V} (hn : Nat.ble args.length fn.ntmps = true) (h : Hp) :
    funX P G keep e pl l fn args h = outR P fn.results.toList (D (initF keep 0 args .nil) h) := by
  unfold funX
  rw [hb]
  simp only [funO, hn, hD]

/-! ### runs -/
@[congr] theorem thenO_congr {o o' : Out} (e : o = o') (k : F → Hp → Out) : thenO o k = thenO o' k := by rw [e]
@[congr] theorem gtO_congr {o o' : Option V} (e : o = o') (k : V → Out) : gtO o k = gtO o' k := by rw [e]
@[congr] theorem bndO_congr {o o' : R V} (e : o = o') (k : V → Hp → Out) : bndO o k = bndO o' k := by rw [e]
@[congr] theorem alcO_congr {o o' : A} (e : o = o') (k : Ob → (Pos → V) → Out) : alcO o k = alcO o' k := by rw [e]
@[congr] theorem ifB_congr {o o' : V} (e : o = o') (a b : Out) : ifB o a b = ifB o' a b := by rw [e]
theorem seqO_eq (a b : F → Hp → Out) (fr : F) (h : Hp) : seqO a b fr h = thenO (a fr h) b := (rfl)
theorem thenO_nor (fr : F) (h : Hp) (k : F → Hp → Out) : thenO (.nor fr h) k = k fr h := (rfl)
theorem thenO_ret (fr : F) (h : Hp) (k : F → Hp → Out) : thenO (.ret fr h) k = .ret fr h := (rfl)
theorem thenO_ex (i : Nat) (fr : F) (h : Hp) (k : F → Hp → Out) : thenO (.ex i fr h) k = .ex i fr h := (rfl)
theorem gtO_some (v : V) (k : V → Out) : gtO (some v) k = k v := (rfl)
theorem bndO_ok (v : V) (h : Hp) (k : V → Hp → Out) : bndO (.ok v h) k = k v h := (rfl)
theorem alcO_some (ob : Ob) (mk : Pos → V) (k : Ob → (Pos → V) → Out) : alcO (some (ob, mk)) k = k ob mk := (rfl)
theorem ifB_true (a b : Out) : ifB (.bool true) a b = a := (rfl)
theorem ifB_false (a b : Out) : ifB (.bool false) a b = b := (rfl)
theorem ifB_pos {p : Prop} [Decidable p] (hp : p) (a b : Out) : ifB (.bool (decide p)) a b = a := by rw [decide_eq_true hp]; rfl
theorem ifB_neg {p : Prop} [Decidable p] (hp : ¬ p) (a b : Out) : ifB (.bool (decide p)) a b = b := by rw [decide_eq_false hp]; rfl
theorem cndX_tmp (t : Nat) (a b : F → Hp → Out) (fr : F) (h : Hp) : cndX (.tmp t) a b fr h = gtO (fr.get (Pos.of t)) fun v => ifB v (a fr h) (b fr h) := (rfl)
def blkX (id : Nat) (o : Out) : Out := match o with
  | .ex i fr h => (match Nat.beq i id with | true => .nor fr h | false => .ex i fr h)
  | o => o
theorem blkO_eq (id : Nat) (b : F → Hp → Out) (fr : F) (h : Hp) : blkO id b fr h = blkX id (b fr h) := by unfold blkO blkX; cases b fr h <;> rfl
theorem blkX_nor (id : Nat) (fr : F) (h : Hp) : blkX id (.nor fr h) = .nor fr h := (rfl)
theorem blkX_ret (id : Nat) (fr : F) (h : Hp) : blkX id (.ret fr h) = .ret fr h := (rfl)
theorem blkX_ex (id i : Nat) (fr : F) (h : Hp) : blkX id (.ex i fr h) = if i = id then .nor fr h else .ex i fr h := by
  unfold blkX
  split
  · rename_i hc; cases hc
    split
    · rename_i hb; rw [if_pos (Nat.eq_of_beq_eq_true hb)]
    · rename_i hb; rw [if_neg (Nat.ne_of_beq_eq_false hb)]
  · rename_i hn; exact absurd rfl (hn _ _ _)
theorem get_set_of (m n : Nat) (x : Option V) (fr : F) : (T.set x (Pos.of m) fr).get (Pos.of n) = if n = m then x else fr.get (Pos.of n) := by
  by_cases e : n = m
  · subst e; rw [if_pos rfl, T.get_set_self]
  · rw [if_neg e, T.get_set_ne _ (fun h => e (Pos.of_inj h))]
theorem chk_zero {m : Hp → R V} {v : V} {k : Out} {l : List Hp} : chk m v k 0 l = k := by cases l <;> rfl
theorem chk_nil {m : Hp → R V} {v : V} {k : Out} {n : Nat} : chk m v k n [] = k := by cases n <;> rfl

/-! ### loops -/
def Oc (A B : F → Hp → Prop) : Out → Prop
  | .nor fr h => A fr h
  | .ret fr h => B fr h
  | _ => False
def LS (id : Nat) (C A B : F → Hp → Prop) : Out → Prop
  | .nor fr h => C fr h
  | .ex i fr h => i = id ∧ A fr h
  | .ret fr h => B fr h
  | .bad => False
theorem loop_rule {id : Nat} {body : F → Hp → Out} (I : Nat → F → Hp → Prop) {A B : F → Hp → Prop} {n : Nat} {fr : F} {h : Hp} (hn : n < lf) (hI : I n fr h)
    (step : ∀ m fr h, I m fr h → LS id (fun fr h => ∃ m', m' < m ∧ I m' fr h) A B (body fr h)) : Oc A B (blkX id (loopO body lf fr h)) := by
  have key : ∀ l n fr h, n < l → I n fr h → Oc A B (blkX id (loopO body l fr h)) := by
    intro l
    induction l with
    | zero => intro n fr h hn; omega
    | succ l ih =>
      intro n fr h hn hI
      have hs := step n fr h hI
      rw [loopO_succ]
      cases e : body fr h with
      | bad => rw [e] at hs; exact hs.elim
      | nor fr1 h1 =>
        rw [e] at hs
        obtain ⟨m', hm, hI'⟩ := hs
        exact ih m' fr1 h1 (by omega) hI'
      | ret fr1 h1 => rw [e] at hs; exact hs
      | ex i fr1 h1 =>
        rw [e] at hs
        obtain ⟨rfl, hA⟩ := hs
        simp only [blkX_ex, if_true]
        exact hA
  exact key lf n fr h hn hI
theorem Oc.then {A B : F → Hp → Prop} {o : Out} {k : F → Hp → Out} {Q : Out → Prop} (ho : Oc A B o) (hA : ∀ fr h, A fr h → Q (k fr h)) (hB : ∀ fr h, B fr h → Q (.ret fr h)) : Q (thenO o k) := by
  cases o with
  | nor fr h => exact hA fr h ho
  | ret fr h => exact hB fr h ho
  | ex i fr h => exact ho.elim
  | bad => exact ho.elim
theorem Oc.mono {A B A' B' : F → Hp → Prop} {o : Out} (ho : Oc A B o) (hA : ∀ fr h, A fr h → A' fr h) (hB : ∀ fr h, B fr h → B' fr h) : Oc A' B' o := by
  cases o with
  | nor fr h => exact hA fr h ho
  | ret fr h => exact hB fr h ho
  | ex i fr h => exact ho.elim
  | bad => exact ho.elim
/-- what a function tells -/
def Tells (P : Program) (rs : List ResultVar) (Q : V → Hp → Prop) (o : Out) : Prop := ∃ r h, outR P rs o = .ok r h ∧ Q r h
theorem Tells.ret {rs : List ResultVar} {Q : V → Hp → Prop} {fr : F} {h : Hp} {r : V} {h' : Hp} (e : resK P rs fr h (fun vs => tupR vs h) = .ok r h') (hq : Q r h') : Tells P rs Q (.ret fr h) := ⟨r, h', e, hq⟩
theorem Tells.nor {rs : List ResultVar} {Q : V → Hp → Prop} {fr : F} {h : Hp} {r : V} {h' : Hp} (e : resK P rs fr h (fun vs => tupR vs h) = .ok r h') (hq : Q r h') : Tells P rs Q (.nor fr h) := ⟨r, h', e, hq⟩

/-! ### operations on integers -/
theorem intEq_dec (a b : Int) : intEq a b = decide (a = b) := by rw [intEq_eq]; rfl
theorem intLe_dec (a b : Int) : intLe a b = decide (a ≤ b) := intLe_eq a b
variable {h : Hp} {k : IntKind} {a b : Int} {c : EqC}
theorem kix_self (k : IntKind) : Nat.beq (kix k) (kix k) = true := by cases k <;> rfl
theorem wrap64_in {n : Int} (h1 : -9223372036854775808 ≤ n) (h2 : n < 9223372036854775808) : wrap64 n = n := by rw [wrap64_eq]; exact wrap_in h1 h2
theorem oBin_add (h1 : -9223372036854775808 ≤ a + b) (h2 : a + b < 9223372036854775808) : oBin .add c (.int .i64 a) (.int .i64 b) h = .ok (.int .i64 (a + b)) h := by
  show okInt .i64 (wrap64 (a + b)) h = _
  rw [wrap64_in h1 h2, okInt_eq]
theorem oBin_sub (h1 : -9223372036854775808 ≤ a - b) (h2 : a - b < 9223372036854775808) : oBin .sub c (.int .i64 a) (.int .i64 b) h = .ok (.int .i64 (a - b)) h := by
  show okInt .i64 (wrap64 (a - b)) h = _
  rw [wrap64_in h1 h2, okInt_eq]
theorem oBin_rem (h0 : b ≠ 0) : oBin .rem c (.int .i64 a) (.int .i64 b) h = .ok (.int .i64 (a.tmod b)) h := by
  show (match intEq b 0 with | true => R.bad | false => okInt .i64 (Int.tmod a b) h) = _
  rw [intEq_dec, decide_eq_false h0, okInt_eq]
theorem oBin_eql : oBin .eql c (.int k a) (.int k b) h = .ok (.bool (decide (a = b))) h := by
  show (match Nat.beq (kix k) (kix k) with | true => okBool (intEq a b) h | false => .bad) = _
  rw [kix_self, okBool_eq, intEq_dec]
theorem oBin_neq : oBin .neq c (.int k a) (.int k b) h = .ok (.bool (decide (a ≠ b))) h := by
  show (match Nat.beq (kix k) (kix k) with | true => okBool (not (intEq a b)) h | false => .bad) = _
  rw [kix_self, okBool_eq, intEq_dec]; simp
theorem oBin_lss : oBin .lss c (.int k a) (.int k b) h = .ok (.bool (decide (a < b))) h := by
  show (match Nat.beq (kix k) (kix k) with | true => okBool (not (intLe b a)) h | false => .bad) = _
  rw [kix_self, okBool_eq, intLe_dec, show (!decide (b ≤ a)) = decide (a < b) from by rw [Bool.eq_iff_iff]; simp]
theorem oBin_leq : oBin .leq c (.int k a) (.int k b) h = .ok (.bool (decide (a ≤ b))) h := by
  show (match Nat.beq (kix k) (kix k) with | true => okBool (intLe a b) h | false => .bad) = _
  rw [kix_self, okBool_eq, intLe_dec]
theorem oBin_gtr : oBin .gtr c (.int k a) (.int k b) h = .ok (.bool (decide (a > b))) h := by
  show (match Nat.beq (kix k) (kix k) with | true => okBool (not (intLe a b)) h | false => .bad) = _
  rw [kix_self, okBool_eq, intLe_dec, show (!decide (a ≤ b)) = decide (a > b) from by rw [Bool.eq_iff_iff]; simp]
theorem oBin_geq : oBin .geq c (.int k a) (.int k b) h = .ok (.bool (decide (a ≥ b))) h := by
  show (match Nat.beq (kix k) (kix k) with | true => okBool (intLe b a) h | false => .bad) = _
  rw [kix_self, okBool_eq, intLe_dec]
theorem oUn_not (q : Bool) : oUn .not (.bool q) h = .ok (.bool (!q)) h := by show okBool (not q) h = _; rw [okBool_eq]
theorem oPick_true (x y : V) : oPick (.bool true) x y h = .ok x h := (rfl)
theorem oPick_false (x y : V) : oPick (.bool false) x y h = .ok y h := (rfl)
theorem oExtract_0 (x : V) (l : V) : oExtract 0 (.tuple (.cons x l)) h = .ok x h := (rfl)
theorem oExtract_1 (x y : V) (l : V) : oExtract 1 (.tuple (.cons x (.cons y l))) h = .ok y h := (rfl)
theorem oExtract_2 (x y z : V) (l : V) : oExtract 2 (.tuple (.cons x (.cons y (.cons z l)))) h = .ok z h := (rfl)
theorem oMin_eq : oMin (.int k a) (.int k b) h = .ok (.int k (min a b)) h := by
  show (match intLe a b with | true => R.ok (V.int k a) h | false => .ok (.int k b) h) = _
  rw [intLe_dec]
  by_cases hl : a ≤ b
  · rw [decide_eq_true hl, Int.min_eq_left hl]
  · rw [decide_eq_false hl, Int.min_eq_right (by omega)]
theorem oMax_eq : oMax (.int k a) (.int k b) h = .ok (.int k (max a b)) h := by
  show (match intLe b a with | true => R.ok (V.int k a) h | false => .ok (.int k b) h) = _
  rw [intLe_dec]
  by_cases hl : b ≤ a
  · rw [decide_eq_true hl, Int.max_eq_left hl]
  · rw [decide_eq_false hl, Int.max_eq_right (by omega)]
theorem oConvInt_i64 (h1 : -9223372036854775808 ≤ a) (h2 : a < 9223372036854775808) : oConvInt .i64 (.int k a) h = .ok (.int .i64 a) h := by
  show okInt .i64 (wrap64 a) h = _
  rw [wrap64_in h1 h2, okInt_eq]
theorem oBuildSlice_11 (z y : V) (j k : IntKind) (a b : Int) : oBuildSlice [z, y] 2 [(0, 1, .int j a), (1, 1, .int k b)] h = .ok (.slice h.next 0 2 (.kn 2)) (h.new (.cells true [.int j a, .int k b])) := (rfl)
theorem eqAgg_2 (d d' : TypeDesc) (a b a' b' : Int) (k k' : IntKind) (hd : keyFits d (.int k a) = true) (hd' : keyFits d' (.int k' b) = true) : eqAgg [(d, 0), (d', 1)] [.int k a, .int k' b] [.int k a', .int k' b'] = some (decide (a = a' ∧ b = b')) := by
  have h1 : keyEq (.int k a) (.int k a') = some (decide (a = a')) := by
    show (match Nat.beq (kix k) (kix k) with | true => some (intEq a a') | false => none) = _
    rw [kix_self, intEq_dec]
  have h2 : keyEq (.int k' b) (.int k' b') = some (decide (b = b')) := by
    show (match Nat.beq (kix k') (kix k') with | true => some (intEq b b') | false => none) = _
    rw [kix_self, intEq_dec]
  simp only [eqAgg, nthV_eq, List.getElem?_cons_zero, List.getElem?_cons_succ, hd, hd', h1, h2]
  by_cases e : a = a' <;> by_cases e' : b = b' <;> simp [e, e']
theorem oBinAgg_eql2 (a b a' b' : Int) : oBinAgg .eql [((.int .i64), 0), ((.int .i64), 1)] (.agg (.cons (.int .i64 a) (.cons (.int .i64 b) .nil))) (.agg (.cons (.int .i64 a') (.cons (.int .i64 b') .nil))) h = .ok (.bool (decide (a = a' ∧ b = b'))) h := by
  show (match eqAgg _ [.int .i64 a, .int .i64 b] [.int .i64 a', .int .i64 b'] with | some q => (match BinOp.eql with | .eql => okBool q h | .neq => okBool (not q) h | _ => .bad) | none => .bad) = _
  rw [eqAgg_2 _ _ _ _ _ _ _ _ rfl rfl]
  exact okBool_eq _ _
theorem oBinAgg_neq2 (a b a' b' : Int) : oBinAgg .neq [((.int .i64), 0), ((.int .i64), 1)] (.agg (.cons (.int .i64 a) (.cons (.int .i64 b) .nil))) (.agg (.cons (.int .i64 a') (.cons (.int .i64 b') .nil))) h = .ok (.bool (decide ¬ (a = a' ∧ b = b'))) h := by
  show (match eqAgg _ [.int .i64 a, .int .i64 b] [.int .i64 a', .int .i64 b'] with | some q => (match BinOp.neq with | .eql => okBool q h | .neq => okBool (not q) h | _ => .bad) | none => .bad) = _
  rw [eqAgg_2 _ _ _ _ _ _ _ _ rfl rfl]
  refine (okBool_eq _ _).trans ?_
  congr 2
  by_cases e : a = a' ∧ b = b' <;> simp [e]
theorem oFieldAddr_eq (i : Pos) (o off : Nat) : oFieldAddr off (.ptr i o) h = .ok (.ptr i (o + off)) h := by show forceNat (o + off) (fun q => R.ok (V.ptr i q) h) = _; rw [forceNat_eq]

/-! ### heaps -/
theorem pos_ne {i j : Pos} (h : i.nat ≠ j.nat) : i ≠ j := fun e => h (by rw [e])
theorem pos_nat_ne {i j : Pos} (h : i ≠ j) : i.nat ≠ j.nat := fun e => h (Pos.nat_inj e)
theorem put_self (h : Hp) (i : Pos) (o : Option Ob) : (h.put i o).get i = o := h.get_put_self i o
theorem put_ne (h : Hp) {i j : Pos} (hn : j.nat ≠ i.nat) (o : Option Ob) : (h.put i o).get j = h.get j := h.get_put_ne (pos_ne hn) o
theorem new_self (h : Hp) (o : Ob) : (h.new o).get h.next = some o := h.get_new_self o
theorem new_ne (h : Hp) {j : Pos} (hn : j.nat ≠ h.next.nat) (o : Ob) : (h.new o).get j = h.get j := h.get_new_ne (pos_ne hn) o
theorem put_next (h : Hp) (i : Pos) (o : Option Ob) : (h.put i o).next = h.next := (rfl)
theorem new_next (h : Hp) (o : Ob) : (h.new o).next = h.next.succ := (rfl)
theorem new_next_nat (h : Hp) (o : Ob) : (h.new o).next.nat = h.next.nat + 1 := Pos.nat_succ _
theorem bumpH_zero (h : Hp) : bumpH 0 h = h := (rfl)
theorem bumpH_get (n : Nat) (h : Hp) (i : Pos) : (bumpH n h).get i = h.get i := rfl
theorem bumpH_next (n : Nat) (h : Hp) : (bumpH n h).next.nat = h.next.nat + n := bump_nat n _

/-- below place b nothing has turned -/
structure Fr (b : Nat) (h h' : Hp) : Prop where
  next : h.next.nat ≤ h'.next.nat
  get : ∀ j, j.nat < b → h'.get j = h.get j
theorem Fr.refl (b : Nat) (h : Hp) : Fr b h h := ⟨Nat.le_refl _, fun _ _ => rfl⟩
theorem Fr.trans {b : Nat} {h g f : Hp} (x : Fr b h g) (y : Fr b g f) : Fr b h f := ⟨Nat.le_trans x.next y.next, fun j hj => (y.get j hj).trans (x.get j hj)⟩
theorem Fr.le {b b' : Nat} {h h' : Hp} (x : Fr b h h') (hb : b' ≤ b) : Fr b' h h' := ⟨x.next, fun j hj => x.get j (Nat.lt_of_lt_of_le hj hb)⟩
theorem Fr.new {b : Nat} {h : Hp} (o : Ob) (hb : b ≤ h.next.nat) : Fr b h (h.new o) := ⟨by rw [new_next_nat]; omega, fun j hj => new_ne h (by omega) o⟩
theorem Fr.put {b : Nat} {h : Hp} (i : Pos) (o : Option Ob) (hb : b ≤ i.nat) : Fr b h (h.put i o) := ⟨Nat.le_refl _, fun j hj => put_ne h (by omega) o⟩
theorem Fr.bumpH (b n : Nat) (h : Hp) : Fr b h (bumpH n h) := ⟨by rw [bumpH_next]; omega, fun _ _ => rfl⟩

/-! ### slices that are read -/
/-- A slice of n elements of size sz, whose cells read cs; its object lies below place b. -/
structure Sl (b : Nat) (h : Hp) (sz : Nat) (v : V) (n : Nat) (cs : List V) : Prop where
  len : cs.length = n * sz
  is : (n = 0 ∧ (v = .nils ∨ v = .emp)) ∨ ∃ i o c wr all, v = .slice i o n c ∧ i.nat < b ∧ (h.get i).bind Ob.row = some (wr, all) ∧ ∀ k, k < n * sz → all[o + k]? = cs[k]?
variable {b' n sz bt : Nat} {h' : Hp} {v x : V} {cs : List V}
theorem Sl.fr {b : Nat} (s : Sl b h sz v n cs) (f : Fr b h h') : Sl b h' sz v n cs := ⟨s.len, s.is.imp id fun ⟨i, o, c, wr, all, e, hi, hg, ha⟩ => ⟨i, o, c, wr, all, e, hi, by rw [f.get i hi]; exact hg, ha⟩⟩
theorem Sl.le {b : Nat} (s : Sl b h sz v n cs) (hb : b ≤ b') : Sl b' h sz v n cs := ⟨s.len, s.is.imp id fun ⟨i, o, c, wr, all, e, hi, r⟩ => ⟨i, o, c, wr, all, e, by omega, r⟩⟩
theorem hCells_row {i : Pos} {wr : Bool} {all : List V} (hg : (h.get i).bind Ob.row = some (wr, all)) (f : Bool → List V → R V) : hCells h i f = f wr all := by
  unfold hCells
  cases e : h.get i with
  | none => rw [e] at hg; cases hg
  | some o =>
    rw [e] at hg
    cases o <;> cases hg <;> rfl
theorem oLoad1_row {i : Pos} {wr : Bool} {all : List V} {q : Nat} {x : V} (hg : (h.get i).bind Ob.row = some (wr, all)) (hx : all[q]? = some x) : oLoad1 (.ptr i q) h = .ok x h := by
  show hCells h i _ = _
  rw [hCells_row hg, nthV_eq, hx]
theorem Sl.length {b : Nat} (s : Sl b h sz v n cs) : oLenK 2 v h' = .ok (.int .i64 n) h' := by
  rcases s.is with ⟨rfl, rfl | rfl⟩ | ⟨i, o, c, wr, all, rfl, _⟩ <;> rfl
theorem oIdxS_slice {i : Pos} {o m : Nat} {c : Cap} {j : IntKind} (hm : m < n) : oIdxS sz (.slice i o n c) (.int j (m : Int)) h = .ok (.ptr i (o + m * sz)) h := by
  show (match Nat.blt m n with | true => forceNat (o + m * sz) fun q => R.ok (V.ptr i q) h | false => .bad) = _
  have : Nat.blt m n = true := by simpa [Nat.blt_eq] using hm
  rw [this, forceNat_eq]
/-- an element: its place, and its cells -/
theorem Sl.at {b : Nat} (s : Sl b h sz v n cs) {m : Nat} (hm : m < n) : ∃ i q, (∀ h', oIdxS sz v (.int .i64 (m : Int)) h' = .ok (.ptr i q) h') ∧ i.nat < b ∧ ∀ h', h'.get i = h.get i → ∀ f x, f < sz → cs[m * sz + f]? = some x → oLoad1 (.ptr i (q + f)) h' = .ok x h' := by
  rcases s.is with ⟨rfl, _⟩ | ⟨i, o, c, wr, all, rfl, hi, hg, ha⟩
  · omega
  · refine ⟨i, o + m * sz, fun h' => oIdxS_slice hm, hi, fun h' he f x hf hx => ?_⟩
    refine oLoad1_row (by rw [he]; exact hg) ?_
    have hlt : m * sz + f < n * sz := by
      have h1 : m * sz + sz ≤ n * sz := by rw [← Nat.succ_mul]; exact Nat.mul_le_mul_right sz hm
      omega
    rw [← hx, ← ha _ hlt, Nat.add_assoc]
theorem Sl.at1 {b : Nat} (s : Sl b h 1 v n cs) {m : Nat} (hm : m < n) : ∃ i q x, cs[m]? = some x ∧ (∀ h', oIdxS 1 v (.int .i64 (m : Int)) h' = .ok (.ptr i q) h') ∧ i.nat < b ∧ ∀ h', h'.get i = h.get i → oLoad1 (.ptr i q) h' = .ok x h' := by
  obtain ⟨i, q, h1, h2, h3⟩ := s.at hm
  have hl := s.len
  have hx : cs[m]? = some cs[m] := List.getElem?_eq_getElem (by omega)
  exact ⟨i, q, _, hx, h1, h2, fun h' he => h3 h' he 0 _ (by omega) (by simp only [Nat.mul_one, Nat.add_zero]; exact hx)⟩

theorem takeV_of {all cs : List V} {q m : Nat} (hk : ∀ f, f < m → all[q + f]? = cs[f]?) (hl : cs.length = m) : takeV m (dropV q all) = some cs := by
  have hm : ∀ f, f < m → (all.drop q)[f]? = cs[f]? := fun f hf => by rw [List.getElem?_drop]; exact hk f hf
  have hle : m ≤ (all.drop q).length := by
    rcases Nat.lt_or_ge (all.drop q).length m with hlt | hge
    · have := hm _ hlt
      rw [List.getElem?_eq_none (Nat.le_refl _), List.getElem?_eq_getElem (by omega)] at this
      cases this
    · exact hge
  rw [dropV_eq, takeV_some hle]
  congr 1
  apply List.ext_getElem?
  intro f
  rw [List.getElem?_take]
  split
  · rename_i hf; exact hm f hf
  · rename_i hf; rw [List.getElem?_eq_none (by omega)]
/-- an element that is loaded whole -/
theorem Sl.atN {b : Nat} (s : Sl b h sz v n cs) {m : Nat} (hm : m < n) : ∃ i q, (∀ h', oIdxS sz v (.int .i64 (m : Int)) h' = .ok (.ptr i q) h') ∧ i.nat < b ∧
    (∀ h', h'.get i = h.get i → ∀ f x, f < sz → cs[m * sz + f]? = some x → oLoad1 (.ptr i (q + f)) h' = .ok x h') ∧
    ∀ h', h'.get i = h.get i → oLoadN sz (.ptr i q) h' = .ok (.agg (V.ofList ((cs.drop (m * sz)).take sz))) h' := by
  rcases s.is with ⟨rfl, _⟩ | ⟨i, o, c, wr, all, rfl, hi, hg, ha⟩
  · omega
  · have hle : m * sz + sz ≤ n * sz := by rw [← Nat.succ_mul]; exact Nat.mul_le_mul_right sz hm
    refine ⟨i, o + m * sz, fun h' => oIdxS_slice hm, hi, fun h' he f x hf hx => ?_, fun h' he => ?_⟩
    · refine oLoad1_row (by rw [he]; exact hg) ?_
      rw [← hx, ← ha _ (by omega), Nat.add_assoc]
    · show hCells h' i _ = _
      rw [hCells_row (by rw [he]; exact hg)]
      have : takeV sz (dropV (o + m * sz) all) = some ((cs.drop (m * sz)).take sz) := takeV_of (fun f hf => by
        rw [List.getElem?_take, if_pos hf, List.getElem?_drop, ← ha _ (by omega), Nat.add_assoc]) (by rw [List.length_take, List.length_drop, s.len]; omega)
      rw [this]

/-! ### rows of one's own -/
/-- A slice of one's own (from place b on), that may grow. -/
structure Own (b : Nat) (h : Hp) (sz : Nat) (v : V) (n : Nat) (cs : List V) : Prop where
  len : cs.length = n * sz
  is : (n = 0 ∧ v = .nils) ∨ ∃ i, v = .slice i 0 n (.un sz) ∧ b ≤ i.nat ∧ i.nat < h.next.nat ∧ h.get i = some (.cells true cs)
theorem Own.nil (b : Nat) (h : Hp) (sz : Nat) : Own b h sz .nils 0 [] := ⟨by simp, .inl ⟨rfl, rfl⟩⟩
theorem Own.sl {b : Nat} (s : Own b h sz v n cs) : Sl h.next.nat h sz v n cs := ⟨s.len, by
  rcases s.is with ⟨rfl, rfl⟩ | ⟨i, rfl, _, hi, hg⟩
  · exact .inl ⟨rfl, .inl rfl⟩
  · exact .inr ⟨i, 0, _, true, cs, rfl, hi, by rw [hg]; rfl, fun k _ => by rw [Nat.zero_add]⟩⟩
theorem Own.keep {b : Nat} (s : Own b h sz v n cs) (hn : h.next.nat ≤ h'.next.nat) (hg : ∀ j, b ≤ j.nat → j.nat < h.next.nat → h'.get j = h.get j) : Own b h' sz v n cs := ⟨s.len, by
  rcases s.is with ⟨rfl, rfl⟩ | ⟨i, rfl, hb, hi, hq⟩
  · exact .inl ⟨rfl, rfl⟩
  · exact .inr ⟨i, rfl, hb, by omega, by rw [hg i hb hi]; exact hq⟩⟩
theorem Own.fr {b c : Nat} (s : Own b h sz v n cs) (f : Fr c h h') (hc : h.next.nat ≤ c) : Own b h' sz v n cs := s.keep f.next fun j _ hj => f.get j (by omega)
theorem takeV_all (l : List V) : takeV l.length l = some l := by rw [takeV_some (Nat.le_refl _)]; simp
theorem append_own {b : Nat} {new : List V} (s : Own b h sz v n cs) (hb : b ≤ h.next.nat) (hnew : new.length = sz) (hs : (n + 1) * bt ≤ 140737488355328) :
    ∃ v' h', oAppend sz bt v (.slice h.next 0 1 (.kn 1)) (h.new (.cells true new)) = .ok v' h' ∧ Own b h' sz v' (n + 1) (cs ++ new) ∧ Fr b h h' := by
  have hfr : ∀ (C : List V) (g : Hp), freshRow sz bt (n + 1) C (h.new (.cells true new)) g = .ok (.slice h.next.succ 0 (n + 1) (.un sz)) (g.new (.cells true C)) := fun C g => by
    unfold freshRow
    rw [show Nat.ble (Nat.mul (n + 1) bt) 140737488355328 = true from Nat.ble_eq_true_of_le hs]
    rfl
  have hsrc : ∀ f : Nat → List V → R V, srcCells sz (.slice h.next 0 1 (.kn 1)) (h.new (.cells true new)) f = f 1 new := fun f => by
    show hCells _ _ _ = _
    rw [hCells_row (wr := true) (all := new) (by rw [new_self]; rfl), dropV_eq, List.drop_zero, Nat.one_mul, ← hnew, takeV_all]
  have hl : (cs ++ new).length = (n + 1) * sz := by rw [List.length_append, s.len, hnew, Nat.succ_mul]
  unfold oAppend
  rw [hsrc]
  simp only []
  rcases s.is with ⟨rfl, rfl⟩ | ⟨i, rfl, hbi, hi, hg⟩
  · have hc : cs = [] := List.length_eq_zero_iff.1 (by rw [s.len]; simp)
    subst hc
    refine ⟨_, _, hfr new _, ⟨hl, .inr ⟨h.next.succ, rfl, ?_, ?_, new_self _ _⟩⟩, ?_⟩
    · rw [Pos.nat_succ]; omega
    · rw [new_next_nat, new_next_nat, Pos.nat_succ]; omega
    · exact (Fr.new _ hb).trans (Fr.new _ (by rw [new_next_nat]; omega))
  · simp only []
    rw [hCells_row (wr := true) (all := cs) (by rw [new_ne h (by omega), hg]; rfl)]
    simp only [forceNat_eq]
    have h1 : takeV (n * sz) (dropV 0 cs) = some cs := by rw [dropV_eq, List.drop_zero, ← s.len, takeV_all]
    have h2 : dropV (n * sz) (dropV 0 cs) = [] := by rw [dropV_eq, dropV_eq, List.drop_zero, ← s.len, List.drop_length]
    rw [h1, h2, Nat.beq_refl]
    simp only []
    refine ⟨_, _, hfr _ _, ⟨hl, .inr ⟨h.next.succ, rfl, ?_, ?_, ?_⟩⟩, ?_⟩
    · rw [Pos.nat_succ]; omega
    · rw [new_next_nat, put_next, new_next_nat, Pos.nat_succ]; omega
    · exact new_self _ _
    · exact ((Fr.new _ hb).trans (Fr.put i none hbi)).trans (Fr.new _ (by rw [put_next, new_next_nat]; omega))
/-- the object of a slice -/
def idOf : V → Option Pos
  | .slice i _ _ _ => some i
  | _ => none
def Sep (v u : V) : Prop := ∀ i, idOf v = some i → idOf u ≠ some i
theorem Sep.nil (u : V) : Sep .nils u := fun i h => by cases h
theorem Sep.nil' (v : V) : Sep v .nils := fun i _ h => by cases h
theorem Sep.symm {u v : V} (h : Sep v u) : Sep u v := fun i a b => h i b a
/-- ... beside others of one's own -/
theorem append_own2 {b : Nat} {new : List V} (s : Own b h sz v n cs) (hb : b ≤ h.next.nat) (hnew : new.length = sz) (hs : (n + 1) * bt ≤ 140737488355328) :
    ∃ v' h', oAppend sz bt v (.slice h.next 0 1 (.kn 1)) (h.new (.cells true new)) = .ok v' h' ∧ Own b h' sz v' (n + 1) (cs ++ new) ∧ Fr b h h' ∧
      ∀ sz' u n' cs', Own b h sz' u n' cs' → Sep v u → Own b h' sz' u n' cs' ∧ Sep v' u := by
  obtain ⟨v', h', e, o, f⟩ := append_own (bt := bt) s hb hnew hs
  refine ⟨v', h', e, o, f, fun sz' u n' cs' ou hu => ?_⟩
  have hfr : ∀ (C : List V) (g : Hp), freshRow sz bt (n + 1) C (h.new (.cells true new)) g = .ok (.slice h.next.succ 0 (n + 1) (.un sz)) (g.new (.cells true C)) := fun C g => by
    unfold freshRow
    rw [show Nat.ble (Nat.mul (n + 1) bt) 140737488355328 = true from Nat.ble_eq_true_of_le hs]
    rfl
  have hsrc : ∀ f : Nat → List V → R V, srcCells sz (.slice h.next 0 1 (.kn 1)) (h.new (.cells true new)) f = f 1 new := fun f => by
    show hCells _ _ _ = _
    rw [hCells_row (wr := true) (all := new) (by rw [new_self]; rfl), dropV_eq, List.drop_zero, Nat.one_mul, ← hnew, takeV_all]
  have key : (∃ g : Hp, h' = g ∧ v' = .slice h.next.succ 0 (n + 1) (.un sz) ∧ h.next.nat ≤ g.next.nat ∧ ∀ j : Pos, j.nat < h.next.nat → idOf v ≠ some j → g.get j = h.get j) := by
    unfold oAppend at e
    rw [hsrc] at e
    simp only [] at e
    rcases s.is with ⟨rfl, rfl⟩ | ⟨i, rfl, hbi, hi, hg⟩
    · simp only [hfr] at e
      cases e
      exact ⟨_, rfl, rfl, by rw [new_next_nat, new_next_nat]; omega, fun j hj _ => by rw [new_ne _ (by rw [new_next_nat]; omega), new_ne _ (by omega)]⟩
    · simp only [] at e
      rw [hCells_row (wr := true) (all := cs) (by rw [new_ne h (by omega), hg]; rfl)] at e
      have h1 : takeV (n * sz) (dropV 0 cs) = some cs := by rw [dropV_eq, List.drop_zero, ← s.len, takeV_all]
      have h2 : dropV (n * sz) (dropV 0 cs) = [] := by rw [dropV_eq, dropV_eq, List.drop_zero, ← s.len, List.drop_length]
      simp only [forceNat_eq, h1, h2, Nat.beq_refl, hfr] at e
      cases e
      refine ⟨_, rfl, rfl, by rw [new_next_nat, put_next, new_next_nat]; omega, fun j hj hne => ?_⟩
      rw [new_ne _ (by rw [put_next, new_next_nat]; omega), put_ne _ (fun e => hne (by rw [Pos.nat_inj e]; rfl)), new_ne _ (by omega)]
  obtain ⟨g, rfl, rfl, hn, hg⟩ := key
  refine ⟨⟨ou.len, ?_⟩, fun i hi hi' => ?_⟩
  · rcases ou.is with ⟨h1, h2⟩ | ⟨i, rfl, hb', hi, hq⟩
    · exact .inl ⟨h1, h2⟩
    · exact .inr ⟨i, rfl, hb', by omega, by rw [hg i hi (fun e => hu i e rfl)]; exact hq⟩
  · rcases ou.is with ⟨h1, rfl⟩ | ⟨j, rfl, hb', hj, hq⟩
    · cases hi'
    · cases hi; cases hi'
      rw [Pos.nat_succ] at hj; omega
theorem oBuildSlice_1 (z : V) (k : IntKind) (a : Int) : oBuildSlice [z] 1 [(0, 1, .int k a)] h = .ok (.slice h.next 0 1 (.kn 1)) (h.new (.cells true [.int k a])) := (rfl)
theorem oBuild_2 (z y : V) (j k : IntKind) (a b : Int) : oBuild [z, y] [(0, 1, .int j a), (1, 1, .int k b)] h = .ok (.agg (.cons (.int j a) (.cons (.int k b) .nil))) h := (rfl)
theorem oBuildSlice_2 (z y u w : V) : oBuildSlice [z, y] 1 [(0, 2, .agg (.cons u (.cons w .nil)))] h = .ok (.slice h.next 0 1 (.kn 1)) (h.new (.cells true [u, w])) := (rfl)

theorem Sl.src {b m : Nat} {new : List V} (t : Sl b h sz x m new) (f : Nat → List V → R V) : srcCells sz x h f = f m new := by
  rcases t.is with ⟨rfl, hx⟩ | ⟨i, o, c, wr, all, rfl, hi, hg, ha⟩
  · have : new = [] := List.length_eq_zero_iff.1 (by rw [t.len]; simp)
    subst this
    rcases hx with rfl | rfl <;> rfl
  · show hCells h i _ = _
    rw [hCells_row hg, takeV_of ha t.len]
theorem freshRow_eq {n : Nat} (hs : n * bt ≤ 140737488355328) (C : List V) (g f : Hp) : freshRow sz bt n C g f = .ok (.slice g.next 0 n (.un sz)) (f.new (.cells true C)) := by
  unfold freshRow
  rw [show Nat.ble (Nat.mul n bt) 140737488355328 = true from Nat.ble_eq_true_of_le hs]
/-- more than one element is appended to a row of one's own -/
theorem append_own_sl {b c m : Nat} {new : List V} (s : Own b h sz v n cs) (t : Sl c h sz x m new) (hb : b ≤ h.next.nat) (hs : (n + m) * bt ≤ 140737488355328) :
    ∃ v' h', oAppend sz bt v x h = .ok v' h' ∧ Own b h' sz v' (n + m) (cs ++ new) ∧ Fr b h h' := by
  have hl : (cs ++ new).length = (n + m) * sz := by rw [List.length_append, s.len, t.len, Nat.add_mul]
  unfold oAppend
  rw [t.src]
  cases m with
  | zero =>
    have : new = [] := List.length_eq_zero_iff.1 (by rw [t.len]; simp)
    subst this
    simp only []
    rcases s.is with ⟨rfl, rfl⟩ | ⟨i, rfl, hbi, hi, hg⟩
    · have hc : cs = [] := List.length_eq_zero_iff.1 (by rw [s.len]; simp)
      subst hc
      exact ⟨_, _, rfl, Own.nil _ _ _, Fr.refl _ _⟩
    · exact ⟨_, _, rfl, by simpa using s, Fr.refl _ _⟩
  | succ m =>
    simp only []
    rcases s.is with ⟨rfl, rfl⟩ | ⟨i, rfl, hbi, hi, hg⟩
    · have hc : cs = [] := List.length_eq_zero_iff.1 (by rw [s.len]; simp)
      subst hc
      simp only []
      rw [freshRow_eq (by rw [Nat.zero_add] at hs; exact hs)]
      refine ⟨_, _, rfl, ⟨hl, .inr ⟨h.next, by rw [Nat.zero_add], hb, by rw [new_next_nat]; omega, new_self _ _⟩⟩, Fr.new _ hb⟩
    · simp only []
      rw [hCells_row (wr := true) (all := cs) (by rw [hg]; rfl)]
      have h1 : takeV (n * sz) (dropV 0 cs) = some cs := by rw [dropV_eq, List.drop_zero, ← s.len, takeV_all]
      have h2 : dropV (n * sz) (dropV 0 cs) = [] := by rw [dropV_eq, dropV_eq, List.drop_zero, ← s.len, List.drop_length]
      simp only [forceNat_eq, h1, h2, Nat.beq_refl, freshRow_eq hs]
      refine ⟨_, _, rfl, ⟨hl, .inr ⟨h.next, rfl, hb, by rw [new_next_nat, put_next]; omega, new_self (h.put i none) _⟩⟩, (Fr.put i none hbi).trans (Fr.new _ (by rw [put_next]; exact hb))⟩
/-- the first append to an empty literal -/
theorem append_kn0 {c m : Nat} {new cs0 : List V} {p : Pos} {wr : Bool} (t : Sl c h sz x m new) (hm : 0 < m) (hg : (h.get p).bind Ob.row = some (wr, cs0)) (hs : m * bt ≤ 140737488355328) :
    oAppend sz bt (.slice p 0 0 (.kn 0)) x h = .ok (.slice h.next 0 m (.un sz)) (h.new (.cells true new)) := by
  unfold oAppend
  rw [t.src]
  cases m with
  | zero => omega
  | succ m =>
    simp only []
    rw [hCells_row hg]
    simp only [forceNat_eq, Nat.zero_add, Nat.zero_mul]
    have h0 : Nat.ble (m + 1) 0 = false := rfl
    have h1 : takeV 0 (dropV 0 cs0) = some [] := by rw [takeV_some (Nat.zero_le _)]; rfl
    rw [h0, h1]
    simp only [List.nil_append, freshRow_eq hs]
theorem chk_one {m : Hp → R V} {v : V} {k : Out} {g g' : Hp} (hm : m g = .ok v g') (hv : eqV v v = true) : chk m v k 1 [g] = k := by
  show (match m g with | .ok v' _ => (match eqV v v' with | true => chk m v k 0 [] | false => .bad) | .bad => .bad) = _
  rw [hm]
  simp only [hv]
  exact chk_zero
theorem eqV_int (k : IntKind) (a : Int) : eqV (.int k a) (.int k a) = true := by
  show (match Nat.beq (kix k) (kix k) with | true => intEq a a | false => false) = true
  rw [kix_self, intEq_dec]; simp
theorem aBuildSlice_1 (z : V) (k : IntKind) (a : Int) : aBuildSlice [z] 1 [(0, 1, .int k a)] = some (.cells true [.int k a], fun p => .slice p 0 1 (.kn 1)) := (rfl)
theorem oBuildSlice_22 (z y z' y' u w u' w' : V) : oBuildSlice [z, y, z', y'] 2 [(0, 2, .agg (.cons u (.cons w .nil))), (2, 2, .agg (.cons u' (.cons w' .nil)))] h = .ok (.slice h.next 0 2 (.kn 2)) (h.new (.cells true [u, w, u', w'])) := (rfl)

/-! ### maps whose keys are integers -/
structure MapI (es : List (V × V)) (f : Int → Option V) : Prop where
  keys : ∀ p ∈ es, ∃ a, p.1 = .int .i64 a
  find : ∀ a, findM (.int .i64 a) es = some (f a)
theorem MapI.nil : MapI [] fun _ => none := ⟨fun _ h => (by cases h), fun _ => rfl⟩
theorem keyEq_int (a b : Int) : keyEq (.int .i64 a) (.int .i64 b) = some (decide (a = b)) := by
  show (match Nat.beq 3 3 with | true => some (intEq a b) | false => none) = _
  rw [intEq_dec]
theorem putM_int (a : Int) (y : V) : ∀ {es : List (V × V)} {f : Int → Option V}, MapI es f → ∃ es', putM (.int .i64 a) y es = some es' ∧ MapI es' fun z => if z = a then some y else f z
  | [], f, m => by
    refine ⟨_, rfl, fun p hp => ?_, fun z => ?_⟩
    · rw [List.mem_singleton.1 hp]; exact ⟨a, rfl⟩
    · have h0 : some none = some (f z) := m.find z
      simp only [findM, keyEq_int]
      by_cases e : z = a
      · simp [e]
      · simp only [e, decide_false, if_false]; exact h0
  | (k, v) :: l, f, m => by
    obtain ⟨b, rfl⟩ : ∃ b, k = .int .i64 b := m.keys (k, v) (by simp)
    have hfind : ∀ z, (if z = b then some (some v) else findM (.int .i64 z) l) = some (f z) := fun z => by
      have := m.find z
      simp only [findM, keyEq_int] at this
      by_cases e : z = b
      · simpa [e] using this
      · simpa [e] using this
    by_cases e : a = b
    · subst e
      refine ⟨(.int .i64 a, y) :: l, by simp [putM, keyEq_int], fun p hp => ?_, fun z => ?_⟩
      · rcases List.mem_cons.1 hp with rfl | hp
        · exact ⟨a, rfl⟩
        · exact m.keys p (by simp [hp])
      · simp only [findM, keyEq_int]
        by_cases e : z = a
        · simp [e]
        · have := hfind z
          simpa [e] using this
    · have ml : MapI l fun z => if z = b then (match findM (.int .i64 z) l with | some o => o | none => none) else f z := ⟨fun p hp => m.keys p (by simp [hp]), fun z => by
        by_cases ez : z = b
        · subst ez
          simp only [if_true]
          have : ∀ l : List (V × V), (∀ p ∈ l, ∃ a, p.1 = .int .i64 a) → ∃ o, findM (.int .i64 z) l = some o := by
            intro l
            induction l with
            | nil => intro _; exact ⟨_, rfl⟩
            | cons q l ih =>
              intro hk
              obtain ⟨c, hc⟩ := hk q (by simp)
              obtain ⟨o, ho⟩ := ih fun p hp => hk p (by simp [hp])
              obtain ⟨k, v⟩ := q
              simp only at hc
              subst hc
              simp only [findM, keyEq_int]
              by_cases e : z = c
              · simp [e]
              · simp [e, ho]
          obtain ⟨o, ho⟩ := this l fun p hp => m.keys p (by simp [hp])
          rw [ho]
        · have := hfind z
          simpa [ez] using this⟩
      obtain ⟨l', hp, ml'⟩ := putM_int a y ml
      refine ⟨(.int .i64 b, v) :: l', by simp [putM, keyEq_int, e, hp], fun p hp => ?_, fun z => ?_⟩
      · rcases List.mem_cons.1 hp with rfl | hp
        · exact ⟨b, rfl⟩
        · exact ml'.keys p hp
      · simp only [findM, keyEq_int]
        have h1 := hfind z
        by_cases ez : z = b
        · have : z ≠ a := fun e' => e (e' ▸ ez)
          simp only [ez, decide_true]
          simp only [ez, if_true] at h1
          rw [if_neg (fun e' => e e'.symm)]
          simpa [ez] using h1
        · have := ml'.find z
          simpa [ez] using this
theorem oLookK_int {i : Pos} {es : List (V × V)} {f : Int → Option V} {z : V} (hg : h.get i = some (.map es)) (m : MapI es f) (a : Int) (j : IntKind) : oLookK (.int j) false z (.map i) (.int .i64 a) h = .ok ((f a).getD z) h := by
  show (match h.get i with | some (.map es) => lookE false z _ es h | _ => .bad) = _
  rw [hg]
  simp only [lookE, m.find]
  cases f a <;> rfl
theorem oLookK_int_ok {i : Pos} {es : List (V × V)} {f : Int → Option V} {z : V} (hg : h.get i = some (.map es)) (m : MapI es f) (a : Int) (j : IntKind) : oLookK (.int j) true z (.map i) (.int .i64 a) h = .ok (.tuple (.cons ((f a).getD z) (.cons (.bool (f a).isSome) .nil))) h := by
  show (match h.get i with | some (.map es) => lookE true z _ es h | _ => .bad) = _
  rw [hg]
  simp only [lookE, m.find]
  cases f a <;> rfl
theorem oMapK_int {i : Pos} {es : List (V × V)} {f : Int → Option V} (hg : h.get i = some (.map es)) (m : MapI es f) (a : Int) (y : V) (j : IntKind) : ∃ es', oMapK (.int j) (.map i) (.int .i64 a) y h = .ok V.undef (h.put i (some (.map es'))) ∧ MapI es' fun z => if z = a then some y else f z := by
  obtain ⟨es', hp, m'⟩ := putM_int a y m
  refine ⟨es', ?_, m'⟩
  show (match h.get i with | some (.map es) => (match putM (.int .i64 a) y es with | some es' => R.ok V.undef (h.put i (some (.map es'))) | none => .bad) | _ => .bad) = _
  rw [hg]
  simp only [hp]
end
end Go.Vm

/- The value machine, part 30: arguments that came in; from a run to a call. -/
namespace Go.Vm
noncomputable section
open Go.ChangeShapes Go.WideShapes Go.ChangeAt Go.RowKit
variable {P : Program} {M N : Mp} {h : Hp} {w : World}

/-- A heap of what came in: nothing of it is owned. -/
structure Seen (M : Mp) (h : Hp) (w : World) : Prop where
  rel : Rel 0 M h w
  un : ∀ i o, h.get i = some o → o.own = false
def h00 : Hp := ⟨.nil, .h⟩
theorem Seen.empty (w : World) : Seen (fun _ => none) h00 w := by
  have hg : ∀ i, h00.get i = none := fun i => T.get_nil i
  refine ⟨⟨fun i o hi => ?_, fun i _ => rfl, fun i j o p L K _ hi => ?_, fun g hg => by omega⟩, fun i o hi => ?_⟩ <;> (rw [hg] at hi; cases hi)
/-- one more row -/
theorem Seen.row (S : Seen M h w) {blk off : Nat} {cs : List V} (hne : cs ≠ []) (hc : ∀ k v, cs[k]? = some v → ∃ x, w.cell? ⟨blk, off + k, none⟩ = some x ∧ scalar x = true ∧ Rp M v x) :
    ∃ sz, Seen (M.add h.next ⟨blk, off, sz⟩) (h.new (.cells false cs)) w ∧ M.le (M.add h.next ⟨blk, off, sz⟩) := by
  have hnone : M h.next = none := S.rel.fresh _ (Nat.le_refl _)
  obtain ⟨v0, hv0⟩ : ∃ v, cs[0]? = some v := by
    cases cs with
    | nil => exact absurd rfl hne
    | cons v l => exact ⟨v, rfl⟩
  obtain ⟨x0, hx0, -, -⟩ := hc 0 v0 hv0
  obtain ⟨c, el, fr, hb⟩ : ∃ c el fr, w.heap[blk]? = some (.cells c el fr) := by
    unfold World.cell? at hx0
    split at hx0
    · rename_i c el fr hb; exact ⟨c, el, fr, hb⟩
    · cases hx0
  have hle := Mp.le_add hnone ⟨blk, off, c.size⟩
  refine ⟨c.size, ⟨⟨fun i p hi => ?_, fun i hi => ?_, fun i j p q L K hn hi hj hp hL hK => ?_, fun g hg => by omega⟩, fun i o hi => ?_⟩, hle⟩
  · by_cases e : i = h.next
    · subst e
      rw [h.get_new_self] at hi
      cases hi
      refine ⟨_, M.add_self _ _, c, el, fr, hb, rfl, fun k v hk => ?_, fun h => by cases h⟩
      obtain ⟨x, hx, hs, hr⟩ := hc k v hk
      refine ⟨x, ?_, hr.mono hle, hs⟩
      simpa [World.cell?, hb] using hx
    · rw [h.get_new_ne e] at hi
      obtain ⟨L, hL, hr⟩ := S.rel.ob i p hi
      exact ⟨L, by rw [M.add_ne e]; exact hL, hr.mono hle⟩
  · have hs : (h.new (.cells false cs)).next.nat = h.next.nat + 1 := Pos.nat_succ _
    rw [hs] at hi
    have e : i ≠ h.next := fun e => by rw [e] at hi; omega
    rw [M.add_ne e]
    exact S.rel.fresh i (by omega)
  · have ei : i ≠ h.next := by
      intro e; subst e
      rw [h.get_new_self] at hi; cases hi; cases hp
    rw [h.get_new_ne ei] at hi
    have := S.un i p hi
    rw [hp] at this; cases this
  · by_cases e : i = h.next
    · subst e; rw [h.get_new_self] at hi; cases hi; rfl
    · rw [h.get_new_ne e] at hi; exact S.un i o hi

/-- FROM A RUN TO A CALL. -/
theorem calls_of_vm {f : FuncId} {F : Fun} {fn : Func} {c : Code} (hF : CallOk P 0 f F) (hf : P.funcs[f]? = some fn) (hn : (fn.name == "runtime.NumGoroutine") = false) (hb : fn.body = some c) (S : Seen M h w) {args : List V} {cargs : List Value} (ha : RepL M args cargs) {h' : Hp}
    (e : F args h = .ok (.bool true) h') : Calls P f cargs.toArray w fun e w' => e = .returned (.bool true) ∧ Below w.heap.size w w' := by
  have := hF args h _ h' M w cargs e S.rel ha
  have hrun : (callFunc f cargs.toArray).run P w = .ok (.enter f cargs.toArray) w := by
    unfold callFunc
    rw [Sem.run_bind, run_program]; have hn' : ¬fn.name = "runtime.NumGoroutine" := by simpa using hn
    simp [hf, hn', hb]
  rw [hrun] at this
  refine Calls.mono this ?_
  rintro e w' ⟨cv, rfl, M', hr, hrel, hx⟩
  have := hr.bool
  subst this
  refine ⟨rfl, hx.os, hx.tape, hx.output, hx.size, fun k hk => hx.same k hk fun i o L hi ho _ => ?_⟩
  rw [S.un i o hi] at ho; cases ho

section
variable {H : Type} {enc : TypeId × Value → H} {base : Nat} {spare : Nat → Bool} {held : Bool}
/-- A slice that came in, whose elements lead to no memory. -/
theorem open_rowK {t e n fuel : Nat} {x : DataW H × List MemPlace} {cs : List Value} (ht : P.underlying t = some (.slice e)) (hn : P.cellsOf e = n) (hn0 : 0 < n) {Q : List V → Prop}
    (rd : ∀ fuel cs x, DataW.trod enc P w base spare held fuel e cs = some x → cs.length = n → ∃ vs, vs.length = n ∧ Q vs ∧ (∀ N, RepL N vs cs) ∧ ∀ y ∈ cs, scalar y = true)
    (hd : DataW.trod enc P w base spare held fuel t cs = some x) (S : Seen M h w) :
    ∃ (c : Value) (v : V) (M' : Mp) (h' : Hp) (els : List (List V)), cs = [c] ∧ Rp M' v c ∧ Seen M' h' w ∧ M.le M' ∧ Fr h.next.nat h h' ∧ (∀ vs ∈ els, Q vs ∧ vs.length = n) ∧ Sl h'.next.nat h' n v els.length els.flatten ∧ els.length ≤ 9223372036854775807 ∧ (∀ i o m c, v = .slice i o m c → ∃ k, c = .kn k ∧ m ≤ k) := by
  rcases DataW.trod_slice ht hd with ⟨rfl, rfl⟩ | ⟨a, len, cap, elems, rest, m, rfl, rfl, rfl, hb, hl, hm, hlen, hel, -, -⟩
  · exact ⟨_, .nils, M, h, [], rfl, ⟨rfl, rfl⟩, S, Mp.le_refl _, Fr.refl _ _, fun _ h => (by cases h), ⟨by simp, .inl ⟨rfl, .inl rfl⟩⟩, by simp, fun _ _ _ _ e => (by cases e)⟩
  · -- each element
    have each : ∀ i, i < len → ∃ vs, vs.length = n ∧ Q vs ∧ ∀ j v, vs[j]? = some v → ∃ x, w.cell? (a.add (i * n + j)) = some x ∧ scalar x = true ∧ ∀ N, Rp N v x := fun i hi => by
      have h1 := hel i hi
      rw [hn, List.getElem?_eq_getElem (by omega), Option.bind_eq_some_iff] at h1
      obtain ⟨cs', h2, h3⟩ := h1
      obtain ⟨-, hl', hc'⟩ := World.cells?_some h2
      obtain ⟨vs, hv1, hv2, hv3, hv4⟩ := rd m cs' _ h3 hl'
      refine ⟨vs, hv1, hv2, fun j v hj => ?_⟩
      have hj' : j < n := by
        have := (List.getElem?_eq_some_iff.1 hj).1
        omega
      have h5 : (a.add (i * n)).add j = a.add (i * n + j) := by
        generalize i * n = p
        by_cases e1 : p = 0 <;> by_cases e2 : j = 0 <;> simp [Addr.add, e1, e2, Nat.add_assoc]
      have h4 := hc' j hj'
      rw [h5] at h4
      obtain ⟨x, hx, hr⟩ := (hv3 M).get hj
      refine ⟨x, by rw [h4, hx], hv4 x (List.mem_of_getElem? hx), fun N => ?_⟩
      obtain ⟨x', hx', hr'⟩ := (hv3 N).get hj
      rw [hx] at hx'; cases hx'
      exact hr'
    by_cases h0 : len = 0
    · subst h0
      exact ⟨_, .emp, M, h, [], rfl, ⟨rfl, a, cap, rfl⟩, S, Mp.le_refl _, Fr.refl _ _, fun _ h => (by cases h), ⟨by simp, .inl ⟨rfl, .inr rfl⟩⟩, by simp, fun _ _ _ _ e => (by cases e)⟩
    · -- all of them
      have all : ∀ l, l ≤ len → ∃ els : List (List V), els.length = l ∧ (∀ vs ∈ els, Q vs ∧ vs.length = n) ∧ els.flatten.length = l * n ∧ ∀ k v, els.flatten[k]? = some v → ∃ x, w.cell? (a.add k) = some x ∧ scalar x = true ∧ ∀ N, Rp N v x := by
        intro l
        induction l with
        | zero => intro _; exact ⟨[], rfl, fun _ h => (by cases h), by simp, fun k v hk => by simp at hk⟩
        | succ l ih =>
          intro hl'
          obtain ⟨els, h1, h2, h3, h4⟩ := ih (by omega)
          obtain ⟨vs, g1, g2, g3⟩ := each l (by omega)
          refine ⟨els ++ [vs], by simp [h1], fun us hu => ?_, by simp [h3, g1, Nat.succ_mul], fun k v hk => ?_⟩
          · rcases List.mem_append.1 hu with hu | hu
            · exact h2 us hu
            · rw [List.mem_singleton.1 hu]; exact ⟨g2, g1⟩
          · rw [List.flatten_append, List.getElem?_append] at hk
            split at hk
            · exact h4 k v hk
            · rename_i hge
              simp only [List.flatten_cons, List.flatten_nil, List.append_nil] at hk
              rw [h3] at hk hge
              have := g3 (k - l * n) v hk
              rwa [show l * n + (k - l * n) = k from by omega] at this
      obtain ⟨els, h1, h2, h3, h4⟩ := all len (Nat.le_refl _)
      have hne : els.flatten ≠ [] := by
        intro e
        rw [e] at h3
        have : 0 < len * n := Nat.mul_pos (by omega) hn0
        simp at h3; omega
      -- the address has no spot
      obtain ⟨ab, ao, asp⟩ := a
      have has : asp = none := by
        obtain ⟨v0, hv0⟩ : ∃ v, els.flatten[0]? = some v := by
          cases hf : els.flatten with
          | nil => exact absurd hf hne
          | cons v l => exact ⟨v, rfl⟩
        obtain ⟨x, hx, -, -⟩ := h4 0 v0 hv0
        simpa [Addr.add] using World.cell?_spot hx
      subst has
      obtain ⟨sz, S', hle⟩ := S.row (blk := ab) (off := ao) hne fun k v hk => by
        obtain ⟨x, hx, hs, hr⟩ := h4 k v hk
        have ea : (Addr.mk ab ao none).add k = ⟨ab, ao + k, none⟩ := by by_cases e1 : k = 0 <;> simp [Addr.add, e1]
        exact ⟨x, by rw [← ea]; exact hx, hs, hr M⟩
      refine ⟨_, .slice h.next 0 len (.kn cap), _, _, els, rfl, ⟨rfl, _, cap, M.add_self _ _, ⟨rfl, hl⟩, rfl⟩, S', hle, Fr.new _ (Nat.le_refl _), h2, ⟨by rw [h3, h1], .inr ⟨h.next, 0, .kn cap, false, els.flatten, by rw [h1], by rw [new_next_nat]; omega, by rw [new_self]; rfl, fun k _ => by rw [Nat.zero_add]⟩⟩, by rw [h1]; unfold maxLen at hm; omega, fun _ _ _ _ e => (by cases e; exact ⟨cap, rfl, hl⟩)⟩
theorem open_rowL {t e n fuel : Nat} {x : DataW H × List MemPlace} {cs : List Value} (ht : P.underlying t = some (.slice e)) (hn : P.cellsOf e = n) (hn0 : 0 < n) {Q : List V → Prop}
    (rd : ∀ fuel cs x, DataW.trod enc P w base spare held fuel e cs = some x → cs.length = n → ∃ vs, vs.length = n ∧ Q vs ∧ (∀ N, RepL N vs cs) ∧ ∀ y ∈ cs, scalar y = true)
    (hd : DataW.trod enc P w base spare held fuel t cs = some x) (S : Seen M h w) :
    ∃ (c : Value) (v : V) (M' : Mp) (h' : Hp) (els : List (List V)), cs = [c] ∧ Rp M' v c ∧ Seen M' h' w ∧ M.le M' ∧ Fr h.next.nat h h' ∧ (∀ vs ∈ els, Q vs ∧ vs.length = n) ∧ Sl h'.next.nat h' n v els.length els.flatten ∧ els.length ≤ 9223372036854775807 := by
  obtain ⟨c, v, M', h', els, a1, a2, a3, a4, a5, a6, a7, a8, -⟩ := open_rowK ht hn hn0 rd hd S
  exact ⟨c, v, M', h', els, a1, a2, a3, a4, a5, a6, a7, a8⟩
theorem open_row {t e n fuel : Nat} {x : DataW H × List MemPlace} {cs : List Value} (ht : P.underlying t = some (.slice e)) (hn : P.cellsOf e = n) (hn0 : 0 < n) {Q : List V → Prop}
    (rd : ∀ fuel cs x, DataW.trod enc P w base spare held fuel e cs = some x → cs.length = n → ∃ vs, vs.length = n ∧ Q vs ∧ (∀ N, RepL N vs cs) ∧ ∀ y ∈ cs, scalar y = true)
    (hd : DataW.trod enc P w base spare held fuel t cs = some x) (S : Seen M h w) :
    ∃ (c : Value) (v : V) (M' : Mp) (h' : Hp) (els : List (List V)), cs = [c] ∧ Rp M' v c ∧ Seen M' h' w ∧ M.le M' ∧ Fr h.next.nat h h' ∧ (∀ vs ∈ els, Q vs ∧ vs.length = n) ∧ Sl h'.next.nat h' n v els.length els.flatten := by
  obtain ⟨c, v, M', h', els, a1, a2, a3, a4, a5, a6, a7, -⟩ := open_rowL ht hn hn0 rd hd S
  exact ⟨c, v, M', h', els, a1, a2, a3, a4, a5, a6, a7⟩
theorem rd_int {e : TypeId} {k : IntKind} (he : P.underlying e = some (.int k)) : ∀ fuel cs x, DataW.trod enc P w base spare held fuel e cs = some x → cs.length = 1 → ∃ vs : List V, vs.length = 1 ∧ (∃ z, vs = [.int k z] ∧ (Lit.int k z).wf = true) ∧ (∀ N, RepL N vs cs) ∧ ∀ y ∈ cs, scalar y = true := by
  intro fuel cs x hx _
  obtain ⟨z, rfl, -, hw⟩ := DataW.trod_int he hx
  exact ⟨[.int k z], rfl, ⟨z, rfl, hw⟩, fun N => ⟨_, [], rp_int N k z, rfl, rfl⟩, fun y hy => by rw [List.mem_singleton.1 hy]; rfl⟩
theorem rd_bool {e : TypeId} (he : P.underlying e = some .bool) : ∀ fuel cs x, DataW.trod enc P w base spare held fuel e cs = some x → cs.length = 1 → ∃ vs : List V, vs.length = 1 ∧ (∃ z, vs = [.bool z]) ∧ (∀ N, RepL N vs cs) ∧ ∀ y ∈ cs, scalar y = true := by
  intro fuel cs x hx _
  obtain ⟨z, rfl, -⟩ := DataW.trod_bool he hx
  exact ⟨[.bool z], rfl, ⟨z, rfl⟩, fun N => ⟨_, [], rp_bool N z, rfl, rfl⟩, fun y hy => by rw [List.mem_singleton.1 hy]; rfl⟩
/-- a struct of two integers -/
theorem rd_int2 {e : TypeId} {f0 f1 : Field} {k : IntKind} (he : P.underlying e = some (.struct #[f0, f1])) (o0 : f0.offset = 0) (o1 : f1.offset = 1) (c0 : P.cellsOf f0.type = 1) (c1 : P.cellsOf f1.type = 1) (t0 : P.underlying f0.type = some (.int k)) (t1 : P.underlying f1.type = some (.int k)) :
    ∀ fuel cs x, DataW.trod enc P w base spare held fuel e cs = some x → cs.length = 2 → ∃ vs : List V, vs.length = 2 ∧ (∃ y z, vs = [.int k y, .int k z] ∧ (Lit.int k y).wf = true ∧ (Lit.int k z).wf = true) ∧ (∀ N, RepL N vs cs) ∧ ∀ y ∈ cs, scalar y = true := by
  intro fuel cs x hx hl
  cases fuel with
  | zero => simp [DataW.trod] at hx
  | succ fuel =>
    obtain ⟨a, b, rfl⟩ : ∃ a b, cs = [a, b] := by
      match cs, hl with
      | [a, b], _ => exact ⟨a, b, rfl⟩
    rw [DataW.trod_step] at hx
    unfold DataW.trodStep at hx
    rw [he] at hx
    simp only [] at hx
    split at hx
    · rw [Option.map_eq_some_iff] at hx
      obtain ⟨xs, hx, -⟩ := hx
      simp only [List.mapM_cons, List.mapM_nil, o0, o1, c0, c1, List.drop_zero, List.take_succ_cons, List.take_zero, List.drop_succ_cons, Option.bind_eq_bind, Option.bind_eq_some_iff] at hx
      obtain ⟨x0, hx0, y, ⟨x1, hx1, -⟩, -⟩ := hx
      obtain ⟨z0, e0, -, w0⟩ := DataW.trod_int t0 hx0
      obtain ⟨z1, e1, -, w1⟩ := DataW.trod_int t1 hx1
      cases e0; cases e1
      refine ⟨[.int k z0, .int k z1], rfl, ⟨z0, z1, rfl, w0, w1⟩, fun N => ⟨_, _, rp_int N k z0, ⟨_, [], rp_int N k z1, rfl, rfl⟩, rfl⟩, fun y hy => ?_⟩
      simp at hy
      rcases hy with rfl | rfl <;> rfl
    · cases hx
end
theorem flat_int {k : IntKind} {R : Int → Prop} : ∀ {els : List (List V)}, (∀ vs ∈ els, (∃ z, vs = [V.int k z] ∧ R z) ∧ vs.length = 1) → ∃ l : List Int, els.flatten = l.map (V.int k) ∧ els.length = l.length ∧ ∀ z ∈ l, R z
  | [], _ => ⟨[], rfl, rfl, fun _ h => by cases h⟩
  | vs :: els, h => by
    obtain ⟨⟨z, rfl, hz⟩, -⟩ := h vs (by simp)
    obtain ⟨l, h1, h2, h3⟩ := flat_int (els := els) fun us hu => h us (by simp [hu])
    exact ⟨z :: l, by simp [h1], by simp [h2], fun y hy => by rcases List.mem_cons.1 hy with rfl | hy; exact hz; exact h3 y hy⟩
theorem flat_bool : ∀ {els : List (List V)}, (∀ vs ∈ els, (∃ z, vs = [V.bool z]) ∧ vs.length = 1) → ∃ l : List Bool, els.flatten = l.map V.bool ∧ els.length = l.length
  | [], _ => ⟨[], rfl, rfl⟩
  | vs :: els, h => by
    obtain ⟨⟨z, rfl⟩, -⟩ := h vs (by simp)
    obtain ⟨l, h1, h2⟩ := flat_bool (els := els) fun us hu => h us (by simp [hu])
    exact ⟨z :: l, by simp [h1], by simp [h2]⟩
theorem flat_int2 {k : IntKind} {R : Int → Prop} : ∀ {els : List (List V)}, (∀ vs ∈ els, (∃ y z, vs = [V.int k y, V.int k z] ∧ R y ∧ R z) ∧ vs.length = 2) → ∃ l : List (Int × Int), els.flatten = (l.flatMap fun p => [V.int k p.1, V.int k p.2]) ∧ els.length = l.length ∧ ∀ p ∈ l, R p.1 ∧ R p.2
  | [], _ => ⟨[], rfl, rfl, fun _ h => by cases h⟩
  | vs :: els, h => by
    obtain ⟨⟨y, z, rfl, hy, hz⟩, -⟩ := h vs (by simp)
    obtain ⟨l, h1, h2, h3⟩ := flat_int2 (els := els) fun us hu => h us (by simp [hu])
    exact ⟨(y, z) :: l, by simp [h1], by simp [h2], fun p hp => by rcases List.mem_cons.1 hp with rfl | hp; exact ⟨hy, hz⟩; exact h3 p hp⟩
end
end Go.Vm
