/- Part of the value machine, or of a walk by it: lemmas that the claim's last text uses. No conditions. -/
import Derived.Test.YtnlbcbjgejpanaaGreatDoorStVmL
set_option linter.unusedVariables false
set_option linter.unusedSimpArgs false
set_option linter.unnecessarySimpa false
namespace Go.Vm
noncomputable section
variable {P : Program} {G N : Nat} {M M' : Mp} {h h' : Hp} {w w' : World} {keep : Nat → Bool} {e : FuncId → Option Fun} {r : V} {B : Rng}
def codeOkI (G N : Nat) : Code → Bool
  | .seq a b => (match yields (.seq a b) with | true => codeOkI G N a && codeOkI G N b | false => codeOk G N (.seq a b))
  | .cond c a b => (match yields (.cond c a b) with | true => codeOkI G N a && codeOkI G N b | false => codeOk G N (.cond c a b))
  | .block id b => (match yields (.block id b) with | true => codeOkI G N b | false => codeOk G N (.block id b))
  | .loop b => (match yields (.loop b) with | true => codeOkI G N b | false => codeOk G N (.loop b))
  | c => codeOk G N c
theorem SoundI.bad {c : Code} : SoundI P keep G N B c (fun _ _ _ => .bad) := fun _ _ _ _ _ _ _ hne _ => absurd rfl hne
theorem denI_ok (hm : P.follows .mixedOrders = true) (hE : ∀ f F, e f = some F → CallOk P G f F) {Y : List V → Hp → YR} (hY : YOk P G B Y) (pl : Plans) (lf : Nat) : (c : Code) → codeOkI G N c = true → SoundI P keep G N B c (denI P G N keep e pl lf Y B.kp.nat c)
  | .seq a b, hc => by
    unfold codeOkI at hc
    unfold denI
    split at hc
    · rename_i hd
      rw [hd]
      simp only [Bool.and_eq_true] at hc
      exact .seq (denI_ok hm hE hY pl lf a hc.1) (denI_ok hm hE hY pl lf b hc.2)
    · rename_i hd
      rw [hd]
      exact .lift (denX_ok hm hE pl lf _ hc)
  | .cond c a b, hc => by
    unfold codeOkI at hc
    unfold denI
    split at hc
    · rename_i hd
      rw [hd]
      simp only [Bool.and_eq_true] at hc
      exact .cond (denI_ok hm hE hY pl lf a hc.1) (denI_ok hm hE hY pl lf b hc.2)
    · rename_i hd
      rw [hd]
      exact .lift (denX_ok hm hE pl lf _ hc)
  | .block id b, hc => by
    unfold codeOkI at hc
    unfold denI
    split at hc
    · rename_i hd
      rw [hd]
      exact .block (denI_ok hm hE hY pl lf b hc)
    · rename_i hd
      rw [hd]
      exact .lift (denX_ok hm hE pl lf _ hc)
  | .loop b, hc => by
    unfold codeOkI at hc
    unfold denI
    split at hc
    · rename_i hd
      rw [hd]
      exact .loop (denI_ok hm hE hY pl lf b hc) lf
    · rename_i hd
      rw [hd]
      exact .lift (denX_ok hm hE pl lf _ hc)
  | .region id ops d, hc => by
    unfold denI
    split
    · cases d with
      | true => exact .bad
      | false =>
        unfold codeOkI at hc
        simp only [codeOk, List.all_eq_true] at hc
        exact .region hE hY hc
    · exact .lift (denX_ok hm hE pl lf _ (by unfold codeOkI at hc; exact hc))
  | .skip, hc => .lift (denX_ok hm hE pl lf _ hc)
  | .label _, hc => .lift (denX_ok hm hE pl lf _ hc)
  | .exit _, hc => .lift (denX_ok hm hE pl lf _ hc)
  | .ret, hc => .lift (denX_ok hm hE pl lf _ hc)
  | .scope _, hc => .lift (denX_ok hm hE pl lf _ hc)
  | .goto _, hc => .lift (denX_ok hm hE pl lf _ hc)
  | .rangeFunc .., hc => .lift (denX_ok hm hE pl lf _ hc)
  | .refuse _, hc => .lift (denX_ok hm hE pl lf _ hc)
inductive IR where
  | ok (h : Hp) (p : Option Jmp)
  | bad
abbrev IterF := (List V → Hp → YR) → Nat → List V → Hp → IR
def iterX (P : Program) (G : Nat) (keep : Nat → Bool) (e : FuncId → Option Fun) (pl : Plans) (lf : Nat) (fn : Func) : IterF := fun Y k args h => match fn.body with
  | none => .bad
  | some c => (match Nat.ble args.length fn.ntmps, Nat.beq fn.results.size 0 with
    | true, true => (match denI P G fn.ntmps keep e pl lf Y k c (initF keep 0 args .nil) h none with
      | .nor _ h' p => .ok h' p
      | .ret _ h' p => .ok h' p
      | _ => .bad)
    | _, _ => .bad)
def IterOk (P : Program) (G : Nat) (f : FuncId) (I : IterF) : Prop :=
  (∀ args w, (callFunc f args).run P w = .ok (.enter f args) w) ∧
  ∀ (B : Rng) (Y : List V → Hp → YR) (args : List V) (cargs : List Value) (h h' : Hp) (p : Option Jmp) (M : Mp) (w : World) (n : Nat), YOk P G B Y → I Y B.kp.nat args h = .ok h' p → Rel G M h w → RepL M args cargs → Goes B none M h w →
    CallsIn (wideR none) n P f cargs.toArray w fun e w' => ∃ c, e = .returned c ∧ ∃ M', Rel G M' h' w' ∧ Goes B p M' h' w'
theorem iterX_ok (hm : P.follows .mixedOrders = true) {f : FuncId} {fn : Func} {pl : Plans} {lf : Nat} (hE : ∀ f F, e f = some F → CallOk P G f F) (hf : P.funcs[f]? = some fn) (ho : ((match fn.body with | some c => codeOkI G fn.ntmps c | none => false) && !(fn.name == "runtime.NumGoroutine")) = true) : IterOk P G f (iterX P G keep e pl lf fn) := by
  simp only [Bool.and_eq_true, Bool.not_eq_true'] at ho
  cases hb : fn.body with
  | none => rw [hb] at ho; cases ho.1
  | some c =>
    rw [hb] at ho
    refine ⟨run_callFunc hf ho.2 hb, ?_⟩
    intro B Y args cargs h h' p M w n hY e0 hr ha g
    unfold iterX at e0
    rw [hb] at e0
    simp only [] at e0
    split at e0
    · rename_i hle hres
      have hres : fn.results = #[] := Array.size_eq_zero_iff.1 (Nat.eq_of_beq_eq_true hres)
      have hat := init_at (keep := keep) (fn := fn) hr ha (Nat.le_of_ble_eq_true hle)
      have hs : ∀ o, denI P G fn.ntmps keep e pl lf Y B.kp.nat c (initF keep 0 args .nil) h none = o → o ≠ .bad → c.wpIn (wideR none) n P (OutQI keep G fn.ntmps B o) { tmps := cargs.toArray ++ Array.replicate (fn.ntmps - cargs.toArray.size) undef, defers := [] } w := by
        intro o hO hne
        rw [← hO] at hne ⊢
        exact denI_ok hm hE hY pl lf c ho.1 n none _ h M _ w hne ⟨hat, g⟩
      have hrs : ∀ (tmps : Array Value) (w' : World), (results fn tmps).run P w' = .ok (.tuple #[]) w' := fun tmps w' => by
        rw [results_eq, hres]; simp
      refine callsIn_of_wp hf hb trivial ?_ rfl
      split at e0
      · rename_i fr2 h2 p2 hO
        cases e0
        refine wpIn_mono (hs _ hO (by simp)) ?_
        intro x a' w' q
        cases x <;> simp only [OutQI] at q
        obtain ⟨M', at', g'⟩ := q
        exact ⟨at'.plain, _, hrs _ _, _, rfl, M', at'.rel, g'⟩
      · rename_i fr2 h2 p2 hO
        cases e0
        refine wpIn_mono (hs _ hO (by simp)) ?_
        intro x a' w' q
        cases x <;> simp only [OutQI] at q
        obtain ⟨M', at', g'⟩ := q
        exact ⟨at'.plain, _, hrs _ _, _, rfl, M', at'.rel, g'⟩
      · cases e0
    · cases e0
def MarksOk (b : Nat) : List Deferred → World → Prop
  | [], _ => True
  | d :: ds, w => ∃ r, d.target = .collected r ∧ b ≤ r ∧ w.heap[r]? = some (.deferred (some [])) ∧ (∀ d' ∈ ds, d'.target ≠ .collected r) ∧ MarksOk b ds w
theorem MarksOk.step {b : Nat} (hr : Rel G M h w) (x : Ext M h w M' h' w') : ∀ {Df : List Deferred}, MarksOk b Df w → MarksOk b Df w'
  | [], _ => trivial
  | _ :: _, ⟨r, h1, h2, h3, h4, h5⟩ => ⟨r, h1, h2, hr.kept x h3 rfl, h4, MarksOk.step hr x h5⟩
theorem MarksOk.put {b r : Nat} {o' : Obj} : ∀ {Df : List Deferred}, (∀ d' ∈ Df, d'.target ≠ .collected r) → MarksOk b Df w → MarksOk b Df (w.putObj r o')
  | [], _, _ => trivial
  | d :: ds, hn, ⟨r', h1, h2, h3, h4, h5⟩ => ⟨r', h1, h2, by rw [World.putObj_heap_other (fun e => hn d (by simp) (by rw [h1, e]))]; exact h3, h4, MarksOk.put (fun d' hd => hn d' (by simp [hd])) h5⟩
theorem MarksOk.lt {b : Nat} : ∀ {Df : List Deferred}, MarksOk b Df w → ∀ d ∈ Df, ∀ r, d.target = .collected r → r < w.heap.size
  | d :: ds, ⟨r, h1, _, h3, _, h5⟩, d', hd, r', e => by
    rcases List.mem_cons.1 hd with rfl | hd
    · rw [h1] at e; cases e
      exact (Array.getElem?_eq_some_iff.1 h3).1
    · exact MarksOk.lt h5 d' hd r' e
def OutQM (keep : Nat → Bool) (G N b : Nat) (M : Mp) (h : Hp) (w : World) : Out → Exit → Act → World → Prop
  | .nor fr h', .normal, a, w' => ∃ M' Df, MarksOk b Df w' ∧ At keep G N Df M' fr h' a w' ∧ Ext M h w M' h' w'
  | .ret fr h', .ret, a, w' => ∃ M' Df, MarksOk b Df w' ∧ At keep G N Df M' fr h' a w' ∧ Ext M h w M' h' w'
  | .ex i fr h', .exit j, a, w' => j = i ∧ ∃ M' Df, MarksOk b Df w' ∧ At keep G N Df M' fr h' a w' ∧ Ext M h w M' h' w'
  | _, _, _, _ => False
theorem OutQM.trans {b : Nat} {M' : Mp} {w' : World} (x : Ext M h w M' h' w') {o : Out} {e : Exit} {a : Act} {v : World} (q : OutQM keep G N b M' h' w' o e a v) : OutQM keep G N b M h w o e a v := by
  cases o <;> cases e <;> simp only [OutQM] at q ⊢
  · obtain ⟨M2, Df, m, p, y⟩ := q; exact ⟨M2, Df, m, p, x.trans y⟩
  · obtain ⟨M2, Df, m, p, y⟩ := q; exact ⟨M2, Df, m, p, x.trans y⟩
  · obtain ⟨rfl, M2, Df, m, p, y⟩ := q; exact ⟨rfl, M2, Df, m, p, x.trans y⟩
def SoundM (P : Program) (keep : Nat → Bool) (G N : Nat) (c : Code) (D : F → Hp → Out) : Prop :=
  ∀ n b Df fr h M a w, D fr h ≠ .bad → b ≤ w.heap.size → MarksOk b Df w → At keep G N Df M fr h a w → c.wpIn (wideR none) n P (OutQM keep G N b M h w (D fr h)) a w
theorem SoundM.lift {c : Code} {D : F → Hp → Out} (hc : SoundC P keep G N c D) : SoundM P keep G N c D := by
  intro n b Df fr h M a w hne hb hm at_
  refine wpIn_mono (hc none n Df fr h M a w hne at_) ?_
  intro x a' w' q
  generalize D fr h = o at q
  cases o <;> cases x <;> simp only [OutQ] at q
  · obtain ⟨M', p, y⟩ := q; exact ⟨M', Df, hm.step at_.rel y, p, y⟩
  · obtain ⟨M', p, y⟩ := q; exact ⟨M', Df, hm.step at_.rel y, p, y⟩
  · obtain ⟨e1, M', p, y⟩ := q; exact ⟨e1, M', Df, hm.step at_.rel y, p, y⟩
theorem SoundM.seq {c d : Code} {D E : F → Hp → Out} (hc : SoundM P keep G N c D) (hd : SoundM P keep G N d E) : SoundM P keep G N (.seq c d) (seqO D E) := by
  intro n b Df fr h M a w hne hb hm at_
  refine wpIn_seq ?_
  unfold seqO at hne ⊢
  cases e1 : D fr h with
  | bad => rw [e1] at hne; exact absurd rfl hne
  | nor fr1 h1 =>
    rw [e1] at hne
    refine wpIn_mono (hc n b Df fr h M a w (by rw [e1]; simp) hb hm at_) ?_
    intro x a' w' q
    rw [e1] at q
    cases x <;> simp only [OutQM] at q
    obtain ⟨M', Df', hm', at', hx⟩ := q
    exact wpIn_mono (hd n b Df' fr1 h1 M' a' w' hne (Nat.le_trans hb hx.size) hm' at') fun x a w q => OutQM.trans hx q
  | ret fr1 h1 =>
    refine wpIn_mono (hc n b Df fr h M a w (by rw [e1]; simp) hb hm at_) ?_
    intro x a' w' q
    rw [e1] at q
    cases x <;> simp only [OutQM] at q
    exact q
  | ex i fr1 h1 =>
    refine wpIn_mono (hc n b Df fr h M a w (by rw [e1]; simp) hb hm at_) ?_
    intro x a' w' q
    rw [e1] at q
    cases x <;> simp only [OutQM] at q
    exact q
theorem SoundM.cond {x : Operand} {c d : Code} {D E : F → Hp → Out} (hg : ∀ g, x = .global g → g < G) (hc : SoundM P keep G N c D) (hd : SoundM P keep G N d E) : SoundM P keep G N (.cond x c d) (cndO x D E) := by
  intro n b Df fr h M a w hne hb hm at_
  obtain ⟨v, env, e1, hv, -⟩ := opdK_ok hne at_ hg (ERel.nil M a) (rfl : cndO x D E fr h = _)
  rw [← e1] at hne ⊢
  cases v <;> simp only [ne_eq, not_true_eq_false] at hne ⊢
  rename_i t
  have ht := hv.bool
  cases t
  · exact wpIn_cond_false ht (hd n b Df fr h M a w hne hb hm at_)
  · exact wpIn_cond_true ht (hc n b Df fr h M a w hne hb hm at_)
theorem SoundM.block {id : Nat} {c : Code} {D : F → Hp → Out} (hc : SoundM P keep G N c D) : SoundM P keep G N (.block id c) (blkO id D) := by
  intro n b Df fr h M a w hne hb hm at_
  refine wpIn_block ?_
  unfold blkO at hne ⊢
  cases e1 : D fr h with
  | bad => rw [e1] at hne; exact absurd rfl hne
  | nor fr1 h1 =>
    refine wpIn_mono (hc n b Df fr h M a w (by rw [e1]; simp) hb hm at_) ?_
    intro x a' w' q
    rw [e1] at q
    cases x <;> simp only [OutQM] at q
    exact q
  | ret fr1 h1 =>
    refine wpIn_mono (hc n b Df fr h M a w (by rw [e1]; simp) hb hm at_) ?_
    intro x a' w' q
    rw [e1] at q
    cases x <;> simp only [OutQM] at q
    exact q
  | ex i fr1 h1 =>
    refine wpIn_mono (hc n b Df fr h M a w (by rw [e1]; simp) hb hm at_) ?_
    intro x a' w' q
    rw [e1] at q
    cases x <;> simp only [OutQM] at q
    obtain ⟨rfl, q⟩ := q
    simp only [Exit.inBlock]
    cases hb : Nat.beq _ id with
    | true => rw [if_pos (Nat.eq_of_beq_eq_true hb)]; exact q
    | false => rw [if_neg (Nat.ne_of_beq_eq_false hb)]; exact ⟨rfl, q⟩
abbrev Iters := FuncId → Option IterF
def rngO (fi : Iters) (keep : Nat → Bool) (g : Operand) (ps : List Nat) (Da Db : F → Hp → Out) (fr : F) (h : Hp) : Out :=
  opdK g [] fr fun v _ => match v with
  | .func fn a b => (match fn with
    | .func f => (match fi f with
      | some I => (match I (yieldX keep ps Da Db fr) h.next.nat (a.list ++ (.func (.yield h.next.nat) .nil .nil :: b.list)) (bumpH 1 h) with
        | .ok h' p => (match p with
          | none => .nor fr h'
          | some j => (match j with | .ret => .ret fr h' | .ex i => .ex i fr h'))
        | .bad => .bad)
      | none => .bad)
    | _ => .bad)
  | _ => .bad
theorem SoundM.range {fi : Iters} (hI : ∀ f I, fi f = some I → IterOk P G f I) {g : Operand} {ps : Array Tmp} {ca cb : Code} {Da Db : F → Hp → Out} (hg : ∀ x, g = .global x → x < G) (hps : ∀ t ∈ ps.toList, t < N) (hA : SoundC P keep G N ca Da) (hB : SoundC P keep G N cb Db) :
    SoundM P keep G N (.rangeFunc g ps ca cb) (rngO fi keep g ps.toList Da Db) := by
  intro n b Df fr h M a w hne hb hm at_
  refine wpIn_rangeFunc fun fn _ => ?_
  generalize hout : rngO fi keep g ps.toList Da Db fr h = out at hne
  unfold rngO at hout
  obtain ⟨v, env, e1, hv, -⟩ := opdK_ok hne at_ hg (ERel.nil M a) hout
  clear hout
  split at e1
  · rename_i fnv va vb
    split at e1
    · rename_i f
      split at e1
      · rename_i I hfi
        split at e1
        · rename_i h' p hrun
          obtain ⟨hcall, hiter⟩ := hI f I hfi
          obtain ⟨g0, xs, ys, hg0, hx', hy', hgv⟩ := hv.func
          obtain rfl : g0 = .func f := hg0
          let L : Loop := { state := .ready, pending := none, fn, tmps := a.tmps, params := ps, assign := ca, body := cb, defers := w.heap.size }
          let B : Rng := { M := M, h := h, w := w, kp := h.next, l := w.heap.size + 1, L := L }
          let w1 := (w.alloc (.deferred (some []))).alloc (.loop L)
          have hs1 : (w.alloc (.deferred (some []))).heap.size = w.heap.size + 1 := World.size_alloc _ _
          have r1 : Rel G M h w1 := (at_.rel.allocObj _).allocObj _
          have x1 : Ext M h w M h w1 := ((Ext.refl at_.rel).allocObj _).allocObj _
          obtain ⟨r2, x2⟩ := bumpH_rel r1 ⟨w.heap.size + 1, 0, 0⟩
          have hle := x2.le
          generalize hM1 : M.add h.next ⟨w.heap.size + 1, 0, 0⟩ = M1 at r2 x2 hle
          have hky : M1 h.next = some ⟨w.heap.size + 1, 0, 0⟩ := by rw [← hM1]; exact M.add_self _ _
          have g1 : Goes B none M1 (bumpH 1 h) w1 := by
            refine ⟨x1.trans x2, hky, Nat.lt_succ_self _, ?_, ?_⟩
            · show w1.heap[w.heap.size + 1]? = some (.loop L)
              rw [← hs1]; exact World.alloc_heap_new _ _
            · show ((w.alloc (.deferred (some []))).heap.push (.loop L))[w.heap.size]? = some (.deferred (some []))
              rw [Array.getElem?_push, if_neg (by omega)]
              exact World.alloc_heap_new _ _
          have hY : YOk P G B (yieldX keep ps.toList Da Db fr) := fun args cargs h2 M2 w2 n2 R hr2 ha2 g2 hy2 =>
            round_ok (B := B) (fr0 := fr) hA hB at_.fr at_.size hps hr2 ha2 g2 hy2
          have hargs : RepL M1 (va.list ++ (.func (.yield h.next.nat) .nil .nil :: vb.list)) (xs ++ (.func (.yield (w.heap.size + 1)) #[] #[] :: ys)) := by
            refine (hx'.mono hle).append ⟨_, _, ⟨rfl, .yield (w.heap.size + 1), [], [], ⟨_, by rw [Pos.of_nat]; exact hky, rfl⟩, ⟨rfl, rfl⟩, rfl, rfl, rfl⟩, hy'.mono hle, rfl⟩
          refine ⟨w.heap.size + 1, [{ target := .collected w.heap.size, args := #[] }], w1, { target := .fn (.func f) ys.toArray, args := xs.toArray ++ #[.func (.yield (w.heap.size + 1)) #[] #[]] }, w1, f, (xs ++ (.func (.yield (w.heap.size + 1)) #[] #[] :: ys)).toArray, w1, run_enterLoop_outer _ _ _ _ _, ?_, fun _ _ => trivial, ?_, fun hx => by simp [wideR, Fence.wide] at hx, ?_⟩
          · simp only [resolve, rangeCall, hgv, Deferred.ofValue]
            simp [Act.eval]
          · have := hcall ((xs.toArray ++ #[.func (.yield (w.heap.size + 1)) #[] #[]]) ++ ys.toArray) w1
            have e2 : ((xs.toArray ++ #[Value.func (.yield (w.heap.size + 1)) #[] #[]]) ++ ys.toArray) = (xs ++ (.func (.yield (w.heap.size + 1)) #[] #[] :: ys)).toArray := by simp
            rw [← e2]
            exact this
          · refine CallsIn.mono (hiter B _ _ _ _ h' p M1 w1 _ hY hrun r2 hargs g1) ?_
            rintro x w3 ⟨c, rfl, M3, r3, g3⟩
            have hlt3 : w.heap.size + 1 < w3.heap.size := (Array.getElem?_eq_some_iff.1 g3.st).1
            refine ⟨_, _, run_endLoop g3.st (by cases p <;> simp [recOf]), ?_⟩
            have r4 := r3.putObj g3.st rfl (.loop { recOf B.L p with state := .exhausted })
            have x4 : Ext M h w M3 h' (w3.putObj B.l (.loop { recOf B.L p with state := .exhausted })) := g3.ext.putObj (b := B.l) (by show w.heap.size ≤ w.heap.size + 1; omega) _
            have mk4 : (w3.putObj B.l (.loop { recOf B.L p with state := .exhausted })).heap[w.heap.size]? = some (.deferred (some [])) := by
              rw [World.putObj_heap_other (by show w.heap.size ≠ w.heap.size + 1; omega)]; exact g3.mrk
            generalize w3.putObj B.l (.loop { recOf B.L p with state := .exhausted }) = w4 at r4 x4 mk4
            have m4 : MarksOk b ([{ target := .collected w.heap.size, args := #[] }] ++ a.defers) w4 := by
              rw [show a.defers = Df from at_.plain]
              refine ⟨w.heap.size, rfl, hb, mk4, fun d' hd' e => ?_, hm.step at_.rel x4⟩
              exact Nat.lt_irrefl _ (hm.lt d' hd' _ e)
            have at4 : At keep G N ([{ target := .collected w.heap.size, args := #[] }] ++ a.defers) M3 fr h' { a with defers := [{ target := .collected w.heap.size, args := #[] }] ++ a.defers } w4 := ⟨r4, at_.fr.mono x4.le, at_.size, rfl⟩
            cases p with
            | none =>
              subst e1
              exact ⟨M3, _, m4, at4, x4⟩
            | some j =>
              cases j with
              | ret =>
                subst e1
                exact wpIn_ret ⟨M3, _, m4, at4, x4⟩
              | ex i =>
                subst e1
                exact wpIn_exit ⟨rfl, M3, _, m4, at4, x4⟩
        · exact absurd e1.symm hne
      · exact absurd e1.symm hne
    · exact absurd e1.symm hne
  · exact absurd e1.symm hne
def ranges : Code → Bool
  | .rangeFunc .. => true
  | .seq a b => ranges a || ranges b
  | .cond _ a b => ranges a || ranges b
  | .block _ b => ranges b
  | _ => false
def denM (P : Program) (G N : Nat) (keep : Nat → Bool) (e : FuncId → Option Fun) (fi : Iters) (pl : Plans) (lf : Nat) : Code → F → Hp → Out
  | .seq a b => (match ranges (.seq a b) with
    | true => seqO (denM P G N keep e fi pl lf a) (denM P G N keep e fi pl lf b)
    | false => denX P G N keep e pl lf (.seq a b))
  | .cond c a b => (match ranges (.cond c a b) with
    | true => cndO c (denM P G N keep e fi pl lf a) (denM P G N keep e fi pl lf b)
    | false => denX P G N keep e pl lf (.cond c a b))
  | .block id b => (match ranges (.block id b) with
    | true => blkO id (denM P G N keep e fi pl lf b)
    | false => denX P G N keep e pl lf (.block id b))
  | .rangeFunc g ps ca cb => rngO fi keep g ps.toList (denX P G N keep e pl lf ca) (denX P G N keep e pl lf cb)
  | c => denX P G N keep e pl lf c
def globOk (G : Nat) (g : Operand) : Bool := match g with | .global x => Nat.blt x G | _ => true
theorem globOk_ok {g : Operand} (h : globOk G g = true) : ∀ x, g = .global x → x < G := fun x e => by
  subst e
  simpa [globOk, Nat.blt_eq] using h
def codeOkM (G N : Nat) : Code → Bool
  | .seq a b => (match ranges (.seq a b) with | true => codeOkM G N a && codeOkM G N b | false => codeOk G N (.seq a b))
  | .cond c a b => (match ranges (.cond c a b) with | true => globOk G c && (codeOkM G N a && codeOkM G N b) | false => codeOk G N (.cond c a b))
  | .block id b => (match ranges (.block id b) with | true => codeOkM G N b | false => codeOk G N (.block id b))
  | .rangeFunc g ps ca cb => globOk G g && ((ps.toList.all fun t => Nat.blt t N) && (codeOk G N ca && codeOk G N cb))
  | c => codeOk G N c
theorem denM_ok (hm : P.follows .mixedOrders = true) (hE : ∀ f F, e f = some F → CallOk P G f F) {fi : Iters} (hI : ∀ f I, fi f = some I → IterOk P G f I) (pl : Plans) (lf : Nat) : (c : Code) → codeOkM G N c = true → SoundM P keep G N c (denM P G N keep e fi pl lf c)
  | .seq a b, hc => by
    unfold codeOkM at hc
    unfold denM
    split at hc
    · rename_i hd
      try rw [hd]
      simp only [Bool.and_eq_true] at hc
      exact .seq (denM_ok hm hE hI pl lf a hc.1) (denM_ok hm hE hI pl lf b hc.2)
    · rename_i hd
      try rw [hd]
      exact .lift (denX_ok hm hE pl lf _ hc)
  | .cond c a b, hc => by
    unfold codeOkM at hc
    unfold denM
    split at hc
    · rename_i hd
      try rw [hd]
      simp only [Bool.and_eq_true] at hc
      exact .cond (globOk_ok hc.1) (denM_ok hm hE hI pl lf a hc.2.1) (denM_ok hm hE hI pl lf b hc.2.2)
    · rename_i hd
      try rw [hd]
      exact .lift (denX_ok hm hE pl lf _ hc)
  | .block id b, hc => by
    unfold codeOkM at hc
    unfold denM
    split at hc
    · rename_i hd
      try rw [hd]
      exact .block (denM_ok hm hE hI pl lf b hc)
    · rename_i hd
      try rw [hd]
      exact .lift (denX_ok hm hE pl lf _ hc)
  | .rangeFunc g ps ca cb, hc => by
    unfold codeOkM at hc
    simp only [Bool.and_eq_true, List.all_eq_true] at hc
    unfold denM
    exact .range hI (globOk_ok hc.1) (fun t ht => by simpa [Nat.blt_eq] using hc.2.1 t ht) (denX_ok hm hE pl lf _ hc.2.2.1) (denX_ok hm hE pl lf _ hc.2.2.2)
  | .region _ _ _, hc => .lift (denX_ok hm hE pl lf _ hc)
  | .loop _, hc => .lift (denX_ok hm hE pl lf _ hc)
  | .skip, hc => .lift (denX_ok hm hE pl lf _ hc)
  | .label _, hc => .lift (denX_ok hm hE pl lf _ hc)
  | .exit _, hc => .lift (denX_ok hm hE pl lf _ hc)
  | .ret, hc => .lift (denX_ok hm hE pl lf _ hc)
  | .scope _, hc => .lift (denX_ok hm hE pl lf _ hc)
  | .goto _, hc => .lift (denX_ok hm hE pl lf _ hc)
  | .refuse _, hc => .lift (denX_ok hm hE pl lf _ hc)
theorem leaveM {fn : Func} {tmps : Array Value} {R : Ending → World → Prop} {n : Nat} {M0 : Mp} {h0 : Hp} {w0 : World} : ∀ {Df : List Deferred} {h' : Hp} {M' : Mp} {w' : World}, MarksOk w0.heap.size Df w' → Rel G M' h' w' → Ext M0 h0 w0 M' h' w' →
    (∀ w'', Rel G M' h' w'' → Ext M0 h0 w0 M' h' w'' → ∃ v, (results fn tmps).run P w'' = .ok v w'' ∧ R (.returned v) w'') → LeavesInM (wideR none) n P fn tmps R Df .returning w'
  | [], h', M', w', _, hr, hx, hK => hK w' hr hx
  | d :: ds, h', M', w', ⟨r, h1, h2, h3, h4, h5⟩, hr, hx, hK =>
    ⟨by simp, .inl ⟨r, _, h1, run_takeDeferred h3, leaveM (h5.put h4) (hr.putObj h3 rfl _) (hx.putObj h2 _) hK⟩⟩
def funM (P : Program) (G : Nat) (keep : Nat → Bool) (e : FuncId → Option Fun) (fi : Iters) (pl : Plans) (lf : Nat) (fn : Func) : Fun := match fn.body with
  | some c => funO P keep fn.ntmps fn.results.toList (denM P G fn.ntmps keep e fi pl lf c)
  | none => fun _ _ => .bad
theorem funM_ok (hm : P.follows .mixedOrders = true) {f : FuncId} {fn : Func} {fi : Iters} {pl : Plans} {lf : Nat} (hE : ∀ f F, e f = some F → CallOk P G f F) (hI : ∀ f I, fi f = some I → IterOk P G f I) (hf : P.funcs[f]? = some fn) (ho : ((match fn.body with | some c => codeOkM G fn.ntmps c | none => false) && !(fn.name == "runtime.NumGoroutine")) = true) : CallOk P G f (funM P G keep e fi pl lf fn) := by
  simp only [Bool.and_eq_true, Bool.not_eq_true'] at ho
  unfold funM
  cases hb : fn.body with
  | none => rw [hb] at ho; cases ho.1
  | some c =>
    rw [hb] at ho
    have hD := denM_ok (keep := keep) hm hE hI pl lf c ho.1
    intro args h r h' M w cargs e0 hr hargs
    rw [run_callFunc hf ho.2 hb]
    simp only [Opq]
    simp only [funO] at e0
    split at e0
    · rename_i hle
      have hat := init_at (keep := keep) (fn := fn) hr hargs (Nat.le_of_ble_eq_true hle)
      refine (wideR_calls (ro := none) (n := 0)).1 (callsIn_of_wp_marks hf hb trivial ?_ rfl)
      cases e1 : denM P G fn.ntmps keep e fi pl lf c (initF keep 0 args .nil) h with
      | bad => rw [e1] at e0; cases e0
      | ex i fr2 h2 => rw [e1] at e0; cases e0
      | nor fr2 h2 =>
        rw [e1] at e0
        refine wpIn_mono (hD 0 w.heap.size [] _ _ _ _ _ (by rw [e1]; simp) (Nat.le_refl _) trivial hat) ?_
        intro x a' w' q
        rw [e1] at q
        cases x <;> simp only [OutQM] at q
        obtain ⟨M', Df, m', at', hx⟩ := q
        show LeavesInM _ _ _ _ _ _ a'.defers _ _
        rw [show a'.defers = Df from at'.plain]
        refine leaveM m' at'.rel hx fun w2 r2 x2 => ?_
        obtain ⟨rfl, v, hv, hrv⟩ := results_ok r2 at'.fr e0
        exact ⟨v, hv, v, rfl, M', hrv, r2, x2⟩
      | ret fr2 h2 =>
        rw [e1] at e0
        refine wpIn_mono (hD 0 w.heap.size [] _ _ _ _ _ (by rw [e1]; simp) (Nat.le_refl _) trivial hat) ?_
        intro x a' w' q
        rw [e1] at q
        cases x <;> simp only [OutQM] at q
        obtain ⟨M', Df, m', at', hx⟩ := q
        show LeavesInM _ _ _ _ _ _ a'.defers _ _
        rw [show a'.defers = Df from at'.plain]
        refine leaveM m' at'.rel hx fun w2 r2 x2 => ?_
        obtain ⟨rfl, v, hv, hrv⟩ := results_ok r2 at'.fr e0
        exact ⟨v, hv, v, rfl, M', hrv, r2, x2⟩
    · cases e0
end
end Go.Vm

noncomputable section
namespace Go.Vm
theorem itersOk_0 {P : Program} {G : Nat} : ∀ f I, (fun _ => none : Iters) f = some I → IterOk P G f I := fun _ _ h => by cases h
theorem itersOk_cons {P : Program} {G : Nat} {g : FuncId} {I : IterF} {e : Iters} (h1 : IterOk P G g I) (h2 : ∀ f F, e f = some F → IterOk P G f F) : ∀ f F', (fun f => match Nat.beq f g with | true => some I | false => e f : Iters) f = some F' → IterOk P G f F' := by
  intro f F' h
  simp only [] at h
  split at h
  · rename_i hb; cases h; rw [Nat.eq_of_beq_eq_true hb]; exact h1
  · exact h2 f F' h
end Go.Vm
