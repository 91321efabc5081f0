/- Part of the value machine, or of a walk by it: lemmas that the claim's last text uses. No conditions. -/
import Derived.Test.YtnlbcbjgejpanaaGreatDoorSeVmO
import Derived.Test.YtnlbcbjgejpanaaGreatDoorSeImD
set_option linter.unusedVariables false
set_option linter.unusedSimpArgs false
set_option linter.unnecessarySimpa false
noncomputable section
namespace Go.Vm
variable {h h' : Hp}
theorem oNew_eq (t : TypeId) (z : List V) : oNew t z h = .ok (.ptr h.next 0) (h.new (.cells (.rw t true) z)) := (rfl)
theorem st3g {i : Pos} {t : TypeId} {f : Bool} {x y z a b c : V} (hg : h.get i = some (.cells (.rw t f) [x, y, z])) : oStore 3 (.ptr i 0) (.agg (.cons a (.cons b (.cons c .nil)))) h = .ok V.undef (h.put i (some (.cells (.rw t f) [a, b, c]))) := by
  rw [oStore_row hg rfl rfl]
  rfl
theorem ld_at {i : Pos} {wr : Wr} {l : List V} {q : Nat} {v : V} (hg : h.get i = some (.cells wr l)) (hq : l[q]? = some v) : oLoad1 (.ptr i q) h = .ok v h := by rw [ld_get hg, hq]
end Go.Vm
namespace Go.Proofs.Im
open Go Go.Proofs Go.Vm Go.Ln
set_option linter.unusedVariables false
set_option maxRecDepth 100000
set_option linter.unusedSimpArgs false
theorem call18 (pc : Pos) (x : V) (h : Hp) : oCallV Ime121 (.func (.func tF18) (.cons (.ptr pc 0) .nil) .nil) [x] h = ImF18 [.ptr pc 0, x] h := (rfl)
theorem call19 (pc : Pos) (x : V) (h : Hp) : oCallV Ime121 (.func (.func tF19) (.cons (.ptr pc 0) .nil) .nil) [x] h = ImF19 [.ptr pc 0, x] h := (rfl)
theorem call20 (pc : Pos) (x : V) (h : Hp) : oCallV Ime121 (.func (.func tF20) (.cons (.ptr pc 0) .nil) .nil) [x] h = ImF20 [.ptr pc 0, x] h := (rfl)
theorem noop_st {P : Pos → Prop} {b : Nat} {h : Hp} {i : Pos} {t : TypeId} {L : List V} {s : List Nat} {c vw : V} {w : Wds} (d : Bd b h i 5 t L s) (h3 : L[3]? = some vw) (tw : WS P h vw w) :
    ∃ r h' L', ImF19 [c, .ptr i 0] h = .ok r h' ∧ r = ansW w.len (ansV 0 [] false false) ∧ Bd b h' i 5 t L' (s ++ []) ∧ Stp (OfB i 5 L) h (OfB i 5 L') h' ∧ (∀ k, k ≠ 5 → k ≠ 6 → L'[k]? = L[k]?) ∧ L'.length = L.length := by
  obtain ⟨r, h', e, q, c1⟩ := noop_ok (c := c) d h3 tw
  exact ⟨r, h', L, e, q, by rw [List.append_nil]; exact d.ch c1 fun _ _ _ q => q, (Stp.refl _ _).step c1 fun _ q => q.elim, fun _ _ _ => rfl, rfl⟩
theorem ansW_an (n : Nat) (k : Int) (t : List Nat) (x y : Bool) : ∃ k' t' x' y', ansW n (ansV k t x y) = ansV k' t' x' y' := by
  unfold ansW
  split
  · exact ⟨_, _, _, _, rfl⟩
  · exact ⟨_, _, _, _, rfl⟩
theorem stp_or {S S' : Pos → Prop} {h h' : Hp} (c : Stp S h S' h') (a : Pos) : Stp (fun j => S j ∨ j = a) h (fun j => S' j ∨ j = a) h' :=
  ⟨c.ch.mono fun _ _ q => .inl q, fun j o => o.elim (fun o => (c.sub j o).imp .inl id) fun o => .inl (.inr o)⟩
def runU : F → Hp → Out := (seqO (seqO Imr121_10 (blkO 0 (seqO Imr121_11 (cndX (.tmp 63) Imr121_12 (seqO Imr121_13 (cndX (.tmp 70) Imr121_14 (seqO Imr121_15 (cndX (.tmp 76) Imr121_16 Out.nor)))))))) (seqO (seqO Imr121_17 (cndX (.tmp 84) (seqO Imr121_18 Out.ret) Out.nor)) (seqO Imr121_19 Out.ret)))
def runT : F → Hp → Out := seqO Imr121_6 (seqO (seqO Imr121_7 (cndX (.tmp 59) (seqO Imr121_8 Out.ret) Out.nor)) (seqO Imr121_9 runU))
def RunQ (b : Nat) (ir a0 : Pos) (L : List V) (s : List Nat) (h : Hp) (an : V) (t : List Nat) (r : V) (h' : Hp) : Prop :=
  ∃ L', r = an ∧ Bd b h' ir 5 tRq L' (s ++ t) ∧ Stp (fun j => OfB ir 5 L j ∨ j = a0) h (fun j => OfB ir 5 L' j ∨ j = a0) h' ∧ (∀ k, k ≠ 5 → k ≠ 6 → L'[k]? = L[k]?) ∧ L'.length = L.length
theorem run_tail {P : Pos → Prop} {b : Nat} {h : Hp} {pc im ir a0 : Pos} {L : List V} {s : List Nat} {vw : V} {w : Wds} {inn only uid : Bool} {cnt : Int} {nm : List Nat} {an : V} {t : List Nat}
    (d : Bd b h ir 5 tRq L s) (h3 : L[3]? = some vw) (h4 : L[4]? = some (.bool uid)) (tw : WS P h vw w)
    (gc : h.get pc = some (.cells (.rw tCn true) [.bool inn, .nilp, .bool only, .int .i64 cnt, .map im])) (gm : h.get im = some (.map (cmdM pc)))
    (ga : h.get a0 = some (.cells (.rw tA true) [.int .i64 0, .str [], .bool false, .bool false, .bool false])) (na : ¬ OfB ir 5 L a0) (ha : a0.nat < h.next.nat)
    (hP : ∀ j, P j → j.nat < b) (hc : pc.nat < b) (hm : im.nat < b) (hs : s.length ≤ 100000000) (e : comM inn uid nm w.len = some (an, t))
    {fr : F} (f0 : fr.get (Pos.of 0) = some (.ptr pc 0)) (f1 : fr.get (Pos.of 1) = some (.ptr ir 0)) (f2 : fr.get (Pos.of 2) = some (.str nm)) (f6 : fr.get (Pos.of 6) = some (.ptr a0 0)) :
    Tells Tryz.prog [.cell 6 tA] (RunQ b ir a0 L s h an t) (runT fr h) := by
  have hbi := d.hb
  have hbn := d.hi
  -- the cell of the command
  have step : ∀ (x y z : V), ∃ h1, h1 = (h.new (.cells (.rw tCmd true) [.nilf, .int .i64 0, .bool false])).put h.next (some (.cells (.rw tCmd true) [x, y, z])) ∧ Ch (fun _ => False) h h1 ∧ h1.get h.next = some (.cells (.rw tCmd true) [x, y, z]) ∧ h1.next.nat = h.next.nat + 1 :=
    fun x y z => ⟨_, rfl, fill_ch _ _ _, put_self _ _ _, by rw [put_next, new_next_nat]⟩
  have P4 : oLoad1 (.ptr pc 4) h = .ok (.map im) h := ld_at gc rfl
  have q0 : Stp (fun j => OfB ir 5 L j ∨ j = a0) h (fun j => OfB ir 5 L j ∨ j = a0) h := Stp.refl _ _
  -- the end: the answer is put
  have fin : ∀ {h2 : Hp} {L2 : List V} {k : Int} {tx : List Nat} {x y : Bool} {u : List Nat}, Bd b h2 ir 5 tRq L2 (s ++ u) → Stp (fun j => OfB ir 5 L j ∨ j = a0) h (fun j => OfB ir 5 L2 j ∨ j = a0) h2 → (∀ k, k ≠ 5 → k ≠ 6 → L2[k]? = L[k]?) → L2.length = L.length → ¬ OfB ir 5 L2 a0 →
      RunQ b ir a0 L s h (ansV k tx x y) u (ansV k tx x y) (h2.put a0 (some (.cells (.rw tA true) (ansL k tx x y)))) := fun d2 p k1 k2 n2 =>
    ⟨_, rfl, d2.chO (Ch.put (S := fun j => j = a0) _ _ rfl) (fun j o e => n2 (e ▸ o)), p.step (Ch.put (S := fun j => j = a0) _ _ rfl) fun j e => .inr e, k1, k2⟩
  -- what stays when the command's cell is made
  have keep : ∀ {h1 : Hp}, Ch (fun _ => False) h h1 → Bd b h1 ir 5 tRq L s ∧ WS P h1 vw w ∧ h1.get pc = some (.cells (.rw tCn true) [.bool inn, .nilp, .bool only, .int .i64 cnt, .map im]) ∧
      h1.get a0 = some (.cells (.rw tA true) [.int .i64 0, .str [], .bool false, .bool false, .bool false]) ∧ Stp (fun j => OfB ir 5 L j ∨ j = a0) h (fun j => OfB ir 5 L j ∨ j = a0) h1 ∧ oLoad1 (.ptr ir 4) h1 = .ok (.bool uid) h1 := fun c1 =>
    have d1 := d.ch c1 fun _ _ _ q => q
    ⟨d1, tw.ch c1 fun j _ q => ⟨q, fun q => q⟩, (c1.get pc (by omega) fun q => q).trans gc, (c1.get a0 ha fun q => q).trans ga, q0.step c1 fun _ q => q.elim, ld_at d1.get h4⟩
  have bad : ∀ {h1 : Hp}, Ch (fun _ => False) h h1 → RunQ b ir a0 L s h (ansV 2 [99, 111, 109, 109, 97, 110, 100] false false) [] (ansV 2 [99, 111, 109, 109, 97, 110, 100] false false) (h1.put a0 (some (.cells (.rw tA true) (ansL 2 [99, 111, 109, 109, 97, 110, 100] false false)))) := fun c1 => by
    obtain ⟨d1, -, -, -, q1, -⟩ := keep c1
    exact fin (u := []) (by rw [List.append_nil]; exact d1) q1 (fun _ _ _ => rfl) rfl na
  unfold runT
  cases hf : findIn nm cmdL with
  | none =>
    unfold comM at e
    rw [hf] at e
    cases e
    obtain ⟨h1, hh1, c1, g1, n1⟩ := step .nilf (.int .i64 0) (.bool false)
    obtain ⟨d1, tw1, gc1, ga1, q1, u1⟩ := keep c1
    have lk := look_cmd gm (.agg (.cons .nilf (.cons (.int .i64 0) (.cons (.bool false) .nil)))) nm
    rw [hf] at lk
    simp only [Option.map_none, Option.getD_none, Option.isSome_none] at lk
    simp (disch := omega) only [vmL, Nat.reduceEqDiff, reduceCtorEq, ↓reduceIte, vpL, vsL, vqL, Imr121_6, Imr121_7, Imr121_8, f0, f1, f2, f6, P4, lk, oNew_eq, st3g (new_self _ _), ← hh1, oBuild_an2, stAn ga1]
    exact Tells.ret (by simp only [resK, vmL, Nat.reduceEqDiff, reduceCtorEq, ↓reduceIte, vpL, vsL, vqL, f6, dLoadAn, ldAn (put_self _ _ _), tupR]) (bad c1)
  | some x =>
    obtain ⟨g, k, st, u⟩ := x
    obtain ⟨h1, hh1, c1, g1, n1⟩ := step (.func (.func g) (.cons (.ptr pc 0) .nil) .nil) (.int .i64 (st : Int)) (.bool u)
    obtain ⟨d1, tw1, gc1, ga1, q1, u1⟩ := keep c1
    have lk := look_cmd gm (.agg (.cons .nilf (.cons (.int .i64 0) (.cons (.bool false) .nil)))) nm
    rw [hf] at lk
    simp only [Option.map_some, Option.getD_some, Option.isSome_some, cmdV] at lk
    have X2 : oLoad1 (.ptr h.next 2) h1 = .ok (.bool u) h1 := ld_at g1 rfl
    have X1 : oLoad1 (.ptr h.next 1) h1 = .ok (.int .i64 (st : Int)) h1 := ld_at g1 rfl
    have X0 : oLoad1 (.ptr h.next 0) h1 = .ok (.func (.func g) (.cons (.ptr pc 0) .nil) .nil) h1 := ld_at g1 rfl
    have C0 : oLoad1 (.ptr pc 0) h1 = .ok (.bool inn) h1 := ld_at gc1 rfl
    have C1 : oLoad1 (.ptr pc 1) h1 = .ok .nilp h1 := ld_at gc1 rfl
    have e0 := e
    unfold comM at e0
    rw [hf] at e0
    simp only [] at e0
    cases huu : (uid && !u) with
    | true =>
      rw [huu] at e0
      simp only [if_true, ↓reduceIte] at e0
      cases e0
      obtain ⟨rfl, rfl⟩ : uid = true ∧ u = false := by revert huu; cases uid <;> cases u <;> simp
      simp (disch := omega) only [vmL, Nat.reduceEqDiff, reduceCtorEq, ↓reduceIte, vpL, vsL, vqL, Imr121_6, Imr121_7, Imr121_8, f0, f1, f2, f6, P4, lk, oNew_eq, st3g (new_self _ _), ← hh1, u1, X2, oBuild_an2, stAn ga1]
      exact Tells.ret (by simp only [resK, vmL, Nat.reduceEqDiff, reduceCtorEq, ↓reduceIte, vpL, vsL, vqL, f6, dLoadAn, ldAn (put_self _ _ _), tupR]) (bad c1)
    | false =>
      rw [huu] at e0
      simp only [Bool.false_eq_true, ↓reduceIte] at e0
      have rest : ∀ fr, fr.get (Pos.of 0) = some (.ptr pc 0) → fr.get (Pos.of 1) = some (.ptr ir 0) → fr.get (Pos.of 6) = some (.ptr a0 0) → fr.get (Pos.of 7) = some (.ptr h.next 0) → fr.get (Pos.of 9) = some (.bool true) →
          Tells Tryz.prog [.cell 6 tA] (RunQ b ir a0 L s h an t) (runU fr h1) := by
        clear f0 f1 f2 f6 lk hh1
        intro fr f0 f1 f6 f7 f9
        unfold runU
        obtain ⟨h2, e2, c2⟩ := state_ok h1
        have c12 := c1.trans c2 fun _ _ q => q
        obtain ⟨d2, -, -, ga2, q2, -⟩ := keep c12
        have stt : RunQ b ir a0 L s h (ansV 1 [115, 116, 97, 116, 101] false false) [] (ansV 1 [115, 116, 97, 116, 101] false false) (h2.put a0 (some (.cells (.rw tA true) (ansL 1 [115, 116, 97, 116, 101] false false)))) :=
          fin (u := []) (by rw [List.append_nil]; exact d2) q2 (fun _ _ _ => rfl) rfl na
        obtain ⟨c, hcm, hcx⟩ := findIn_mem hf
        have hk := cmd_kind c hcm
        rw [hcx] at hk
        rcases hk with hk | hk | hk | hk | hk | hk
        · -- behind LOGIN
          simp only [] at hk
          subst hk
          cases inn with
          | true =>
            rw [if_neg (by simp)] at e0
            simp at e0
          | false =>
            rw [if_pos (.inr (.inl ⟨rfl, rfl⟩))] at e0
            cases e0
            have X1' : oLoad1 (.ptr h.next 1) h1 = .ok (.int .i64 2) h1 := X1
            simp (disch := omega) only [vmL, Nat.reduceEqDiff, reduceCtorEq, ↓reduceIte, vpL, vsL, vqL, Imr121_10, Imr121_11, Imr121_13, Imr121_14, Imr121_17, Imr121_18, f0, f1, f6, f7, f9, X1', C0, e2, stAn ga2, Int.reduceEq]
            exact Tells.ret (by simp only [resK, vmL, Nat.reduceEqDiff, reduceCtorEq, ↓reduceIte, vpL, vsL, vqL, f6, dLoadAn, ldAn (put_self _ _ _), tupR]) stt
        · -- a mailbox
          simp only [] at hk
          subst hk
          rw [if_pos (.inl rfl)] at e0
          cases e0
          have X1' : oLoad1 (.ptr h.next 1) h1 = .ok (.int .i64 3) h1 := X1
          simp (disch := omega) only [vmL, Nat.reduceEqDiff, reduceCtorEq, ↓reduceIte, vpL, vsL, vqL, Imr121_10, Imr121_11, Imr121_13, Imr121_15, Imr121_16, Imr121_17, Imr121_18, f0, f1, f6, f7, f9, X1', C1, nil_neq_nil, e2, stAn ga2, Int.reduceEq]
          exact Tells.ret (by simp only [resK, vmL, Nat.reduceEqDiff, reduceCtorEq, ↓reduceIte, vpL, vsL, vqL, f6, dLoadAn, ldAn (put_self _ _ _), tupR]) stt
        · simp only [Prod.mk.injEq] at hk
          obtain ⟨rfl, rfl, rfl, rfl⟩ := hk
          rw [if_neg (by simp), if_pos ⟨rfl, rfl⟩] at e0
          cases e0
          have X1' : oLoad1 (.ptr h.next 1) h1 = .ok (.int .i64 0) h1 := X1
          obtain ⟨r3, h3', L3, e3, rfl, d3, c3, k3, n3⟩ := cap_ok (c := .ptr pc 0) d1 h3 tw1 hs
          have no3 : ¬ OfB ir 5 L3 a0 := fun o => (c3.sub _ o).elim na fun o => by omega
          have ga3 := (c3.ch.get a0 (by omega) na).trans ga1
          have q3 := q1.trans (stp_or c3 a0)
          obtain ⟨ka, ta, xa, ya, hr⟩ := ansW_an w.len 0 [] false false
          rw [hr] at e3 ⊢
          simp (disch := omega) only [vmL, Nat.reduceEqDiff, reduceCtorEq, ↓reduceIte, vpL, vsL, vqL, Imr121_10, Imr121_11, Imr121_13, Imr121_15, Imr121_17, Imr121_19, f0, f1, f6, f7, f9, X1', X0, call18, e3, stAn ga3, Int.reduceEq]
          exact Tells.ret (by simp only [resK, vmL, Nat.reduceEqDiff, reduceCtorEq, ↓reduceIte, vpL, vsL, vqL, f6, dLoadAn, ldAn (put_self _ _ _), tupR]) (fin d3 q3 k3 n3 no3)
        · simp only [Prod.mk.injEq] at hk
          obtain ⟨rfl, rfl, rfl, rfl⟩ := hk
          rw [if_neg (by simp), if_neg (by simp), if_pos ⟨rfl, rfl⟩] at e0
          cases e0
          have X1' : oLoad1 (.ptr h.next 1) h1 = .ok (.int .i64 0) h1 := X1
          obtain ⟨r3, h3', L3, e3, rfl, d3, c3, k3, n3⟩ := noop_st (c := .ptr pc 0) d1 h3 tw1
          have no3 : ¬ OfB ir 5 L3 a0 := fun o => (c3.sub _ o).elim na fun o => by omega
          have ga3 := (c3.ch.get a0 (by omega) na).trans ga1
          have q3 := q1.trans (stp_or c3 a0)
          obtain ⟨ka, ta, xa, ya, hr⟩ := ansW_an w.len 0 [] false false
          rw [hr] at e3 ⊢
          simp (disch := omega) only [vmL, Nat.reduceEqDiff, reduceCtorEq, ↓reduceIte, vpL, vsL, vqL, Imr121_10, Imr121_11, Imr121_13, Imr121_15, Imr121_17, Imr121_19, f0, f1, f6, f7, f9, X1', X0, call19, e3, stAn ga3, Int.reduceEq]
          exact Tells.ret (by simp only [resK, vmL, Nat.reduceEqDiff, reduceCtorEq, ↓reduceIte, vpL, vsL, vqL, f6, dLoadAn, ldAn (put_self _ _ _), tupR]) (fin d3 q3 k3 n3 no3)
        · simp only [Prod.mk.injEq] at hk
          obtain ⟨rfl, rfl, rfl, rfl⟩ := hk
          rw [if_neg (by simp), if_neg (by simp), if_neg (by simp), if_pos ⟨rfl, rfl⟩] at e0
          cases e0
          have X1' : oLoad1 (.ptr h.next 1) h1 = .ok (.int .i64 0) h1 := X1
          obtain ⟨r3, h3', L3, e3, rfl, d3, c3, k3, n3⟩ := bye_ok (c := .ptr pc 0) d1 h3 tw1 hs
          have no3 : ¬ OfB ir 5 L3 a0 := fun o => (c3.sub _ o).elim na fun o => by omega
          have ga3 := (c3.ch.get a0 (by omega) na).trans ga1
          have q3 := q1.trans (stp_or c3 a0)
          obtain ⟨ka, ta, xa, ya, hr⟩ := ansW_an w.len 0 [] true true
          rw [hr] at e3 ⊢
          simp (disch := omega) only [vmL, Nat.reduceEqDiff, reduceCtorEq, ↓reduceIte, vpL, vsL, vqL, Imr121_10, Imr121_11, Imr121_13, Imr121_15, Imr121_17, Imr121_19, f0, f1, f6, f7, f9, X1', X0, call20, e3, stAn ga3, Int.reduceEq]
          exact Tells.ret (by simp only [resK, vmL, Nat.reduceEqDiff, reduceCtorEq, ↓reduceIte, vpL, vsL, vqL, f6, dLoadAn, ldAn (put_self _ _ _), tupR]) (fin d3 q3 k3 n3 no3)
        · simp only [Prod.mk.injEq] at hk
          obtain ⟨rfl, rfl, rfl, rfl⟩ := hk
          cases inn with
          | false =>
            rw [if_neg (by simp)] at e0
            simp at e0
          | true =>
            rw [if_pos (.inr (.inr ⟨rfl, rfl⟩))] at e0
            cases e0
            have X1' : oLoad1 (.ptr h.next 1) h1 = .ok (.int .i64 1) h1 := X1
            simp (disch := omega) only [vmL, Nat.reduceEqDiff, reduceCtorEq, ↓reduceIte, vpL, vsL, vqL, Imr121_10, Imr121_11, Imr121_12, Imr121_17, Imr121_18, f0, f1, f6, f7, f9, X1', C0, e2, stAn ga2, Int.reduceEq]
            exact Tells.ret (by simp only [resK, vmL, Nat.reduceEqDiff, reduceCtorEq, ↓reduceIte, vpL, vsL, vqL, f6, dLoadAn, ldAn (put_self _ _ _), tupR]) stt
      cases uid with
      | false =>
        simp (disch := omega) only [vmL, Nat.reduceEqDiff, reduceCtorEq, ↓reduceIte, vpL, vsL, vqL, Imr121_6, Imr121_7, Imr121_9, f0, f1, f2, f6, P4, lk, oNew_eq, st3g (new_self _ _), ← hh1, u1]
        exact rest _ (by simp only [vmL, Nat.reduceEqDiff, reduceCtorEq, ↓reduceIte, vpL, vsL, vqL, f0]) (by simp only [vmL, Nat.reduceEqDiff, reduceCtorEq, ↓reduceIte, vpL, vsL, vqL, f1]) (by simp only [vmL, Nat.reduceEqDiff, reduceCtorEq, ↓reduceIte, vpL, vsL, vqL, f6]) (by simp only [vmL, Nat.reduceEqDiff, reduceCtorEq, ↓reduceIte, vpL, vsL, vqL]) (by simp only [vmL, Nat.reduceEqDiff, reduceCtorEq, ↓reduceIte, vpL, vsL, vqL])
      | true =>
        obtain rfl : u = true := by revert huu; cases u <;> simp
        simp (disch := omega) only [vmL, Nat.reduceEqDiff, reduceCtorEq, ↓reduceIte, vpL, vsL, vqL, Imr121_6, Imr121_7, Imr121_9, f0, f1, f2, f6, P4, lk, oNew_eq, st3g (new_self _ _), ← hh1, u1, X2]
        exact rest _ (by simp only [vmL, Nat.reduceEqDiff, reduceCtorEq, ↓reduceIte, vpL, vsL, vqL, f0]) (by simp only [vmL, Nat.reduceEqDiff, reduceCtorEq, ↓reduceIte, vpL, vsL, vqL, f1]) (by simp only [vmL, Nat.reduceEqDiff, reduceCtorEq, ↓reduceIte, vpL, vsL, vqL, f6]) (by simp only [vmL, Nat.reduceEqDiff, reduceCtorEq, ↓reduceIte, vpL, vsL, vqL]) (by simp only [vmL, Nat.reduceEqDiff, reduceCtorEq, ↓reduceIte, vpL, vsL, vqL])
end Go.Proofs.Im
