/- Part of the value machine, or of a walk by it: lemmas that the claim's last text uses. No conditions. -/
import Derived.Test.YtnlbcbjgejpanaaGreatDoorSeVmO
import Derived.Test.YtnlbcbjgejpanaaGreatDoorSeImE
set_option linter.unusedVariables false
set_option linter.unusedSimpArgs false
set_option linter.unnecessarySimpa false
noncomputable section
namespace Go.Proofs.Im
open Go Go.Proofs Go.Vm Go.Ln
set_option linter.unusedVariables false
set_option maxRecDepth 100000
set_option linter.unusedSimpArgs false
theorem Bd.setO {b : Nat} {h : Hp} {i : Pos} {q : Nat} {t : TypeId} {l : List V} {s : List Nat} (d : Bd b h i q t l s) {k : Nat} (v : V) (hk : k ≠ q) (hk' : k ≠ q + 1) :
    Bd b (h.put i (some (.cells (.rw t true) (l.set k v)))) i q t (l.set k v) s ∧ Stp (OfB i q l) h (OfB i q (l.set k v)) (h.put i (some (.cells (.rw t true) (l.set k v)))) := by
  obtain ⟨vb, b1, b2, b3⟩ := d.buf
  have c : Ch (fun j => j = i) h (h.put i (some (.cells (.rw t true) (l.set k v)))) := Ch.put _ _ rfl
  have hb : (l.set k v)[q + 1]? = some vb := by rw [List.getElem?_set_ne hk']; exact b1
  refine ⟨⟨d.hb, by rw [put_next]; exact d.hi, put_self _ _ _, by rw [List.getElem?_set_ne hk]; exact d.addr, ⟨vb, hb, b2.ch c b3, b3⟩, by rw [set_len]; exact d.lies⟩, ⟨c.mono fun j _ e => .inl e, fun j o => ?_⟩⟩
  rcases o with o | ⟨v2, hv, hj⟩
  · exact .inl (.inl o)
  · rw [hb] at hv; cases hv; exact .inl (.inr ⟨vb, b1, hj⟩)
theorem Imd121_eq : Imd121 = seqO Imr121_0 (seqO (seqO Imr121_1 (cndX (.tmp 11) (seqO (seqO Imr121_2 (cndX (.tmp 17) (seqO Imr121_3 Out.ret) Out.nor)) (seqO Imr121_4 Imr121_5)) Out.nor)) runT) := rfl
theorem run_ok {P : Pos → Prop} {b : Nat} {h : Hp} {pc im ir : Pos} {L : List V} {s : List Nat} {vw : V} {w : Wds} {inn only : Bool} {cnt : Int} {nm : List Nat} {an : V} {t : List Nat}
    (d : Bd b h ir 5 tRq L s) (h3 : L[3]? = some vw) (h4 : L[4]? = some (.bool false)) (tw : WS P h vw w)
    (gc : h.get pc = some (.cells (.rw tCn true) [.bool inn, .nilp, .bool only, .int .i64 cnt, .map im])) (gm : h.get im = some (.map (cmdM pc)))
    (hP : ∀ j, P j → j.nat < b) (hc : pc.nat < b) (hm : im.nat < b) (hs : s.length ≤ 100000000) (hw : ∀ x, w.get? 0 = some x → (∀ c ∈ x.text, c < 256) ∧ x.text.length < 1000000000) (e : runM inn nm w = some (an, t)) :
    ∃ r h' L', ImF121 [.ptr pc 0, .ptr ir 0, .str nm] h = .ok r h' ∧ r = an ∧ Bd b h' ir 5 tRq L' (s ++ t) ∧ Stp (OfB ir 5 L) h (OfB ir 5 L') h' ∧ (∀ k, k ≠ 3 → k ≠ 4 → k ≠ 5 → k ≠ 6 → L'[k]? = L[k]?) ∧ L'.length = L.length := by
  have hbi := d.hb
  have hbn := d.hi
  obtain ⟨h1, hh1⟩ : ∃ h1, h1 = h.new (.cells (.rw tA true) [.int .i64 0, .str [], .bool false, .bool false, .bool false]) := ⟨_, rfl⟩
  have c1 : Ch (fun _ => False) h h1 := by rw [hh1]; exact Ch.new _ _ _
  have g1 : h1.get h.next = some (.cells (.rw tA true) [.int .i64 0, .str [], .bool false, .bool false, .bool false]) := by rw [hh1]; exact new_self _ _
  have n1 : h1.next.nat = h.next.nat + 1 := by rw [hh1, new_next_nat]
  have d1 := d.ch c1 fun _ _ _ q => q
  have tw1 : WS P h1 vw w := tw.ch c1 fun j _ q => ⟨q, fun q => q⟩
  have gc1 := (c1.get pc (by omega) fun q => q).trans gc
  have gm1 := (c1.get im (by omega) fun q => q).trans gm
  have no : ¬ OfB ir 5 L h.next := fun o => by have := (o.from d _).2; omega
  have R3 : oLoad1 (.ptr ir 3) h1 = .ok vw h1 := ld_at d1.get h3
  -- from the new cell on to the whole
  have whole : ∀ {L1 L2 : List V} {hx h2 : Hp}, Stp (fun j => OfB ir 5 L j ∨ j = h.next) h1 (fun j => OfB ir 5 L1 j ∨ j = h.next) hx → Stp (fun j => OfB ir 5 L1 j ∨ j = h.next) hx (fun j => OfB ir 5 L2 j ∨ j = h.next) h2 → Stp (OfB ir 5 L) h (OfB ir 5 L2) h2 := fun p q => by
    have pq := p.trans q
    refine ⟨(c1.mono (fun _ _ q => q.elim) : Ch (OfB ir 5 L) h h1).trans pq.ch (fun j hj o => ?_), fun j o => ?_⟩
    · rcases o with o | o
      · exact o
      · subst o; omega
    · rcases pq.sub j (.inl o) with (o | o) | o
      · exact .inl o
      · subst o; exact .inr (Nat.le_refl _)
      · exact .inr (by omega)
  rw [ImF121_eq, Imd121_eq]
  suffices hT : Tells Tryz.prog [.cell 6 tA] (fun r h' => ∃ L', r = an ∧ Bd b h' ir 5 tRq L' (s ++ t) ∧ Stp (OfB ir 5 L) h (OfB ir 5 L') h' ∧ (∀ k, k ≠ 3 → k ≠ 4 → k ≠ 5 → k ≠ 6 → L'[k]? = L[k]?) ∧ L'.length = L.length)
      (seqO Imr121_0 (seqO (seqO Imr121_1 (cndX (.tmp 11) (seqO (seqO Imr121_2 (cndX (.tmp 17) (seqO Imr121_3 Out.ret) Out.nor)) (seqO Imr121_4 Imr121_5)) Out.nor)) runT) (T.set (some (.str nm)) (Pos.of 2) (T.set (some (.ptr ir 0)) (Pos.of 1) (T.set (some (.ptr pc 0)) (Pos.of 0) T.nil))) h) by
    obtain ⟨r, h', e, L', q⟩ := hT
    exact ⟨r, h', L', e, q⟩
  by_cases hn : nm = uidN
  · have eN : decide (nm = [117, 105, 100]) = true := decide_eq_true hn
    have A0 : ImF119 [vw, .int .i64 0] h1 = .ok (.bool (atomW w 0)) h1 := imAtom_ok tw1 0
    cases ha : atomW w 0 with
    | false =>
      have e1 : uidM nm w = none := by
        unfold uidM
        rw [if_pos hn]
        unfold atomW at ha
        cases hx : w.get? 0 with
        | none => rfl
        | some x => rw [hx] at ha; simp only [] at ha ⊢; rw [if_neg (by simpa using ha)]
      unfold runM at e
      rw [e1] at e
      cases e
      rw [ha] at A0
      simp (disch := omega) only [vmL, Nat.reduceEqDiff, reduceCtorEq, ↓reduceIte, vpL, vsL, vqL, eN, Imr121_0, Imr121_1, Imr121_2, Imr121_3, oNew_an, ← hh1, R3, A0, oBuild_an2, stAn g1]
      have c2 := Ch.put (S := fun j => j = h.next) h1 (some (.cells (.rw tA true) (ansL 2 [99, 111, 109, 109, 97, 110, 100] false false))) rfl
      refine Tells.ret (by simp only [resK, vmL, Nat.reduceEqDiff, reduceCtorEq, ↓reduceIte, vpL, vsL, vqL, dLoadAn, ldAn (put_self _ _ _), tupR]) ⟨L, rfl, ?_, whole (Stp.refl _ _) ((Stp.refl _ _).step c2 fun j e => .inr e), fun _ _ _ _ _ => rfl, rfl⟩
      rw [List.append_nil]
      exact d1.chO c2 fun j o e => no (e ▸ o)
    | true =>
      obtain ⟨x, hx, hxk⟩ : ∃ x, w.get? 0 = some x ∧ x.kind = 1 := by
        unfold atomW at ha
        cases hx : w.get? 0 with
        | none => rw [hx] at ha; cases ha
        | some x => rw [hx] at ha; exact ⟨x, rfl, by simpa using ha⟩
      have e1 : uidM nm w = some (true, foldM x.text, w.drop 1) := by
        unfold uidM
        rw [if_pos hn, hx]
        simp only []
        rw [if_pos hxk]
      unfold runM at e
      rw [e1] at e
      simp only [] at e
      rw [ha] at A0
      obtain ⟨hx1, hx2⟩ := hw x hx
      obtain ⟨j, q, vk, i1, i2, i3, i4, -⟩ := WS.at tw1 hx
      have i1' : ∀ h', oIdxS 3 vw (.int .i64 0) h' = .ok (.ptr j q) h' := i1
      obtain ⟨rf, h2, e2, rfl, c2⟩ := fold_okT (h := h1) hx2 hx1
      have d2 := d1.ch c2 fun _ _ _ q => q
      have tw2 : WS P h2 vw w := tw1.ch c2 fun j _ q => ⟨q, fun q => q⟩
      obtain ⟨v', es, tw3⟩ := tw2.from (k := 1) (by have := Wds.get?_lt hx; omega)
      have es' : ∀ h', oSlice 3 vw (some (.int .i64 1)) none none h' = .ok v' h' := es
      have R3' : oLoad1 (.ptr ir 3) h2 = .ok vw h2 := ld_at d2.get h3
      have hl3 : 3 < L.length := (List.getElem?_eq_some_iff.1 h3).1
      have hl4 : 4 < L.length := (List.getElem?_eq_some_iff.1 h4).1
      have S3 := st_get d2.get (q := 3) (y := v') tw3.cell hl3
      obtain ⟨d3, p3⟩ := d2.setO (k := 3) v' (by omega) (by omega)
      have S4 := st_get d3.get (q := 4) (y := .bool true) ⟨rfl, rfl⟩ (by rw [set_len]; exact hl4)
      obtain ⟨d4, p4⟩ := d3.setO (k := 4) (.bool true) (by omega) (by omega)
      have c34 : Ch (fun j => j = ir) h2 ((h2.put ir (some (.cells (.rw tRq true) (L.set 3 v')))).put ir (some (.cells (.rw tRq true) ((L.set 3 v').set 4 (.bool true))))) := (Ch.put (S := fun j => j = ir) _ _ rfl).trans (Ch.put (S := fun j => j = ir) _ _ rfl) fun _ _ q => q
      have tw4 := tw3.ch (P' := P) c34 fun j _ q => ⟨q, fun e => by have := hP j q; rw [e] at this; omega⟩
      have gc4 := (c34.get pc (by have := c2.next; omega) (fun e => by rw [e] at hc; omega)).trans ((c2.get pc (by omega) fun q => q).trans gc1)
      have gm4 := (c34.get im (by have := c2.next; omega) (fun e => by rw [e] at hm; omega)).trans ((c2.get im (by omega) fun q => q).trans gm1)
      have ga4 := (c34.get h.next (by have := c2.next; omega) (fun e => by rw [← e] at hbn; omega)).trans ((c2.get h.next (by omega) fun q => q).trans g1)
      have p14 : Stp (fun j => OfB ir 5 L j ∨ j = h.next) h1 (fun j => OfB ir 5 ((L.set 3 v').set 4 (.bool true)) j ∨ j = h.next) ((h2.put ir (some (.cells (.rw tRq true) (L.set 3 v')))).put ir (some (.cells (.rw tRq true) ((L.set 3 v').set 4 (.bool true))))) :=
        ((Stp.refl _ _).step c2 fun _ q => q.elim).trans ((stp_or p3 _).trans (stp_or p4 _))
      have na4 : ¬ OfB ir 5 ((L.set 3 v').set 4 (.bool true)) h.next := fun o => by
        rcases p4.sub _ o with o | o
        · rcases p3.sub _ o with o | o
          · exact no o
          · have := c2.next; omega
        · rw [put_next] at o; have := c2.next; omega
      have hh4 : ((L.set 3 v').set 4 (.bool true))[4]? = some (.bool true) := by rw [List.getElem?_set_self (by rw [set_len]; exact hl4)]
      have hh3 : ((L.set 3 v').set 4 (.bool true))[3]? = some v' := by rw [List.getElem?_set_ne (by omega), List.getElem?_set_self hl3]
      have n4 : h.next.nat < ((h2.put ir (some (.cells (.rw tRq true) (L.set 3 v')))).put ir (some (.cells (.rw tRq true) ((L.set 3 v').set 4 (.bool true))))).next.nat := by rw [put_next, put_next]; have := c2.next; omega
      generalize ((h2.put ir (some (.cells (.rw tRq true) (L.set 3 v')))).put ir (some (.cells (.rw tRq true) ((L.set 3 v').set 4 (.bool true))))) = h4' at *
      have i4' : oLoad1 (.ptr j (q + 1)) h1 = .ok (.str x.text) h1 := i3
      simp (disch := omega) only [vmL, Nat.reduceEqDiff, reduceCtorEq, ↓reduceIte, vpL, vsL, vqL, eN, Imr121_0, Imr121_1, Imr121_2, Imr121_4, Imr121_5, oNew_an, ← hh1, R3, R3', A0, i1', i4', e2, es', S3, S4]
      obtain ⟨r, h', er, L', q1, q2, q3, q4, q5⟩ := run_tail d4 hh3 hh4 tw4 gc4 gm4 ga4 na4 n4 hP hc hm hs e (fr := (T.set (some (.str (foldM x.text))) (Pos.of 2) (T.set (some (.bool false)) (Pos.of 17) (T.set (some (.bool true)) (Pos.of 11) (T.set (some (.ptr h.next 0)) (Pos.of 6) (T.set (some (.str nm)) (Pos.of 2) (T.set (some (.ptr ir 0)) (Pos.of 1) (T.set (some (.ptr pc 0)) (Pos.of 0) T.nil))))))))
        (by simp only [vmL, Nat.reduceEqDiff, reduceCtorEq, ↓reduceIte, vpL, vsL, vqL]) (by simp only [vmL, Nat.reduceEqDiff, reduceCtorEq, ↓reduceIte, vpL, vsL, vqL]) (by simp only [vmL, Nat.reduceEqDiff, reduceCtorEq, ↓reduceIte, vpL, vsL, vqL]) (by simp only [vmL, Nat.reduceEqDiff, reduceCtorEq, ↓reduceIte, vpL, vsL, vqL])
      exact ⟨r, h', er, L', q1, q2, whole p14 q3, fun k k3 k4 k5 k6 => by rw [q4 k k5 k6, List.getElem?_set_ne (by omega), List.getElem?_set_ne (by omega)], by rw [q5, set_len, set_len]⟩
  · have eN : decide (nm = [117, 105, 100]) = false := decide_eq_false hn
    have e1 : uidM nm w = some (false, nm, w) := by unfold uidM; rw [if_neg hn]
    unfold runM at e
    rw [e1] at e
    simp only [] at e
    simp (disch := omega) only [vmL, Nat.reduceEqDiff, reduceCtorEq, ↓reduceIte, vpL, vsL, vqL, eN, Imr121_0, Imr121_1, oNew_an, ← hh1]
    obtain ⟨r, h', er, L', q1, q2, q3, q4, q5⟩ := run_tail d1 h3 h4 tw1 gc1 gm1 g1 no (by omega) hP hc hm hs e (fr := (T.set (some (.bool false)) (Pos.of 11) (T.set (some (.ptr h.next 0)) (Pos.of 6) (T.set (some (.str nm)) (Pos.of 2) (T.set (some (.ptr ir 0)) (Pos.of 1) (T.set (some (.ptr pc 0)) (Pos.of 0) T.nil))))))
      (by simp only [vmL, Nat.reduceEqDiff, reduceCtorEq, ↓reduceIte, vpL, vsL, vqL]) (by simp only [vmL, Nat.reduceEqDiff, reduceCtorEq, ↓reduceIte, vpL, vsL, vqL]) (by simp only [vmL, Nat.reduceEqDiff, reduceCtorEq, ↓reduceIte, vpL, vsL, vqL]) (by simp only [vmL, Nat.reduceEqDiff, reduceCtorEq, ↓reduceIte, vpL, vsL, vqL])
    exact ⟨r, h', er, L', q1, q2, whole (Stp.refl _ _) q3, fun k _ _ k5 k6 => q4 k k5 k6, q5⟩
end Go.Proofs.Im

noncomputable section
namespace Go.Ln
open Go Go.Vm Go.Proofs.Im
def tellM (tag t : List Nat) : V → List Nat × Bool
  | .agg (.cons (.int _ k) (.cons (.str tx) (.cons (.bool last) _))) =>
    if k = 1 then (tag ++ [32, 78, 79, 32] ++ tx ++ [13, 10], true) else if k = 2 then (tag ++ [32, 66, 65, 68, 32] ++ tx ++ [13, 10], true) else (t ++ (tag ++ [32, 79, 75, 32, 100, 111, 110, 101, 13, 10]), !last)
  | _ => ([], false)
def doM (inn : Bool) (g : Ln.Got) : Option (List Nat × Bool) :=
  if g.kind = 2 then some ([43, 32, 103, 111, 32, 111, 110, 13, 10], true)
  else if g.kind = 1 then (match g.words.get? 0, g.words.get? 1 with
    | some a, some b => if a.kind = 1 ∧ b.kind = 1 then (match runM inn (foldM b.text) (g.words.drop 2) with
      | some (an, t) => some (tellM a.text t an)
      | none => none) else some ([42, 32, 66, 65, 68, 32, 108, 105, 110, 101, 13, 10], true)
    | _, _ => some ([42, 32, 66, 65, 68, 32, 108, 105, 110, 101, 13, 10], true))
  else some ([42, 32, 66, 65, 68, 32, 108, 105, 110, 101, 13, 10], true)
def AnOk (an : V) : Prop := (∃ k tx, (k = 1 ∨ k = 2) ∧ tx.length ≤ 100 ∧ an = ansV k tx false false) ∨ (∃ x, an = ansV 0 [] x x)
theorem ansW_ok {n : Nat} {x : Bool} : AnOk (ansW n (ansV 0 [] x x)) := by
  unfold ansW
  split
  · exact .inr ⟨x, rfl⟩
  · exact .inl ⟨2, _, .inr rfl, by simp, rfl⟩
theorem comM_ok {inn uid : Bool} {nm : List Nat} {n : Nat} {an : V} {t : List Nat} (e : comM inn uid nm n = some (an, t)) : AnOk an ∧ t.length ≤ 100 ∧ (∀ c ∈ t, c < 256) := by
  unfold comM at e
  split at e
  · cases e; exact ⟨.inl ⟨2, _, .inr rfl, by simp, rfl⟩, by simp, by simp⟩
  · split at e
    · cases e; exact ⟨.inl ⟨2, _, .inr rfl, by simp, rfl⟩, by simp, by simp⟩
    · split at e
      · cases e; exact ⟨.inl ⟨1, _, .inl rfl, by simp, rfl⟩, by simp, by simp⟩
      · split at e
        · cases e; refine ⟨ansW_ok, ?_⟩; unfold toldW; split <;> simp
        · split at e
          · cases e; exact ⟨ansW_ok, by simp, by simp⟩
          · split at e
            · cases e; refine ⟨ansW_ok, ?_⟩; unfold toldW; split <;> simp
            · cases e
theorem runM_ok {inn : Bool} {nm : List Nat} {w : Wds} {an : V} {t : List Nat} (e : runM inn nm w = some (an, t)) : AnOk an ∧ t.length ≤ 100 ∧ (∀ c ∈ t, c < 256) := by
  unfold runM at e
  split at e
  · cases e; exact ⟨.inl ⟨2, _, .inr rfl, by simp, rfl⟩, by simp, by simp⟩
  · exact comM_ok e
end Go.Ln
namespace Go.Proofs.Im
open Go Go.Proofs Go.Vm Go.Ln
set_option linter.unusedVariables false
set_option maxRecDepth 100000
set_option linter.unusedSimpArgs false
theorem upd_nil (h : Hp) (x : V) (b : Bool) : ImF124 [.nilp, x, .bool b] h = .ok (.str []) h := by kernel_rfl
theorem add_ok {h : Hp} {i : Pos} {q : Nat} {t : TypeId} {f : Bool} {l : List V} {n : Int} (hg : h.get i = some (.cells (.rw t f) l)) (hq : l[q]? = some (.int .i64 n)) :
    ∃ m, ImF120 [.ptr i q, .int .i64 1] h = .ok (.int .i64 m) (h.put i (some (.cells (.rw t f) (l.set q (.int .i64 m))))) := by
  have e1 : ImF231 [.ptr i q, .int .i64 1] h = .ok (.int .i64 (wrapK .i64 (n + 1))) (h.put i (some (.cells (.rw t f) (l.set q (.int .i64 (wrapK .i64 (n + 1))))))) := by
    show hCells h i (fun wr cs => (match nthV q cs with
      | some v => (match v with
        | .int k' n => (match sameK .i64 k', sameK .i64 .i64 with
          | true, true => (match wr with
            | .rw t f => (match okInt .i64 (wrapK .i64 (n + 1)) h with
              | .ok s _ => (match putV q [s] cs with | some cs' => R.ok s (h.put i (some (.cells (.rw t f) cs'))) | none => .bad)
              | .bad => .bad)
            | .ro => .bad)
          | _, _ => .bad)
        | _ => .bad)
      | none => .bad)) = _
    rw [hCells_rowA (wr := .rw t f) (all := l) (by rw [hg]; rfl), nthV_eq, hq]
    simp only [show sameK .i64 .i64 = true from rfl, okInt_eq]
    rw [putV_one (List.getElem?_eq_some_iff.1 hq).1]
  refine ⟨wrapK .i64 (n + 1), ?_⟩
  rw [ImF120_eq]
  simp (disch := omega) only [vmL, Nat.reduceEqDiff, reduceCtorEq, ↓reduceIte, vpL, vsL, vqL, Imd120, Imr120_0, Imr120_1, Nat.add_zero, e1]
  simp only [outR, resK, vmL, Nat.reduceEqDiff, reduceCtorEq, ↓reduceIte, vpL, vsL, vqL, tupR]
end Go.Proofs.Im
