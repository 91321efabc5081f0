/- Part of the value machine, or of a walk by it: lemmas that the claim's last text uses. No conditions. -/
import Derived.Test.YtfaolchpaooboaaGreatDoorJfVmP
set_option linter.unusedVariables false
set_option linter.unusedSimpArgs false
set_option linter.unnecessarySimpa false
namespace Go.Vm
noncomputable section
variable {P : Program} {G : Nat}
def snocP : List Pos → Pos → List Pos
  | [], p => [p]
  | q :: l, p => q :: snocP l p
def lenP : List Pos → Nat
  | [] => 0
  | _ :: l => (lenP l).succ
def addP (G : Nat) (i j : Pos) (L : List Pos) : List Pos := match Nat.beq i.nat (G + lenP L) with | true => snocP L j | false => L
def matV (G : Nat) (p : V) : V → List Pos → List Pos :=
  V.rec (motive := fun _ => V → List Pos → List Pos) (fun _ _ L => L) (fun _ _ _ L => L) (fun _ _ L => L)
    (fun i _ v L => match v with | .ptr j _ => addP G i j L | _ => L) (fun _ L => L)
    (fun i _ _ _ v L => match v with | .slice j _ _ _ => addP G i j L | _ => L) (fun _ L => L) (fun _ L => L)
    (fun i v L => match v with | .map j => addP G i j L | _ => L) (fun _ L => L)
    (fun _ _ _ iha ihb v L => match v with | .func _ c d => ihb d (iha c L) | _ => L) (fun _ L => L)
    (fun _ _ ih v L => match v with | .iface _ u => ih u L | _ => L) (fun _ L => L)
    (fun _ ih v L => match v with | .agg u => ih u L | _ => L) (fun _ ih v L => match v with | .tuple u => ih u L | _ => L) (fun _ L => L)
    (fun _ _ iha ihb v L => match v with | .cons c d => ihb d (iha c L) | _ => L) p
def matL (G : Nat) : List V → List V → List Pos → List Pos
  | [], _, L => L
  | p :: ps, vs, L => (match vs with | [] => L | v :: vs => matL G ps vs (matV G p v L))
def matE (G : Nat) : List (V × V) → List (V × V) → List Pos → List Pos
  | [], _, L => L
  | p :: ps, vs, L => (match vs with | [] => L | v :: vs => matE G ps vs (matV G p.2 v.2 (matV G p.1 v.1 L)))
def matO (G : Nat) (o q : Ob) (L : List Pos) : List Pos := match o with
  | .cells _ l => (match q with | .cells _ k => matL G l k L | _ => L)
  | .map l => (match q with | .map k => matE G l k L | _ => L)
  | _ => L
def matOs (G : Nat) (h : Hp) : List Ob → Nat → List Pos → Option (List Pos)
  | [], _, L => some L
  | o :: ks, n, L => (match Nat.blt n (lenP L) with
    | true => (match h.get (nthP n L) with
      | some q => (match matO G o q L with | L' => (match eqOb q (o.ren (tau G L')) with | true => matOs G h ks n.succ L' | false => none))
      | none => none)
    | false => none)
def renL (t : Pos → Pos) : List V → List V
  | [] => []
  | v :: l => v.ren t :: renL t l
theorem renL_eq (t : Pos → Pos) : ∀ l : List V, renL t l = l.map (V.ren t)
  | [] => rfl
  | v :: l => by rw [renL, renL_eq t l]; rfl
def memP (p : Pos) : List Pos → Bool
  | [] => false
  | q :: l => (match p.eq q with | true => true | false => memP p l)
theorem memP_false {p : Pos} : ∀ {l : List Pos}, memP p l = false → p ∉ l
  | [], _, h => by cases h
  | q :: l, e, h => by
    unfold memP at e
    split at e
    · cases e
    · rename_i hq
      rcases List.mem_cons.1 h with rfl | h
      · rw [Pos.eq_iff.2 rfl] at hq; cases hq
      · exact memP_false e h
def nodupP : List Pos → Bool
  | [] => true
  | p :: l => (match memP p l with | true => false | false => nodupP l)
theorem nodupP_ok : ∀ {l : List Pos}, nodupP l = true → l.Nodup
  | [], _ => List.nodup_nil
  | p :: l, h => by
    unfold nodupP at h
    split at h
    · cases h
    · rename_i hm
      exact List.nodup_cons.2 ⟨memP_false hm, nodupP_ok h⟩
theorem nodup_inj {l : List Pos} (h : l.Nodup) {i j : Nat} {p : Pos} (hi : l[i]? = some p) (hj : l[j]? = some p) : i = j := by
  have h := List.pairwise_iff_getElem.1 (List.nodup_iff_pairwise_ne.1 h)
  obtain ⟨a, ha⟩ := List.getElem?_eq_some_iff.1 hi
  obtain ⟨b, hb⟩ := List.getElem?_eq_some_iff.1 hj
  rcases Nat.lt_trichotomy i j with q | q | q
  · exact absurd (ha.trans hb.symm) (h i j a b q)
  · exact q
  · exact absurd (hb.trans ha.symm) (h j i b a q)
def rangeP (a b : Nat) : List Pos → Bool
  | [] => true
  | p :: l => (Nat.ble a p.nat && Nat.blt p.nat b) && rangeP a b l
theorem rangeP_ok {a b : Nat} : ∀ {l : List Pos}, rangeP a b l = true → ∀ p ∈ l, a ≤ p.nat ∧ p.nat < b
  | [], _, p, h => by cases h
  | q :: l, e, p, h => by
    simp only [rangeP, Bool.and_eq_true] at e
    rcases List.mem_cons.1 h with rfl | h
    · exact ⟨Nat.le_of_ble_eq_true e.1.1, by simpa [Nat.blt_eq] using e.1.2⟩
    · exact rangeP_ok e.2 p h
def obsC (t : Pos → Pos) (h : Hp) : List Pos → List Ob → Bool
  | [], ks => (match ks with | [] => true | _ :: _ => false)
  | p :: l, ks => (match ks with | [] => false | o :: ks => (match h.get p with | some q => eqOb q (o.ren t) | none => false) && obsC t h l ks)
theorem obsC_ok {t : Pos → Pos} {h : Hp} : ∀ {l : List Pos} {ks : List Ob}, obsC t h l ks = true → l.length = ks.length ∧ ∀ (k : Nat) (p : Pos) (o : Ob), l[k]? = some p → ks[k]? = some o → h.get p = some (o.ren t)
  | [], [], _ => ⟨rfl, fun k p o h => by simp at h⟩
  | [], _ :: _, h => by cases h
  | _ :: _, [], h => by cases h
  | p :: l, o :: ks, e => by
    simp only [obsC, Bool.and_eq_true] at e
    obtain ⟨a, b⟩ := obsC_ok e.2
    refine ⟨by simp [a], fun k q x hk hx => ?_⟩
    cases k with
    | zero =>
      simp at hk hx; subst hk; subst hx
      have e1 := e.1
      split at e1
      · rename_i y hy; rw [hy, eqOb_ok e1]
      · cases e1
    | succ k => simp at hk hx; exact b k q x hk hx
def okC (G : Nat) (a0 : List V) (ks : List Ob) (args : List V) (h : Hp) (L : List Pos) : Bool :=
  (eqL args (renL (tau G L) a0) && rangeP G h.next.nat L) && (nodupP L && obsC (tau G L) h L ks)
def hitC (G : Nat) (a0 : List V) (ks : List Ob) (args : List V) (h : Hp) : Option (List Pos) := match matL G a0 args [] with
  | L0 => (match eqL args (renL (tau G L0) a0) with
    | true => (match matOs G h ks 0 L0 with
      | some L => (match okC G a0 ks args h L with | true => some L | false => none)
      | none => none)
    | false => none)
theorem hitC_ok {a0 : List V} {ks : List Ob} {args : List V} {h : Hp} {L : List Pos} (e : hitC G a0 ks args h = some L) : okC G a0 ks args h L = true := by
  unfold hitC at e
  dsimp only at e
  split at e
  · split at e
    · split at e
      · rename_i hk; cases e; exact hk
      · cases e
    · cases e
  · cases e
def succs : Pos → List Ob → List Pos
  | _, [] => []
  | p, _ :: l => p :: succs p.succ l
theorem succs_get : ∀ {l : List Ob} {p : Pos} {k : Nat}, k < l.length → (succs p l)[k]? = some (Pos.of (p.nat + k))
  | [], _, _, h => by cases h
  | _ :: l, p, 0, _ => by simp only [succs, List.getElem?_cons_zero, Nat.add_zero, Pos.of_nat]
  | _ :: l, p, k + 1, h => by
    simp only [succs, List.getElem?_cons_succ]
    rw [succs_get (by simpa using h), Pos.nat_succ]
    congr 2; omega
def appP : List Pos → List Pos → List Pos
  | [], m => m
  | p :: l, m => p :: appP l m
theorem appP_eq : ∀ l m : List Pos, appP l m = l ++ m
  | [], _ => rfl
  | p :: l, m => by rw [appP, appP_eq l m]; rfl
def patch : List (Option Ob) → List (Nat × Option Ob) → List (Option Ob)
  | os, [] => os
  | os, c :: cs => patch (os.set c.1 c.2) cs
def mapO (t : Pos → Pos) (o : Option Ob) : Option Ob := match o with | some x => some (x.ren t) | none => none
theorem mapO_eq (t : Pos → Pos) (o : Option Ob) : mapO t o = o.map (Ob.ren t) := by cases o <;> rfl
def putL (t : Pos → Pos) (L : List Pos) : Hp → List (Nat × Option Ob) → Hp
  | h, [] => h
  | h, c :: cs => putL t L (h.put (nthP c.1 L) (mapO t c.2)) cs
def renO (t : Pos → Pos) : List Ob → List Ob
  | [] => []
  | o :: l => o.ren t :: renO t l
theorem renO_eq (t : Pos → Pos) : ∀ l : List Ob, renO t l = l.map (Ob.ren t)
  | [] => rfl
  | v :: l => by rw [renO, renO_eq t l]; rfl
def glueC (G : Nat) (cs : List (Nat × Option Ob)) (news : List Ob) (rc : V) (L : List Pos) (h : Hp) : R V := match tau G (appP L (succs h.next news)) with
  | t => .ok (rc.ren t) (mkF (putL t L h cs) (renO t news))
def locC (G : Nat) (a0 : List V) (ks : List Ob) (cs : List (Nat × Option Ob)) (news : List Ob) (rc : V) (F : Fun) : Fun := fun args h => match hitC G a0 ks args h with
  | some L => glueC G cs news rc L h
  | none => F args h
def insO (n : Nat) : List Ob → Bool
  | [] => true
  | o :: l => o.ins n && insO n l
theorem insO_get {n : Nat} : ∀ {l : List Ob} {k : Nat} {o : Ob}, insO n l = true → l[k]? = some o → o.ins n = true
  | [], k, o, _, h => by simp at h
  | x :: l, 0, o, h, e => by
    simp only [insO, Bool.and_eq_true] at h
    simp at e; subst e; exact h.1
  | x :: l, k + 1, o, h, e => by
    simp only [insO, Bool.and_eq_true] at h
    exact insO_get h.2 (by simpa using e)
def insC (n m : Nat) : List (Nat × Option Ob) → Bool
  | [] => true
  | c :: cs => (Nat.blt c.1 n && (match c.2 with | some o => o.ins m | none => true)) && insC n m cs
def statC (G n : Nat) (a0 : List V) (ks : List Ob) (cs : List (Nat × Option Ob)) (news : List Ob) (rc : V) : Bool :=
  (Nat.beq ks.length n && (insL (G + n) a0 && insO (G + n) ks)) && (insC n (G + n + news.length) cs && (insO (G + n + news.length) news && rc.ins (G + n + news.length)))
theorem patch_len : ∀ {cs : List (Nat × Option Ob)} {os : List (Option Ob)}, (patch os cs).length = os.length
  | [], _ => rfl
  | c :: cs, os => by rw [patch, patch_len, List.length_set]
theorem putL_next (t : Pos → Pos) (L : List Pos) : ∀ (cs : List (Nat × Option Ob)) (h : Hp), (putL t L h cs).next = h.next
  | [], _ => rfl
  | c :: cs, h => by rw [putL, putL_next t L cs]; rfl
theorem putL_get {t : Pos → Pos} {L : List Pos} {n m : Nat} (hn : L.length = n) (hd : L.Nodup) : ∀ {cs : List (Nat × Option Ob)} {h : Hp} {os : List (Option Ob)}, os.length = n → insC n m cs = true → (∀ (k : Nat) (p : Pos), L[k]? = some p → h.get p = ((os[k]?).join).map (Ob.ren t)) →
    (∀ (k : Nat) (p : Pos), L[k]? = some p → (putL t L h cs).get p = (((patch os cs)[k]?).join).map (Ob.ren t)) ∧ ∀ j, j ∉ L → (putL t L h cs).get j = h.get j
  | [], h, os, _, _, hg => ⟨hg, fun _ _ => rfl⟩
  | c :: cs, h, os, ho, hi, hg => by
    simp only [insC, Bool.and_eq_true] at hi
    have hc : c.1 < n := by simpa [Nat.blt_eq] using hi.1.1
    have hlt : c.1 < L.length := by omega
    have hp : nthP c.1 L = L[c.1] := by rw [nthP_eq, List.getElem?_eq_getElem hlt]; rfl
    obtain ⟨a, b⟩ := putL_get (t := t) (m := m) hn hd (cs := cs) (h := h.put (nthP c.1 L) (mapO t c.2)) (os := os.set c.1 c.2) (by rw [List.length_set]; exact ho) hi.2 (fun k p hk => by
      by_cases e : k = c.1
      · subst e
        have : p = L[c.1] := by rw [List.getElem?_eq_getElem hlt] at hk; exact (Option.some.inj hk).symm
        rw [hp, this, h.get_put_self, List.getElem?_set_self (by omega), mapO_eq]; rfl
      · have hne : p ≠ L[c.1] := fun q => by
          exact e (nodup_inj hd hk (by rw [q]; exact List.getElem?_eq_getElem hlt))
        rw [hp, h.get_put_ne hne, List.getElem?_set_ne (Ne.symm e)]
        exact hg k p hk)
    refine ⟨a, fun j hj => ?_⟩
    rw [putL, b j hj, hp, h.get_put_ne fun q => hj (by rw [q]; exact List.getElem_mem hlt)]
theorem locC_ok {f : FuncId} {F : Fun} {n : Nat} {a0 : List V} {ks : List Ob} {cs : List (Nat × Option Ob)} {news : List Ob} {rc : V} (hF : CallOk P G f F) (hs : statC G n a0 ks cs news rc = true)
    (hD : Does P G f a0 (mkO G (ks.map some)) rc (mkO G (patch (ks.map some) cs ++ news.map some))) : CallOk P G f (locC G a0 ks cs news rc F) := by
  intro args h r h' M w cargs e hr ha
  unfold locC at e
  split at e
  · rename_i L hL
    have hk := hitC_ok hL
    unfold okC at hk
    simp only [Bool.and_eq_true] at hk
    obtain ⟨⟨k1, k2⟩, k3, k4⟩ := hk
    have k1 := eqL_ok k1
    rw [renL_eq] at k1
    have k2 := rangeP_ok k2
    have k3 := nodupP_ok k3
    obtain ⟨k4, k5⟩ := obsC_ok k4
    unfold statC at hs
    simp only [Bool.and_eq_true] at hs
    obtain ⟨⟨s1, s2, s3⟩, s4, s5, s6⟩ := hs
    have s1 := Nat.eq_of_beq_eq_true s1
    have hLn : L.length = n := by omega
    have hKn : (mkO G (ks.map some)).next.nat = G + n := by rw [mkO_next, List.length_map, s1]
    have hKcn : (mkO G (patch (ks.map some) cs ++ news.map some)).next.nat = G + n + news.length := by rw [mkO_next, List.length_append, patch_len, List.length_map, List.length_map, s1]; omega
    have tat : ∀ i : Pos, G ≤ i.nat → i.nat < G + n → ∃ p, L[i.nat - G]? = some p ∧ tau G L i = p := fun i h1 h2 => by
      have : i.nat - G < L.length := by omega
      exact ⟨_, List.getElem?_eq_getElem this, tau_ge h1 (List.getElem?_eq_getElem this)⟩
    have hGh : ∀ g, g < G → g < h.next.nat := fun g hg => by
      rcases Nat.lt_or_ge g h.next.nat with q | q
      · exact q
      · obtain ⟨n, hn⟩ := hr.gl g hg
        rw [hr.fresh (Pos.of g) (by rw [Pos.nat_of]; exact q)] at hn; cases hn
    have S : Sub G (tau G L) (mkO G (ks.map some)) h := by
      refine ⟨fun i j hi hj e => ?_, fun i hi => ?_, fun i o hi => ?_, fun g hg => ⟨by omega, tau_lt (by rw [Pos.nat_of]; exact hg)⟩⟩
      · rw [hKn] at hi hj
        rcases Nat.lt_or_ge i.nat G with x | x <;> rcases Nat.lt_or_ge j.nat G with y | y
        · rw [tau_lt x, tau_lt y] at e; exact e
        · obtain ⟨q, hq, e2⟩ := tat j y hj
          rw [tau_lt x, e2] at e
          have := (k2 q (List.mem_of_getElem? hq)).1
          rw [← e] at this; omega
        · obtain ⟨q, hq, e2⟩ := tat i x hi
          rw [tau_lt y, e2] at e
          have := (k2 q (List.mem_of_getElem? hq)).1
          rw [e] at this; omega
        · obtain ⟨q, hq, e2⟩ := tat i x hi
          obtain ⟨r, hr, e3⟩ := tat j y hj
          rw [e2, e3] at e
          subst e
          have := nodup_inj k3 hq hr
          exact Pos.nat_inj (by omega)
      · rw [hKn] at hi
        rcases Nat.lt_or_ge i.nat G with x | x
        · rw [tau_lt x]; exact hGh _ x
        · obtain ⟨q, hq, e2⟩ := tat i x hi
          rw [e2]; exact (k2 q (List.mem_of_getElem? hq)).2
      · rw [mkO_get] at hi
        split at hi
        · rename_i hG
          have hk : ks[i.nat - G]? = some o := by
            rw [List.getElem?_map] at hi
            cases h : ks[i.nat - G]? with
            | none => rw [h] at hi; cases hi
            | some y => rw [h] at hi; exact hi
          have hlt : i.nat - G < ks.length := (List.getElem?_eq_some_iff.1 hk).1
          obtain ⟨q, hq, e2⟩ := tat i hG (by omega)
          exact ⟨by omega, by rw [hKn]; exact insO_get s3 hk, by rw [e2]; exact k5 _ _ _ hq hk⟩
        · cases hi
    unfold glueC at e
    simp only [] at e
    rw [appP_eq, renO_eq] at e
    obtain ⟨t, ht⟩ : ∃ t, t = tau G (L ++ succs h.next news) := ⟨_, rfl⟩
    rw [← ht] at e
    cases e
    have hsig : ∀ i : Pos, i.nat < G + n + news.length → sig (tau G L) (mkO G (ks.map some)).next.nat h.next.nat i = t i := fun i hi => by
      rw [ht, hKn]
      rcases Nat.lt_or_ge i.nat (G + n) with x | x
      · rw [sig_lt x]
        rcases Nat.lt_or_ge i.nat G with y | y
        · rw [tau_lt y, tau_lt y]
        · obtain ⟨q, hq, e2⟩ := tat i y x
          rw [e2, tau_ge y (by rw [List.getElem?_append_left (by omega)]; exact hq)]
      · rw [sig_ge x]
        have : (L ++ succs h.next news)[i.nat - G]? = some (Pos.of (h.next.nat + (i.nat - G - n))) := by
          rw [List.getElem?_append_right (by omega), hLn]
          exact succs_get (by omega)
        rw [tau_ge (by omega) this]
        congr 1; omega
    have hlow : ∀ i : Pos, i.nat < G + n → tau G L i = t i := fun i hi => by rw [← hsig i (by omega), sig_lt (by rw [hKn]; exact hi)]
    have c1 : rc.ren t = rc.ren (sig (tau G L) (mkO G (ks.map some)).next.nat h.next.nat) := V.ren_congr (n := G + n + news.length) (fun i hi => (hsig i hi).symm) s6
    have hput := putL_get (t := t) (L := L) (n := n) (m := G + n + news.length) hLn k3 (cs := cs) (h := h) (os := ks.map some) (by rw [List.length_map]; exact s1) s4 (fun k p hk => by
      have hlt : k < ks.length := by have := (List.getElem?_eq_some_iff.1 hk).1; omega
      have hx : ks[k]? = some ks[k] := List.getElem?_eq_getElem hlt
      rw [k5 k p _ hk hx, List.getElem?_map, hx]
      show _ = some _
      rw [Ob.ren_congr (n := G + n) hlow (insO_get s3 hx)])
    have ins_patch : ∀ (cs : List (Nat × Option Ob)) (os : List (Option Ob)), insC n (G + n + news.length) cs = true → (∀ (k : Nat) (o : Ob), os[k]? = some (some o) → o.ins (G + n + news.length) = true) → ∀ (k : Nat) (o : Ob), (patch os cs)[k]? = some (some o) → o.ins (G + n + news.length) = true := by
      intro cs
      induction cs with
      | nil => intro os _ h; exact h
      | cons c cs ih =>
        intro os hi hos
        simp only [insC, Bool.and_eq_true] at hi
        refine ih (os.set c.1 c.2) hi.2 fun k o hk => ?_
        by_cases e : c.1 = k
        · rw [List.getElem?_set] at hk
          rw [if_pos e] at hk
          split at hk
          · have h2 := hi.1.2
            cases hk2 : c.2 with
            | none => rw [hk2] at hk; cases hk
            | some x => rw [hk2] at hk h2; cases hk; exact h2
          · cases hk
        · rw [List.getElem?_set_ne e] at hk; exact hos k o hk
    have insMono : ∀ {a b : Nat}, a ≤ b → ∀ v : V, v.ins a = true → v.ins b = true := by
      intro a b hab v
      have lt : ∀ i : Pos, Nat.blt i.nat a = true → Nat.blt i.nat b = true := fun i hi => by simp only [Nat.blt_eq] at *; omega
      induction v with
      | ptr i o => exact lt i
      | slice i o m c => exact lt i
      | map i => exact lt i
      | func fn x y ihx ihy =>
        intro hi
        simp only [V.ins, Bool.and_eq_true] at hi ⊢
        refine ⟨?_, ihx hi.2.1, ihy hi.2.2⟩
        have h1 := hi.1
        cases fn <;> first | rfl | (simp only [fnIns, Nat.blt_eq] at h1 ⊢; omega)
      | iface t v ih => exact ih
      | agg l ih => exact ih
      | tuple l ih => exact ih
      | cons x y ihx ihy =>
        intro hi
        simp only [V.ins, Bool.and_eq_true] at hi ⊢
        exact ⟨ihx hi.1, ihy hi.2⟩
      | _ => intro _; rfl
    have insMonoO : ∀ o : Ob, o.ins (G + n) = true → o.ins (G + n + news.length) = true := by
      have hL : ∀ l : List V, insL (G + n) l = true → insL (G + n + news.length) l = true := fun l => by
        induction l with
        | nil => intro _; rfl
        | cons v l ih => intro h; simp only [insL, Bool.and_eq_true] at h ⊢; exact ⟨insMono (by omega) v h.1, ih h.2⟩
      have hE : ∀ l : List (V × V), insE (G + n) l = true → insE (G + n + news.length) l = true := fun l => by
        induction l with
        | nil => intro _; rfl
        | cons v l ih => intro h; simp only [insE, Bool.and_eq_true] at h ⊢; exact ⟨⟨insMono (by omega) _ h.1.1, insMono (by omega) _ h.1.2⟩, ih h.2⟩
      intro o
      cases o with
      | cells w cs => exact hL cs
      | map es => exact hE es
      | iter s n => intro h; exact h
      | bytes cs => exact hL cs
    have hpi := ins_patch cs (ks.map some) s4 (fun k o hk => by
      rw [List.getElem?_map] at hk
      cases h : ks[k]? with
      | none => rw [h] at hk; cases hk
      | some y => rw [h] at hk; cases hk; exact insMonoO _ (insO_get s3 h))
    have gl : Glued (tau G L) (mkO G (ks.map some)) (mkO G (patch (ks.map some) cs ++ news.map some)) h (mkF (putL t L h cs) (news.map (Ob.ren t))) := by
      have hcongr : ∀ o : Option Ob, (∀ x, o = some x → x.ins (G + n + news.length) = true) → o.map (Ob.ren t) = o.map (Ob.ren (sig (tau G L) (mkO G (ks.map some)).next.nat h.next.nat)) := fun o ho => by
        cases o with
        | none => rfl
        | some x => show some _ = some _; rw [Ob.ren_congr (n := G + n + news.length) (fun i hi => (hsig i hi).symm) (ho x rfl)]
      refine ⟨?_, fun i hi hne => ?_, fun i hi hi' => ?_, fun j hj hjr => ?_⟩
      · rw [mkF_next, putL_next, List.length_map, hKn, hKcn]; omega
      · have hG : G ≤ i.nat := by
          rcases Nat.lt_or_ge i.nat G with x | x
          · exfalso; apply hne; rw [mkO_get, if_neg (by omega)]
          · exact x
        rw [hKn] at hi
        obtain ⟨p, hp, e2⟩ := tat i hG hi
        have hpl := (k2 p (List.mem_of_getElem? hp)).2
        rw [e2, mkF_get, putL_next, if_neg (by omega), hput.1 _ p hp, mkO_get, if_pos hG, List.getElem?_append_left (by rw [patch_len, List.length_map, s1]; omega)]
        refine hcongr _ fun x hx => ?_
        refine hpi (i.nat - G) x ?_
        cases h : (patch (ks.map some) cs)[i.nat - G]? with
        | none => rw [h] at hx; cases hx
        | some y => rw [h] at hx; cases y with
          | none => cases hx
          | some y => cases hx; rfl
      · rw [hKn] at hi
        rw [hKcn] at hi'
        have hsn : (sig (tau G L) (mkO G (ks.map some)).next.nat h.next.nat i).nat = h.next.nat + (i.nat - (G + n)) := by rw [hKn, sig_ge hi, Pos.nat_of]; omega
        rw [mkF_get, putL_next, List.length_map, hsn, if_pos (by omega), mkO_get, if_pos (by omega), List.getElem?_append_right (by rw [patch_len, List.length_map, s1]; omega), patch_len, List.length_map, s1,
          List.getElem?_map, List.getElem?_map, show i.nat - G - n = h.next.nat + (i.nat - (G + n)) - h.next.nat by omega]
        have hlt : h.next.nat + (i.nat - (G + n)) - h.next.nat < news.length := by omega
        rw [List.getElem?_eq_getElem hlt]
        show some _ = some _
        have := hcongr (some news[h.next.nat + (i.nat - (G + n)) - h.next.nat]) fun x hx => by cases hx; exact insO_get s5 (List.getElem?_eq_getElem hlt)
        exact this
      · have hjL : j ∉ L := fun hm => by
          obtain ⟨k, hk, e2⟩ := List.mem_iff_getElem.1 hm
          have hk2 : L[k]? = some j := by rw [List.getElem?_eq_getElem hk, e2]
          refine hj (Pos.of (G + k)) (by rw [Pos.nat_of, hKn]; omega) ?_ (tau_ge (by rw [Pos.nat_of]; omega) (by rw [Pos.nat_of, Nat.add_sub_cancel_left]; exact hk2))
          rw [mkO_get, Pos.nat_of, if_pos (by omega), Nat.add_sub_cancel_left, List.getElem?_map, List.getElem?_eq_getElem (by omega : k < ks.length)]
          simp
        rw [mkF_next, putL_next, List.length_map] at hjr
        rw [mkF_get, putL_next, List.length_map, if_neg (by omega)]
        exact hput.2 j hjL
    rw [c1]
    rw [k1] at ha
    exact loc_core hD S (by rw [hKn]; exact s2) gl hr ha
  · exact hF args h r h' M w cargs e hr ha
end
end Go.Vm

namespace Go.Vm
noncomputable section
variable {P : Program} {G : Nat}
theorem fnRen_id {ρ : Pos → Pos} (h : ∀ i, ρ i = i) (f : Fn) : fnRen ρ f = f := by
  cases f <;> first | rfl | (simp only [fnRen, h, Pos.nat_of])
theorem V.ren_id {ρ : Pos → Pos} (h : ∀ i, ρ i = i) (v : V) : v.ren ρ = v := by
  induction v with
  | ptr i o => simp only [V.ren, h]
  | slice i o n c => simp only [V.ren, h]
  | map i => simp only [V.ren, h]
  | func fn a b iha ihb => simp only [V.ren, fnRen_id h, iha, ihb]
  | iface t v ih => simp only [V.ren, ih]
  | agg l ih => simp only [V.ren, ih]
  | tuple l ih => simp only [V.ren, ih]
  | cons a b iha ihb => simp only [V.ren, iha, ihb]
  | _ => rfl
def scalF (A : List V → Option V) (F : Fun) : Fun := fun args h => match A args with
  | some r => .ok r h
  | none => F args h
theorem scalF_ok {f : FuncId} {F : Fun} {A : List V → Option V} (hF : CallOk P G f F) (hA : ∀ args r, A args = some r → insL G args = true ∧ chkC G G [] [] r (F args (mkO G [])) = true) : CallOk P G f (scalF A F) := by
  intro args h r h' M w cargs e hr ha
  unfold scalF at e
  split at e
  · rename_i r' hr'
    cases e
    obtain ⟨a1, a2⟩ := hA _ _ hr'
    have hno : ∀ i, (mkO G []).get i = none := fun i => by rw [mkO_get]; split <;> rfl
    have hn : (mkO G []).next.nat = G := by rw [mkO_next]; rfl
    have hD := Does.comp hF hn a2
    have hrins : r.ins G = true := by
      unfold chkC at a2
      split at a2
      · simp only [Bool.and_eq_true] at a2; exact a2.1.2
      · cases a2
    have hG : ∀ g, g < G → g < h.next.nat := fun g hg => by
      rcases Nat.lt_or_ge g h.next.nat with q | q
      · exact q
      · obtain ⟨n, hn⟩ := hr.gl g hg
        rw [hr.fresh (Pos.of g) (by rw [Pos.nat_of]; exact q)] at hn; cases hn
    have S : Sub G (fun i => i) (mkO G []) h := ⟨fun i j _ _ e => e, fun i hi => by rw [hn] at hi; exact hG _ hi, (fun i o hi => by rw [hno] at hi; cases hi), fun g hg => ⟨by omega, rfl⟩⟩
    have gl : Glued (fun i => i) (mkO G []) (mkO G []) h h := ⟨by omega, fun i _ hne => absurd (hno i) hne, fun i h1 h2 => by omega, fun j _ _ => rfl⟩
    have hc := loc_core hD S (by rw [hn]; exact a1) gl (M := M) (w := w) (cargs := cargs) hr (by
      have : args.map (V.ren fun i => i) = args := by
        conv => rhs; rw [← List.map_id args]
        exact List.map_congr_left fun v _ => V.ren_id (fun _ => rfl) v
      rw [this]; exact ha)
    have e2 : r.ren (sig (fun i => i) (mkO G []).next.nat h.next.nat) = r := by
      rw [V.ren_congr (n := G) (σ := fun i => i) (fun i hi => sig_lt (by rw [hn]; exact hi)) hrins]
      exact V.ren_id (fun _ => rfl) r
    rw [e2] at hc
    exact hc
  · exact hF args h r h' M w cargs e hr ha
end
end Go.Vm
