/- Part of the value machine, or of a walk by it: lemmas that the claim's last text uses. No conditions. -/
import Derived.Test.YtnlbcbjgejpanaaGreatDoorStVmQ
import Derived.Test.YtnlbcbjgejpanaaGreatDoorStVmO
set_option linter.unusedVariables false
set_option linter.unusedSimpArgs false
set_option linter.unnecessarySimpa false
namespace Go.Vm
noncomputable section
inductive Ctx where
  | hole
  | seqR (a : F → Hp → Out) (c : Ctx)
  | seqL (c : Ctx) (b : F → Hp → Out)
  | cndT (t : Nat) (c : Ctx) (b : F → Hp → Out)
  | cndF (t : Nat) (a : F → Hp → Out) (c : Ctx)
  | blk (id : Nat) (c : Ctx)
def Ctx.fill : Ctx → (F → Hp → Out) → F → Hp → Out
  | .hole, r => r
  | .seqR a c, r => seqO a (c.fill r)
  | .seqL c b, r => seqO (c.fill r) b
  | .cndT t c b, r => cndX (.tmp t) (c.fill r) b
  | .cndF t a c, r => cndX (.tmp t) a (c.fill r)
  | .blk id c, r => blkO id (c.fill r)
def Ctx.reach : Ctx → F → Hp → Option (F × Hp)
  | .hole, fr, h => some (fr, h)
  | .seqR a c, fr, h => (match a fr h with
    | .nor fr h => c.reach fr h
    | .ret _ _ => none
    | .ex _ _ _ => none
    | .bad => none)
  | .seqL c _, fr, h => c.reach fr h
  | .cndT t c _, fr, h => (match fr.get (Pos.of t) with
    | some v => (match isTrueV v with | true => c.reach fr h | false => none)
    | none => none)
  | .cndF t _ c, fr, h => (match fr.get (Pos.of t) with
    | some v => (match isFalseV v with | true => c.reach fr h | false => none)
    | none => none)
  | .blk _ c, fr, h => c.reach fr h
where
  isTrueV (v : V) : Bool := match v with | .bool b => b | _ => false
  isFalseV (v : V) : Bool := match v with | .bool b => !b | _ => false
def Ctx.after : Ctx → Out → Out
  | .hole, o => o
  | .seqR _ c, o => c.after o
  | .seqL c b, o => thenO (c.after o) b
  | .cndT _ c _, o => c.after o
  | .cndF _ _ c, o => c.after o
  | .blk id c, o => blkX id (c.after o)
theorem isTrueV_ok {v : V} (h : Ctx.reach.isTrueV v = true) : v = .bool true := by
  unfold Ctx.reach.isTrueV at h
  split at h
  · rw [h]
  · cases h
theorem isFalseV_ok {v : V} (h : Ctx.reach.isFalseV v = true) : v = .bool false := by
  unfold Ctx.reach.isFalseV at h
  split at h
  · rename_i b
    cases b
    · rfl
    · cases h
  · cases h
theorem Ctx.plug : ∀ (c : Ctx) {r : F → Hp → Out} {fr : F} {h : Hp} {fr' : F} {h' : Hp}, c.reach fr h = some (fr', h') → c.fill r fr h = c.after (r fr' h')
  | .hole, r, fr, h, fr', h', e => by cases e; rfl
  | .seqR a c, r, fr, h, fr', h', e => by
    unfold Ctx.reach at e
    show seqO a (c.fill r) fr h = c.after (r fr' h')
    rw [seqO_eq]
    split at e
    · rename_i fr1 h1 ea
      rw [ea, thenO_nor]
      exact Ctx.plug c e
    all_goals cases e
  | .seqL c b, r, fr, h, fr', h', e => by
    show seqO (c.fill r) b fr h = thenO (c.after (r fr' h')) b
    rw [seqO_eq, Ctx.plug c e]
  | .cndT t c b, r, fr, h, fr', h', e => by
    unfold Ctx.reach at e
    show cndX (.tmp t) (c.fill r) b fr h = c.after (r fr' h')
    rw [cndX_tmp]
    split at e
    · rename_i v hv
      split at e
      · rename_i hb
        rw [hv, gtO_some, isTrueV_ok hb, ifB_true]
        exact Ctx.plug c e
      · cases e
    · cases e
  | .cndF t a c, r, fr, h, fr', h', e => by
    unfold Ctx.reach at e
    show cndX (.tmp t) a (c.fill r) fr h = c.after (r fr' h')
    rw [cndX_tmp]
    split at e
    · rename_i v hv
      split at e
      · rename_i hb
        rw [hv, gtO_some, isFalseV_ok hb, ifB_false]
        exact Ctx.plug c e
      · cases e
    · cases e
  | .blk id c, r, fr, h, fr', h', e => by
    show blkO id (c.fill r) fr h = blkX id (c.after (r fr' h'))
    rw [blkO_eq, Ctx.plug c e]
theorem loopO_step (b : F → Hp → Out) (n : Nat) : loopO b (n + 1) = seqO b (loopO b n) := by
  funext fr h
  show (match b fr h with
    | .nor fr h => loopO b n fr h
    | .ret fr h => .ret fr h
    | .ex i fr h => .ex i fr h
    | .bad => .bad) = seqO b (loopO b n) fr h
  unfold seqO
  cases b fr h <;> rfl
variable {P : Program} {G : Nat}
theorem Ob.ren_idL {ρ : Pos → Pos} (h : ∀ i, ρ i = i) : ∀ l : List V, l.map (V.ren ρ) = l
  | [] => rfl
  | v :: l => by rw [List.map_cons, V.ren_id h, Ob.ren_idL h l]
theorem Ob.ren_idE {ρ : Pos → Pos} (h : ∀ i, ρ i = i) : ∀ l : List (V × V), l.map (fun p => (p.1.ren ρ, p.2.ren ρ)) = l
  | [] => rfl
  | (a, b) :: l => by rw [List.map_cons, V.ren_id h, V.ren_id h, Ob.ren_idE h l]
theorem Ob.ren_same {ρ : Pos → Pos} (h : ∀ i, ρ i = i) (o : Ob) : o.ren ρ = o := by
  cases o with
  | cells w l => show Ob.cells w (l.map (V.ren ρ)) = _; rw [Ob.ren_idL h]
  | map es => show Ob.map (es.map fun p => (p.1.ren ρ, p.2.ren ρ)) = _; rw [Ob.ren_idE h]
  | iter s p => rfl
  | bytes l => show Ob.bytes (l.map (V.ren ρ)) = _; rw [Ob.ren_idL h]
theorem Post.forget {M : Mp} {h h1 h2 : Hp} {w w1 : World} {r : V} {c : Value} (hr : Rel G M h w) (p : Post G M h w r h1 c w1) (hn : h.next.nat ≤ h2.next.nat) (sub : ∀ i o, h2.get i = some o → i.nat < h2.next.nat ∧ h1.get i = some o ∧ o.ins h2.next.nat = true)
    (hi : r.ins h2.next.nat = true) : Post G M h w r h2 c w1 := by
  obtain ⟨M1, hr1, R, X⟩ := p
  let M2 : Mp := fun i => if i.nat < h2.next.nat then M1 i else none
  have hM2 : ∀ i, i.nat < h2.next.nat → M2 i = M1 i := fun i hlt => if_pos hlt
  have hM2s : ∀ i L, M2 i = some L → i.nat < h2.next.nat ∧ M1 i = some L := fun i L hL => by
    by_cases hlt : i.nat < h2.next.nat
    · exact ⟨hlt, (hM2 i hlt) ▸ hL⟩
    · rw [show M2 i = none from if_neg hlt] at hL; cases hL
  have hN : ∀ i : Pos, i.nat < h2.next.nat → ∀ L, M1 (id i) = some L → M2 i = some L := fun i hlt L hL => by rw [hM2 i hlt]; exact hL
  have old : ∀ i L, M i = some L → i.nat < h.next.nat := fun i L hL => by
    by_cases hlt : i.nat < h.next.nat
    · exact hlt
    · rw [hr.fresh i (by omega)] at hL; cases hL
  refine ⟨M2, Rp.unren (ρ := id) hN hi (by rw [V.ren_id (ρ := id) (fun _ => rfl)]; exact hr1), ⟨fun i o ho => ?_, fun i hlt => if_neg (by omega), fun i j o q L K hij ho hq hown hL hK => ?_, fun g hg => ?_⟩, ⟨fun i L hL => ?_, hn, X.os, X.tape, X.output, X.size, X.same, fun i o L ho hown hL => ?_, fun i hlt hno => ?_, fun i o L ho hL => ?_, fun i hlt hno => ?_⟩⟩
  · obtain ⟨lt, g1, ins⟩ := sub i o ho
    obtain ⟨L, hL, ob⟩ := R.ob i o g1
    exact ⟨L, by rw [hM2 i lt]; exact hL, ObRep.unren (ρ := id) hN ins (by rw [Ob.ren_same (ρ := id) (fun _ => rfl)]; exact ob)⟩
  · exact R.sep i j o q L K hij (sub i o ho).2.1 (sub j q hq).2.1 hown (hM2s i L hL).2 (hM2s j K hK).2
  · obtain ⟨k, hk⟩ := hr.gl g hg
    have hlt := old _ _ hk
    exact ⟨k, by rw [hM2 _ (by omega)]; exact X.le _ _ hk⟩
  · have hlt := old i L hL
    rw [hM2 i (by omega)]
    exact X.le i L hL
  · exact X.own i o L (sub i o ho).2.1 hown (hM2s i L hL).2
  · cases hg : h2.get i with
    | none => rfl
    | some o => have := X.old i hlt hno; rw [(sub i o hg).2.1] at this; cases this
  · exact X.all i o L (sub i o ho).2.1 (hM2s i L hL).2
  · rw [hM2 i (by omega)]; exact X.none i hlt hno
theorem forget_ok {f : FuncId} {F1 F2 : Fun} (h1 : CallOk P G f F1) (hs : ∀ args h r h2, (∀ i o, h.get i = some o → i.nat < h.next.nat) → F2 args h = .ok r h2 →
    F1 args h = .ok r h2 ∨ ∃ g, F1 args h = .ok r g ∧ h.next.nat ≤ h2.next.nat ∧ (∀ i o, h2.get i = some o → i.nat < h2.next.nat ∧ g.get i = some o ∧ o.ins h2.next.nat = true) ∧ r.ins h2.next.nat = true) : CallOk P G f F2 := by
  intro args h r h2 M w cargs e hr ha
  have hlt : ∀ i o, h.get i = some o → i.nat < h.next.nat := fun i o ho => by
    obtain ⟨L, hL, -⟩ := hr.ob i o ho
    by_cases hlt : i.nat < h.next.nat
    · exact hlt
    · rw [hr.fresh i (by omega)] at hL; cases hL
  rcases hs args h r h2 hlt e with e1 | ⟨g, e1, hn, sub, hi⟩
  · exact h1 args h r h2 M w cargs e1 hr ha
  · exact Opq.mono (fun c w' p => Post.forget hr p hn sub hi) (h1 args h r g M w cargs e1 hr ha)
theorem set_set {α : Type} (x y : Option α) (p : Pos) (t : T α) : (t.set x p).set y p = t.set y p := by
  induction p generalizing t with
  | h => cases t <;> rfl
  | o p ih => cases t with
    | nil => show T.node none ((T.set x p .nil).set y p) .nil = T.node none (T.set y p .nil) .nil; rw [ih]
    | node v l r => show T.node v ((T.set x p l).set y p) r = T.node v (T.set y p l) r; rw [ih]
  | i p ih => cases t with
    | nil => show T.node none .nil ((T.set x p .nil).set y p) = T.node none .nil (T.set y p .nil); rw [ih]
    | node v l r => show T.node v l ((T.set x p r).set y p) = T.node v l (T.set y p r); rw [ih]
theorem put_put (h : Hp) (i : Pos) (x y : Option Ob) : (h.put i x).put i y = h.put i y := by
  show (⟨(h.t.set x i).set y i, h.next⟩ : Hp) = ⟨h.t.set y i, h.next⟩
  rw [set_set]
end
end Go.Vm

namespace Go.Vm
noncomputable section
variable {P : Program} {G : Nat}
section
variable {M : Mp} {n : Nat}
theorem FnRep.insF (hM : ∀ i L, M i = some L → i.nat < n) {f g : Fn} (h : FnRep M f g) : fnIns n f = true := by
  cases f with
  | yield k => obtain ⟨L, a, b⟩ := h; have := hM _ _ a; rw [Pos.nat_of] at this; simpa [fnIns, Nat.blt_eq] using this
  | _ => rfl
theorem Rep.insV (hM : ∀ i L, M i = some L → i.nat < n) {v : V} : ∀ {l : List Value}, Rep M v l → v.ins n = true := by
  induction v with
  | ptr i o => rintro l ⟨L, h, e⟩; simpa [V.ins, Nat.blt_eq] using hM _ _ h
  | slice i o m c => rintro l ⟨L, k, h, e⟩; simpa [V.ins, Nat.blt_eq] using hM _ _ h
  | map i => rintro l ⟨L, h, e⟩; simpa [V.ins, Nat.blt_eq] using hM _ _ h
  | func fn a b iha ihb => rintro l ⟨g, x, y, q, p, h, g', e⟩; simp [V.ins, q.insF hM, iha h, ihb g']
  | iface t v ih => rintro l ⟨x, p, h, e⟩; exact ih h
  | agg a ih => rintro l ⟨x, p, h, e⟩; exact ih h
  | tuple a ih => rintro l ⟨x, p, h, e⟩; exact ih h
  | cons a b iha ihb => rintro l ⟨x, xs, q, h, p, g, e⟩; simp [V.ins, iha h, ihb g]
  | _ => intro l h; rfl
theorem insL_of {l : List V} (h : ∀ v ∈ l, v.ins n = true) : insL n l = true := by
  induction l with
  | nil => rfl
  | cons v l ih => simp only [insL, Bool.and_eq_true]; exact ⟨h v (by simp), ih fun u hu => h u (List.mem_cons_of_mem _ hu)⟩
theorem RepL.insLV (hM : ∀ i L, M i = some L → i.nat < n) : ∀ {vs : List V} {l : List Value}, RepL M vs l → insL n vs = true
  | [], _, _ => rfl
  | v :: vs, _, ⟨x, xs, h, g, e⟩ => by simp only [insL, Bool.and_eq_true]; exact ⟨h.2.insV hM, RepL.insLV hM g⟩
theorem RepE.insEV (hM : ∀ i L, M i = some L → i.nat < n) : ∀ {es : List (V × V)} {l : List MapEntry}, RepE M es l → insE n es = true
  | [], _, _ => rfl
  | p :: ps, _, ⟨e, es, h, g, x⟩ => by simp only [insE, Bool.and_eq_true]; exact ⟨⟨h.1.2.insV hM, h.2.2.insV hM⟩, RepE.insEV hM g⟩
theorem ObRep.insO (hM : ∀ i L, M i = some L → i.nat < n) {L : Loc} {w : World} {o : Ob} (h : ObRep M L w o) : o.ins n = true := by
  cases o with
  | cells wr cs =>
    obtain ⟨c, el, fr, a, b, g, f⟩ := h
    exact insL_of fun v hv => by obtain ⟨k, hk⟩ := List.getElem?_of_mem hv; obtain ⟨x, -, q, -⟩ := g k v hk; exact q.2.insV hM
  | map es => obtain ⟨en, ck, a, ⟨l, p, q⟩, -⟩ := h; exact q.insEV hM
  | iter s pos => rfl
  | bytes cs =>
    obtain ⟨c, el, fr, a, b, g, f⟩ := h
    exact insL_of fun v hv => by obtain ⟨k, hk⟩ := List.getElem?_of_mem hv; obtain ⟨x, -, q, -⟩ := g k v hk; exact q.2.insV hM
end
def HpOk (h : Hp) : Prop := ∀ i o, h.get i = some o → i.nat < h.next.nat ∧ o.ins h.next.nat = true
theorem Rel.below {M : Mp} {h : Hp} {w : World} (hr : Rel G M h w) {i : Pos} {L : Loc} (hL : M i = some L) : i.nat < h.next.nat := by
  by_cases hlt : i.nat < h.next.nat
  · exact hlt
  · rw [hr.fresh i (by omega)] at hL; cases hL
theorem Rel.hpOk {M : Mp} {h : Hp} {w : World} (hr : Rel G M h w) : HpOk h := fun i o ho => by
  obtain ⟨L, hL, ob⟩ := hr.ob i o ho
  exact ⟨hr.below hL, ob.insO fun _ _ q => hr.below q⟩
theorem Rel.argsOk {M : Mp} {h : Hp} {w : World} (hr : Rel G M h w) {args : List V} {cargs : List Value} (ha : RepL M args cargs) : insL h.next.nat args = true := ha.insLV fun _ _ q => hr.below q
def Ob.weak (o o' : Ob) : Prop := o = o' ∨ ∃ t cs, o = .cells (.rw t false) cs ∧ o' = .cells (.rw t true) cs
theorem Ob.weak_own {o o' : Ob} (h : o.weak o') : o'.own = o.own := by
  rcases h with rfl | ⟨t, cs, rfl, rfl⟩ <;> rfl
theorem ObRep.weak {M : Mp} {L : Loc} {w : World} {o o' : Ob} (k : o.weak o') (h : ObRep M L w o') : ObRep M L w o := by
  rcases k with rfl | ⟨t, cs, rfl, rfl⟩
  · exact h
  · obtain ⟨c, el, fr, a, b, g, f1, f2, f3⟩ := h
    exact ⟨c, el, fr, a, b, g, f1, f2, fun q => by cases q⟩
structure Carry (ρ : Pos → Pos) (h h1 h2 : Hp) : Prop where
  next : h.next.nat ≤ h2.next.nat
  old : ∀ i, i.nat < h.next.nat → ρ i = i
  inj : ∀ i j, i.nat < h2.next.nat → j.nat < h2.next.nat → ρ i = ρ j → i = j
  ob : ∀ i o, h2.get i = some o → i.nat < h2.next.nat ∧ (∃ o', h1.get (ρ i) = some o' ∧ (o.ren ρ).weak o') ∧ o.ins h2.next.nat = true
theorem Post.carry {M : Mp} {h h1 h2 : Hp} {w w1 : World} {r : V} {c : Value} {ρ : Pos → Pos} (hr : Rel G M h w) (k : Carry ρ h h1 h2) (hi : r.ins h2.next.nat = true) (p : Post G M h w (r.ren ρ) h1 c w1) : Post G M h w r h2 c w1 := by
  obtain ⟨M1, hr1, R, X⟩ := p
  let M2 : Mp := fun i => if i.nat < h2.next.nat then M1 (ρ i) else none
  have hM2 : ∀ i, i.nat < h2.next.nat → M2 i = M1 (ρ i) := fun i hlt => if_pos hlt
  have hM2s : ∀ i L, M2 i = some L → i.nat < h2.next.nat ∧ M1 (ρ i) = some L := fun i L hL => by
    by_cases hlt : i.nat < h2.next.nat
    · exact ⟨hlt, (hM2 i hlt) ▸ hL⟩
    · rw [show M2 i = none from if_neg hlt] at hL; cases hL
  have hN : ∀ i : Pos, i.nat < h2.next.nat → ∀ L, M1 (ρ i) = some L → M2 i = some L := fun i hlt L hL => by rw [hM2 i hlt]; exact hL
  have hnx := k.next
  refine ⟨M2, Rp.unren hN hi hr1, ⟨fun i o ho => ?_, fun i hlt => if_neg (by omega), fun i j o q L K hij ho hq hown hL hK => ?_, fun g hg => ?_⟩, ⟨fun i L hL => ?_, hnx, X.os, X.tape, X.output, X.size, X.same, fun i o L ho hown hL => ?_, fun i hlt hno => ?_, fun i o L ho hL => ?_, fun i hlt hno => ?_⟩⟩
  · obtain ⟨lt, ⟨o1, g1, k1⟩, ins⟩ := k.ob i o ho
    obtain ⟨L, hL, ob⟩ := R.ob _ _ g1
    exact ⟨L, by rw [hM2 i lt]; exact hL, ObRep.unren hN ins (ObRep.weak k1 ob)⟩
  · obtain ⟨l1, ⟨o1, g1, k1⟩, -⟩ := k.ob i o ho
    obtain ⟨l2, ⟨o2, g2, -⟩, -⟩ := k.ob j q hq
    exact R.sep _ _ _ _ L K (fun e => hij (k.inj i j l1 l2 e)) g1 g2 (by rw [Ob.weak_own k1, Ob.ren_own]; exact hown) (hM2s i L hL).2 (hM2s j K hK).2
  · obtain ⟨n, hn⟩ := hr.gl g hg
    have hlt := hr.below hn
    exact ⟨n, by rw [hM2 _ (by omega), k.old _ hlt]; exact X.le _ _ hn⟩
  · have hlt := hr.below hL
    rw [hM2 i (by omega), k.old i hlt]
    exact X.le i L hL
  · obtain ⟨lt, ⟨o1, g1, k1⟩, -⟩ := k.ob i o ho
    exact X.own _ _ L g1 (by rw [Ob.weak_own k1, Ob.ren_own]; exact hown) (hM2s i L hL).2
  · cases hg : h2.get i with
    | none => rfl
    | some o => have := X.old i hlt hno; obtain ⟨o1, q, -⟩ := (k.ob i o hg).2.1; rw [k.old i hlt, this] at q; cases q
  · obtain ⟨lt, ⟨o1, g1, k1⟩, -⟩ := k.ob i o ho
    exact X.all _ _ L g1 (hM2s i L hL).2
  · rw [hM2 i (by omega), k.old i hlt]; exact X.none i hlt hno
section
variable {n m : Nat} {ρ : Pos → Pos}
theorem fnIns_mono (hnm : n ≤ m) {f : Fn} (h : fnIns n f = true) : fnIns m f = true := by
  cases f with
  | yield k => simp only [fnIns, Nat.blt_eq] at h ⊢; omega
  | _ => rfl
theorem V.ins_mono (hnm : n ≤ m) : ∀ {v : V}, v.ins n = true → v.ins m = true := by
  intro v
  induction v with
  | ptr i o => intro h; simp only [V.ins, Nat.blt_eq] at h ⊢; omega
  | slice i o l c => intro h; simp only [V.ins, Nat.blt_eq] at h ⊢; omega
  | map i => intro h; simp only [V.ins, Nat.blt_eq] at h ⊢; omega
  | func fn a b iha ihb => intro h; simp only [V.ins, Bool.and_eq_true] at h ⊢; exact ⟨fnIns_mono hnm h.1, iha h.2.1, ihb h.2.2⟩
  | iface t v ih => exact ih
  | agg a ih => exact ih
  | tuple a ih => exact ih
  | cons a b iha ihb => intro h; simp only [V.ins, Bool.and_eq_true] at h ⊢; exact ⟨iha h.1, ihb h.2⟩
  | _ => intro _; rfl
theorem insL_mono (hnm : n ≤ m) {l : List V} (h : insL n l = true) : insL m l = true := insL_of fun v hv => V.ins_mono hnm (insL_mem h v hv)
theorem insE_mono (hnm : n ≤ m) : ∀ {l : List (V × V)}, insE n l = true → insE m l = true
  | [], _ => rfl
  | p :: l, h => by simp only [insE, Bool.and_eq_true] at h ⊢; exact ⟨⟨V.ins_mono hnm h.1.1, V.ins_mono hnm h.1.2⟩, insE_mono hnm h.2⟩
theorem Ob.ins_mono (hnm : n ≤ m) {o : Ob} (h : o.ins n = true) : o.ins m = true := by
  cases o with
  | cells w l => exact insL_mono hnm h
  | map l => exact insE_mono hnm h
  | iter s p => rfl
  | bytes l => exact insL_mono hnm h
theorem fnRen_ins (hρ : ∀ i : Pos, i.nat < n → ρ i = i) {f : Fn} (h : fnIns n f = true) : fnRen ρ f = f := by
  cases f with
  | yield k =>
    simp only [fnIns, Nat.blt_eq] at h
    show Fn.yield (ρ (Pos.of k)).nat = _
    rw [hρ _ (by rw [Pos.nat_of]; exact h), Pos.nat_of]
  | _ => rfl
theorem V.ren_ins (hρ : ∀ i : Pos, i.nat < n → ρ i = i) : ∀ {v : V}, v.ins n = true → v.ren ρ = v := by
  intro v
  induction v with
  | ptr i o => intro h; simp only [V.ins, Nat.blt_eq] at h; show V.ptr (ρ i) o = _; rw [hρ i h]
  | slice i o l c => intro h; simp only [V.ins, Nat.blt_eq] at h; show V.slice (ρ i) o l c = _; rw [hρ i h]
  | map i => intro h; simp only [V.ins, Nat.blt_eq] at h; show V.map (ρ i) = _; rw [hρ i h]
  | func fn a b iha ihb => intro h; simp only [V.ins, Bool.and_eq_true] at h; show V.func (fnRen ρ fn) (a.ren ρ) (b.ren ρ) = _; rw [fnRen_ins hρ h.1, iha h.2.1, ihb h.2.2]
  | iface t v ih => intro h; show V.iface t (v.ren ρ) = _; rw [ih h]
  | agg a ih => intro h; show V.agg (a.ren ρ) = _; rw [ih h]
  | tuple a ih => intro h; show V.tuple (a.ren ρ) = _; rw [ih h]
  | cons a b iha ihb => intro h; simp only [V.ins, Bool.and_eq_true] at h; show V.cons (a.ren ρ) (b.ren ρ) = _; rw [iha h.1, ihb h.2]
  | _ => intro _; rfl
theorem mapRen_ins (hρ : ∀ i : Pos, i.nat < n → ρ i = i) {l : List V} (h : insL n l = true) : l.map (V.ren ρ) = l := by
  induction l with
  | nil => rfl
  | cons v l ih => simp only [insL, Bool.and_eq_true] at h; rw [List.map_cons, V.ren_ins hρ h.1, ih h.2]
theorem mapRenE_ins (hρ : ∀ i : Pos, i.nat < n → ρ i = i) {l : List (V × V)} (h : insE n l = true) : l.map (fun p => (p.1.ren ρ, p.2.ren ρ)) = l := by
  induction l with
  | nil => rfl
  | cons v l ih => simp only [insE, Bool.and_eq_true] at h; rw [List.map_cons, V.ren_ins hρ h.1.1, V.ren_ins hρ h.1.2, ih h.2]
theorem Ob.ren_ins (hρ : ∀ i : Pos, i.nat < n → ρ i = i) {o : Ob} (h : o.ins n = true) : o.ren ρ = o := by
  cases o with
  | cells w l => show Ob.cells w (l.map (V.ren ρ)) = _; rw [mapRen_ins hρ h]
  | map l => show Ob.map (l.map fun p => (p.1.ren ρ, p.2.ren ρ)) = _; rw [mapRenE_ins hρ h]
  | iter s p => rfl
  | bytes l => show Ob.bytes (l.map (V.ren ρ)) = _; rw [mapRen_ins hρ h]
end
def fastF (spec : List V → Hp → Option (V × Hp)) (F : Fun) : Fun := fun args h => match spec args h with
  | some p => .ok p.1 p.2
  | none => F args h
theorem fast_ok {f : FuncId} {F : Fun} {spec : List V → Hp → Option (V × Hp)} (hF : CallOk P G f F)
    (hs : ∀ args h r h2, HpOk h → insL h.next.nat args = true → spec args h = some (r, h2) → ∃ h1 ρ, F args h = .ok (r.ren ρ) h1 ∧ Carry ρ h h1 h2 ∧ r.ins h2.next.nat = true) : CallOk P G f (fastF spec F) := by
  intro args h r h2 M w cargs e hr ha
  unfold fastF at e
  rcases hsp : spec args h with _ | p
  · rw [hsp] at e; exact hF args h r h2 M w cargs e hr ha
  ·
    obtain ⟨r', h2'⟩ := p
    rw [hsp] at e
    cases e
    obtain ⟨h1, ρ, e1, k, hi⟩ := hs args h r' h2' hr.hpOk (hr.argsOk ha) hsp
    exact Opq.mono (fun c w' p => Post.carry hr k hi p) (hF args h _ h1 M w cargs e1 hr ha)
theorem Carry.none {h h1 : Hp} (ok : HpOk h) (c : Ch (fun _ => False) h h1) : Carry id h h1 h :=
  ⟨Nat.le_refl _, fun _ _ => rfl, fun _ _ _ _ e => e, fun i o ho => ⟨(ok i o ho).1, ⟨o, (c.get i (ok i o ho).1 fun q => q).trans ho, .inl (Ob.ren_same (ρ := id) (fun _ => rfl) o)⟩, (ok i o ho).2⟩⟩
theorem Carry.one {h h1 : Hp} (ok : HpOk h) {p : Pos} {o' : Ob} (hp : p.nat < h.next.nat) (c : Ch (fun j => j = p) h h1) (hg : h1.get p = some o') (hi : o'.ins h.next.nat = true) : Carry id h h1 (h.put p (some o')) :=
  ⟨Nat.le_refl _, fun _ _ => rfl, fun _ _ _ _ e => e, fun i o ho => by
    rw [Ob.ren_same (ρ := id) fun _ => rfl]
    by_cases e : i = p
    · subst e
      rw [put_self] at ho
      cases ho
      exact ⟨hp, ⟨_, hg, .inl rfl⟩, hi⟩
    · rw [put_ne _ (pos_nat_ne e)] at ho
      exact ⟨(ok i o ho).1, ⟨o, (c.get i (ok i o ho).1 e).trans ho, .inl rfl⟩, (ok i o ho).2⟩⟩
theorem V.ren_same {v : V} : v.ren id = v := V.ren_id (ρ := id) (fun _ => rfl) v
end
end Go.Vm
