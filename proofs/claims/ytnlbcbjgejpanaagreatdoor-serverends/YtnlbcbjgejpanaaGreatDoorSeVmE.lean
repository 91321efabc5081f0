/- Part of the value machine, or of a walk by it: lemmas that the claim's last text uses. No conditions. -/
import Derived.Test.YtnlbcbjgejpanaaGreatDoorSeVmD
import Derived.Laws.Externs
import Derived.Laws.LoneSync
import Derived.Lib.Bytealg
import Derived.Lib.MakeNoZero
import Derived.Lib.LaidCaseMet
set_option linter.unusedVariables false
set_option linter.unusedSimpArgs false
set_option linter.unnecessarySimpa false
namespace Go.Vm
noncomputable section
variable {P : Program} {ops : Array Oper} {G N : Nat}
def planOkS (ops : Array Oper) (sb sb' : Nat → Nat → Bool) (G N : Nat) (plan : Plan) : Bool :=
  (nodupB (plan.map (·.1)) && ((List.range ops.size).all (fun i => (plan.map (·.1)).any (Nat.beq i)) && (plan.all (fun x => Nat.blt x.1 ops.size) &&
    ((phased 0 plan).all (fun x => (phased 0 plan).all (pairOk sb' x)) &&
    (each ops (fun i o => match o.guard with | some (g, _) => sb g i | none => true) &&
    (each ops (fun i o => match o.dst with | some t => each ops (fun i' o' => match dstIs o' t with | true => Nat.beq i i' | false => true) | none => true) &&
    (each ops (fun i o => o.op.operands.toList.all fun x => match x with
      | .tmp t => (match srcB ops sb i t with
        | true => true
        | false => each ops fun i' o' => (match dstIs o' t with | true => Nat.beq i i' || sb i i' | false => true))
      | _ => true) &&
    (ops.toList.all (operOk G N) && ((phased 0 plan).all (ownB ops sb (phased 0 plan)) && (phased 0 plan).all (insB ops sb (phased 0 plan)))))))))))
theorem static_ok {Ed : Nat → Nat → Prop} {sb sb' : Nat → Nat → Bool} {plan : Plan} (hsb : ∀ {i j}, i < ops.size → sb j i = true → Bef Ed j i) (hsp : ∀ {i j}, i < ops.size → sb' j i = true → Bef Ed j i)
    (h : planOkS ops sb sb' G N plan = true) : Static ops Ed sb G N plan := by
  simp only [planOkS, Bool.and_eq_true] at h
  obtain ⟨h2, h3, h4, h5, h6, h7, h8, h9, h10, h11⟩ := h
  have hlt : ∀ {i c j}, (i, c, j) ∈ phased 0 plan → i < ops.size := fun {i c j} hm => by
    obtain ⟨⟨i', c'⟩, hm', rfl⟩ := List.mem_map.1 (phased_mem hm)
    have := List.all_eq_true.1 h4 _ hm'
    simpa [Nat.blt_eq] using this
  have pr : ∀ x y, x ∈ phased 0 plan → y ∈ phased 0 plan → pairOk sb' x y = true := fun x y hx hy =>
    List.all_eq_true.1 (List.all_eq_true.1 h5 x hx) y hy
  refine ⟨fun i hi => ?_, nodupB_ok h2, fun j hj => ?_, fun i j i' j' a b hl => ?_, fun i i' j a b => ?_, fun i j i' j' a b hl => ?_, fun i n j i' j' a b hl => ?_, fun i n j i' j' a b hl => ?_, fun i n j i' j' a b hl => ?_, fun i x j hm => ?_, fun i n j i' j' a b hl => ?_, fun i x j hm => ?_,
    fun i o g b ho hg => ?_, fun i i' o o' t ho ho' hd hd' => ?_, fun i t hi hs => ?_, fun i o t ho hx hs i' o' ho' hd => ?_, fun o ho => List.all_eq_true.1 h9 o ho⟩
  · have := List.all_eq_true.1 h3 i (List.mem_range.2 hi)
    rw [List.any_eq_true] at this
    obtain ⟨k, hk, hb⟩ := this
    rw [Nat.eq_of_beq_eq_true hb]
    exact phased_cover hk
  · obtain ⟨i, hi⟩ := heavy_at (j₀ := 0) (l := plan) (Nat.zero_le j) (by omega)
    exact ⟨i, hi, hlt hi⟩
  · have := pr _ _ a b
    simp only [pairOk, isHeavy, show Nat.blt j j' = true from by simpa [Nat.blt_eq] using hl] at this
    exact hsp (hlt b) this
  · have := pr _ _ a b
    have hjj : Nat.blt j j = false := by
      cases hb : Nat.blt j j with
      | false => rfl
      | true => have := Nat.le_of_ble_eq_true hb; omega
    simp only [pairOk, isHeavy, hjj, show Nat.beq j j = true from Nat.beq_refl j] at this
    exact Nat.eq_of_beq_eq_true this
  · have := pr _ _ a b
    simp only [pairOk, isHeavy, show Nat.ble j j' = true from Nat.ble_eq_true_of_le hl] at this
    exact hsp (hlt b) this
  · have := pr _ _ a b
    simp only [pairOk, isHeavy, show Nat.ble j j' = true from Nat.ble_eq_true_of_le hl] at this
    exact hsp (hlt b) this
  · have := pr _ _ a b
    have hn : Nat.ble j j' = false := by
      cases hb : Nat.ble j j' with
      | false => rfl
      | true => have := Nat.le_of_ble_eq_true hb; omega
    simp only [pairOk, isHeavy, hn, show Nat.blt (j' + n) j = true from by simpa [Nat.blt_eq] using hl] at this
    exact hsp (hlt a) this
  · have := pr _ _ a b
    simp only [pairOk, isHeavy, show Nat.ble j j' = true from Nat.ble_eq_true_of_le hl] at this
    exact hsp (hlt b) this
  · have := List.all_eq_true.1 h10 _ hm
    unfold ownB at this
    simp only [] at this
    split at this
    · rename_i oa o hoa ho
      split at this
      · rename_i t u hta hops
        simp only [Bool.and_eq_true] at this
        obtain ⟨e1, e2, e3, e4⟩ := this
        have e1 := Nat.eq_of_beq_eq_true e1
        subst e1
        rw [List.any_eq_true] at e4
        obtain ⟨⟨y1, y2, y3⟩, hy, e4⟩ := e4
        simp only [] at e4
        split at e4
        · simp only [Bool.and_eq_true] at e4
          have h1y := Nat.eq_of_beq_eq_true e4.1
          have h2y := Nat.eq_of_beq_eq_true e4.2
          subst h1y
          subst h2y
          exact ⟨hy, hsb (hlt hm) e3, oa, o, t, hoa, hta, ho, hops, e2⟩
        · cases e4
      · cases this
    · cases this
  · have := pr _ _ a b
    simp only [pairOk, isHeavy, show Nat.ble j j' = true from Nat.ble_eq_true_of_le hl] at this
    exact hsp (hlt b) this
  · have := List.all_eq_true.1 h11 _ hm
    unfold insB at this
    simp only [] at this
    split at this
    · rename_i oa o hoa ho
      split at this
      · rename_i t u rest hta hops
        simp only [Bool.and_eq_true] at this
        obtain ⟨e1, e2, e3, e4⟩ := this
        have e1 := Nat.eq_of_beq_eq_true e1
        subst e1
        rw [List.any_eq_true] at e4
        obtain ⟨⟨y1, y2, y3⟩, hy, e4⟩ := e4
        simp only [] at e4
        split at e4
        · simp only [Bool.and_eq_true] at e4
          have h1y := Nat.eq_of_beq_eq_true e4.1
          have h2y := Nat.eq_of_beq_eq_true e4.2
          subst h1y
          subst h2y
          exact ⟨hy, hsb (hlt hm) e3, oa, o, t, rest, hoa, hta, ho, hops, e2⟩
        · cases e4
      · cases this
    · cases this
  · have := each_ok h6 ho
    simp only [hg] at this
    exact hsb (Array.getElem?_eq_some_iff.1 ho).1 this
  · have := each_ok h7 ho
    simp only [hd] at this
    have := each_ok this ho'
    simp only [dstIs_ok hd'] at this
    exact Nat.eq_of_beq_eq_true this
  · unfold srcB at hs
    rw [List.any_eq_true] at hs
    obtain ⟨i', hi', hs⟩ := hs
    split at hs
    · rename_i o' ho'
      split at hs
      · rename_i d hd
        split at hs
        · rename_i hb
          exact ⟨i', o', ho', by rw [hd, Nat.eq_of_beq_eq_true hb], hsb hi hs⟩
        · cases hs
      · cases hs
    · cases hs
  · have := each_ok h8 ho
    have := List.all_eq_true.1 this _ hx
    simp only [hs] at this
    have := each_ok this ho'
    simp only [dstIs_ok hd, Bool.or_eq_true] at this
    rcases this with h | h
    · exact .inl (Nat.eq_of_beq_eq_true h)
    · exact .inr (hsb (Array.getElem?_eq_some_iff.1 ho').1 h)
end
end Go.Vm

namespace Go.Vm
noncomputable section
variable {P : Program} {e : FuncId → Option Fun} {Ed : Nat → Nat → Prop} {ops : Array Oper} {sb : Nat → Nat → Bool} {fr : F} {keep : Nat → Bool} {G N : Nat} {Df : List Deferred}
variable {T : Tr} {plan : Plan} {M₀ M : Mp} {h h₀ f : Hp} {w₀ w : World} {L : Array Bool} {j : Nat} {a : Act} {i : Nat} {out : Out} {k : Env → Hp → Out}
theorem draw_made (S : Static ops Ed sb G N plan) (t : Told P e ops sb fr k plan [] ⟨h.t, bump (allocs plan) h.next⟩ ⟨h.t, bump (allocs plan) h.next⟩ [] [] h.next out T) : Made T ops Ed plan h.next := by
  refine ⟨fun i j p ob hA => ?_, t.a2, t.a3, fun j => ?_, fun i j p x y hI => ?_, t.i2, t.i4⟩
  · obtain ⟨g1, g2, g3, g4, g5⟩ := t.a1 i j p ob hA
    exact ⟨g1, g3, g4, g5⟩
  · by_cases hj : j = 0
    · subst hj
      have hB : T.Bs 0 = _ := t.tBase
      rw [hB]
      refine ⟨fun x hx => ?_, t.cn⟩
      have := t.cs x hx
      rw [show ([] : List Hp).length = 0 from rfl] at this
      rw [this, ent_nil fun y hy hj hyp => ?_]
      · cases (Hp.get ⟨h.t, bump (allocs plan) h.next⟩ x) with
        | none => rfl
        | some o => simp [addE_nil]
      · exfalso
        obtain ⟨i', j', p', x', y'⟩ := y
        have hj : j' = 0 := hj
        have hyp : p' = x := hyp
        subst hj; subst hyp
        obtain ⟨g1, _, _⟩ := t.i1 _ _ _ _ _ hy
        rcases g1 with ⟨_, e2, fs, e3⟩ | ⟨a, ob, g1⟩
        · rw [e2] at e3; cases e3
        · exact hx a ob g1
    · exact t.ct j (by simp; omega)
  · obtain ⟨_, ⟨a, g2⟩, g3⟩ := t.i1 _ _ _ _ _ hI
    obtain ⟨k1, k2⟩ := ins_made S t.steps t.i2 hI g2 g3
    exact ⟨a, g2, k1, k2, g3⟩
theorem draw_start (S : Static ops Ed sb G N plan) (t : Told P e ops sb fr k plan [] ⟨h.t, bump (allocs plan) h.next⟩ ⟨h.t, bump (allocs plan) h.next⟩ [] [] h.next out T) (at_ : At keep G N Df M fr h a w) :
    Inv T ops Ed plan keep fr G N Df M h w (Array.replicate ops.size false) M (T.Bs 0) 0 a { w with drawn := w.drawn + 1 } := by
  have hB0 : T.Bs 0 = ⟨h.t, bump (allocs plan) h.next⟩ := t.tBase
  have hbn : (T.Bs 0).next.nat = h.next.nat + allocs plan := by rw [hB0]; exact bump_nat _ _
  have hw : ({ w with drawn := w.drawn + 1 } : World).heap = w.heap := rfl
  have hr1 : Rel G M (T.Bs 0) { w with drawn := w.drawn + 1 } := by
    refine (at_.rel.heap hw).sub (fun i o hi => ?_) (by rw [hbn]; omega)
    rw [hB0] at hi; exact hi
  have hx1 : Ext M h w M (T.Bs 0) { w with drawn := w.drawn + 1 } := by
    have hx := Ext.refl at_.rel
    refine ⟨hx.le, by rw [hbn]; omega, rfl, rfl, rfl, Nat.le_refl _, fun _ _ _ => rfl, fun i o L hi => ?_, fun i _ hi => ?_, fun i o L hi => ?_, hx.none⟩
    · rw [hB0] at hi; exact hx.own i o L hi
    · rw [hB0]; exact hi
    · rw [hB0] at hi; exact hx.all i o L hi
  have hL0 : ∀ i, (Array.replicate ops.size false).getD i false = false := fun i => by
    rw [Array.getD_eq_getD_getElem?, Array.getElem?_replicate]; split <;> rfl
  refine ⟨by simp, fun i k _ hk => ?_, Nat.zero_le _, fun i j' _ => ?_, hr1, rfl, fun i j' p ob _ hl => ?_, fun _ _ => rfl, fun i j' p ob hA _ => ?_, fun i j' p ob hA _ => ?_, fun i o d v hl => ?_, fun t' v _ hv => at_.fr t' v hv, at_.size, at_.plain, hx1⟩
  · rw [hL0] at hk; cases hk
  · rw [hL0]; simp
  · rw [hL0] at hl; cases hl
  · obtain ⟨g1, g2, _⟩ := t.a1 i j' p ob hA
    refine ⟨?_, by rw [hbn]; exact g2⟩
    cases hg : (T.Bs 0).get p with
    | none => rfl
    | some o' =>
      rw [hB0] at hg
      obtain ⟨L, hL, _⟩ := at_.rel.ob p o' hg
      have := at_.rel.lt_next hL
      omega
  · obtain ⟨g1, g2, _⟩ := t.a1 i j' p ob hA
    exact at_.rel.fresh p g1
  · rw [hL0] at hl; cases hl
theorem draw_fin (S : Static ops Ed sb G N plan) (A : Made T ops Ed plan h.next) (hst : ∀ i c j, (i, c, j) ∈ phased 0 plan → StepOk P e ops sb fr T i c j) (at_ : At keep G N Df M fr h a w) (hne : out ≠ .bad)
    (hfin : finK keep T.E (fun fr => .nor fr (T.Cs (heavies plan))) ops.toList fr = out) :
    ∀ L M' f j a' w', Inv T ops Ed plan keep fr G N Df M h w L M' f j a' w' → (∀ i, i < ops.size → L.getD i false = true) → OutQ keep G N Df M h w out .normal a' w' := by
  intro L M' f j a' w' I hall
  obtain ⟨fr', hk, hfr⟩ := finK_ok hne hfin
  have hj : j = heavies plan := by
    rcases Nat.lt_or_ge j (heavies plan) with h1 | h1
    · obtain ⟨i2, hp2, hi2⟩ := S.heavyAt j h1
      have := (I.ph i2 j hp2).1 (hall i2 hi2)
      omega
    · have := I.jle; omega
  subst hj
  have hlt : ∀ {i c j'}, (i, c, j') ∈ phased 0 plan → i < ops.size := fun {i c j'} hp => by
    obtain ⟨o, ho, _⟩ := hst i c j' hp
    exact (Array.getElem?_eq_some_iff.1 ho).1
  have hC : ∀ x, (T.Cs (heavies plan)).get x = f.get x := fun x => by
    by_cases hx : ∃ i ob, (i, heavies plan, x, ob) ∈ T.A
    · obtain ⟨i, ob, hA⟩ := hx
      obtain ⟨_, g2, g3, _⟩ := A.a1 _ _ _ _ hA
      rw [g3, I.f1 _ _ _ _ hA (hall i (hlt g2)) (Nat.le_refl _)]
      rw [ent_congr (b := fun _ => true) (b' := fun k => L.getD k false) fun y hy _ _ => by
        obtain ⟨i2, j2, p2, x2, y2⟩ := y
        obtain ⟨a2, k1, _⟩ := A.i1 _ _ _ _ _ hy
        exact (hall i2 (hlt k1)).symm]
    · rw [(A.ct _).1 x (fun i ob hA => hx ⟨i, ob, hA⟩)]
      refine (I.f2 x fun i j' ob hA _ hj' => ?_).symm
      obtain ⟨_, g2, _⟩ := A.a1 _ _ _ _ hA
      have := (phased_le g2).1
      have hje : j' = heavies plan := by omega
      subst hje
      exact hx ⟨i, ob, hA⟩
  have hCn : (T.Cs (heavies plan)).next = f.next := by rw [(A.ct _).2, I.nx]
  rw [← hk]
  refine ⟨M', ⟨I.rel.congr hC hCn, fun t' v hv => ?_, I.size, I.plain⟩, I.ext.congr hC hCn⟩
  rcases hfr t' v hv with ⟨o, ho, hd, hkp, hE'⟩ | ⟨hno, hold⟩
  · obtain ⟨i, hi, hio⟩ := List.getElem_of_mem ho
    have hi' : i < ops.size := by simpa using hi
    have hoi : ops[i]? = some o := by rw [Array.getElem?_eq_getElem hi']; rw [← hio]; simp
    exact ⟨hkp, I.e1 i o t' v (hall i hi') hoi hd hE'⟩
  · refine I.e2 t' v (fun i o _ ho hd => ?_) hold
    have h1 := hno o (by have := Array.mem_of_getElem? ho; simpa using this) hd
    have h2 := (at_.fr t' v hold).1
    rw [h1] at h2; cases h2
end
end Go.Vm

namespace Go.Vm
noncomputable section
variable {P : Program} {e : FuncId → Option Fun} {Ed Ed' : Nat → Nat → Prop} {ops : Array Oper} {sb : Nat → Nat → Bool} {fr : F} {keep : Nat → Bool} {G N : Nat} {Df : List Deferred}
variable {T : Tr} {plan pre : Plan} {M₀ M : Mp} {h h₀ f : Hp} {w₀ w : World} {L : Array Bool} {j : Nat} {a : Act} {i x y : Nat} {out : Out} {k : Env → Hp → Out}
def EdP (ops : Array Oper) (x y : Nat) : Nat → Nat → Prop := fun j i => Edge ops j i ∨ (j = x ∧ i = y)
def sbP (sb : Nat → Nat → Bool) (x y : Nat) (j i : Nat) : Bool := sb j i || (Nat.beq j x && Nat.beq i y)
theorem Bef.mono (hE : ∀ j i, Ed j i → Ed' j i) {j i : Nat} (h : Bef Ed j i) : Bef Ed' j i := by
  induction h with
  | one h => exact .one (hE _ _ h)
  | step _ h ih => exact .step ih (hE _ _ h)
theorem phased_append (l r : Plan) : ∀ j₀, phased j₀ (l ++ r) = phased j₀ l ++ phased (j₀ + heavies l) r := by
  induction l with
  | nil => intro j₀; simp [phased, heavies]
  | cons z l ih =>
    obtain ⟨i, c⟩ := z
    intro j₀
    cases c <;> simp [phased, heavies, ih, Nat.add_assoc, Nat.add_comm 1]
theorem heavies_append (l r : Plan) : heavies (l ++ r) = heavies l + heavies r := by
  induction l with
  | nil => simp [heavies]
  | cons z l ih =>
    obtain ⟨i, c⟩ := z
    cases c <;> simp [heavies, ih] <;> omega
def pl2 (pre : Plan) (x y : Nat) : Plan := pre ++ [(x, .heavy), (y, .heavy)]
theorem mem_pl2 {c : Cls} : (i, c, j) ∈ phased 0 (pl2 pre x y) ↔ (i, c, j) ∈ phased 0 pre ∨ (i = x ∧ c = .heavy ∧ j = heavies pre) ∨ (i = y ∧ c = .heavy ∧ j = heavies pre + 1) := by
  unfold pl2
  rw [phased_append]
  simp [phased]
theorem hv_pl2 : heavies (pl2 pre x y) = heavies pre + 2 := by unfold pl2; rw [heavies_append]; simp [heavies]
theorem hCells_row {α : Type} {g : Hp} {p : Pos} {wr : Wr} {cs : List V} (hq : (g.get p).bind Ob.row = some (wr, cs)) (k : Wr → List V → R α) : hCells g p k = k wr cs := by
  unfold hCells
  cases hg : g.get p with
  | none => rw [hg] at hq; cases hq
  | some o =>
    rw [hg] at hq
    cases o with
    | cells w l => cases hq; rfl
    | bytes l => cases hq; rfl
    | _ => cases hq
theorem store_inv {sz : Nat} {a z : V} {h h' : Hp} {r : V} (e0 : oStore sz a z h = .ok r h') : ∃ p o ob, a = .ptr p o ∧ h' = h.put p (some ob) ∧ ∀ g : Hp, g.get p = h.get p → oStore sz a z g = .ok r (g.put p (some ob)) := by
  unfold oStore at e0
  obtain ⟨p, o, rfl, e1⟩ := asPtr_ok e0
  obtain ⟨wr, cs, hg, e2⟩ := hCells_ok e1
  split at e2
  · rename_i t fl hn hb
    split at e2
    · rename_i cs' hp
      cases e2
      refine ⟨p, o, _, rfl, rfl, fun g hgg => ?_⟩
      have hq : (g.get p).bind Ob.row = some (.rw t fl, cs) := by rw [hgg]; exact hg
      show hCells g p _ = _
      rw [hCells_row hq]
      simp only [hn, hb, hp]
    · cases e2
  · rename_i hn hb
    unfold byteStore at e2
    split at e2
    · rename_i b hbg
      split at e2
      · rename_i cs0
        split at e2
        · rename_i cs' hp
          cases e2
          refine ⟨p, o, _, rfl, rfl, fun g hgg => ?_⟩
          have hq : (g.get p).bind Ob.row = some (.ro, cs) := by rw [hgg]; exact hg
          show hCells g p _ = _
          rw [hCells_row hq]
          simp only [hn, hb]
          unfold byteStore
          rw [hgg, hbg]
          simp only [hp]
        · cases e2
      · cases e2
    · cases e2
  · cases e2
theorem store_swap {s1 s2 : Nat} {a1 z1 a2 z2 : V} {h h1 c1 h2 : Hp} {r1 r2 : V} (e1 : oStore s1 a1 z1 h = .ok r1 h1) (hc : ∀ p, c1.get p = h1.get p) (hn : c1.next = h1.next) (e2 : oStore s2 a2 z2 c1 = .ok r2 h2)
    {p1 p2 : Pos} {o1 o2 : Nat} (ha1 : a1 = .ptr p1 o1) (ha2 : a2 = .ptr p2 o2) (hne : p1 ≠ p2) :
    ∃ g1 g2, oStore s2 a2 z2 h = .ok r2 g1 ∧ oStore s1 a1 z1 g1 = .ok r1 g2 ∧ (∀ p, g2.get p = h2.get p) ∧ g2.next = h2.next := by
  obtain ⟨p, o, ob1, ea, rfl, F1⟩ := store_inv e1
  obtain ⟨q, o', ob2, eb, rfl, F2⟩ := store_inv e2
  rw [ha1] at ea; cases ea
  rw [ha2] at eb; cases eb
  have h3 := F2 h (by rw [hc, Hp.get_put_ne _ (Ne.symm hne)])
  have h4 := F1 (h.put p2 (some ob2)) (by rw [Hp.get_put_ne _ hne])
  refine ⟨_, _, h3, h4, fun x => ?_, ?_⟩
  · by_cases e1 : x = p1
    · subst e1
      rw [Hp.get_put_self, Hp.get_put_ne _ hne, hc, Hp.get_put_self]
    · rw [Hp.get_put_ne _ e1]
      by_cases e2 : x = p2
      · subst e2
        rw [Hp.get_put_self, Hp.get_put_self]
      · rw [Hp.get_put_ne _ e2, Hp.get_put_ne _ e2, hc, Hp.get_put_ne _ e1]
  · show h.next = c1.next
    rw [hn]; rfl
def altT (T : Tr) (k : Nat) (b1 b2 : Hp) : Tr :=
  { T with Bs := fun j => if j = k + 1 then b1 else if j = k + 2 then b2 else T.Bs j, Cs := fun j => if j = k + 1 then b1 else if j = k + 2 then b2 else T.Cs j }
theorem altT_B {k : Nat} {b1 b2 : Hp} (hj : j ≤ k) : (altT T k b1 b2).Bs j = T.Bs j := by
  show (if j = k + 1 then b1 else if j = k + 2 then b2 else T.Bs j) = _
  rw [if_neg (by omega), if_neg (by omega)]
theorem altT_C {k : Nat} {b1 b2 : Hp} (hj : j ≤ k) : (altT T k b1 b2).Cs j = T.Cs j := by
  show (if j = k + 1 then b1 else if j = k + 2 then b2 else T.Cs j) = _
  rw [if_neg (by omega), if_neg (by omega)]
theorem altT_B1 {k : Nat} {b1 b2 : Hp} : (altT T k b1 b2).Bs (k + 1) = b1 := by simp [altT]
theorem altT_C1 {k : Nat} {b1 b2 : Hp} : (altT T k b1 b2).Cs (k + 1) = b1 := by simp [altT]
theorem altT_B2 {k : Nat} {b1 b2 : Hp} : (altT T k b1 b2).Bs (k + 2) = b2 := by simp [altT]
theorem altT_C2 {k : Nat} {b1 b2 : Hp} : (altT T k b1 b2).Cs (k + 2) = b2 := by simp [altT]
theorem StepOk.alt {k : Nat} {b1 b2 : Hp} {c : Cls} (hj : j ≤ k) (hh : c = .heavy → j < k) (s : StepOk P e ops sb fr T i c j) : StepOk P e ops sb fr (altT T k b1 b2) i c j := by
  obtain ⟨o, ho, hs⟩ := s
  refine ⟨o, ho, ?_⟩
  rcases hs with ⟨hg, vs, v, h1, h2, h3⟩ | ⟨hg, h1, h2⟩
  · refine .inl ⟨hg, vs, v, h1, h2, ?_⟩
    cases c with
    | pure => exact h3
    | read cnt => exact ⟨h3.1, fun j' a b => by rw [altT_B (by omega)]; exact h3.2 j' a b⟩
    | alloc => exact h3
    | heavy =>
      have := hh rfl
      show opSem P e o.op vs _ = _
      rw [altT_C hj, altT_B (by omega)]
      exact h3
    | own x => obtain ⟨u, p, h', q1, q2, q3, q4⟩ := h3; exact ⟨u, p, h', q1, q2, q3, by rw [altT_C hj]; exact q4⟩
    | ins x => exact h3
  · refine .inr ⟨hg, h1, fun hc => ?_⟩
    have := hh hc
    rw [altT_C hj, altT_B (by omega)]
    exact h2 hc
def IsSt (ops : Array Oper) (x : Nat) : Prop := ∃ o t av zv, ops[x]? = some o ∧ o.guard = none ∧ o.dst = none ∧ o.op = .store t av zv
theorem St_step {o : Oper} {t : TypeId} {av zv : Operand} (ho : ops[x]? = some o) (hg : o.guard = none) (hd : o.dst = none) (hop : o.op = .store t av zv) (s : StepOk P e ops sb fr T x .heavy j) :
    ∃ ti u z v, P.info? t = some ti ∧ SrcL ops sb fr T.E x o.op.operands.toList [u, z] ∧ oStore ti.size u z (T.Cs j) = .ok v (T.Bs (j + 1)) := by
  obtain ⟨o', ho', hs⟩ := s
  rw [ho] at ho'; cases ho'
  rcases hs with ⟨_, vs, v, h1, _, h3⟩ | ⟨⟨g, b, d, hg', _⟩, _⟩
  · have h3 : opSem P e o.op vs (T.Cs j) = .ok v (T.Bs (j + 1)) := h3
    rw [hop] at h3
    obtain ⟨u, z, rfl, e0⟩ := v2_ok h3
    split at e0
    · rename_i ti hti
      exact ⟨ti, u, z, v, hti, h1, e0⟩
    · cases e0
  · rw [hg] at hg'; cases hg'
theorem St_to {o : Oper} {t : TypeId} {av zv : Operand} {ti : TypeInfo} {u z v : V} (ho : ops[x]? = some o) (hg : o.guard = none) (hd : o.dst = none) (hop : o.op = .store t av zv) (hti : P.info? t = some ti)
    (h1 : SrcL ops sb fr T.E x o.op.operands.toList [u, z]) (h2 : oStore ti.size u z (T.Cs j) = .ok v (T.Bs (j + 1))) : StepOk P e ops sb fr T x .heavy j := by
  refine ⟨o, ho, .inl ⟨.inl hg, [u, z], v, h1, fun d hx => (by rw [hd] at hx; cases hx), ?_⟩⟩
  show opSem P e o.op [u, z] (T.Cs j) = _
  rw [hop]
  show (match P.info? t with | some ti => oStore ti.size u z (T.Cs j) | none => .bad) = _
  rw [hti]
  exact h2
section
variable {b1 b2 : Hp}
theorem made_alt (SA : Static ops (EdP ops x y) sb G N (pl2 pre x y)) (SB : Static ops (EdP ops y x) sb G N (pl2 pre y x)) {q : Pos} (A : Made T ops (EdP ops x y) (pl2 pre x y) q) :
    Made (altT T (heavies pre) b1 b2) ops (EdP ops y x) (pl2 pre y x) q := by
  have inpre : ∀ {i c j}, (i, c, j) ∈ phased 0 (pl2 pre x y) → c ≠ .heavy → (i, c, j) ∈ phased 0 pre ∧ j ≤ heavies pre := fun {i c j} hm hc => by
    rcases mem_pl2.1 hm with h | ⟨_, h, _⟩ | ⟨_, h, _⟩
    · have := (phased_le h).1
      exact ⟨h, by omega⟩
    · exact absurd h hc
    · exact absurd h hc
  refine ⟨fun i j p ob hA => ?_, A.a2, A.a3, fun j => ?_, fun i j p u v hI => ?_, A.i2, A.i4⟩
  · obtain ⟨g1, g2, g3, g4⟩ := A.a1 i j p ob hA
    obtain ⟨k1, k2⟩ := inpre g2 (by simp)
    exact ⟨g1, mem_pl2.2 (.inl k1), by rw [altT_C k2]; exact g3, g4⟩
  · by_cases e1 : j = heavies pre + 1
    · subst e1
      rw [altT_B1, altT_C1]
      exact ⟨fun _ _ => rfl, rfl⟩
    · by_cases e2 : j = heavies pre + 2
      · subst e2
        rw [altT_B2, altT_C2]
        exact ⟨fun _ _ => rfl, rfl⟩
      · have hC : (altT T (heavies pre) b1 b2).Cs j = T.Cs j := by
          show (if j = heavies pre + 1 then b1 else if j = heavies pre + 2 then b2 else T.Cs j) = _
          rw [if_neg e1, if_neg e2]
        have hB : (altT T (heavies pre) b1 b2).Bs j = T.Bs j := by
          show (if j = heavies pre + 1 then b1 else if j = heavies pre + 2 then b2 else T.Bs j) = _
          rw [if_neg e1, if_neg e2]
        rw [hC, hB]
        exact A.ct j
  · obtain ⟨a, g1, g2, _, g4⟩ := A.i1 i j p u v hI
    obtain ⟨k1, _⟩ := inpre g1 (by simp)
    have hm : (i, Cls.ins a, j) ∈ phased 0 (pl2 pre y x) := mem_pl2.2 (.inl k1)
    exact ⟨a, hm, g2, (SB.insA i a j hm).2.1, g4⟩
theorem Inv.swap (I : Inv T ops (EdP ops x y) (pl2 pre x y) keep fr G N Df M₀ h₀ w₀ L M f j a w) (hx : L.getD x false = false) (hy : L.getD y false = false) :
    Inv (altT T (heavies pre) b1 b2) ops (EdP ops y x) (pl2 pre y x) keep fr G N Df M₀ h₀ w₀ L M f j a w := by
  have hj : j ≤ heavies pre := by
    have := I.ph x (heavies pre) (mem_pl2.2 (.inr (.inl ⟨rfl, rfl, rfl⟩)))
    rw [hx] at this
    rcases Nat.lt_or_ge (heavies pre) j with h | h
    · have := this.2 h; cases this
    · exact h
  refine ⟨I.lsize, fun i k hk hl => ?_, by rw [hv_pl2]; omega, fun i j' hm => ?_, I.rel, by rw [altT_B hj]; exact I.nx, I.f1, fun p hp => by rw [altT_B hj]; exact I.f2 p hp, fun i j' p ob h1 h2 => by rw [altT_B hj]; exact I.f3 i j' p ob h1 h2, I.un, I.e1, I.e2, I.size, I.plain, I.ext⟩
  · rcases hk with hk | ⟨rfl, rfl⟩
    · exact I.down i k (.inl hk) hl
    · rw [hx] at hl; cases hl
  · rcases mem_pl2.1 hm with h | ⟨rfl, _, rfl⟩ | ⟨rfl, _, rfl⟩
    · exact I.ph i j' (mem_pl2.2 (.inl h))
    · rw [hy]; constructor
      · intro h; cases h
      · intro h; omega
    · rw [hx]; constructor
      · intro h; cases h
      · intro h; omega
end
theorem any2 (hE : ∀ f F, e f = some F → CallOk P G f F) (back : ∀ j i, Edge ops j i → j < i) (hxy : x ≠ y) {b1 b2 : Hp} {M₀ : Mp} {w₀ : World}
    (SA : Static ops (EdP ops x y) sb G N (pl2 pre x y)) (SB : Static ops (EdP ops y x) sb G N (pl2 pre y x))
    (A : Made T ops (EdP ops x y) (pl2 pre x y) h₀.next) (B : Made (altT T (heavies pre) b1 b2) ops (EdP ops y x) (pl2 pre y x) h₀.next)
    (stA : ∀ i c j, (i, c, j) ∈ phased 0 (pl2 pre x y) → StepOk P e ops sb fr T i c j) (stB : ∀ i c j, (i, c, j) ∈ phased 0 (pl2 pre y x) → StepOk P e ops sb fr (altT T (heavies pre) b1 b2) i c j)
    {Q : Exit → Act → World → Prop}
    (finA : ∀ L M f j a w, Inv T ops (EdP ops x y) (pl2 pre x y) keep fr G N Df M₀ h₀ w₀ L M f j a w → (∀ i, i < ops.size → L.getD i false = true) → Q .normal a w)
    (finB : ∀ L M f j a w, Inv (altT T (heavies pre) b1 b2) ops (EdP ops y x) (pl2 pre y x) keep fr G N Df M₀ h₀ w₀ L M f j a w → (∀ i, i < ops.size → L.getD i false = true) → Q .normal a w) :
    ∀ (fuel : Nat) (L : Array Bool) (M : Mp) (f : Hp) (j : Nat) (a : Act) (w : World), left L ≤ fuel →
      (Inv T ops (EdP ops x y) (pl2 pre x y) keep fr G N Df M₀ h₀ w₀ L M f j a w ∨ (Inv (altT T (heavies pre) b1 b2) ops (EdP ops y x) (pl2 pre y x) keep fr G N Df M₀ h₀ w₀ L M f j a w ∧ L.getD y false = true)) →
      wpAny P .any ops Q fuel L a w := by
  intro fuel
  induction fuel with
  | zero =>
    intro L M f j a w hl I
    have hsz : L.size = ops.size := by rcases I with I | ⟨I, _⟩ <;> exact I.lsize
    have hall : ∀ i, i < ops.size → L.getD i false = true := fun i hi => left_zero (by omega) (by rw [hsz]; exact hi)
    refine ⟨?_, ?_⟩
    · apply List.eq_nil_iff_forall_not_mem.2
      intro i hi
      have R := ready_of hsz hi
      have := hall i R.lt
      rw [R.no] at this; cases this
    · rcases I with I | ⟨I, _⟩
      · exact finA L M f j a w I hall
      · exact finB L M f j a w I hall
  | succ fuel ih =>
    intro L M f j a w hl I
    have hsz : L.size = ops.size := by rcases I with I | ⟨I, _⟩ <;> exact I.lsize
    refine ⟨fun hr => ?_, fun i hi => ?_⟩
    · have hall : ∀ i, i < ops.size → L.getD i false = true := fun i => by
        induction i using Nat.strongRecOn with
        | _ i ihi =>
          intro hi
          cases hv : L.getD i false with
          | true => rfl
          | false =>
            exfalso
            have : i ∈ Region.ready .any ops L := ready_to hsz hi hv fun k hk => ihi k (back k i hk) (by have := back k i hk; omega)
            rw [hr] at this; cases this
      rcases I with I | ⟨I, _⟩
      · exact finA L M f j a w I hall
      · exact finB L M f j a w I hall
    · have R := ready_of hsz hi
      have hlt := left_set (by rw [hsz]; exact R.lt) R.no
      rcases I with I | ⟨I, hLy⟩
      · by_cases hc : i = y ∧ L.getD x false = false
        · obtain ⟨rfl, hx⟩ := hc
          have I' := I.swap (b1 := b1) (b2 := b2) hx R.no
          have R' : Ready ops (EdP ops i x) L i := ⟨R.lt, R.no, fun k hk => by
            rcases hk with hk | ⟨_, hk⟩
            · exact R.edge k hk
            · exact absurd hk.symm hxy⟩
          refine wpOp_mono ?_ (I'.step hE SB B stB R' (Q := Q))
          rintro a' w' ⟨M', f', j', I2⟩
          refine ih _ M' f' j' a' w' (by omega) (.inr ⟨I2, ?_⟩)
          rw [getD_set L (by rw [hsz]; exact R.lt), if_pos rfl]
        · have R' : Ready ops (EdP ops x y) L i := ⟨R.lt, R.no, fun k hk => by
            rcases hk with hk | ⟨rfl, rfl⟩
            · exact R.edge k hk
            · cases hv : L.getD k false with
              | true => rfl
              | false => exact absurd ⟨rfl, hv⟩ hc⟩
          refine wpOp_mono ?_ (I.step hE SA A stA R' (Q := Q))
          rintro a' w' ⟨M', f', j', I2⟩
          exact ih _ M' f' j' a' w' (by omega) (.inl I2)
      · have R' : Ready ops (EdP ops y x) L i := ⟨R.lt, R.no, fun k hk => by
          rcases hk with hk | ⟨rfl, rfl⟩
          · exact R.edge k hk
          · exact hLy⟩
        refine wpOp_mono ?_ (I.step hE SB B stB R' (Q := Q))
        rintro a' w' ⟨M', f', j', I2⟩
        refine ih _ M' f' j' a' w' (by omega) (.inr ⟨I2, ?_⟩)
        rw [getD_set L (by rw [hsz]; exact R.lt)]
        split
        · rfl
        · exact hLy
end
end Go.Vm

namespace Go.Vm
noncomputable section
variable {P : Program} {e : FuncId → Option Fun} {ops : Array Oper} {sb : Nat → Nat → Bool} {fr : F} {keep : Nat → Bool} {G N : Nat} {Df : List Deferred}
variable {T : Tr} {plan pre : Plan} {h : Hp} {i x y : Nat} {out : Out}
def posOf (v : V) : Option Pos := match v with
  | .ptr p _ => some p
  | _ => none
def ptrOf (ops : Array Oper) (sb : Nat → Nat → Bool) (fr : F) (E : Env) (x : Nat) : Option Pos := match ops[x]? with
  | some o => (match o.op with
    | .store _ a _ => (match a with
      | .tmp t => (match srcB ops sb x t with
        | true => (match findE t E with | some v => posOf v | none => none)
        | false => (match fr.get (Pos.of t) with | some v => posOf v | none => none))
      | _ => none)
    | _ => none)
  | none => none
def disj (ops : Array Oper) (sb : Nat → Nat → Bool) (fr : F) (E : Env) (x y : Nat) : Bool := match ptrOf ops sb fr E x with
  | some p => (match ptrOf ops sb fr E y with
    | some q => (match p.eq q with | true => false | false => true)
    | none => false)
  | none => false
theorem posOf_ok {v : V} {p : Pos} (h : posOf v = some p) : ∃ o, v = .ptr p o := by
  unfold posOf at h
  split at h
  · cases h; exact ⟨_, rfl⟩
  · cases h
theorem ptrOf_src {E : Env} {o : Oper} {t : TypeId} {av zv : Operand} {u z : V} {p : Pos} (ho : ops[x]? = some o) (hop : o.op = .store t av zv) (hs : SrcL ops sb fr E x o.op.operands.toList [u, z]) (hp : ptrOf ops sb fr E x = some p) :
    ∃ q, u = .ptr p q := by
  rw [hop] at hs
  obtain ⟨u', us, e1, hu, -⟩ := hs
  cases e1
  unfold ptrOf at hp
  rw [ho] at hp
  simp only [hop] at hp
  split at hp
  · rename_i t'
    rcases hu with ⟨h1, h2⟩ | ⟨h1, h2⟩
    · rw [h1] at hp
      simp only [h2] at hp
      exact posOf_ok hp
    · rw [h1] at hp
      simp only [h2] at hp
      exact posOf_ok hp
  · cases hp
theorem disj_ok {E : Env} (h : disj ops sb fr E x y = true) : ∃ p q, ptrOf ops sb fr E x = some p ∧ ptrOf ops sb fr E y = some q ∧ p ≠ q := by
  unfold disj at h
  split at h
  · rename_i p hp
    split at h
    · rename_i q hq
      split at h
      · cases h
      · rename_i hpq
        exact ⟨p, q, hp, hq, Pos.eq_false.1 hpq⟩
    · cases h
  · cases h
def drawP (P : Program) (keep : Nat → Bool) (e : FuncId → Option Fun) (ops : Array Oper) (sb : Nat → Nat → Bool) (pre : Plan) (x y : Nat) (fr : F) (h : Hp) : Out :=
  drawK P e ops sb fr (fun E h => match disj ops sb fr E x y with | true => finK keep E (fun fr => .nor fr h) ops.toList fr | false => .bad) (pl2 pre x y) [] ⟨h.t, bump (allocs (pl2 pre x y)) h.next⟩ ⟨h.t, bump (allocs (pl2 pre x y)) h.next⟩ [] h.next
theorem finK_nor {E : Env} : ∀ (l : List Oper) (fr : F) {H : Hp}, finK keep E (fun fr => .nor fr H) l fr ≠ .bad → ∃ fr', ∀ H', finK keep E (fun fr => .nor fr H') l fr = .nor fr' H'
  | [], fr, H, _ => ⟨fr, fun _ => rfl⟩
  | o :: l, fr, H, hne => by
    unfold finK at hne
    cases hd : o.dst with
    | none =>
      rw [hd] at hne
      obtain ⟨fr', h⟩ := finK_nor l fr hne
      exact ⟨fr', fun H' => by unfold finK; rw [hd]; exact h H'⟩
    | some d =>
      rw [hd] at hne
      cases hk : keep d with
      | false =>
        simp only [hk] at hne
        obtain ⟨fr', h⟩ := finK_nor l fr hne
        exact ⟨fr', fun H' => by unfold finK; rw [hd]; simp only [hk]; exact h H'⟩
      | true =>
        simp only [hk] at hne
        cases hv : findE d E with
        | none => rw [hv] at hne; exact absurd rfl hne
        | some v =>
          rw [hv] at hne
          obtain ⟨fr', h⟩ := finK_nor l _ hne
          exact ⟨fr', fun H' => by unfold finK; rw [hd]; simp only [hk, hv]; exact h H'⟩
theorem SoundC.pair (hm : P.follows .mixedOrders = true) (hE : ∀ f F, e f = some F → CallOk P G f F) {id : Nat} (hnd : ∀ o ∈ ops.toList, ∀ c, o.op ≠ .defer c) (back : ∀ j i, Edge ops j i → j < i) (hxy : x ≠ y)
    (SA : Static ops (EdP ops x y) sb G N (pl2 pre x y)) (SB : Static ops (EdP ops y x) sb G N (pl2 pre y x)) (hx : IsSt ops x) (hy : IsSt ops y) : SoundC P keep G N (.region id ops true) (drawP P keep e ops sb pre x y) := by
  intro ro n Df fr h M a w hne at_
  refine region_any hm OutQ.noLet hnd ?_
  generalize hout : drawP P keep e ops sb pre x y fr h = out at hne
  obtain ⟨T, t⟩ := told_run hne (pl2 pre x y) [] _ _ [] [] h.next SA.nodup rfl hout
  have A := draw_made SA t
  have I0 := draw_start SA t at_
  have hfin := t.out
  simp only [List.length_nil, Nat.zero_add] at hfin
  have hdis : disj ops sb fr T.E x y = true := by
    cases hd : disj ops sb fr T.E x y with
    | true => rfl
    | false => rw [hd] at hfin; exact absurd hfin.symm hne
  rw [hdis] at hfin
  have hfin : finK keep T.E (fun fr => .nor fr (T.Cs (heavies (pl2 pre x y)))) ops.toList fr = out := hfin
  obtain ⟨ox, tx, ax, zx, x1, x2, x3, x4⟩ := hx
  obtain ⟨oy, ty, ay, zy, y1, y2, y3, y4⟩ := hy
  obtain ⟨tix, ux, vx, rx, x5, x6, x7⟩ := St_step x1 x2 x3 x4 (t.steps x .heavy (heavies pre) (mem_pl2.2 (.inr (.inl ⟨rfl, rfl, rfl⟩))))
  obtain ⟨tiy, uy, vy, ry, y5, y6, y7⟩ := St_step y1 y2 y3 y4 (t.steps y .heavy (heavies pre + 1) (mem_pl2.2 (.inr (.inr ⟨rfl, rfl, rfl⟩))))
  obtain ⟨p, q, hp, hq, hpq⟩ := disj_ok hdis
  obtain ⟨px, hux⟩ := ptrOf_src x1 x4 x6 hp
  obtain ⟨py, huy⟩ := ptrOf_src y1 y4 y6 hq
  have noA : ∀ j, heavies pre < j → ∀ i r ob, (i, j, r, ob) ∉ T.A := fun j hj i r ob hA => by
    obtain ⟨_, g2, _, _⟩ := A.a1 i j r ob hA
    rcases mem_pl2.1 g2 with h | ⟨_, h, _⟩ | ⟨_, h, _⟩
    · have := (phased_le h).1; omega
    · cases h
    · cases h
  have hC1 : ∀ r, (T.Cs (heavies pre + 1)).get r = (T.Bs (heavies pre + 1)).get r := fun r => (A.ct _).1 r fun i ob => noA _ (by omega) i r ob
  have hC2 : ∀ r, (T.Cs (heavies pre + 2)).get r = (T.Bs (heavies pre + 2)).get r := fun r => (A.ct _).1 r fun i ob => noA _ (by omega) i r ob
  obtain ⟨g1, g2, F1, F2, Fg, Fn⟩ := store_swap x7 hC1 (A.ct _).2 y7 hux huy hpq
  have stB : ∀ i c j, (i, c, j) ∈ phased 0 (pl2 pre y x) → StepOk P e ops sb fr (altT T (heavies pre) g1 g2) i c j := fun i c j hm => by
    rcases mem_pl2.1 hm with hm | ⟨rfl, rfl, rfl⟩ | ⟨rfl, rfl, rfl⟩
    · have := phased_le hm
      exact (t.steps i c j (mem_pl2.2 (.inl hm))).alt (by omega) (fun hc => by have := this.2 hc; omega)
    · exact St_to y1 y2 y3 y4 y5 y6 (by rw [altT_C (Nat.le_refl _), altT_B1]; exact F1)
    · exact St_to x1 x2 x3 x4 x5 x6 (by rw [altT_C1, altT_B2]; exact F2)
  have B := made_alt (b1 := g1) (b2 := g2) SA SB A
  obtain ⟨fr', hF⟩ := finK_nor ops.toList fr (by rw [hfin]; exact hne)
  have hout' : out = .nor fr' (T.Cs (heavies pre + 2)) := by rw [← hfin, hF, hv_pl2]
  refine any2 hE back hxy SA SB A B t.steps stB (draw_fin SA A t.steps at_ hne hfin) (fun L M' f j a' w' I hall => ?_) ops.size _ M (T.Bs 0) 0 a _ (by unfold left; exact Nat.le_trans List.countP_le_length (by simp)) (.inl I0)
  have := draw_fin (out := .nor fr' g2) SB B stB at_ (by simp) (by
    show finK keep T.E (fun fr => .nor fr ((altT T (heavies pre) g1 g2).Cs (heavies (pl2 pre y x)))) ops.toList fr = _
    rw [hF, hv_pl2, altT_C2]) L M' f j a' w' I hall
  rw [hout']
  obtain ⟨M2, at2, hx2⟩ := this
  have he : ∀ r, (T.Cs (heavies pre + 2)).get r = g2.get r := fun r => by rw [hC2, Fg]
  have hn : (T.Cs (heavies pre + 2)).next = g2.next := by rw [(A.ct _).2, Fn]
  exact ⟨M2, ⟨at2.rel.congr he hn, at2.fr, at2.size, at2.plain⟩, hx2.congr he hn⟩
end
end Go.Vm

namespace Go.Vm
noncomputable section
variable {P : Program} {e : FuncId → Option Fun} {ops : Array Oper} {keep : Nat → Bool} {G N : Nat}
def unpl2 : Plan → Option (Plan × Nat × Nat)
  | [] => none
  | z :: l => (match unpl2 l with
    | some (pre, x, y) => some (z :: pre, x, y)
    | none => (match l with
      | [] => none
      | z' :: l' => (match l' with
        | [] => some ([], z.1, z'.1)
        | _ :: _ => none)))
def isStB (ops : Array Oper) (x : Nat) : Bool := match ops[x]? with
  | some o => (match o.guard, o.dst, o.op with
    | none, none, .store _ _ _ => true
    | _, _, _ => false)
  | none => false
theorem isStB_ok {x : Nat} (h : isStB ops x = true) : IsSt ops x := by
  unfold isStB at h
  split at h
  · rename_i o ho
    split at h
    · rename_i t av zv h1 h2 h3
      exact ⟨o, t, av, zv, ho, h1, h2, h3⟩
    · cases h
  · cases h
def pairCheck (ops : Array Oper) (ms : List Nat) (G N : Nat) (pre : Plan) (x y : Nat) : Bool :=
  masksOk ops ms && (planOkS ops (sbOf ms) (sbP (sbOf ms) x y) G N (pl2 pre x y) && (planOkS ops (sbOf ms) (sbP (sbOf ms) y x) G N (pl2 pre y x) && (isStB ops x && (isStB ops y && !(Nat.beq x y)))))
theorem sbP_bef {ms : List Nat} (h1 : masksOk ops ms = true) {x y i j : Nat} (hi : i < ops.size) (h : sbP (sbOf ms) x y j i = true) : Bef (EdP ops x y) j i := by
  unfold sbP at h
  rw [Bool.or_eq_true] at h
  rcases h with h | h
  · exact (masks_bef h1 hi h).mono fun _ _ h => .inl h
  · rw [Bool.and_eq_true] at h
    exact .one (.inr ⟨Nat.eq_of_beq_eq_true h.1, Nat.eq_of_beq_eq_true h.2⟩)
theorem pair_ok (hm : P.follows .mixedOrders = true) (hE : ∀ f F, e f = some F → CallOk P G f F) {id : Nat} (hnd : ∀ o ∈ ops.toList, ∀ c, o.op ≠ .defer c) {ms : List Nat} {pre : Plan} {x y : Nat} (h : pairCheck ops ms G N pre x y = true) :
    SoundC P keep G N (.region id ops true) (drawP P keep e ops (sbOf ms) pre x y) := by
  simp only [pairCheck, Bool.and_eq_true, Bool.not_eq_true'] at h
  obtain ⟨h1, h2, h3, h4, h5, h6⟩ := h
  refine SoundC.pair hm hE hnd (fun j i he => masks_back h1 he) (Nat.ne_of_beq_eq_false h6) ?_ ?_ (isStB_ok h4) (isStB_ok h5)
  · exact static_ok (fun hi hs => (masks_bef h1 hi hs).mono fun _ _ h => .inl h) (fun hi hs => sbP_bef h1 hi hs) h2
  · exact static_ok (fun hi hs => (masks_bef h1 hi hs).mono fun _ _ h => .inl h) (fun hi hs => sbP_bef h1 hi hs) h3
def pairX (P : Program) (G N : Nat) (keep : Nat → Bool) (e : FuncId → Option Fun) (ops : Array Oper) (ms : List Nat) (plan : Plan) : F → Hp → Out := match unpl2 plan with
  | some (pre, x, y) => (match pairCheck ops ms G N pre x y with | true => drawP P keep e ops (sbOf ms) pre x y | false => fun _ _ => .bad)
  | none => fun _ _ => .bad
theorem pairX_ok (hm : P.follows .mixedOrders = true) (hE : ∀ f F, e f = some F → CallOk P G f F) {id : Nat} (hnd : ∀ o ∈ ops.toList, ∀ c, o.op ≠ .defer c) {ms : List Nat} {plan : Plan} :
    SoundC P keep G N (.region id ops true) (pairX P G N keep e ops ms plan) := by
  unfold pairX
  split
  · split
    · rename_i h; exact pair_ok hm hE hnd h
    · exact .bad
  · exact .bad
end
end Go.Vm

namespace Go.Vm
noncomputable section
variable {P : Program} {G N : Nat} {keep : Nat → Bool} {e : FuncId → Option Fun} {ops : Array Oper}
def memN (t : Nat) : List Nat → Bool
  | [] => false
  | u :: l => (match Nat.beq t u with | true => true | false => memN t l)
theorem memN_iff {t : Nat} : ∀ {l : List Nat}, memN t l = true ↔ t ∈ l
  | [] => by simp [memN]
  | u :: l => by
    simp only [memN]
    split
    · rename_i h; simp [Nat.eq_of_beq_eq_true h]
    · rename_i h; simp [memN_iff, Nat.ne_of_beq_eq_false h]
def dropU (d : Option Nat) (us : List Nat) : List Nat := match d with
  | none => us
  | some d => us.filter fun u => not (Nat.beq u d)
def addU (d : Option Nat) (us : List Nat) : List Nat := match d with
  | none => us
  | some d => d :: us
def ifB (v : V) (t f : Out) : Out := match v with | .bool b => (match b with | true => t | false => f) | _ => .bad
def bndO (r : R V) (k : V → Hp → Out) : Out := match r with | .ok v h => k v h | .bad => .bad
def gtO (o : Option V) (k : V → Out) : Out := match o with | some v => k v | none => .bad
def thenO (o : Out) (k : F → Hp → Out) : Out := match o with
  | .nor fr h => k fr h
  | .ret fr h => .ret fr h
  | .ex i fr h => .ex i fr h
  | .bad => .bad
def regG (P : Program) (keep : Nat → Bool) (e : FuncId → Option Fun) (ops : Array Oper) : List Oper → List Nat → Env → F → Hp → Out
  | [], _, _, fr, h => .nor fr h
  | o :: l, us, env, fr, h => (match o.guard with
    | none => opK P keep e o env fr h (regG P keep e ops l (dropU o.dst us))
    | some (j, b) => (match (ops[j]?).bind (·.dst) with
      | none => .bad
      | some d => (match memN d us with
        | true => dstK keep o.dst V.undef env fr fun env fr => regG P keep e ops l (addU o.dst us) env fr h
        | false => tmpK d env fr fun v env => (match b with
          | true => ifB v (opK P keep e o ((d, .bool true) :: env) fr h (regG P keep e ops l (dropU o.dst us))) (dstK keep o.dst V.undef ((d, .bool false) :: env) fr fun env fr => regG P keep e ops l (addU o.dst us) env fr h)
          | false => ifB v (dstK keep o.dst V.undef ((d, .bool true) :: env) fr fun env fr => regG P keep e ops l (addU o.dst us) env fr h) (opK P keep e o ((d, .bool false) :: env) fr h (regG P keep e ops l (dropU o.dst us)))))))
def LeO (a b : Out) : Prop := a ≠ .bad → b = a
theorem LeO.refl (a : Out) : LeO a a := fun _ => rfl
theorem LeO.bad (b : Out) : LeO .bad b := fun h => absurd rfl h
theorem LeO.trans {a b c : Out} (h : LeO a b) (g : LeO b c) : LeO a c := fun ha => by have := h ha; rw [← this]; exact g (by rw [this]; exact ha)
def EqE (env env' : Env) : Prop := ∀ t, findE t env = findE t env'
theorem EqE.refl (env : Env) : EqE env env := fun _ => rfl
theorem EqE.cons {env env' : Env} (h : EqE env env') (d : Nat) (v : V) : EqE ((d, v) :: env) ((d, v) :: env') := fun t => by rw [findE_cons, findE_cons, h t]
theorem EqE.known {env env' : Env} (h : EqE env env') {d : Nat} {v : V} (hd : findE d env' = some v) : EqE ((d, v) :: env) env' := fun t => by
  rw [findE_cons]
  split
  · rename_i e; subst e; exact hd.symm
  · exact h t
def UsOk (us : List Nat) (env : Env) : Prop := ∀ d ∈ us, findE d env = some V.undef
theorem tmpK_le {t : Nat} {env env' : Env} {fr : F} {k k' : V → Env → Out} (he : EqE env env') (hk : ∀ v env1 env1', EqE env1 env1' → (∀ u x, findE u env = some x → findE u env1 = some x) → findE t env1 = some v → LeO (k v env1) (k' v env1')) : LeO (tmpK t env fr k) (tmpK t env' fr k') := by
  unfold tmpK
  rw [← he t]
  cases hf : findE t env with
  | some v => exact hk v env env' he (fun _ _ h => h) hf
  | none =>
    simp only [gt]
    cases fr.get (Pos.of t) with
    | none => exact LeO.bad _
    | some v =>
      refine hk v _ _ (he.cons t v) (fun u x hx => ?_) (by rw [findE_cons, if_pos rfl])
      rw [findE_cons, if_neg (fun e => by subst e; rw [hf] at hx; cases hx)]
      exact hx
theorem opdK_le {x : Operand} {env env' : Env} {fr : F} {k k' : V → Env → Out} (he : EqE env env') (hk : ∀ v env1 env1', EqE env1 env1' → (∀ u x, findE u env = some x → findE u env1 = some x) → LeO (k v env1) (k' v env1')) : LeO (opdK x env fr k) (opdK x env' fr k') := by
  cases x with
  | tmp t => exact tmpK_le he fun v a b h g _ => hk v a b h g
  | const c =>
    simp only [opdK]
    split
    · exact hk _ _ _ he (fun _ _ h => h)
    · exact LeO.bad _
  | global g => exact hk _ _ _ he (fun _ _ h => h)
  | func f => exact hk _ _ _ he (fun _ _ h => h)
theorem opdsK_le {fr : F} : ∀ {l : List Operand} {env env' : Env} {k k' : List V → Env → Out} (_ : EqE env env') (_ : ∀ vs env1 env1', EqE env1 env1' → (∀ u x, findE u env = some x → findE u env1 = some x) → LeO (k vs env1) (k' vs env1')), LeO (opdsK l env fr k) (opdsK l env' fr k')
  | [], _, _, _, _, he, hk => hk [] _ _ he (fun _ _ h => h)
  | _ :: l, _, _, _, _, he, hk => opdK_le he fun v _ _ h g => opdsK_le (l := l) h fun vs _ _ h' g' => hk (v :: vs) _ _ h' fun u x hx => g' u x (g u x hx)
theorem dstK_le {d : Option Nat} {v : V} {env env' : Env} {fr : F} {k k' : Env → F → Out} (he : EqE env env') (hk : ∀ env1 env1' fr, EqE env1 env1' → (∀ u x, d ≠ some u → findE u env = some x → findE u env1 = some x) → (∀ x, d = some x → findE x env1 = some v) → LeO (k env1 fr) (k' env1' fr)) : LeO (dstK keep d v env fr k) (dstK keep d v env' fr k') := by
  cases d with
  | none => exact hk _ _ _ he (fun _ _ _ h => h) (fun x h => by cases h)
  | some d =>
    have h1 : ∀ u x, some d ≠ some u → findE u env = some x → findE u ((d, v) :: env) = some x := fun u x hu hx => by rw [findE_cons, if_neg (fun e => hu (by rw [e]))]; exact hx
    have h2 : ∀ x, some d = some x → findE x ((d, v) :: env) = some v := fun x hx => by cases hx; rw [findE_cons, if_pos rfl]
    simp only [dstK, keepK]
    split <;> exact hk _ _ _ (he.cons d v) h1 h2
theorem opK_le {o : Oper} {env env' : Env} {fr : F} {h : Hp} {k k' : Env → F → Hp → Out} (he : EqE env env') (hk : ∀ env1 env1' fr h, EqE env1 env1' → (∀ u x, o.dst ≠ some u → findE u env = some x → findE u env1 = some x) → LeO (k env1 fr h) (k' env1' fr h)) : LeO (opK P keep e o env fr h k) (opK P keep e o env' fr h k') := by
  refine opdsK_le he fun vs env1 env1' h1 g1 => ?_
  unfold bnd
  cases opSem P e o.op vs h with
  | bad => exact LeO.bad _
  | ok v h2 => exact dstK_le h1 fun a b fr h3 g3 _ => hk a b fr h2 h3 fun u x hu hx => g3 u x hu (g1 u x hx)
theorem UsOk.drop {us : List Nat} {env env1 : Env} {d : Option Nat} (hu : UsOk us env) (h : ∀ u x, d ≠ some u → findE u env = some x → findE u env1 = some x) : UsOk (dropU d us) env1 := by
  intro t ht
  cases d with
  | none => exact h t _ (by simp) (hu t ht)
  | some d =>
    simp only [dropU, List.mem_filter] at ht
    have hne : t ≠ d := by
      intro e; subst e
      have := ht.2
      simp [Nat.beq_refl] at this
    exact h t _ (fun e => hne (by cases e; rfl)) (hu t ht.1)
theorem UsOk.add {us : List Nat} {env env1 : Env} {d : Option Nat} (hu : UsOk us env) (h : ∀ u x, d ≠ some u → findE u env = some x → findE u env1 = some x) (h2 : ∀ x, d = some x → findE x env1 = some V.undef) : UsOk (addU d us) env1 := by
  intro t ht
  cases d with
  | none => exact h t _ (by simp) (hu t ht)
  | some d =>
    by_cases e : t = d
    · subst e; exact h2 t rfl
    · simp only [addU, List.mem_cons, e, false_or] at ht
      exact h t _ (fun e' => e (by cases e'; rfl)) (hu t ht)
theorem UsOk.known {us : List Nat} {env : Env} {d : Nat} {v : V} (hu : UsOk us env) (hd : findE d env = some v) : UsOk us ((d, v) :: env) := fun t ht => by
  rw [findE_cons]
  split
  · rename_i e; subst e; rw [← hd]; exact hu t ht
  · exact hu t ht
theorem regG_le : ∀ (l : List Oper) (us : List Nat) (env env' : Env) (fr : F) (h : Hp), UsOk us env → EqE env env' → LeO (regG P keep e ops l us env fr h) (regK P keep e ops l env' fr h)
  | [], _, _, _, _, _, _, _ => LeO.refl _
  | o :: l, us, env, env', fr, h, hu, he => by
    have yes : ∀ env1 env1' : Env, UsOk us env1 → EqE env1 env1' → LeO (opK P keep e o env1 fr h (regG P keep e ops l (dropU o.dst us))) (opK P keep e o env1' fr h (regK P keep e ops l)) := fun env1 env1' hu1 he1 =>
      opK_le he1 fun a b fr h h3 g3 => regG_le l _ a b fr h (hu1.drop g3) h3
    have no : ∀ env1 env1' : Env, UsOk us env1 → EqE env1 env1' → LeO (dstK keep o.dst V.undef env1 fr fun env fr => regG P keep e ops l (addU o.dst us) env fr h) (dstK keep o.dst V.undef env1' fr fun env fr => regK P keep e ops l env fr h) := fun env1 env1' hu1 he1 =>
      dstK_le he1 fun a b fr h3 g3 g4 => regG_le l _ a b fr h (hu1.add g3 g4) h3
    rcases hg : o.guard with _ | ⟨j, b⟩
    · simp only [regG, regK, hg]
      exact yes env env' hu he
    · simp only [regG, regK, hg]
      cases hd : (ops[j]?).bind (·.dst) with
      | none => exact LeO.bad _
      | some d =>
        simp only []
        cases hm : memN d us with
        | true =>
          have hd' : findE d env' = some (.tuple .nil) := by rw [← he d]; exact hu d (memN_iff.1 hm)
          simp only [tmpK, hd', guardK]
          exact no env env' hu he
        | false =>
          refine tmpK_le he fun v env1 env1' h1 g1 hv => ?_
          have hu1 : UsOk us env1 := fun t ht => g1 _ _ (hu t ht)
          have hv' : findE d env1' = some v := by rw [← h1 d]; exact hv
          cases v <;> first | (cases b <;> exact LeO.bad _) | skip
          rename_i c
          cases c <;> cases b
          · exact yes _ _ (hu1.known hv) (h1.known hv')
          · exact no _ _ (hu1.known hv) (h1.known hv')
          · exact no _ _ (hu1.known hv) (h1.known hv')
          · exact yes _ _ (hu1.known hv) (h1.known hv')
def drawG (P : Program) (e : FuncId → Option Fun) (ops : Array Oper) (sb : Nat → Nat → Bool) (fr : F) (k : Env → Hp → Out) : Plan → List Nat → Env → Hp → Hp → List Hp → Pos → Out
  | [], _, env, _, cur, _, _ => k env cur
  | (i, c) :: l, us, env, base, cur, past, q => (match ops[i]? with
    | none => .bad
    | some o => (match o.guard with
      | none => opdsD ops sb fr i env o.op.operands.toList fun vs => clsD P e o c vs base cur past q fun v base cur past q => dstD o.dst v env fun env => drawG P e ops sb fr k l us env base cur past q
      | some (g, b) => (match (ops[g]?).bind (·.dst) with
        | none => .bad
        | some d => (match memN d us with
          | true => skipD c base cur past q fun base cur past q => dstD o.dst V.undef env fun env => drawG P e ops sb fr k l (addU o.dst us) env base cur past q
          | false => (match findE d env with
            | none => .bad
            | some v => (match b with
              | true => ifB v
                (opdsD ops sb fr i ((d, .bool true) :: env) o.op.operands.toList fun vs => clsD P e o c vs base cur past q fun v base cur past q => dstD o.dst v ((d, .bool true) :: env) fun env => drawG P e ops sb fr k l us env base cur past q)
                (skipD c base cur past q fun base cur past q => dstD o.dst V.undef ((d, .bool false) :: env) fun env => drawG P e ops sb fr k l (addU o.dst us) env base cur past q)
              | false => ifB v
                (skipD c base cur past q fun base cur past q => dstD o.dst V.undef ((d, .bool true) :: env) fun env => drawG P e ops sb fr k l (addU o.dst us) env base cur past q)
                (opdsD ops sb fr i ((d, .bool false) :: env) o.op.operands.toList fun vs => clsD P e o c vs base cur past q fun v base cur past q => dstD o.dst v ((d, .bool false) :: env) fun env => drawG P e ops sb fr k l us env base cur past q)))))))
variable {sb : Nat → Nat → Bool} {fr : F}
theorem opdD_le {i : Nat} {env env' : Env} {x : Operand} {k k' : V → Out} (he : EqE env env') (hk : ∀ v, LeO (k v) (k' v)) : LeO (opdD ops sb fr i env x k) (opdD ops sb fr i env' x k') := by
  cases x with
  | tmp t =>
    simp only [opdD, ← he t]
    split
    · cases findE t env with
      | none => exact LeO.bad _
      | some v => exact hk v
    · simp only [gt]
      cases fr.get (Pos.of t) with
      | none => exact LeO.bad _
      | some v => exact hk v
  | const c =>
    simp only [opdD]
    split
    · exact hk _
    · exact LeO.bad _
  | global g => exact hk _
  | func f => exact hk _
theorem opdsD_le {i : Nat} {env env' : Env} (he : EqE env env') : ∀ {l : List Operand} {k k' : List V → Out}, (∀ vs, LeO (k vs) (k' vs)) → LeO (opdsD ops sb fr i env l k) (opdsD ops sb fr i env' l k')
  | [], _, _, hk => hk []
  | _ :: l, _, _, hk => opdD_le he fun v => opdsD_le he (l := l) fun vs => hk (v :: vs)
theorem dstD_le {d : Option Nat} {v : V} {env env' : Env} {k k' : Env → Out} (he : EqE env env') (hk : ∀ env1 env1', EqE env1 env1' → (∀ u x, findE u env = some x → findE u env1 = some x) → (∀ x, d = some x → findE x env1 = some v) → LeO (k env1) (k' env1')) : LeO (dstD d v env k) (dstD d v env' k') := by
  cases d with
  | none => exact hk _ _ he (fun _ _ h => h) (fun x h => by cases h)
  | some d =>
    simp only [dstD, ← he d]
    cases hd : findE d env with
    | some _ => exact LeO.bad _
    | none => exact hk _ _ (he.cons d v) (fun u x hx => by rw [findE_cons, if_neg (fun e => by subst e; rw [hd] at hx; cases hx)]; exact hx) (fun x hx => by cases hx; rw [findE_cons, if_pos rfl])
theorem chk_le {m : Hp → R V} {v : V} {k k' : Out} (hk : LeO k k') : ∀ (n : Nat) (l : List Hp), LeO (chk m v k n l) (chk m v k' n l)
  | 0, [] => hk
  | 0, _ :: _ => hk
  | n + 1, [] => hk
  | n + 1, g :: l => by
    unfold chk
    split
    · split
      · exact chk_le hk n l
      · exact LeO.bad _
    · exact LeO.bad _
theorem insD_le {op : Op} {vs : List V} {base cur : Hp} {q : Pos} {k k' : Hp → Out} (hk : ∀ h, LeO (k h) (k' h)) : LeO (insD P op vs base cur q k) (insD P op vs base cur q k') := by
  intro hne
  obtain ⟨p, x, y, es, rfl, ⟨t, mm, kk, vv, kt, et, d, rfl, h1, h2, h3⟩, h4, h5, h6, h7, h8⟩ := insD_ok hne rfl
  have key : ∀ g : Hp → Out, insD P (.insert t mm kk vv) [.map p, x, y] base cur q g = g (cur.put p (some (.map (es ++ [(x, y)])))) := fun g => by
    simp only [insD, h1, h2, insP, h3, show Nat.blt p.nat q.nat = true by simpa [Nat.blt_eq] using h4, h5, h6, h7]
  rw [key, key]
  rw [key] at hne
  exact hk _ hne
theorem clsD_le {o : Oper} {c : Cls} {vs : List V} {base cur : Hp} {past : List Hp} {q : Pos} {k k' : V → Hp → Hp → List Hp → Pos → Out} (hk : ∀ v base cur past q, LeO (k v base cur past q) (k' v base cur past q)) : LeO (clsD P e o c vs base cur past q k) (clsD P e o c vs base cur past q k') := by
  cases c with
  | pure =>
    simp only [clsD]
    split
    · simp only [bnd]; split
      · exact hk _ _ _ _ _
      · exact LeO.bad _
    · exact LeO.bad _
  | read n =>
    simp only [clsD]
    split
    · simp only [bnd]; split
      · exact chk_le (hk _ _ _ _ _) _ _
      · exact LeO.bad _
    · exact LeO.bad _
  | alloc =>
    simp only [clsD]
    split
    · exact hk _ _ _ _ _
    · exact LeO.bad _
  | heavy =>
    simp only [clsD, bnd]
    split
    · exact hk _ _ _ _ _
    · exact LeO.bad _
  | own a =>
    simp only [clsD]
    split
    · split
      · unfold ownO
        split
        · split
          · simp only [bnd]; split
            · exact hk _ _ _ _ _
            · exact LeO.bad _
          · exact LeO.bad _
        · exact LeO.bad _
      · exact LeO.bad _
    · exact LeO.bad _
  | ins a =>
    simp only [clsD]
    exact insD_le fun h => hk _ _ _ _ _
theorem skipD_le {c : Cls} {base cur : Hp} {past : List Hp} {q : Pos} {k k' : Hp → Hp → List Hp → Pos → Out} (hk : ∀ base cur past q, LeO (k base cur past q) (k' base cur past q)) : LeO (skipD c base cur past q k) (skipD c base cur past q k') := by
  cases c <;> exact hk _ _ _ _
theorem drawG_le {k k' : Env → Hp → Out} (hk : ∀ env env' h, EqE env env' → LeO (k env h) (k' env' h)) : ∀ (l : Plan) (us : List Nat) (env env' : Env) (base cur : Hp) (past : List Hp) (q : Pos), UsOk us env → EqE env env' → LeO (drawG P e ops sb fr k l us env base cur past q) (drawK P e ops sb fr k' l env' base cur past q)
  | [], _, env, env', _, cur, _, _, _, he => hk env env' cur he
  | (i, c) :: l, us, env, env', base, cur, past, q, hu, he => by
    cases ho : ops[i]? with
    | none => simp only [drawG, ho]; exact LeO.bad _
    | some o =>
      have yes : ∀ env1 env1' : Env, UsOk us env1 → EqE env1 env1' → LeO (opdsD ops sb fr i env1 o.op.operands.toList fun vs => clsD P e o c vs base cur past q fun v base cur past q => dstD o.dst v env1 fun env => drawG P e ops sb fr k l us env base cur past q)
          (opdsD ops sb fr i env1' o.op.operands.toList fun vs => clsD P e o c vs base cur past q fun v base cur past q => dstD o.dst v env1' fun env => drawK P e ops sb fr k' l env base cur past q) := fun env1 env1' hu1 he1 =>
        opdsD_le he1 fun vs => clsD_le fun v base cur past q => dstD_le he1 fun a b h3 g3 _ => drawG_le hk l us a b base cur past q (fun t ht => g3 _ _ (hu1 t ht)) h3
      have no : ∀ env1 env1' : Env, UsOk us env1 → EqE env1 env1' → LeO (skipD c base cur past q fun base cur past q => dstD o.dst V.undef env1 fun env => drawG P e ops sb fr k l (addU o.dst us) env base cur past q)
          (skipD c base cur past q fun base cur past q => dstD o.dst V.undef env1' fun env => drawK P e ops sb fr k' l env base cur past q) := fun env1 env1' hu1 he1 =>
        skipD_le fun base cur past q => dstD_le he1 fun a b h3 g3 g4 => drawG_le hk l _ a b base cur past q (hu1.add (fun u x _ => g3 u x) g4) h3
      rcases hg : o.guard with _ | ⟨g, b⟩
      · simp only [drawG, drawK, ho, hg]
        exact yes env env' hu he
      · simp only [drawG, drawK, ho, hg]
        cases hd : (ops[g]?).bind (·.dst) with
        | none => exact LeO.bad _
        | some d =>
          simp only []
          cases hm : memN d us with
          | true =>
            have hd' : findE d env' = some (.tuple .nil) := by rw [← he d]; exact hu d (memN_iff.1 hm)
            simp only [hd', grdD]
            exact no env env' hu he
          | false =>
            simp only [← he d]
            cases hf : findE d env with
            | none => exact LeO.bad _
            | some v =>
              have hf' : findE d env' = some v := by rw [← he d]; exact hf
              cases v <;> first | (cases b <;> exact LeO.bad _) | skip
              rename_i t
              cases t <;> cases b
              · exact yes _ _ (hu.known hf) (he.known hf')
              · exact no _ _ (hu.known hf) (he.known hf')
              · exact no _ _ (hu.known hf) (he.known hf')
              · exact yes _ _ (hu.known hf) (he.known hf')
theorem finK_eq {E E' : Env} (he : EqE E E') {k : F → Out} : ∀ (l : List Oper) (fr : F), finK keep E k l fr = finK keep E' k l fr
  | [], _ => rfl
  | o :: l, fr => by
    simp only [finK]
    split
    · exact finK_eq he l fr
    · rename_i d _
      split
      · exact finK_eq he l fr
      · rw [← he d]
        split
        · exact finK_eq he l _
        · rfl
def drawX (P : Program) (keep : Nat → Bool) (e : FuncId → Option Fun) (ops : Array Oper) (sb : Nat → Nat → Bool) (plan : Plan) (fr : F) (h : Hp) : Out :=
  drawG P e ops sb fr (fun E h => finK keep E (fun fr => .nor fr h) ops.toList fr) plan [] [] ⟨h.t, bump (allocs plan) h.next⟩ ⟨h.t, bump (allocs plan) h.next⟩ [] h.next
theorem drawX_le {plan : Plan} (fr : F) (h : Hp) : LeO (drawX P keep e ops sb plan fr h) (drawD P keep e ops sb plan fr h) :=
  drawG_le (fun env env' h he => by rw [finK_eq he]; exact LeO.refl _) plan [] [] [] _ _ _ _ (fun _ h => by cases h) (EqE.refl _)
theorem SoundC.le {c : Code} {D D' : F → Hp → Out} (hd : SoundC P keep G N c D) (h : ∀ fr g, LeO (D' fr g) (D fr g)) : SoundC P keep G N c D' := by
  intro ro n Df fr g M a w hne at_
  have e := h fr g hne
  rw [← e]
  exact hd _ _ _ fr g M a w (by rw [e]; exact hne) at_
def cndX (c : Operand) (a b : F → Hp → Out) (fr : F) (h : Hp) : Out := opdK c [] fr fun v _ => ifB v (a fr h) (b fr h)
theorem cndX_eq (c : Operand) (a b : F → Hp → Out) : cndX c a b = cndO c a b := by
  funext fr h
  rfl
def denX (P : Program) (G N : Nat) (keep : Nat → Bool) (e : FuncId → Option Fun) (pl : Plans) (lf : Nat) : Code → F → Hp → Out
  | .skip => .nor
  | .label _ => .nor
  | .region id ops d => (match d with
    | false => regG P keep e ops ops.toList [] []
    | true => (match pl id with
      | some (ms, plan) => (match planOk ops ms G N plan with | true => drawX P keep e ops (sbOf ms) plan | false => pairX P G N keep e ops ms plan)
      | none => fun _ _ => .bad))
  | .seq a b => seqO (denX P G N keep e pl lf a) (denX P G N keep e pl lf b)
  | .cond c a b => cndX c (denX P G N keep e pl lf a) (denX P G N keep e pl lf b)
  | .block id b => blkO id (denX P G N keep e pl lf b)
  | .loop b => loopO (denX P G N keep e pl lf b) lf
  | .exit id => .ex id
  | .ret => .ret
  | .scope b => denX P G N keep e pl lf b
  | _ => fun _ _ => .bad
theorem denX_ok (hm : P.follows .mixedOrders = true) (hE : ∀ f F, e f = some F → CallOk P G f F) (pl : Plans) (lf : Nat) : (c : Code) → codeOk G N c = true → SoundC P keep G N c (denX P G N keep e pl lf c)
  | .skip, _ => .nor fun _ _ _ _ _ h => wpIn_skip h
  | .label _, _ => .nor fun _ _ _ _ _ h => wpIn_label h
  | .region id ops d, hc => by
    cases d with
    | true =>
      simp only [denX]
      split
      · split
        · rename_i hp; exact (SoundC.draw hm hE (codeOk_nd hc) (planOk_back hp) (planOk_ok hp)).le fun fr h => drawX_le fr h
        · exact pairX_ok hm hE (codeOk_nd hc)
      · exact .bad
    | false =>
      have := SoundC.region (keep := keep) (id := id) hE (fun o ho => by simp only [codeOk, List.all_eq_true] at hc; exact hc o ho)
      exact this.le fun fr h => regG_le _ [] [] [] fr h (fun _ h => by cases h) (EqE.refl _)
  | .seq a b, hc => by simp only [codeOk, Bool.and_eq_true] at hc; exact .seq (denX_ok hm hE pl lf a hc.1) (denX_ok hm hE pl lf b hc.2)
  | .cond c a b, hc => by
    simp only [codeOk, Bool.and_eq_true] at hc
    simp only [denX, cndX_eq]
    refine .cond (fun g hg => ?_) (denX_ok hm hE pl lf a hc.2.1) (denX_ok hm hE pl lf b hc.2.2)
    subst hg
    simpa [Nat.blt_eq] using hc.1
  | .block id b, hc => .block (denX_ok hm hE pl lf b hc)
  | .loop b, hc => .loop (denX_ok hm hE pl lf b hc) lf
  | .exit id, _ => fun _ _ _ fr h M a w _ at_ => wpIn_exit ⟨rfl, M, at_, .refl at_.rel⟩
  | .ret, _ => fun _ _ _ fr h M a w _ at_ => wpIn_ret ⟨M, at_, .refl at_.rel⟩
  | .scope b, hc => .scope (denX_ok hm hE pl lf b hc)
  | .goto _, _ => .bad
  | .rangeFunc .., _ => .bad
  | .refuse _, _ => .bad
def funX (P : Program) (G : Nat) (keep : Nat → Bool) (e : FuncId → Option Fun) (pl : Plans) (lf : Nat) (fn : Func) : Fun := match fn.body with
  | some c => funO P keep fn.ntmps fn.results.toList (denX P G fn.ntmps keep e pl lf c)
  | none => fun _ _ => .bad
theorem funX_ok (hm : P.follows .mixedOrders = true) {f : FuncId} {fn : Func} {pl : Plans} {lf : Nat} (hE : ∀ f F, e f = some F → CallOk P G f F) (hf : P.funcs[f]? = some fn) (ho : funOk G fn = true) : CallOk P G f (funX P G keep e pl lf fn) := by
  unfold funOk at ho
  simp only [Bool.and_eq_true, Bool.not_eq_true'] at ho
  unfold funX
  cases hb : fn.body with
  | none => rw [hb] at ho; cases ho.1
  | some c =>
    rw [hb] at ho
    exact call_ok hf ho.2 hb (denX_ok hm hE pl lf c ho.1)
end
end Go.Vm

namespace Go.Vm
noncomputable section
variable {P : Program} {G : Nat} {M : Mp} {h h' : Hp} {w : World}
theorem Rel.store1 (hr : Rel G M h w) {i : Pos} {cs cs' : List V} {L : Loc} {o : Nat} {v : V} {c : Value} {t : TypeId} {f : Bool} (hi : h.get i = some (.cells (.rw t f) cs)) (hL : M i = some L) (hp : putV o [v] cs = some cs') (hx : Rp M v c) (hs : scalar c = true) :
    (∃ u, w.cell? (L.at o) = some u) ∧ w.frozen? (L.at o) = false ∧ Rel G M (h.put i (some (.cells (.rw t f) cs'))) (w.setCell (L.at o) c) ∧ Ext M h w M (h.put i (some (.cells (.rw t f) cs'))) (w.setCell (L.at o) c) := by
  obtain ⟨w', h1, h2, h3⟩ := hr.store (P := default) hi hL hp (xs := [c]) ⟨c, [], hx, rfl, rfl⟩ (by simpa using hs)
  obtain ⟨hfit, _⟩ := putV_eq o [v] hp
  obtain ⟨L', hL', cc, el, fr, hb, hsz, hcell, hfr⟩ := hr.ob i _ hi
  rw [hL] at hL'; cases hL'
  simp at hfit
  obtain ⟨x, hx', _⟩ := hcell o cs[o] (List.getElem?_eq_getElem (by omega))
  have hlt := (Array.getElem?_eq_some_iff.1 hx').1
  have hc : w.cell? (L.at o) = some x := by simp [World.cell?, Loc.at, hb, hx']
  have hf : w.frozen? (L.at o) = false := by
    have := hfr.2.1 (L.off + o) (by omega) (by omega)
    simp only [World.frozen?, Loc.at, hb]
    rw [← Bool.not_eq_true]
    intro hh
    rw [Bool.and_eq_true] at hh
    exact this ⟨of_decide_eq_true hh.1, of_decide_eq_true hh.2⟩
  have hrun := run_storeCells_cells (P := default) L.blk (L.off + o) [c] 0 w
    (fun j hj => by
      simp at hj; subst hj
      show (w.cell? (L.at o)).isSome = true
      rw [hc]; rfl)
    (fun j hj => by simp at hj; subst hj; exact hf)
    (fun v hv => by simp at hv; subst hv; exact scalar_one hs)
  simp only [Nat.add_zero] at hrun
  have e : w' = w.setCell (L.at o) c := by
    have e1 : (storeCells (L.at o) [c]).run default w = .ok () (w.setCells L.blk (L.off + o) [c]) := hrun
    rw [h1] at e1
    cases e1
    rfl
  subst e
  exact ⟨⟨x, hc⟩, hf, h2, h3⟩
def sameK (k k' : IntKind) : Bool := Nat.beq (kix k) (kix k')
def atomLoad (k : IntKind) : Fun := fun args h => match args with
  | [x] => asPtr x fun i o => hCells h i fun _ cs => match nthV o cs with
    | some v => (match v with
      | .int k' n => (match sameK k k' with | true => .ok (.int k n) h | false => .bad)
      | _ => .bad)
    | none => .bad
  | _ => .bad
def atomStore : Fun := fun args h => match args with
  | [x, y] => (match y with
    | .int k n => asPtr x fun i o => hCells h i fun wr cs => (match wr with
      | .rw t f => (match putV o [.int k n] cs with | some cs' => .ok V.undef (h.put i (some (.cells (.rw t f) cs'))) | none => .bad)
      | .ro => .bad)
    | _ => .bad)
  | _ => .bad
def atomAdd (k : IntKind) : Fun := fun args h => match args with
  | [x, y] => (match y with
    | .int k2 m => asPtr x fun i o => hCells h i fun wr cs => (match nthV o cs with
      | some v => (match v with
        | .int k' n => (match sameK k k', sameK k k2 with
          | true, true => (match wr with
            | .rw t f => (match okInt k (wrapK k (n + m)) h with
              | .ok s _ => (match putV o [s] cs with | some cs' => .ok s (h.put i (some (.cells (.rw t f) cs'))) | none => .bad)
              | .bad => .bad)
            | .ro => .bad)
          | _, _ => .bad)
        | _ => .bad)
      | none => .bad)
    | _ => .bad)
  | _ => .bad
def atomCas (k : IntKind) : Fun := fun args h => match args with
  | [x, y, z] => (match y, z with
    | .int k2 a, .int k3 b => asPtr x fun i o => hCells h i fun wr cs => (match nthV o cs with
      | some v => (match v with
        | .int k' n => (match sameK k k', sameK k k2, sameK k k3 with
          | true, true, true => (match wr with
            | .rw t f => (match intEq n a with
              | true => (match putV o [.int k b] cs with | some cs' => .ok (.bool true) (h.put i (some (.cells (.rw t f) cs'))) | none => .bad)
              | false => .ok (.bool false) h)
            | .ro => .bad)
          | _, _, _ => .bad)
        | _ => .bad)
      | none => .bad)
    | _, _ => .bad)
  | _ => .bad
theorem sameK_ok {k k' : IntKind} (h : sameK k k' = true) : k = k' := kix_inj h
section
variable {f : FuncId} {fn : Func} (hf : P.funcs[f]? = some fn) (hname : (fn.name == "runtime.NumGoroutine") = false) (hb : fn.body.isNone = true) (hn : Extern.findNext fn = none)
include hf hname hb hn
theorem atomLoad_ok (k : IntKind) (he : Extern.find fn = some (Extern.Atomic.loadT (.int k))) : CallOk P G f (atomLoad k) := by
  intro args h r h' M w cargs e hr ha
  unfold atomLoad at e
  split at e
  · rename_i x
    obtain ⟨i, o, rfl, e1⟩ := asPtr_ok e
    clear e
    obtain ⟨wr, cs, hi, e⟩ := hCells_ok e1
    clear e1
    obtain ⟨c, cs2, hc, hz, rfl⟩ := ha
    rw [show cs2 = [] from hz]
    obtain ⟨L, hL, rfl⟩ := hc.ptr
    rw [nthV_eq] at e
    split at e
    · rename_i v hv
      split at e
      · rename_i k' n
        split at e
        · rename_i hk
          have := sameK_ok hk
          subst this
          cases e
          obtain ⟨y, hy, hry, _⟩ := hr.cell hi hL hv
          cases hry.int
          rw [show [Value.pointer (some (L.at o))].toArray = #[.pointer (some (L.at o))] from rfl, run_call_load hf hname hb hn k he hy]
          exact ⟨M, rp_int M _ _, hr, .refl hr⟩
        · cases e
      · cases e
    · cases e
  · cases e
theorem atomStore_ok (he : Extern.find fn = some Extern.Atomic.storeT) : CallOk P G f atomStore := by
  intro args h r h' M w cargs e hr ha
  unfold atomStore at e
  split at e
  · rename_i x y
    split at e
    · rename_i k n
      obtain ⟨i, o, rfl, e1⟩ := asPtr_ok e
      clear e
      obtain ⟨wr, cs, hi, e⟩ := hCells_ok e1
      clear e1
      obtain ⟨c, cs2, hc, ⟨d, ds, hd, hz, rfl⟩, rfl⟩ := ha
      rw [show ds = [] from hz]
      obtain ⟨L, hL, rfl⟩ := hc.ptr
      cases hd.int
      split at e
      · split at e
        · rename_i hp
          cases e
          obtain ⟨⟨u, hu⟩, hfz, h2, h3⟩ := hr.store1 (row_true hi) hL hp (rp_int M k n) rfl
          rw [show [Value.pointer (some (L.at o)), .int k n].toArray = #[.pointer (some (L.at o)), .int k n] from rfl, run_call_store hf hname hb hn he hu hfz]
          exact ⟨M, rp_undef M, h2, h3⟩
        · cases e
      · cases e
    · cases e
  · cases e
theorem atomAdd_ok (k : IntKind) (he : Extern.find fn = some (Extern.Atomic.update (Op.intArith .add) k true)) : CallOk P G f (atomAdd k) := by
  intro args h r h' M w cargs e hr ha
  unfold atomAdd at e
  split at e
  · rename_i x y
    split at e
    · rename_i k2 m
      obtain ⟨i, o, rfl, e1⟩ := asPtr_ok e
      clear e
      obtain ⟨wr, cs, hi, e⟩ := hCells_ok e1
      clear e1
      obtain ⟨c, cs2, hc, ⟨d, ds, hd, hz, rfl⟩, rfl⟩ := ha
      rw [show ds = [] from hz]
      obtain ⟨L, hL, rfl⟩ := hc.ptr
      cases hd.int
      rw [nthV_eq] at e
      split at e
      · rename_i v hv
        split at e
        · rename_i k' n
          split at e
          · rename_i hk hk2
            have := sameK_ok hk
            subst this
            have := sameK_ok hk2
            subst this
            obtain ⟨z, hz1, hrz, _⟩ := hr.cell hi hL hv
            cases hrz.int
            split at e
            · rw [okInt_eq, wrapK_eq] at e
              simp only [] at e
              split at e
              · rename_i hp
                cases e
                obtain ⟨_, hfz, h2, h3⟩ := hr.store1 (row_true hi) hL hp (rp_int M k (k.wrap (n + m))) rfl
                rw [show [Value.pointer (some (L.at o)), .int k m].toArray = #[.pointer (some (L.at o)), .int k m] from rfl, run_call_add hf hname hb hn k he hz1 hfz (s := k.wrap (n + m)) rfl]
                exact ⟨M, rp_int M _ _, h2, h3⟩
              · cases e
            · cases e
          · cases e
        · cases e
      · cases e
    · cases e
  · cases e
theorem atomCas_ok (k : IntKind) (he : Extern.find fn = some (Extern.Atomic.casT (.int k))) : CallOk P G f (atomCas k) := by
  intro args h r h' M w cargs e hr ha
  unfold atomCas at e
  split at e
  · rename_i x y z
    split at e
    · rename_i k2 a k3 b
      obtain ⟨i, o, rfl, e1⟩ := asPtr_ok e
      clear e
      obtain ⟨wr, cs, hi, e⟩ := hCells_ok e1
      clear e1
      obtain ⟨c, cs2, hc, ⟨d, ds, hd, ⟨d2, ds2, hd2, hz, rfl⟩, rfl⟩, rfl⟩ := ha
      rw [show ds2 = [] from hz]
      obtain ⟨L, hL, rfl⟩ := hc.ptr
      cases hd.int
      cases hd2.int
      rw [nthV_eq] at e
      split at e
      · rename_i v hv
        split at e
        · rename_i k' n
          split at e
          · rename_i hk hk2 hk3
            have := sameK_ok hk
            subst this
            have := sameK_ok hk2
            subst this
            have := sameK_ok hk3
            subst this
            obtain ⟨z, hz1, hrz, _⟩ := hr.cell hi hL hv
            cases hrz.int
            split at e
            · split at e
              · rename_i heq
                rw [intEq_eq] at heq
                have heq : n = a := by simpa using heq
                subst heq
                split at e
                · rename_i hp
                  cases e
                  obtain ⟨_, hfz, h2, h3⟩ := hr.store1 (row_true hi) hL hp (rp_int M k b) rfl
                  rw [show [Value.pointer (some (L.at o)), .int k n, .int k b].toArray = #[.pointer (some (L.at o)), .int k n, .int k b] from rfl, run_call_cas_hit hf hname hb hn k he hz1 hfz]
                  exact ⟨M, rp_bool M _, h2, h3⟩
                · cases e
              · rename_i heq
                cases e
                rw [intEq_eq] at heq
                have hne : ¬ n = a := by simpa using heq
                have hfz : w.frozen? (L.at o) = false := by
                  obtain ⟨L', hL', cc, el, fr, hb2, hsz, hcell, hfr⟩ := hr.ob i _ (row_true hi)
                  rw [hL] at hL'; cases hL'
                  obtain ⟨x, hx', _⟩ := hcell o _ hv
                  have hlt := (Array.getElem?_eq_some_iff.1 hx').1
                  have := hfr.2.1 (L.off + o) (by omega) (by omega)
                  simp only [World.frozen?, Loc.at, hb2]
                  rw [← Bool.not_eq_true]
                  intro hh
                  rw [Bool.and_eq_true] at hh
                  exact this ⟨of_decide_eq_true hh.1, of_decide_eq_true hh.2⟩
                rw [show [Value.pointer (some (L.at o)), .int k a, .int k b].toArray = #[.pointer (some (L.at o)), .int k a, .int k b] from rfl, run_call_cas_miss hf hname hb hn k he hz1 hfz hne]
                exact ⟨M, rp_bool M _, hr, .refl hr⟩
            · cases e
          · cases e
        · cases e
      · cases e
    · cases e
  · cases e
def sameF : Fun := fun args h => match args with | [x] => .ok x h | _ => .bad
theorem sameF_ok (he : Extern.find fn = some Extern.AbiNoEscape.same) : CallOk P G f sameF := by
  intro args h r h' M w cargs e hr ha
  unfold sameF at e
  split at e
  · cases e
    obtain ⟨c, cs2, hc, hz, rfl⟩ := ha
    rw [show cs2 = [] from hz, run_callFunc_extern hf hname hb hn he]
    exact ⟨M, hc, hr, .refl hr⟩
  · cases e
def noZero (el : TypeId) : Fun := fun args h => match args with
  | [x] => (match x with
    | .int k n => (match sameK .i64 k with
      | true => (match n with
        | .ofNat n => (match Nat.ble n 140737488355328 with
          | true => .ok (.slice h.next 0 n (.un 1)) (h.new (.cells (.rw el false) []))
          | false => .bad)
        | .negSucc _ => .bad)
      | false => .bad)
    | _ => .bad)
  | _ => .bad
theorem noZero_ok {ps : Array TypeId} {t el : TypeId} (ht : P.underlying t = some (.slice el)) (he : Extern.find fn = some (Extern.BytealgMakeNoZero.makeNoZero ps #[t])) : CallOk P G f (noZero el) := by
  intro args h r h' M w cargs e hr ha
  unfold noZero at e
  split at e
  · rename_i x
    split at e
    · rename_i k n0
      split at e
      · rename_i hk
        have := sameK_ok hk
        subst this
        split at e
        · rename_i n
          split at e
          · rename_i hle
            have hle := Nat.le_of_ble_eq_true hle
            cases e
            obtain ⟨c, cs2, hc, hz, rfl⟩ := ha
            rw [show cs2 = [] from hz]
            cases hc.int
            obtain ⟨cs, hrun, h1, h2⟩ := Go.Lib.run_makeNoZero (P := P) w ps t el ht n (by omega)
            rw [run_callFunc_extern hf hname hb hn he]
            rw [show [Value.int .i64 (Int.ofNat n)].toArray = #[Value.int .i64 (n : Int)] from rfl, hrun]
            have := hr.new (.cells (.rw el false) []) (.cells cs el (0, 0)) cs.size (w' := w.drew.drew.alloc (.cells cs el)) rfl rfl rfl rfl
              (fun N _ => ⟨cs, el, (0, 0), by simp only [World.alloc]; exact Array.getElem?_push_size, rfl, fun k v hk => (by simp at hk), rfl, fun k _ _ h => (by simp at h), fun h => (by cases h)⟩)
            refine ⟨_, ?_, this.1, this.2.1⟩
            exact rp_slice (o := 0) (M.add_self h.next ⟨w.heap.size, 0, cs.size⟩) ⟨⟨h1, h2 (by unfold maxLen; omega)⟩, by show 0 + 0 + cs.size * 1 = cs.size; omega⟩
          · cases e
        · cases e
      · cases e
    · cases e
  · cases e
end
end
end Go.Vm

namespace Go.Vm
noncomputable section
open Go.RowKit
variable {P : Program} {G : Nat} {M : Mp} {h : Hp} {w : World}
theorem callsOk_0 : ∀ f F, (fun _ => none : FuncId → Option Fun) f = some F → CallOk P G f F := fun _ _ h => by cases h
theorem callsOk_cons {g : FuncId} {F : Fun} {e : FuncId → Option Fun} (h1 : CallOk P G g F) (h2 : ∀ f F, e f = some F → CallOk P G f F) : ∀ f F', (fun f => match Nat.beq f g with | true => some F | false => e f : FuncId → Option Fun) f = some F' → CallOk P G f F' := by
  intro f F' h
  simp only [] at h
  split at h
  · rename_i hb; cases h; rw [Nat.eq_of_beq_eq_true hb]; exact h1
  · exact h2 f F' h
def lf : Nat := 10000000000000000000
def codeOf (fn : Func) : Code := fn.body.getD .skip
structure Seen (G : Nat) (M : Mp) (h : Hp) (w : World) : Prop where
  rel : Rel G M h w
  un : ∀ i o, h.get i = some o → o.own = false
def h0 (G : Nat) : Hp := ⟨.nil, Pos.of G⟩
def m0 (G : Nat) : Mp := fun p => if p.nat < G then some ⟨p.nat, 0, 0⟩ else none
theorem h0_get (G : Nat) (i : Pos) : (h0 G).get i = none := T.get_nil i
theorem Seen.empty (G : Nat) (w : World) : Seen G (m0 G) (h0 G) w := by
  refine ⟨⟨fun i o hi => ?_, fun i hi => ?_, fun i j o p L K _ hi => ?_, fun g hg => ⟨0, ?_⟩⟩, fun i o hi => ?_⟩
  · rw [h0_get] at hi; cases hi
  · have : G ≤ i.nat := by have := hi; rw [show (h0 G).next = Pos.of G from rfl, Pos.nat_of] at this; exact this
    unfold m0; rw [if_neg (by omega)]
  · rw [h0_get] at hi; cases hi
  · unfold m0; rw [Pos.nat_of, if_pos hg]
  · rw [h0_get] at hi; cases hi
theorem calls_of_vm {f : FuncId} {F : Fun} {fn : Func} {c : Code} (hF : CallOk P G f F) (hf : P.funcs[f]? = some fn) (hn : (fn.name == "runtime.NumGoroutine") = false) (hb : fn.body = some c) (S : Seen G M h w) {args : List V} {cargs : List Value} (ha : RepL M args cargs) {h' : Hp}
    (e : F args h = .ok (.bool true) h') : Calls P f cargs.toArray w fun e w' => e = .returned (.bool true) ∧ Below w.heap.size w w' := by
  have := hF args h _ h' M w cargs e S.rel ha
  have hrun : (callFunc f cargs.toArray).run P w = .ok (.enter f cargs.toArray) w := by
    unfold callFunc
    rw [Sem.run_bind, run_program]; have hn' : ¬fn.name = "runtime.NumGoroutine" := by simpa using hn
    simp [hf, hn', hb]
  rw [hrun] at this
  refine Calls.mono this ?_
  rintro e w' ⟨cv, rfl, M', hr, hrel, hx⟩
  have := hr.bool
  subst this
  refine ⟨rfl, hx.os, hx.tape, hx.output, hx.size, fun k hk => hx.same k hk fun i o L hi ho _ => ?_⟩
  rw [S.un i o hi] at ho; cases ho
theorem Opq.mono {p q : Value → World → Prop} (hpq : ∀ c w, p c w → q c w) {r : Result Next} (h : Opq P p r) : Opq P q r := by
  unfold Opq at h ⊢
  split at h
  · exact hpq _ _ h
  · exact hpq _ _ h
  · exact Calls.mono h fun e w' ⟨c, e1, e2⟩ => ⟨c, e1, hpq _ _ e2⟩
  · exact h.elim
def isT (r : R V) : Bool := match r with
  | .ok v _ => (match v with | .bool b => b | _ => false)
  | .bad => false
theorem isT_ok {r : R V} (e : isT r = true) : ∃ h, r = .ok (.bool true) h := by
  unfold isT at e
  split at e
  · rename_i v h
    split at e
    · rename_i b
      cases e
      exact ⟨h, rfl⟩
    · cases e
  · cases e
theorem Rel.after {w' : World} {M' : Mp} {h' : Hp} (r : Rel G M h w) (x : Ext (m0 G) (h0 G) w M' h' w') : Rel G M h w' ∧ Ext M h w M h w' := by
  have hb : ∀ b, b < w.heap.size → w'.heap[b]? = w.heap[b]? := fun b hb => x.same b hb fun i o L hi _ _ => by rw [h0_get] at hi; cases hi
  refine ⟨⟨fun i o hi => ?_, r.fresh, r.sep, r.gl⟩, ⟨M.le_refl, Nat.le_refl _, x.os, x.tape, x.output, x.size, fun b hlt _ => hb b hlt, fun i o L a b c => .inr ⟨i, o, L, a, b, c, rfl⟩, fun _ _ h => h, fun i o L a b => .inr ⟨i, o, L, a, b, rfl⟩, fun _ _ h => h⟩⟩
  obtain ⟨L, hL, ho⟩ := r.ob i o hi
  exact ⟨L, hL, ho.of_block (hb _ ho.lt)⟩
def constB (b : Bool) : Fun := fun args h => match args with | [] => .ok (.bool b) h | _ :: _ => .bad
theorem constB_ok {f : FuncId} {F : Fun} {b : Bool} (hF : CallOk P G f F) {h' : Hp} (e : F [] (h0 G) = .ok (.bool b) h') : CallOk P G f (constB b) := by
  intro args h r h2 M w cargs e2 hr ha
  cases args with
  | cons _ _ => cases e2
  | nil =>
    cases e2
    have hc : cargs = [] := ha
    subst hc
    refine Opq.mono (fun c w' hp => ?_) (hF [] (h0 G) _ h' _ w [] e (Seen.empty G w).rel rfl)
    obtain ⟨M', hr', -, hx⟩ := hp
    have := hr'.bool
    subst this
    obtain ⟨h1, h2⟩ := hr.after hx
    exact ⟨M, rp_bool M b, h1, h2⟩
def idxB (c : Nat) : List Nat → Int
  | [] => -1
  | d :: l => (match Nat.beq d c with
    | true => 0
    | false => (match idxB c l with
      | .ofNat n => .ofNat (n + 1)
      | .negSucc _ => -1))
theorem idxB_ge (c : Nat) (l : List Nat) : -1 ≤ idxB c l := by
  induction l with
  | nil => simp [idxB]
  | cons d l ih =>
    simp only [idxB]
    split
    · omega
    · split
      · rename_i n _
        have : (0 : Int) ≤ Int.ofNat (n + 1) := Int.natCast_nonneg _
        omega
      · omega
theorem idxB_eq {c : Nat} (hc : c < 256) : ∀ {s : List Nat}, (∀ b ∈ s, b < 256) → idxB c s = Go.Lib.indexByte (s.map UInt8.ofNat) (UInt8.ofNat c)
  | [], _ => rfl
  | d :: l, h => by
    have ih := idxB_eq hc (s := l) fun b hb => h b (by simp [hb])
    have hd := h d (by simp)
    have hge := idxB_ge c l
    simp only [idxB, List.map_cons, Go.Lib.indexByte, ← ih]
    have e : (UInt8.ofNat d == UInt8.ofNat c) = Nat.beq d c := by
      rw [Bool.eq_iff_iff]
      simp only [beq_iff_eq]
      exact ⟨fun h => by rw [u8_ofNat_inj hd hc h]; exact Nat.beq_refl c, fun h => by rw [Nat.eq_of_beq_eq_true h]⟩
    rw [e]
    cases Nat.beq d c with
    | true => rfl
    | false =>
      simp only [Bool.false_eq_true, if_false]
      cases hi : idxB c l with
      | ofNat n =>
        have : (Int.ofNat n == -1) = false := by rw [beq_eq_false_iff_ne]; intro h; cases h
        rw [this]; rfl
      | negSucc n =>
        have : n = 0 := by rw [hi] at hge; omega
        subst this; rfl
def idxF : Fun := fun args h => match args with
  | [s, c] => (match s with
    | .str l => (match c with
      | .int k n => (match Nat.beq (kix k) 4 with
        | true => (match n with
          | .ofNat b => (match Nat.blt b 256 with | true => okInt .i64 (idxB b l) h | false => .bad)
          | .negSucc _ => .bad)
        | false => .bad)
      | _ => .bad)
    | _ => .bad)
  | _ => .bad
theorem idxF_ok {f : FuncId} {fn : Func} (hf : P.funcs[f]? = some fn) (hname : (fn.name == "runtime.NumGoroutine") = false) (hb : fn.body.isNone = true) (hn : Extern.findNext fn = none) (he : Extern.find fn = some Extern.BytealgIndexByte.indexByte) : CallOk P G f idxF := by
  intro args h r h' M w cargs e hr hargs
  unfold idxF at e
  split at e
  · rename_i s c
    split at e
    · rename_i l
      split at e
      · rename_i k n
        split at e
        · rename_i hk
          have hk' : k = .u8 := by cases k <;> first | rfl | cases hk
          subst hk'
          split at e
          · rename_i b
            split at e
            · rename_i hb2
              have hb3 : b < 256 := by simpa [Nat.blt_eq] using hb2
              obtain ⟨cs, x1, hcs, ⟨cc, x2, hcc, hx2, rfl⟩, rfl⟩ := hargs
              rw [show x2 = [] from hx2]
              obtain ⟨hl, rfl⟩ := hcs.str
              have hcc' := hcc.int
              subst hcc'
              rw [okInt_eq] at e
              cases e
              rw [run_callFunc_extern hf hname hb hn he, Go.Lib.run_indexByteString]
              simp only [Result.andThen, Opq]
              refine ⟨M, ?_, hr, .refl hr⟩
              have e1 : (bts l).data.toList = l.map UInt8.ofNat := by simp [bts]
              have e2 : ((Int.ofNat b).toNat.toUInt8) = UInt8.ofNat b := rfl
              rw [e1, e2, ← idxB_eq hb3 hl]
              exact rp_int M _ _
            · cases e
          · cases e
        · cases e
      · cases e
    · cases e
  · cases e
end
end Go.Vm

namespace Go.Vm
noncomputable section
variable {P : Program} {G N : Nat}
def oBinAgg (op : BinOp) (offs : List (TypeDesc × Nat)) (x y : V) (h : Hp) : R V := match x, y with
  | .agg xs, .agg ys => (match eqAgg offs xs.list ys.list with
    | some b => (match op with | .eql => okBool b h | .neq => okBool (not b) h | _ => .bad)
    | none => .bad)
  | _, _ => .bad
def alcO (a : A) (k : Ob → (Pos → V) → Out) : Out := match a with | some (ob, mk) => k ob mk | none => .bad
def bumpH (n : Nat) (h : Hp) : Hp := ⟨h.t, bump n h.next⟩
theorem funX_eq {fn : Func} {keep : Nat → Bool} {e : FuncId → Option Fun} {pl : Plans} {l : Nat} {D : F → Hp → Out} (hb : fn.body = some (codeOf fn)) (hD : denX P G fn.ntmps keep e pl l (codeOf fn) = D) {args : List V} (hn : Nat.ble args.length fn.ntmps = true) (h : Hp) :
    funX P G keep e pl l fn args h = outR P fn.results.toList (D (initF keep 0 args .nil) h) := by
  unfold funX
  rw [hb]
  simp only [funO, hn, hD]
end
end Go.Vm

namespace Go.Vm
open Go.Lib Go.Proofs
structure CaseTy (P : Program) (g : Nat) (tU tI tA tR tS : TypeId) (f0 f1 f2 : Field) : Prop where
  name : P.globalNamed "unicode.CaseRanges" = some g
  glob : (P.globals[g]?).map (·.type) = some tS
  s : P.underlying tS = some (.slice tR)
  r : P.underlying tR = some (.struct #[f0, f1, f2])
  a : P.underlying tA = some (.array 3 tI)
  u : P.underlying tU = some (.int .u32)
  i : P.underlying tI = some (.int .i32)
  ty : (f0.type = tU ∧ f1.type = tU) ∧ f2.type = tA
  off : (f0.offset = 0 ∧ f1.offset = 1) ∧ f2.offset = 2
  cu : P.cellsOf tU = 1
  ci : P.cellsOf tI = 1
  ca : P.cellsOf tA = 3
  cr : P.cellsOf tR = 5
variable {P : Program} {g : Nat} {tU tI tA tR tS : TypeId} {f0 f1 f2 : Field} {w : World}
theorem caseRow_told (C : CaseTy P g tU tI tA tR tS f0 f1 f2) {x : CaseRow} (hx : rowWf x = true) (n : Nat) : DataW.trod (fun _ => ()) P w 0 (fun _ => true) false (n + 3) tR (cells5 x) = some (rowData x, []) := by
  obtain ⟨⟨t0, t1⟩, t2⟩ := C.ty
  obtain ⟨⟨o0, o1⟩, o2⟩ := C.off
  obtain ⟨a, b, c, d, e⟩ := x
  simp only [rowWf, Bool.and_eq_true] at hx
  obtain ⟨⟨⟨⟨w0, w1⟩, w2⟩, w3⟩, w4⟩ := hx
  have three : List.range 3 = [0, 1, 2] := rfl
  simp [DataW.trod, C.r, C.a, C.u, C.i, C.cu, C.ci, C.ca, C.cr, t0, t1, t2, o0, o1, o2, cells5, rowData, w0, w1, w2, w3, w4, three]
theorem caseVar_told (C : CaseTy P g tU tI tA tR tS f0 f1 f2) {R : Nat} {t : TypeId} {fz : Nat × Nat} (hb : w.heap[R]? = some (.cells caseCells5 t fz)) :
    DataW.trod (fun _ => ()) P w 0 (fun _ => true) false 4 tS [.slice (some ⟨R, 0, none⟩) caseA.size caseA.size] = some (caseData, MemPlace.row ⟨R, 0, none⟩ (caseA.size * 5)) := by
  have hT := caseTab_of_block hb
  have each : ∀ k ∈ List.range caseA.size, (w.cells? 0 ((⟨R, 0, none⟩ : Addr).add (k * 5)) 5).bind (DataW.trod (fun _ => ()) P w 0 (fun _ => true) false 3 tR) = some ((fun k => ((rowData (caseA.getD k (0, 0, 0, 0, 0)) : DataW Unit), ([] : List MemPlace))) k) := by
    intro k hk
    have hk' := List.mem_range.1 hk
    rw [case_cells5 hT k hk']
    exact caseRow_told C (caseA_wf k hk') 0
  have hbig : caseA.size ≤ maxLen := by rw [caseA_size]; unfold maxLen; omega
  show DataW.trod _ _ _ _ _ _ (3 + 1) _ _ = _
  rw [DataW.trod_step]
  unfold DataW.trodStep
  simp only [C.s, C.cr]
  rw [if_pos ⟨Nat.zero_le _, Nat.le_refl _, hbig⟩, Go.Lib.mapM_some _ _ _ each]
  have hd := case_rows_data
  simp [caseData, ← hd]
theorem laid_around (C : CaseTy P g tU tI tA tR tS f0 f1 f2) {l1 l2 : List (String × DataW Unit)} (fuel : Nat)
    (k1 : (DataW.laidRun P w fuel (l1.map (·.1))).map (·.1) = some l1) (k2 : (DataW.laidRun P w fuel (l2.map (·.1))).map (·.1) = some l2) {R : Nat} {t : TypeId} (hgR : g ≠ R)
    (kn : ((DataW.laidRun P w fuel (l1.map (·.1))).bind fun x => (DataW.laidRun P w fuel (l2.map (·.1))).map fun y =>
      _root_.Go.nodupB ((x.2 ++ y.2).map MemPlace.codeOf) && (laidRowsB P w (x.2 ++ y.2) && (x.2 ++ y.2).all fun p => p.block != g && p.block != R)) = some true)
    (hvar : w.heap[g]? = some (.cells #[.slice (some ⟨R, 0, none⟩) caseA.size caseA.size] tS (0, 0))) (hblk : w.heap[R]? = some (.cells caseCells5 t (0, 0))) :
    laidMet P (l1 ++ ("unicode.CaseRanges", caseData) :: l2) w := by
  cases e1 : DataW.laidRun P w fuel (l1.map (·.1)) with
  | none => rw [e1] at k1; cases k1
  | some x1 =>
  cases e2 : DataW.laidRun P w fuel (l2.map (·.1)) with
  | none => rw [e2] at k2; cases k2
  | some x2 =>
  rw [e1] at k1
  rw [e2] at k2
  rw [e1, e2] at kn
  obtain ⟨y1, p1⟩ := x1
  obtain ⟨y2, p2⟩ := x2
  simp only [Option.map_some, Option.some.injEq] at k1 k2
  subst k1; subst k2
  simp only [Option.bind_some, Option.map_some, Option.some.injEq, Bool.and_eq_true] at kn
  obtain ⟨kn1, kn2, kn3⟩ := kn
  have hnd : (p1 ++ p2).Nodup := nodup_of_code kn1
  have hoff : ∀ p ∈ p1 ++ p2, p.block ≠ g ∧ p.block ≠ R := fun p hp => by
    have := List.all_eq_true.1 kn3 p hp
    simpa using this
  have hT := caseTab_of_block hblk
  have hmid : DataW.LaidVars P w [("unicode.CaseRanges", caseData)] (MemPlace.row ⟨g, 0, none⟩ 1 ++ MemPlace.row ⟨R, 0, none⟩ (caseA.size * 5) ++ []) :=
    ⟨g, tS, _, _, _, [], C.name, C.glob, by simp [World.var?, C.name, hvar], caseVar_told C hblk, rfl, rfl⟩
  have hall := LaidVars_append (DataW.LaidVars_of_laidRun e1) (LaidVars_append hmid (DataW.LaidVars_of_laidRun e2))
  have hmem : ∀ p, p ∈ MemPlace.row ⟨g, 0, none⟩ 1 ++ MemPlace.row ⟨R, 0, none⟩ (caseA.size * 5) ++ [] → (p = .cell g 0) ∨ ∃ i, i < caseA.size * 5 ∧ p = .cell R i := by
    intro p hp
    rw [List.append_nil] at hp
    rcases List.mem_append.1 hp with hp | hp
    · obtain ⟨i, hi, rfl⟩ := MemPlace.mem_row.1 hp
      obtain rfl : i = 0 := by omega
      exact .inl rfl
    · obtain ⟨i, hi, rfl⟩ := MemPlace.mem_row.1 hp
      exact .inr ⟨i, hi, by simp⟩
  have hblockOf : ∀ p, p ∈ MemPlace.row ⟨g, 0, none⟩ 1 ++ MemPlace.row ⟨R, 0, none⟩ (caseA.size * 5) ++ [] → p.block = g ∨ p.block = R := fun p hp => by
    rcases hmem p hp with rfl | ⟨i, _, rfl⟩
    · exact .inl rfl
    · exact .inr rfl
  have hmidnd : (MemPlace.row ⟨g, 0, none⟩ 1 ++ MemPlace.row ⟨R, 0, none⟩ (caseA.size * 5) ++ []).Nodup := by
    rw [List.append_nil]
    refine List.nodup_append.2 ⟨row_nodup _ _, row_nodup _ _, fun a ha b hb e => ?_⟩
    obtain ⟨i, _, rfl⟩ := MemPlace.mem_row.1 ha
    obtain ⟨j, _, rfl⟩ := MemPlace.mem_row.1 hb
    simp at e
    exact hgR e.1
  refine ⟨_, hall, ?_, fun b off hp => ?_⟩
  · obtain ⟨n1, n2, n3⟩ := List.nodup_append.1 hnd
    refine List.nodup_append.2 ⟨n1, List.nodup_append.2 ⟨hmidnd, n2, fun a ha b hb e => ?_⟩, fun a ha b hb e => ?_⟩
    · subst e
      obtain ⟨q1, q2⟩ := hoff a (List.mem_append_right _ hb)
      rcases hblockOf a ha with q | q
      · exact q1 q
      · exact q2 q
    · subst e
      obtain ⟨q1, q2⟩ := hoff a (List.mem_append_left _ ha)
      rcases List.mem_append.1 hb with hb | hb
      · rcases hblockOf a hb with q | q
        · exact q1 q
        · exact q2 q
      · exact n3 a ha a hb rfl
  · by_cases hin : MemPlace.cell b off ∈ p1 ++ p2
    · have := List.all_eq_true.1 kn2 _ hin
      simp only [Bool.and_eq_true] at this
      obtain ⟨q1, q2⟩ := this
      refine ⟨?_, fun u v hc => ?_⟩
      · split at q1
        · rename_i c t' hh; exact ⟨c, t', hh⟩
        · cases q1
      · rw [hc] at q2
        exact Value.okWide_of_okWideB q2
    · have hp' : MemPlace.cell b off ∈ MemPlace.row ⟨g, 0, none⟩ 1 ++ MemPlace.row ⟨R, 0, none⟩ (caseA.size * 5) ++ [] := by
        rcases List.mem_append.1 hp with hp | hp
        · exact absurd (List.mem_append_left _ hp) hin
        · rcases List.mem_append.1 hp with hp | hp
          · exact hp
          · exact absurd (List.mem_append_right _ hp) hin
      rcases hmem _ hp' with e | ⟨i, hi, e⟩
      · cases e
        refine ⟨⟨_, _, hvar⟩, fun u v hc => ?_⟩
        rw [Lib.cell_of_heap hvar] at hc
        simp at hc
      · cases e
        refine ⟨⟨_, _, hblk⟩, fun u v hc => ?_⟩
        obtain ⟨c0, c1, c2, c3, c4⟩ := hT (off / 5) (by omega)
        have hq : off = 0 + off / 5 * 5 + off % 5 := by omega
        rw [hq] at hc
        have hm : off % 5 < 5 := Nat.mod_lt _ (by omega)
        generalize off % 5 = k at hc hm
        match k, hm with
        | 0, _ => rw [Nat.add_zero, c0] at hc; cases hc
        | 1, _ => rw [c1] at hc; cases hc
        | 2, _ => rw [c2] at hc; cases hc
        | 3, _ => rw [c3] at hc; cases hc
        | 4, _ => rw [c4] at hc; cases hc
end Go.Vm
