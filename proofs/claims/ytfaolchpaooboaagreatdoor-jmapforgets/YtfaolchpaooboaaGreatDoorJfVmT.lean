/- Part of the value machine, or of a walk by it: lemmas that the claim's last text uses. No conditions. -/
import Derived.Test.YtfaolchpaooboaaGreatDoorJfVmS
set_option linter.unusedVariables false
set_option linter.unusedSimpArgs false
set_option linter.unnecessarySimpa false
namespace Go.Vm
noncomputable section
variable {P : Program} {G : Nat}
def bldT : List (Pos × Ob) → T Ob
  | [] => .nil
  | p :: l => T.set (some p.2) p.1 (bldT l)
def bld (n : Nat) (l : List (Pos × Ob)) : Hp := ⟨bldT l, Pos.of n⟩
theorem bldT_get : ∀ {l : List (Pos × Ob)} {i : Pos} {o : Ob}, (bldT l).get i = some o → (i, o) ∈ l
  | [], i, o, h => by rw [bldT, T.get_nil] at h; cases h
  | p :: l, i, o, h => by
    rw [bldT, T.get_set] at h
    split at h
    · rename_i e
      cases h
      subst e
      exact List.mem_cons_self ..
    · exact List.mem_cons_of_mem _ (bldT_get h)
theorem bld_get {n : Nat} {l : List (Pos × Ob)} {i : Pos} {o : Ob} (h : (bld n l).get i = some o) : (i, o) ∈ l := bldT_get h
theorem bld_next (n : Nat) (l : List (Pos × Ob)) : (bld n l).next.nat = n := Pos.nat_of n
def rhoL (n : Nat) (L : List Pos) (i : Pos) : Pos := match Nat.blt i.nat n with
  | true => i
  | false => nthP (i.nat - n) L
theorem rhoL_lt {n : Nat} {L : List Pos} {i : Pos} (h : i.nat < n) : rhoL n L i = i := by
  unfold rhoL
  rw [show Nat.blt i.nat n = true by simpa [Nat.blt_eq] using h]
theorem rhoL_ge {n : Nat} {L : List Pos} {i : Pos} (h : n ≤ i.nat) : rhoL n L i = nthP (i.nat - n) L := by
  unfold rhoL
  rw [show Nat.blt i.nat n = false by
    cases hb : Nat.blt i.nat n with
    | false => rfl
    | true => rw [Nat.blt_eq] at hb; omega]
def distP : List Pos → Bool
  | [] => true
  | p :: l => (match memP p l with | true => false | false => distP l)
theorem distP_ok : ∀ {l : List Pos}, distP l = true → l.Nodup
  | [], _ => List.nodup_nil
  | p :: l, h => by
    unfold distP at h
    split at h
    · cases h
    · rename_i hm
      exact List.nodup_cons.2 ⟨memP_false hm, distP_ok h⟩
def geP (n : Nat) : List Pos → Bool
  | [] => true
  | p :: l => (match Nat.ble n p.nat with | true => geP n l | false => false)
theorem geP_ok {n : Nat} : ∀ {l : List Pos}, geP n l = true → ∀ p ∈ l, n ≤ p.nat
  | [], _, p, h => by cases h
  | q :: l, e, p, h => by
    unfold geP at e
    split at e
    · rename_i hb
      rcases List.mem_cons.1 h with rfl | h
      · exact Nat.le_of_ble_eq_true hb
      · exact geP_ok e p h
    · cases e
def objsB (ρ : Pos → Pos) (n2 : Nat) (h1 : Hp) : List (Pos × Ob) → Bool
  | [] => true
  | p :: l => (match Nat.blt p.1.nat n2 with
    | true => (match p.2.ins n2 with
      | true => (match h1.get (ρ p.1) with
        | some o => (match eqOb o (p.2.ren ρ) with | true => objsB ρ n2 h1 l | false => false)
        | none => false)
      | false => false)
    | false => false)
theorem objsB_ok {ρ : Pos → Pos} {n2 : Nat} {h1 : Hp} : ∀ {l : List (Pos × Ob)}, objsB ρ n2 h1 l = true → ∀ i o, (i, o) ∈ l → i.nat < n2 ∧ o.ins n2 = true ∧ h1.get (ρ i) = some (o.ren ρ)
  | [], _, i, o, h => by cases h
  | q :: l, e, i, o, h => by
    unfold objsB at e
    split at e
    · rename_i h1'
      split at e
      · rename_i h2
        split at e
        · rename_i o1 h3
          split at e
          · rename_i h4
            rcases List.mem_cons.1 h with rfl | h
            · exact ⟨by simpa [Nat.blt_eq] using h1', h2, by rw [h3, eqOb_ok h4]⟩
            · exact objsB_ok e i o h
          · cases e
        · cases e
      · cases e
    · cases e
def tidyB (x : R V) (g : Hp) (r : V) (n2 : Nat) (l : List (Pos × Ob)) (L : List Pos) : Bool := match x with
  | .ok r1 h1 => (match eqVV r1 (r.ren (rhoL g.next.nat L)) with
    | true => (match r.ins n2 with
      | true => (match Nat.ble g.next.nat n2 with
        | true => (match Nat.ble n2 (g.next.nat + L.length) with
          | true => (match distP L with
            | true => (match geP g.next.nat L with
              | true => objsB (rhoL g.next.nat L) n2 h1 l
              | false => false)
            | false => false)
          | false => false)
        | false => false)
      | false => false)
    | false => false)
  | .bad => false
theorem tidyB_ok {x : R V} {g : Hp} {r : V} {n2 : Nat} {l : List (Pos × Ob)} {L : List Pos} (h : tidyB x g r n2 l L = true) : ∃ h1, x = .ok (r.ren (rhoL g.next.nat L)) h1 ∧ Carry (rhoL g.next.nat L) g h1 (bld n2 l) ∧ r.ins (bld n2 l).next.nat = true := by
  unfold tidyB at h
  split at h
  · rename_i r1 h1
    split at h
    · rename_i e1
      split at h
      · rename_i e2
        split at h
        · rename_i e3
          split at h
          · rename_i e4
            split at h
            · rename_i e5
              split at h
              · rename_i e6
                have e3 := Nat.le_of_ble_eq_true e3
                have e4 := Nat.le_of_ble_eq_true e4
                have dl := distP_ok e5
                have gl := geP_ok e6
                have at_ : ∀ i : Pos, g.next.nat ≤ i.nat → i.nat < n2 → ∃ hk : i.nat - g.next.nat < L.length, rhoL g.next.nat L i = L[i.nat - g.next.nat] := fun i h1 h2 => by
                  have hk : i.nat - g.next.nat < L.length := by omega
                  exact ⟨hk, by rw [rhoL_ge h1, nthP_eq, List.getElem?_eq_getElem hk]; rfl⟩
                refine ⟨h1, by rw [eqVV_ok _ _ e1], ⟨by rw [bld_next]; exact e3, fun i hi => rhoL_lt hi, fun i j hi hj e => ?_, fun i o ho => ?_⟩, by rw [bld_next]; exact e2⟩
                · rw [bld_next] at hi hj
                  rcases Nat.lt_or_ge i.nat g.next.nat with qi | qi <;> rcases Nat.lt_or_ge j.nat g.next.nat with qj | qj
                  · rw [rhoL_lt qi, rhoL_lt qj] at e; exact e
                  · obtain ⟨hk, ek⟩ := at_ j qj hj
                    rw [rhoL_lt qi, ek] at e
                    have := gl _ (List.getElem_mem hk)
                    rw [← e] at this
                    omega
                  · obtain ⟨hk, ek⟩ := at_ i qi hi
                    rw [rhoL_lt qj, ek] at e
                    have := gl _ (List.getElem_mem hk)
                    rw [e] at this
                    omega
                  · obtain ⟨hk, ek⟩ := at_ i qi hi
                    obtain ⟨hk', ek'⟩ := at_ j qj hj
                    rw [ek, ek'] at e
                    have := (List.getElem_inj dl).1 e
                    exact Pos.nat_inj (by omega)
                · obtain ⟨a, b, c⟩ := objsB_ok h i o (bld_get ho)
                  rw [bld_next]
                  exact ⟨a, ⟨_, c, .inl rfl⟩, b⟩
              · cases h
            · cases h
          · cases h
        · cases h
      · cases h
    · cases h
  · cases h
def tidyF (F : Fun) (zs : List V) (g : Hp) (r : V) (n2 : Nat) (l : List (Pos × Ob)) : Fun := fun args h => match h.next.eq g.next with
  | true => (match eqL args zs with
    | true => (match eqHp h g with | true => .ok r (bld n2 l) | false => F args h)
    | false => F args h)
  | false => F args h
theorem tidyF_ok {f : FuncId} {F F0 : Fun} {zs : List V} {g : Hp} {r : V} {n2 : Nat} {l : List (Pos × Ob)} {L : List Pos} (hF : CallOk P G f F) (h0 : CallOk P G f F0) (e : tidyB (F0 zs g) g r n2 l L = true) : CallOk P G f (tidyF F zs g r n2 l) := by
  intro args h r' h' M w cargs e0 hr ha
  obtain ⟨h1, e1, k, hi⟩ := tidyB_ok e
  unfold tidyF at e0
  split at e0
  · split at e0
    · rename_i ea
      split at e0
      · rename_i eh
        cases e0
        obtain rfl := eqL_ok ea
        obtain rfl := eqHp_ok eh
        exact Opq.mono (fun c w' p => Post.carry hr k hi p) (h0 _ _ _ _ M w cargs e1 hr ha)
      · exact hF args h r' h' M w cargs e0 hr ha
    · exact hF args h r' h' M w cargs e0 hr ha
  · exact hF args h r' h' M w cargs e0 hr ha
end
end Go.Vm
