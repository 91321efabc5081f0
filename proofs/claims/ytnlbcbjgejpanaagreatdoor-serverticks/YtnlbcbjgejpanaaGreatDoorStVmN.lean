/- Part of the value machine, or of a walk by it: lemmas that the claim's last text uses. No conditions. -/
import Derived.Test.YtnlbcbjgejpanaaGreatDoorStVmK
import Derived.Test.YtnlbcbjgejpanaaGreatDoorStVmJ
import Derived.Test.YtnlbcbjgejpanaaGreatDoorStVmI
import Derived.Test.YtnlbcbjgejpanaaGreatDoorStVmH
import Derived.Test.YtnlbcbjgejpanaaGreatDoorStVmE
set_option linter.unusedVariables false
set_option linter.unusedSimpArgs false
set_option linter.unnecessarySimpa false
namespace Go.Vm
noncomputable section
variable {P : Program} {G N : Nat} {el : TypeId} {f0 : Bool}
theorem lf_eq : lf = 10000000000000000000 := rfl
@[congr] theorem thenO_congr {o o' : Out} (e : o = o') (k : F → Hp → Out) : thenO o k = thenO o' k := by rw [e]
@[congr] theorem gtO_congr {o o' : Option V} (e : o = o') (k : V → Out) : gtO o k = gtO o' k := by rw [e]
@[congr] theorem bndO_congr {o o' : R V} (e : o = o') (k : V → Hp → Out) : bndO o k = bndO o' k := by rw [e]
@[congr] theorem alcO_congr {o o' : A} (e : o = o') (k : Ob → (Pos → V) → Out) : alcO o k = alcO o' k := by rw [e]
@[congr] theorem ifB_congr {o o' : V} (e : o = o') (a b : Out) : ifB o a b = ifB o' a b := by rw [e]
theorem seqO_eq (a b : F → Hp → Out) (fr : F) (h : Hp) : seqO a b fr h = thenO (a fr h) b := (rfl)
theorem thenO_nor (fr : F) (h : Hp) (k : F → Hp → Out) : thenO (.nor fr h) k = k fr h := (rfl)
theorem thenO_ret (fr : F) (h : Hp) (k : F → Hp → Out) : thenO (.ret fr h) k = .ret fr h := (rfl)
theorem thenO_ex (i : Nat) (fr : F) (h : Hp) (k : F → Hp → Out) : thenO (.ex i fr h) k = .ex i fr h := (rfl)
theorem gtO_some (v : V) (k : V → Out) : gtO (some v) k = k v := (rfl)
theorem bndO_ok (v : V) (h : Hp) (k : V → Hp → Out) : bndO (.ok v h) k = k v h := (rfl)
theorem alcO_some (ob : Ob) (mk : Pos → V) (k : Ob → (Pos → V) → Out) : alcO (some (ob, mk)) k = k ob mk := (rfl)
theorem ifB_true (a b : Out) : ifB (.bool true) a b = a := (rfl)
theorem ifB_false (a b : Out) : ifB (.bool false) a b = b := (rfl)
theorem ifB_pos {p : Prop} [Decidable p] (hp : p) (a b : Out) : ifB (.bool (decide p)) a b = a := by rw [decide_eq_true hp]; rfl
theorem ifB_neg {p : Prop} [Decidable p] (hp : ¬ p) (a b : Out) : ifB (.bool (decide p)) a b = b := by rw [decide_eq_false hp]; rfl
theorem cndX_tmp (t : Nat) (a b : F → Hp → Out) (fr : F) (h : Hp) : cndX (.tmp t) a b fr h = gtO (fr.get (Pos.of t)) fun v => ifB v (a fr h) (b fr h) := (rfl)
def blkX (id : Nat) (o : Out) : Out := match o with
  | .ex i fr h => (match Nat.beq i id with | true => .nor fr h | false => .ex i fr h)
  | o => o
theorem blkO_eq (id : Nat) (b : F → Hp → Out) (fr : F) (h : Hp) : blkO id b fr h = blkX id (b fr h) := by unfold blkO blkX; cases b fr h <;> rfl
theorem blkX_nor (id : Nat) (fr : F) (h : Hp) : blkX id (.nor fr h) = .nor fr h := (rfl)
theorem blkX_ret (id : Nat) (fr : F) (h : Hp) : blkX id (.ret fr h) = .ret fr h := (rfl)
theorem blkX_ex (id i : Nat) (fr : F) (h : Hp) : blkX id (.ex i fr h) = if i = id then .nor fr h else .ex i fr h := by
  unfold blkX
  split
  · rename_i hc; cases hc
    split
    · rename_i hb; rw [if_pos (Nat.eq_of_beq_eq_true hb)]
    · rename_i hb; rw [if_neg (Nat.ne_of_beq_eq_false hb)]
  · rename_i hn; exact absurd rfl (hn _ _ _)
theorem get_set_of (m n : Nat) (x : Option V) (fr : F) : (T.set x (Pos.of m) fr).get (Pos.of n) = if n = m then x else fr.get (Pos.of n) := by
  by_cases e : n = m
  · subst e; rw [if_pos rfl, T.get_set_self]
  · rw [if_neg e, T.get_set_ne _ (fun h => e (Pos.of_inj h))]
theorem chk_zero {m : Hp → R V} {v : V} {k : Out} {l : List Hp} : chk m v k 0 l = k := by cases l <;> rfl
theorem chk_nil {m : Hp → R V} {v : V} {k : Out} {n : Nat} : chk m v k n [] = k := by cases n <;> rfl
def Oc (A B : F → Hp → Prop) : Out → Prop
  | .nor fr h => A fr h
  | .ret fr h => B fr h
  | _ => False
def LS (id : Nat) (C A B : F → Hp → Prop) : Out → Prop
  | .nor fr h => C fr h
  | .ex i fr h => i = id ∧ A fr h
  | .ret fr h => B fr h
  | .bad => False
theorem loop_rule {id : Nat} {body : F → Hp → Out} (I : Nat → F → Hp → Prop) {A B : F → Hp → Prop} {n : Nat} {fr : F} {h : Hp} (hn : n < lf) (hI : I n fr h)
    (step : ∀ m fr h, I m fr h → LS id (fun fr h => ∃ m', m' < m ∧ I m' fr h) A B (body fr h)) : Oc A B (blkX id (loopO body lf fr h)) := by
  have key : ∀ l n fr h, n < l → I n fr h → Oc A B (blkX id (loopO body l fr h)) := by
    intro l
    induction l with
    | zero => intro n fr h hn; omega
    | succ l ih =>
      intro n fr h hn hI
      have hs := step n fr h hI
      rw [loopO_succ]
      cases e : body fr h with
      | bad => rw [e] at hs; exact hs.elim
      | nor fr1 h1 =>
        rw [e] at hs
        obtain ⟨m', hm, hI'⟩ := hs
        exact ih m' fr1 h1 (by omega) hI'
      | ret fr1 h1 => rw [e] at hs; exact hs
      | ex i fr1 h1 =>
        rw [e] at hs
        obtain ⟨rfl, hA⟩ := hs
        simp only [blkX_ex, if_true]
        exact hA
  exact key lf n fr h hn hI
theorem Oc.then {A B : F → Hp → Prop} {o : Out} {k : F → Hp → Out} {Q : Out → Prop} (ho : Oc A B o) (hA : ∀ fr h, A fr h → Q (k fr h)) (hB : ∀ fr h, B fr h → Q (.ret fr h)) : Q (thenO o k) := by
  cases o with
  | nor fr h => exact hA fr h ho
  | ret fr h => exact hB fr h ho
  | ex i fr h => exact ho.elim
  | bad => exact ho.elim
theorem Oc.mono {A B A' B' : F → Hp → Prop} {o : Out} (ho : Oc A B o) (hA : ∀ fr h, A fr h → A' fr h) (hB : ∀ fr h, B fr h → B' fr h) : Oc A' B' o := by
  cases o with
  | nor fr h => exact hA fr h ho
  | ret fr h => exact hB fr h ho
  | ex i fr h => exact ho.elim
  | bad => exact ho.elim
def Tells (P : Program) (rs : List ResultVar) (Q : V → Hp → Prop) (o : Out) : Prop := ∃ r h, outR P rs o = .ok r h ∧ Q r h
theorem Tells.ret {rs : List ResultVar} {Q : V → Hp → Prop} {fr : F} {h : Hp} {r : V} {h' : Hp} (e : resK P rs fr h (fun vs => tupR vs h) = .ok r h') (hq : Q r h') : Tells P rs Q (.ret fr h) := ⟨r, h', e, hq⟩
theorem Tells.nor {rs : List ResultVar} {Q : V → Hp → Prop} {fr : F} {h : Hp} {r : V} {h' : Hp} (e : resK P rs fr h (fun vs => tupR vs h) = .ok r h') (hq : Q r h') : Tells P rs Q (.nor fr h) := ⟨r, h', e, hq⟩
theorem intEq_dec (a b : Int) : intEq a b = decide (a = b) := by rw [intEq_eq]; rfl
theorem intLe_dec (a b : Int) : intLe a b = decide (a ≤ b) := intLe_eq a b
variable {h : Hp} {k : IntKind} {a b : Int} {c : EqC}
theorem kix_self (k : IntKind) : Nat.beq (kix k) (kix k) = true := by cases k <;> rfl
theorem wrap64_in {n : Int} (h1 : -9223372036854775808 ≤ n) (h2 : n < 9223372036854775808) : wrap64 n = n := by rw [wrap64_eq]; exact wrap_in h1 h2
theorem oBin_add (h1 : -9223372036854775808 ≤ a + b) (h2 : a + b < 9223372036854775808) : oBin .add c (.int .i64 a) (.int .i64 b) h = .ok (.int .i64 (a + b)) h := by
  show okInt .i64 (wrap64 (a + b)) h = _
  rw [wrap64_in h1 h2, okInt_eq]
theorem oBin_sub (h1 : -9223372036854775808 ≤ a - b) (h2 : a - b < 9223372036854775808) : oBin .sub c (.int .i64 a) (.int .i64 b) h = .ok (.int .i64 (a - b)) h := by
  show okInt .i64 (wrap64 (a - b)) h = _
  rw [wrap64_in h1 h2, okInt_eq]
theorem oBin_rem (h0 : b ≠ 0) : oBin .rem c (.int .i64 a) (.int .i64 b) h = .ok (.int .i64 (a.tmod b)) h := by
  show (match intEq b 0 with | true => R.bad | false => okInt .i64 (Int.tmod a b) h) = _
  rw [intEq_dec, decide_eq_false h0, okInt_eq]
theorem oBin_eql : oBin .eql c (.int k a) (.int k b) h = .ok (.bool (decide (a = b))) h := by
  show (match Nat.beq (kix k) (kix k) with | true => okBool (intEq a b) h | false => .bad) = _
  rw [kix_self, okBool_eq, intEq_dec]
theorem oBin_neq : oBin .neq c (.int k a) (.int k b) h = .ok (.bool (decide (a ≠ b))) h := by
  show (match Nat.beq (kix k) (kix k) with | true => okBool (not (intEq a b)) h | false => .bad) = _
  rw [kix_self, okBool_eq, intEq_dec]; simp
theorem oBin_lss : oBin .lss c (.int k a) (.int k b) h = .ok (.bool (decide (a < b))) h := by
  show (match Nat.beq (kix k) (kix k) with | true => okBool (not (intLe b a)) h | false => .bad) = _
  rw [kix_self, okBool_eq, intLe_dec, show (!decide (b ≤ a)) = decide (a < b) from by rw [Bool.eq_iff_iff]; simp]
theorem oBin_leq : oBin .leq c (.int k a) (.int k b) h = .ok (.bool (decide (a ≤ b))) h := by
  show (match Nat.beq (kix k) (kix k) with | true => okBool (intLe a b) h | false => .bad) = _
  rw [kix_self, okBool_eq, intLe_dec]
theorem oBin_gtr : oBin .gtr c (.int k a) (.int k b) h = .ok (.bool (decide (a > b))) h := by
  show (match Nat.beq (kix k) (kix k) with | true => okBool (not (intLe a b)) h | false => .bad) = _
  rw [kix_self, okBool_eq, intLe_dec, show (!decide (a ≤ b)) = decide (a > b) from by rw [Bool.eq_iff_iff]; simp]
theorem oBin_geq : oBin .geq c (.int k a) (.int k b) h = .ok (.bool (decide (a ≥ b))) h := by
  show (match Nat.beq (kix k) (kix k) with | true => okBool (intLe b a) h | false => .bad) = _
  rw [kix_self, okBool_eq, intLe_dec]
theorem oUn_not (q : Bool) : oUn .not (.bool q) h = .ok (.bool (!q)) h := by show okBool (not q) h = _; rw [okBool_eq]
theorem oPick_true (x y : V) : oPick (.bool true) x y h = .ok x h := (rfl)
theorem oPick_false (x y : V) : oPick (.bool false) x y h = .ok y h := (rfl)
theorem oExtract_0 (x : V) (l : V) : oExtract 0 (.tuple (.cons x l)) h = .ok x h := (rfl)
theorem oExtract_1 (x y : V) (l : V) : oExtract 1 (.tuple (.cons x (.cons y l))) h = .ok y h := (rfl)
theorem oExtract_2 (x y z : V) (l : V) : oExtract 2 (.tuple (.cons x (.cons y (.cons z l)))) h = .ok z h := (rfl)
theorem oMin_eq : oMin (.int k a) (.int k b) h = .ok (.int k (min a b)) h := by
  show (match intLe a b with | true => R.ok (V.int k a) h | false => .ok (.int k b) h) = _
  rw [intLe_dec]
  by_cases hl : a ≤ b
  · rw [decide_eq_true hl, Int.min_eq_left hl]
  · rw [decide_eq_false hl, Int.min_eq_right (by omega)]
theorem oMax_eq : oMax (.int k a) (.int k b) h = .ok (.int k (max a b)) h := by
  show (match intLe b a with | true => R.ok (V.int k a) h | false => .ok (.int k b) h) = _
  rw [intLe_dec]
  by_cases hl : b ≤ a
  · rw [decide_eq_true hl, Int.max_eq_left hl]
  · rw [decide_eq_false hl, Int.max_eq_right (by omega)]
theorem oConvInt_i64 (h1 : -9223372036854775808 ≤ a) (h2 : a < 9223372036854775808) : oConvInt .i64 (.int k a) h = .ok (.int .i64 a) h := by
  show okInt .i64 (wrap64 a) h = _
  rw [wrap64_in h1 h2, okInt_eq]
theorem oBuildSlice_11 (z y : V) (j k : IntKind) (a b : Int) : oBuildSlice el [z, y] 2 [(0, 1, .int j a), (1, 1, .int k b)] h = .ok (.slice h.next 0 2 (.kn 2)) (h.new (.cells (.rw el true) [.int j a, .int k b])) := (rfl)
theorem eqAgg_2 (d d' : TypeDesc) (a b a' b' : Int) (k k' : IntKind) (hd : keyFits d (.int k a) = true) (hd' : keyFits d' (.int k' b) = true) : eqAgg [(d, 0), (d', 1)] [.int k a, .int k' b] [.int k a', .int k' b'] = some (decide (a = a' ∧ b = b')) := by
  have h1 : keyEq (.int k a) (.int k a') = some (decide (a = a')) := by
    show (match Nat.beq (kix k) (kix k) with | true => some (intEq a a') | false => none) = _
    rw [kix_self, intEq_dec]
  have h2 : keyEq (.int k' b) (.int k' b') = some (decide (b = b')) := by
    show (match Nat.beq (kix k') (kix k') with | true => some (intEq b b') | false => none) = _
    rw [kix_self, intEq_dec]
  simp only [eqAgg, nthV_eq, List.getElem?_cons_zero, List.getElem?_cons_succ, hd, hd', h1, h2]
  by_cases e : a = a' <;> by_cases e' : b = b' <;> simp [e, e']
theorem oBinAgg_eql2 (a b a' b' : Int) : oBinAgg .eql [((.int .i64), 0), ((.int .i64), 1)] (.agg (.cons (.int .i64 a) (.cons (.int .i64 b) .nil))) (.agg (.cons (.int .i64 a') (.cons (.int .i64 b') .nil))) h = .ok (.bool (decide (a = a' ∧ b = b'))) h := by
  show (match eqAgg _ [.int .i64 a, .int .i64 b] [.int .i64 a', .int .i64 b'] with | some q => (match BinOp.eql with | .eql => okBool q h | .neq => okBool (not q) h | _ => .bad) | none => .bad) = _
  rw [eqAgg_2 _ _ _ _ _ _ _ _ rfl rfl]
  exact okBool_eq _ _
theorem oBinAgg_neq2 (a b a' b' : Int) : oBinAgg .neq [((.int .i64), 0), ((.int .i64), 1)] (.agg (.cons (.int .i64 a) (.cons (.int .i64 b) .nil))) (.agg (.cons (.int .i64 a') (.cons (.int .i64 b') .nil))) h = .ok (.bool (decide ¬ (a = a' ∧ b = b'))) h := by
  show (match eqAgg _ [.int .i64 a, .int .i64 b] [.int .i64 a', .int .i64 b'] with | some q => (match BinOp.neq with | .eql => okBool q h | .neq => okBool (not q) h | _ => .bad) | none => .bad) = _
  rw [eqAgg_2 _ _ _ _ _ _ _ _ rfl rfl]
  refine (okBool_eq _ _).trans ?_
  congr 2
  by_cases e : a = a' ∧ b = b' <;> simp [e]
theorem oFieldAddr_eq (i : Pos) (o off : Nat) : oFieldAddr off (.ptr i o) h = .ok (.ptr i (o + off)) h := by show forceNat (o + off) (fun q => R.ok (V.ptr i q) h) = _; rw [forceNat_eq]
theorem pos_ne {i j : Pos} (h : i.nat ≠ j.nat) : i ≠ j := fun e => h (by rw [e])
theorem pos_nat_ne {i j : Pos} (h : i ≠ j) : i.nat ≠ j.nat := fun e => h (Pos.nat_inj e)
theorem put_self (h : Hp) (i : Pos) (o : Option Ob) : (h.put i o).get i = o := h.get_put_self i o
theorem put_ne (h : Hp) {i j : Pos} (hn : j.nat ≠ i.nat) (o : Option Ob) : (h.put i o).get j = h.get j := h.get_put_ne (pos_ne hn) o
theorem new_self (h : Hp) (o : Ob) : (h.new o).get h.next = some o := h.get_new_self o
theorem new_ne (h : Hp) {j : Pos} (hn : j.nat ≠ h.next.nat) (o : Ob) : (h.new o).get j = h.get j := h.get_new_ne (pos_ne hn) o
theorem new_next_nat (h : Hp) (o : Ob) : (h.new o).next.nat = h.next.nat + 1 := Pos.nat_succ _
theorem bumpH_zero (h : Hp) : bumpH 0 h = h := (rfl)
theorem bumpH_next (n : Nat) (h : Hp) : (bumpH n h).next.nat = h.next.nat + n := bump_nat n _
structure Fr (b : Nat) (h h' : Hp) : Prop where
  next : h.next.nat ≤ h'.next.nat
  get : ∀ j, j.nat < b → h'.get j = h.get j
theorem Fr.refl (b : Nat) (h : Hp) : Fr b h h := ⟨Nat.le_refl _, fun _ _ => rfl⟩
theorem Fr.trans {b : Nat} {h g f : Hp} (x : Fr b h g) (y : Fr b g f) : Fr b h f := ⟨Nat.le_trans x.next y.next, fun j hj => (y.get j hj).trans (x.get j hj)⟩
theorem Fr.le {b b' : Nat} {h h' : Hp} (x : Fr b h h') (hb : b' ≤ b) : Fr b' h h' := ⟨x.next, fun j hj => x.get j (Nat.lt_of_lt_of_le hj hb)⟩
theorem Fr.new {b : Nat} {h : Hp} (o : Ob) (hb : b ≤ h.next.nat) : Fr b h (h.new o) := ⟨by rw [new_next_nat]; omega, fun j hj => new_ne h (by omega) o⟩
theorem Fr.put {b : Nat} {h : Hp} (i : Pos) (o : Option Ob) (hb : b ≤ i.nat) : Fr b h (h.put i o) := ⟨Nat.le_refl _, fun j hj => put_ne h (by omega) o⟩
theorem Fr.bumpH (b n : Nat) (h : Hp) : Fr b h (bumpH n h) := ⟨by rw [bumpH_next]; omega, fun _ _ => rfl⟩
structure Sl (b : Nat) (h : Hp) (sz : Nat) (v : V) (n : Nat) (cs : List V) : Prop where
  len : cs.length = n * sz
  is : (n = 0 ∧ (v = .nils ∨ v = .emp)) ∨ ∃ i o c wr all, v = .slice i o n c ∧ i.nat < b ∧ (h.get i).bind Ob.row = some (wr, all) ∧ ∀ k, k < n * sz → all[o + k]? = cs[k]?
variable {b' n sz bt : Nat} {h' : Hp} {v x : V} {cs : List V}
theorem Sl.fr {b : Nat} (s : Sl b h sz v n cs) (f : Fr b h h') : Sl b h' sz v n cs := ⟨s.len, s.is.imp id fun ⟨i, o, c, wr, all, e, hi, hg, ha⟩ => ⟨i, o, c, wr, all, e, hi, by rw [f.get i hi]; exact hg, ha⟩⟩
theorem Sl.le {b : Nat} (s : Sl b h sz v n cs) (hb : b ≤ b') : Sl b' h sz v n cs := ⟨s.len, s.is.imp id fun ⟨i, o, c, wr, all, e, hi, r⟩ => ⟨i, o, c, wr, all, e, by omega, r⟩⟩
theorem hCells_rowA {i : Pos} {wr : Wr} {all : List V} (hg : (h.get i).bind Ob.row = some (wr, all)) (f : Wr → List V → R V) : hCells h i f = f wr all := by
  unfold hCells
  cases e : h.get i with
  | none => rw [e] at hg; cases hg
  | some o =>
    rw [e] at hg
    cases o <;> cases hg <;> rfl
theorem oLoad1_row {i : Pos} {wr : Wr} {all : List V} {q : Nat} {x : V} (hg : (h.get i).bind Ob.row = some (wr, all)) (hx : all[q]? = some x) : oLoad1 (.ptr i q) h = .ok x h := by
  show hCells h i _ = _
  rw [hCells_rowA hg, nthV_eq, hx]
theorem Sl.length {b : Nat} (s : Sl b h sz v n cs) : oLenK 2 v h' = .ok (.int .i64 n) h' := by
  rcases s.is with ⟨rfl, rfl | rfl⟩ | ⟨i, o, c, wr, all, rfl, _⟩ <;> rfl
theorem oIdxS_slice {i : Pos} {o m : Nat} {c : Cap} {j : IntKind} (hm : m < n) : oIdxS sz (.slice i o n c) (.int j (m : Int)) h = .ok (.ptr i (o + m * sz)) h := by
  show (match Nat.blt m n with | true => forceNat (o + m * sz) fun q => R.ok (V.ptr i q) h | false => .bad) = _
  have : Nat.blt m n = true := by simpa [Nat.blt_eq] using hm
  rw [this, forceNat_eq]
theorem Sl.at {b : Nat} (s : Sl b h sz v n cs) {m : Nat} (hm : m < n) : ∃ i q, (∀ h', oIdxS sz v (.int .i64 (m : Int)) h' = .ok (.ptr i q) h') ∧ i.nat < b ∧ ∀ h', h'.get i = h.get i → ∀ f x, f < sz → cs[m * sz + f]? = some x → oLoad1 (.ptr i (q + f)) h' = .ok x h' := by
  rcases s.is with ⟨rfl, _⟩ | ⟨i, o, c, wr, all, rfl, hi, hg, ha⟩
  · omega
  · refine ⟨i, o + m * sz, fun h' => oIdxS_slice hm, hi, fun h' he f x hf hx => ?_⟩
    refine oLoad1_row (by rw [he]; exact hg) ?_
    have hlt : m * sz + f < n * sz := by
      have h1 : m * sz + sz ≤ n * sz := by rw [← Nat.succ_mul]; exact Nat.mul_le_mul_right sz hm
      omega
    rw [← hx, ← ha _ hlt, Nat.add_assoc]
theorem Sl.at1 {b : Nat} (s : Sl b h 1 v n cs) {m : Nat} (hm : m < n) : ∃ i q x, cs[m]? = some x ∧ (∀ h', oIdxS 1 v (.int .i64 (m : Int)) h' = .ok (.ptr i q) h') ∧ i.nat < b ∧ ∀ h', h'.get i = h.get i → oLoad1 (.ptr i q) h' = .ok x h' := by
  obtain ⟨i, q, h1, h2, h3⟩ := s.at hm
  have hl := s.len
  have hx : cs[m]? = some cs[m] := List.getElem?_eq_getElem (by omega)
  exact ⟨i, q, _, hx, h1, h2, fun h' he => h3 h' he 0 _ (by omega) (by simp only [Nat.mul_one, Nat.add_zero]; exact hx)⟩
structure Ow (b : Nat) (h : Hp) (el : TypeId) (sz : Nat) (v : V) (n : Nat) (cs : List V) : Prop where
  len : cs.length = n * sz
  is : (n = 0 ∧ v = .nils) ∨ ∃ i, v = .slice i 0 n (.un sz) ∧ b ≤ i.nat ∧ i.nat < h.next.nat ∧ ∃ f, h.get i = some (.cells (.rw el f) cs)
theorem Ow.nil (b : Nat) (h : Hp) (el : TypeId) (sz : Nat) : Ow b h el sz .nils 0 [] := ⟨by simp, .inl ⟨rfl, rfl⟩⟩
theorem Ow.sl {b : Nat} (s : Ow b h el sz v n cs) : Sl h.next.nat h sz v n cs := ⟨s.len, by
  rcases s.is with ⟨rfl, rfl⟩ | ⟨i, rfl, _, hi, f1, hg⟩
  · exact .inl ⟨rfl, .inl rfl⟩
  · exact .inr ⟨i, 0, _, .rw el f1, cs, rfl, hi, by rw [hg]; rfl, fun k _ => by rw [Nat.zero_add]⟩⟩
theorem Ow.keep {b : Nat} (s : Ow b h el sz v n cs) (hn : h.next.nat ≤ h'.next.nat) (hg : ∀ j, b ≤ j.nat → j.nat < h.next.nat → h'.get j = h.get j) : Ow b h' el sz v n cs := ⟨s.len, by
  rcases s.is with ⟨rfl, rfl⟩ | ⟨i, rfl, hb, hi, f1, hq⟩
  · exact .inl ⟨rfl, rfl⟩
  · exact .inr ⟨i, rfl, hb, by omega, f1, by rw [hg i hb hi]; exact hq⟩⟩
theorem Ow.fr {b c : Nat} (s : Ow b h el sz v n cs) (f : Fr c h h') (hc : h.next.nat ≤ c) : Ow b h' el sz v n cs := s.keep f.next fun j _ hj => f.get j (by omega)
def idOf : V → Option Pos
  | .slice i _ _ _ => some i
  | _ => none
def Sep (v u : V) : Prop := ∀ i, idOf v = some i → idOf u ≠ some i
theorem Sep.nil (u : V) : Sep .nils u := fun i h => by cases h
theorem Sep.symm {u v : V} (h : Sep v u) : Sep u v := fun i a b => h i b a
theorem oBuildSlice_1 (z : V) (k : IntKind) (a : Int) : oBuildSlice el [z] 1 [(0, 1, .int k a)] h = .ok (.slice h.next 0 1 (.kn 1)) (h.new (.cells (.rw el true) [.int k a])) := (rfl)
theorem oBuild_2 (z y : V) (j k : IntKind) (a b : Int) : oBuild [z, y] [(0, 1, .int j a), (1, 1, .int k b)] h = .ok (.agg (.cons (.int j a) (.cons (.int k b) .nil))) h := (rfl)
theorem oBuildSlice_2 (z y u w : V) : oBuildSlice el [z, y] 1 [(0, 2, .agg (.cons u (.cons w .nil)))] h = .ok (.slice h.next 0 1 (.kn 1)) (h.new (.cells (.rw el true) [u, w])) := (rfl)
theorem aBuildSlice_1 (z : V) (k : IntKind) (a : Int) : aBuildSlice el [z] 1 [(0, 1, .int k a)] = some (.cells (.rw el true) [.int k a], fun p => .slice p 0 1 (.kn 1)) := (rfl)
theorem oBuildSlice_22 (z y z' y' u w u' w' : V) : oBuildSlice el [z, y, z', y'] 2 [(0, 2, .agg (.cons u (.cons w .nil))), (2, 2, .agg (.cons u' (.cons w' .nil)))] h = .ok (.slice h.next 0 2 (.kn 2)) (h.new (.cells (.rw el true) [u, w, u', w'])) := (rfl)
structure MapI (es : List (V × V)) (f : Int → Option V) : Prop where
  keys : ∀ p ∈ es, ∃ a, p.1 = .int .i64 a
  find : ∀ a, findM (.int .i64 a) es = some (f a)
theorem MapI.nil : MapI [] fun _ => none := ⟨fun _ h => (by cases h), fun _ => rfl⟩
end
end Go.Vm

namespace Go.Vm
noncomputable section
variable {h h' : Hp} {sz n bt : Nat} {v x : V} {cs : List V} {c : EqC} {el : TypeId}
theorem strEq_dec (a b : List Nat) : strEq a b = decide (a = b) := by
  induction a generalizing b with
  | nil => cases b <;> simp [strEq]
  | cons x a ih =>
    cases b with
    | nil => simp [strEq]
    | cons y b =>
      simp only [strEq]
      by_cases hxy : x = y
      · subst hxy
        rw [Nat.beq_refl, ih]
        simp
      · have : Nat.beq x y = false := by cases hb : Nat.beq x y; rfl; exact absurd (Nat.eq_of_beq_eq_true hb) hxy
        rw [this]
        simp [hxy]
theorem oBin_str_eql (a b : List Nat) : oBin .eql c (.str a) (.str b) h = .ok (.bool (decide (a = b))) h := by
  show okBool (strEq a b) h = _
  rw [okBool_eq, strEq_dec]
theorem oBin_str_neq (a b : List Nat) : oBin .neq c (.str a) (.str b) h = .ok (.bool (decide (a ≠ b))) h := by
  show okBool (not (strEq a b)) h = _
  rw [okBool_eq, strEq_dec]
  simp
theorem oLenK_str (s : List Nat) : oLenK 1 (.str s) h = .ok (.int .i64 (s.length : Int)) h := by
  show R.ok (V.int .i64 (.ofNat (lenN s))) h = _
  rw [lenN_eq]; rfl
def bys (s : List Nat) : List V := s.map fun b : Nat => V.int .u8 (b : Int)
structure Ch (S : Pos → Prop) (h h' : Hp) : Prop where
  next : h.next.nat ≤ h'.next.nat
  get : ∀ j : Pos, j.nat < h.next.nat → ¬ S j → h'.get j = h.get j
variable {S S' : Pos → Prop} {g : Hp}
theorem Ch.refl (S : Pos → Prop) (h : Hp) : Ch S h h := ⟨Nat.le_refl _, fun _ _ _ => rfl⟩
theorem Ch.trans (x : Ch S h g) (y : Ch S' g h') (hs : ∀ j : Pos, j.nat < h.next.nat → S' j → S j) : Ch S h h' :=
  ⟨Nat.le_trans x.next y.next, fun j hj hn => (y.get j (Nat.lt_of_lt_of_le hj x.next) fun q => hn (hs j hj q)).trans (x.get j hj hn)⟩
theorem Ch.mono (x : Ch S h h') (hs : ∀ j : Pos, j.nat < h.next.nat → S j → S' j) : Ch S' h h' := ⟨x.next, fun j hj hn => x.get j hj fun q => hn (hs j hj q)⟩
theorem Ch.new (S : Pos → Prop) (h : Hp) (o : Ob) : Ch S h (h.new o) := ⟨by rw [new_next_nat]; omega, fun j hj _ => new_ne h (by omega) o⟩
theorem Ch.put (h : Hp) {i : Pos} (o : Option Ob) (hi : S i) : Ch S h (h.put i o) := ⟨Nat.le_refl _, fun j hj hn => put_ne h (fun e => hn (by rw [show j = i from Pos.nat_inj e]; exact hi)) o⟩
theorem Ch.bumpH (S : Pos → Prop) (n : Nat) (h : Hp) : Ch S h (bumpH n h) := ⟨by rw [bumpH_next]; omega, fun _ _ _ => rfl⟩
theorem Ch.fr {b : Nat} (x : Ch S h h') (hb : b ≤ h.next.nat) (hs : ∀ j : Pos, j.nat < b → ¬ S j) : Fr b h h' := ⟨x.next, fun j hj => x.get j (by omega) (hs j hj)⟩
theorem Sl.idlt {b : Nat} (s : Sl b h sz v n cs) {i : Pos} (hi : idOf v = some i) : i.nat < b := by
  rcases s.is with ⟨_, rfl | rfl⟩ | ⟨i', o, cp, wr, all, rfl, hi', _⟩
  · cases hi
  · cases hi
  · cases hi; exact hi'
theorem Sl.ch {b : Nat} (s : Sl b h sz v n cs) (x : Ch S h h') (hb : b ≤ h.next.nat) (hs : ∀ i, idOf v = some i → ¬ S i) : Sl b h' sz v n cs := ⟨s.len, by
  rcases s.is with h0 | ⟨i, o, cp, wr, all, rfl, hi, hg, ha⟩
  · exact .inl h0
  · exact .inr ⟨i, o, cp, wr, all, rfl, hi, by rw [x.get i (by omega) (hs i rfl)]; exact hg, ha⟩⟩
theorem Ow.idlt {b : Nat} (s : Ow b h el sz v n cs) {i : Pos} (hi : idOf v = some i) : b ≤ i.nat ∧ i.nat < h.next.nat := by
  rcases s.is with ⟨_, rfl⟩ | ⟨i', rfl, hb, hi', _, _⟩
  · cases hi
  · cases hi; exact ⟨hb, hi'⟩
theorem Ow.ch {b : Nat} (s : Ow b h el sz v n cs) (x : Ch S h h') (hs : ∀ i, idOf v = some i → ¬ S i) : Ow b h' el sz v n cs := ⟨s.len, by
  rcases s.is with h0 | ⟨i, rfl, hb, hi, f1, hg⟩
  · exact .inl h0
  · exact .inr ⟨i, rfl, hb, Nat.lt_of_lt_of_le hi x.next, f1, by rw [x.get i hi (hs i rfl)]; exact hg⟩⟩
theorem Ow.cell {b : Nat} (s : Ow b h el sz v n cs) : v.cells = [v] ∧ notTuple v = true := by
  rcases s.is with ⟨_, rfl⟩ | ⟨i, rfl, _⟩ <;> exact ⟨rfl, rfl⟩
theorem Sl.cell {b : Nat} (s : Sl b h sz v n cs) : v.cells = [v] ∧ notTuple v = true := by
  rcases s.is with ⟨_, rfl | rfl⟩ | ⟨i, o, cp, wr, all, rfl, _⟩ <;> exact ⟨rfl, rfl⟩
theorem oNilCheck_ptr (i : Pos) (q : Nat) : oNilCheck (.ptr i q) h = .ok (.ptr i q) h := (rfl)
theorem put_bump (h : Hp) (o : Ob) : Hp.put (bumpH 1 h) h.next (some o) = h.new o := (rfl)
theorem ld_get {i : Pos} {wr : Wr} {l : List V} (hg : h.get i = some (.cells wr l)) (q : Nat) : oLoad1 (.ptr i q) h = (match l[q]? with | some v => R.ok v h | none => .bad) := by
  show hCells h i (fun _ cs => match nthV q cs with | some v => R.ok v h | none => .bad) = _
  rw [hCells_rowA (wr := wr) (all := l) (by rw [hg]; rfl), nthV_eq]
theorem putV_one {y : V} : ∀ {q : Nat} {l : List V}, q < l.length → putV q [y] l = some (l.set q y)
  | 0, [], h => absurd h (by simp)
  | 0, a :: t, _ => rfl
  | q + 1, [], h => absurd h (by simp)
  | q + 1, a :: t, h => by
    show Option.casesOn (motive := fun _ => Option (List V)) (putV q [y] t) none (fun r => some (a :: r)) = _
    rw [putV_one (q := q) (l := t) (by simpa using h)]
    rfl
theorem oStore_row {i : Pos} {t : TypeId} {f : Bool} {l : List V} (hg : h.get i = some (.cells (.rw t f) l)) {sz q : Nat} {y : V} (hn : notTuple y = true) (hl : Nat.beq y.cells.length sz = true) :
    oStore sz (.ptr i q) y h = (match putV q y.cells l with | some cs' => .ok V.undef (h.put i (some (.cells (.rw t f) cs'))) | none => .bad) := by
  unfold oStore
  show hCells h i _ = _
  rw [hCells_rowA (wr := .rw t f) (all := l) (by rw [hg]; rfl), hn, hl]
  rfl
theorem st_get {i : Pos} {t : TypeId} {f : Bool} {l : List V} (hg : h.get i = some (.cells (.rw t f) l)) {q : Nat} {y : V} (hy : y.cells = [y] ∧ notTuple y = true) (hq : q < l.length) : oStore 1 (.ptr i q) y h = .ok V.undef (h.put i (some (.cells (.rw t f) (l.set q y)))) := by
  rw [oStore_row hg hy.2 (by rw [hy.1]; rfl), hy.1]
  rw [putV_one hq]
end
end Go.Vm
