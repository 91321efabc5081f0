/- Part of the value machine, or of a walk by it: lemmas that the claim's last text uses. No conditions. -/
import Derived.Test.YtgnfkfmhjgbhhaaLineA
import Derived.Test.YtgnfkfmhjgbhhaaChecked
import Derived.KernelRfl
set_option linter.unusedVariables false
set_option linter.unusedSimpArgs false
set_option linter.unnecessarySimpa false
/- The value machine, part 33: texts, rows of bytes, objects of one's own beside each other. -/
namespace Go.Vm
noncomputable section
variable {h h' : Hp} {sz n bt : Nat} {v x : V} {cs : List V} {c : EqC}

theorem strEq_dec (a b : List Nat) : strEq a b = decide (a = b) := by
  induction a generalizing b with
  | nil => cases b <;> simp [strEq]
  | cons x a ih =>
    cases b with
    | nil => simp [strEq]
    | cons y b =>
      simp only [strEq]
      by_cases hxy : x = y
      · subst hxy
        rw [Nat.beq_refl, ih]
        simp
      · have : Nat.beq x y = false := by cases hb : Nat.beq x y; rfl; exact absurd (Nat.eq_of_beq_eq_true hb) hxy
        rw [this]
        simp [hxy]
theorem oBin_str_eql (a b : List Nat) : oBin .eql c (.str a) (.str b) h = .ok (.bool (decide (a = b))) h := by
  show okBool (strEq a b) h = _
  rw [okBool_eq, strEq_dec]
theorem oBin_str_neq (a b : List Nat) : oBin .neq c (.str a) (.str b) h = .ok (.bool (decide (a ≠ b))) h := by
  show okBool (not (strEq a b)) h = _
  rw [okBool_eq, strEq_dec]
  simp
theorem oBin_str_add {a b : List Nat} (hl : a.length + b.length < 4611686018427387904) : oBin .add c (.str a) (.str b) h = .ok (.str (a ++ b)) h := by
  show (match Nat.blt (a.length + b.length) 4611686018427387904 with | true => R.ok (V.str (a ++ b)) h | false => .bad) = _
  rw [show Nat.blt (a.length + b.length) 4611686018427387904 = true by rw [Nat.blt_eq]; exact hl]
theorem oLenK_str (s : List Nat) : oLenK 1 (.str s) h = .ok (.int .i64 (s.length : Int)) h := by
  show R.ok (V.int .i64 (.ofNat (lenN s))) h = _
  rw [lenN_eq]; rfl
theorem oIdxStr_ok {s : List Nat} {m a : Nat} {k : IntKind} (hm : s[m]? = some a) : oIdxStr (.str s) (.int k (m : Int)) h = .ok (.int .u8 (a : Int)) h := by
  show (match nthN m s with | some b => R.ok (V.int .u8 (.ofNat b)) h | none => .bad) = _
  rw [nthN_eq, hm]; rfl
theorem oIdxStr_lit0 {s : List Nat} {a : Nat} {k : IntKind} (hm : s[0]? = some a) : oIdxStr (.str s) (.int k 0) h = .ok (.int .u8 (a : Int)) h := oIdxStr_ok (m := 0) hm
theorem oIdxStr_lit1 {s : List Nat} {a : Nat} {k : IntKind} (hm : s[1]? = some a) : oIdxStr (.str s) (.int k 1) h = .ok (.int .u8 (a : Int)) h := oIdxStr_ok (m := 1) hm
theorem oSliceStr_to {s : List Nat} {m : Nat} {k : IntKind} (hm : m ≤ s.length) : oSliceStr (.str s) none (some (.int k (m : Int))) h = .ok (.str (s.take m)) h := by
  show (match Nat.ble m s.length, Nat.ble 0 m with | true, true => R.ok (V.str (takeN (m - 0) (dropN 0 s))) h | _, _ => .bad) = _
  rw [Nat.ble_eq_true_of_le hm, Nat.ble_eq_true_of_le (Nat.zero_le m), takeN_eq, dropN_eq]; rfl
theorem oSliceStr_from {s : List Nat} {m : Nat} {k : IntKind} (hm : m ≤ s.length) : oSliceStr (.str s) (some (.int k (m : Int))) none h = .ok (.str (s.drop m)) h := by
  show (match Nat.ble s.length s.length, Nat.ble m s.length with | true, true => R.ok (V.str (takeN (s.length - m) (dropN m s))) h | _, _ => .bad) = _
  rw [Nat.ble_eq_true_of_le hm, Nat.ble_eq_true_of_le (Nat.le_refl _), takeN_eq, dropN_eq]
  simp only []
  rw [List.take_of_length_le (by simp)]
/-- bytes as values -/
def bys (s : List Nat) : List V := s.map fun b : Nat => V.int .u8 (b : Int)
theorem bys_length (s : List Nat) : (bys s).length = s.length := by simp [bys]
theorem bys_append (s t : List Nat) : bys (s ++ t) = bys s ++ bys t := by simp [bys]
theorem bys_take (s : List Nat) (n : Nat) : bys (s.take n) = (bys s).take n := by simp [bys, List.map_take]
theorem bys_drop (s : List Nat) (n : Nat) : bys (s.drop n) = (bys s).drop n := by simp [bys, List.map_drop]
theorem u8s_bys (s : List Nat) : u8s s = bys s := by simp [u8s, bys]
theorem natsOf_bys : ∀ {s : List Nat}, (∀ b ∈ s, b < 256) → natsOf (bys s) = some s
  | [], _ => rfl
  | b :: s, hs => by
    show (match Nat.blt b 256, natsOf (bys s) with | true, some r => some (b :: r) | _, _ => none) = _
    rw [show Nat.blt b 256 = true by rw [Nat.blt_eq]; exact hs b (by simp), natsOf_bys fun b hb => hs b (by simp [hb])]
theorem oBytesStr_ok {b : Nat} {s : List Nat} (t : Sl b h 1 v n (bys s)) (hs : ∀ b ∈ s, b < 256) (hh : ∀ i, idOf v = some i → h'.get i = h.get i) : oBytesStr v h' = .ok (.str s) h' := by
  have hl : s.length = n := by have := t.len; rw [bys_length] at this; omega
  rcases t.is with ⟨rfl, rfl | rfl⟩ | ⟨i, o, cp, wr, all, rfl, hi, hg, ha⟩
  · have : s = [] := List.length_eq_zero_iff.1 hl
    subst this; rfl
  · have : s = [] := List.length_eq_zero_iff.1 hl
    subst this; rfl
  · show hCells h' i (fun _ cs => (match takeV n (dropV o cs) with
      | some l => (match natsOf l with | some s => R.ok (V.str s) h' | none => .bad)
      | none => .bad)) = _
    rw [hCells_row (wr := wr) (all := all) (by rw [hh i rfl]; exact hg), takeV_of (cs := bys s) (fun f hf => ha f (by omega)) (by rw [bys_length]; omega)]
    simp only []
    rw [natsOf_bys hs]
theorem oStrBytes_ok {s : List Nat} (hl : s.length < 4611686018427387904) : oStrBytes (.str s) h = .ok (.slice h.next 0 s.length (.un 1)) (h.new (.bytes (bys s))) := by
  show (match Nat.blt s.length 4611686018427387904 with | true => R.ok (V.slice h.next 0 s.length (.un 1)) (h.new (.bytes (u8s s))) | false => .bad) = _
  rw [show Nat.blt s.length 4611686018427387904 = true by rw [Nat.blt_eq]; exact hl, u8s_bys]

/-! what is turned: objects of a set, and new ones -/
structure Ch (S : Pos → Prop) (h h' : Hp) : Prop where
  next : h.next.nat ≤ h'.next.nat
  get : ∀ j : Pos, j.nat < h.next.nat → ¬ S j → h'.get j = h.get j
variable {S S' : Pos → Prop} {g : Hp}
theorem Ch.refl (S : Pos → Prop) (h : Hp) : Ch S h h := ⟨Nat.le_refl _, fun _ _ _ => rfl⟩
theorem Ch.trans (x : Ch S h g) (y : Ch S' g h') (hs : ∀ j : Pos, j.nat < h.next.nat → S' j → S j) : Ch S h h' :=
  ⟨Nat.le_trans x.next y.next, fun j hj hn => (y.get j (Nat.lt_of_lt_of_le hj x.next) fun q => hn (hs j hj q)).trans (x.get j hj hn)⟩
theorem Ch.mono (x : Ch S h h') (hs : ∀ j : Pos, j.nat < h.next.nat → S j → S' j) : Ch S' h h' := ⟨x.next, fun j hj hn => x.get j hj fun q => hn (hs j hj q)⟩
theorem Ch.new (S : Pos → Prop) (h : Hp) (o : Ob) : Ch S h (h.new o) := ⟨by rw [new_next_nat]; omega, fun j hj _ => new_ne h (by omega) o⟩
theorem Ch.put (h : Hp) {i : Pos} (o : Option Ob) (hi : S i) : Ch S h (h.put i o) := ⟨Nat.le_refl _, fun j hj hn => put_ne h (fun e => hn (by rw [show j = i from Pos.nat_inj e]; exact hi)) o⟩
theorem Ch.bumpH (S : Pos → Prop) (n : Nat) (h : Hp) : Ch S h (bumpH n h) := ⟨by rw [bumpH_next]; omega, fun _ _ _ => rfl⟩
theorem Ch.fr {b : Nat} (x : Ch S h h') (hb : b ≤ h.next.nat) (hs : ∀ j : Pos, j.nat < b → ¬ S j) : Fr b h h' := ⟨x.next, fun j hj => x.get j (by omega) (hs j hj)⟩
theorem Sl.idlt {b : Nat} (s : Sl b h sz v n cs) {i : Pos} (hi : idOf v = some i) : i.nat < b := by
  rcases s.is with ⟨_, rfl | rfl⟩ | ⟨i', o, cp, wr, all, rfl, hi', _⟩
  · cases hi
  · cases hi
  · cases hi; exact hi'
theorem Sl.ch {b : Nat} (s : Sl b h sz v n cs) (x : Ch S h h') (hb : b ≤ h.next.nat) (hs : ∀ i, idOf v = some i → ¬ S i) : Sl b h' sz v n cs := ⟨s.len, by
  rcases s.is with h0 | ⟨i, o, cp, wr, all, rfl, hi, hg, ha⟩
  · exact .inl h0
  · exact .inr ⟨i, o, cp, wr, all, rfl, hi, by rw [x.get i (by omega) (hs i rfl)]; exact hg, ha⟩⟩
theorem Own.idlt {b : Nat} (s : Own b h sz v n cs) {i : Pos} (hi : idOf v = some i) : b ≤ i.nat ∧ i.nat < h.next.nat := by
  rcases s.is with ⟨_, rfl⟩ | ⟨i', rfl, hb, hi', _⟩
  · cases hi
  · cases hi; exact ⟨hb, hi'⟩
theorem Own.ch {b : Nat} (s : Own b h sz v n cs) (x : Ch S h h') (hs : ∀ i, idOf v = some i → ¬ S i) : Own b h' sz v n cs := ⟨s.len, by
  rcases s.is with h0 | ⟨i, rfl, hb, hi, hg⟩
  · exact .inl h0
  · exact .inr ⟨i, rfl, hb, Nat.lt_of_lt_of_le hi x.next, by rw [x.get i hi (hs i rfl)]; exact hg⟩⟩
/-- a slice is one cell -/
theorem Own.cell {b : Nat} (s : Own b h sz v n cs) : v.cells = [v] ∧ notTuple v = true := by
  rcases s.is with ⟨_, rfl⟩ | ⟨i, rfl, _⟩ <;> exact ⟨rfl, rfl⟩
theorem Sl.cell {b : Nat} (s : Sl b h sz v n cs) : v.cells = [v] ∧ notTuple v = true := by
  rcases s.is with ⟨_, rfl | rfl⟩ | ⟨i, o, cp, wr, all, rfl, _⟩ <;> exact ⟨rfl, rfl⟩
theorem app_ok {b m : Nat} {new : List V} (s : Own 0 h sz v n cs) (t : Sl b h sz x m new) (hm : 0 < m) (hs : (n + m) * bt ≤ 140737488355328) :
    ∃ v' h', oAppend sz bt v x h = .ok v' h' ∧ v' = .slice h.next 0 (n + m) (.un sz) ∧ h'.next = h.next.succ ∧ Own 0 h' sz v' (n + m) (cs ++ new) ∧ Ch (fun j => idOf v = some j) h h' := by
  have hl : (cs ++ new).length = (n + m) * sz := by rw [List.length_append, s.len, t.len, Nat.add_mul]
  unfold oAppend
  rw [t.src]
  cases m with
  | zero => omega
  | succ m =>
    simp only []
    rcases s.is with ⟨rfl, rfl⟩ | ⟨i, rfl, -, hi, hg⟩
    · have hc : cs = [] := List.length_eq_zero_iff.1 (by rw [s.len]; simp)
      subst hc
      simp only []
      rw [freshRow_eq (by rw [Nat.zero_add] at hs; exact hs)]
      refine ⟨_, _, rfl, by rw [Nat.zero_add], rfl, ⟨hl, .inr ⟨h.next, by rw [Nat.zero_add], Nat.zero_le _, by rw [new_next_nat]; omega, new_self _ _⟩⟩, Ch.new _ _ _⟩
    · simp only []
      rw [hCells_row (wr := true) (all := cs) (by rw [hg]; rfl)]
      have h1 : takeV (n * sz) (dropV 0 cs) = some cs := by rw [dropV_eq, List.drop_zero, ← s.len, takeV_all]
      have h2 : dropV (n * sz) (dropV 0 cs) = [] := by rw [dropV_eq, dropV_eq, List.drop_zero, ← s.len, List.drop_length]
      simp only [forceNat_eq, h1, h2, Nat.beq_refl, freshRow_eq hs]
      refine ⟨_, _, rfl, rfl, rfl, ⟨hl, .inr ⟨h.next, rfl, Nat.zero_le _, by rw [new_next_nat, put_next]; omega, new_self (h.put i none) _⟩⟩, (Ch.put (S := fun j => idOf (.slice i 0 n (.un sz)) = some j) h none rfl).trans (Ch.new (fun _ => False) _ _) fun _ _ q => q.elim⟩
theorem app0_ok {b : Nat} {new : List V} (s : Own 0 h sz v n cs) (t : Sl b h sz x 0 new) : oAppend sz bt v x h = .ok v h := by
  unfold oAppend
  rw [t.src]
  simp only []
  rcases s.is with ⟨rfl, rfl⟩ | ⟨i, rfl, -, hi, hg⟩ <;> rfl
/-- one more, made for it -/
theorem app1_ok {new : List V} (s : Own 0 h sz v n cs) (hnew : new.length = sz) (hs : (n + 1) * bt ≤ 140737488355328) :
    ∃ v' h', oAppend sz bt v (.slice h.next 0 1 (.kn 1)) (h.new (.cells true new)) = .ok v' h' ∧ v' = .slice h.next.succ 0 (n + 1) (.un sz) ∧ Own 0 h' sz v' (n + 1) (cs ++ new) ∧ Ch (fun j => idOf v = some j) h h' ∧ h'.next.nat = h.next.nat + 2 := by
  have c1 := Ch.new (fun j => idOf v = some j) h (.cells true new)
  have s1 : Own 0 (h.new (.cells true new)) sz v n cs := s.ch (Ch.new (fun _ => False) h _) fun _ _ q => q
  have t1 : Sl (h.next.nat + 1) (h.new (.cells true new)) sz (.slice h.next 0 1 (.kn 1)) 1 new := ⟨by rw [hnew]; simp, .inr ⟨h.next, 0, _, true, new, rfl, by omega, by rw [new_self]; rfl, fun k _ => by rw [Nat.zero_add]⟩⟩
  obtain ⟨v', h', e, e2, e3, o, c2⟩ := app_ok (bt := bt) s1 t1 (by omega) hs
  exact ⟨v', h', e, e2, o, c1.trans c2 fun _ _ q => q, by rw [e3, new_next, Pos.nat_succ, Pos.nat_succ]⟩
theorem thenO_id (o : Out) : thenO o (fun fr h => .nor fr h) = o := by cases o <;> rfl
theorem oNilCheck_ptr (i : Pos) (q : Nat) : oNilCheck (.ptr i q) h = .ok (.ptr i q) h := (rfl)
/-! a struct of one's own -/
theorem put_bump (h : Hp) (o : Ob) : Hp.put (bumpH 1 h) h.next (some o) = h.new o := (rfl)
theorem ld_get {i : Pos} {wr : Bool} {l : List V} (hg : h.get i = some (.cells wr l)) (q : Nat) : oLoad1 (.ptr i q) h = (match l[q]? with | some v => R.ok v h | none => .bad) := by
  show hCells h i (fun _ cs => match nthV q cs with | some v => R.ok v h | none => .bad) = _
  rw [hCells_row (wr := wr) (all := l) (by rw [hg]; rfl), nthV_eq]
theorem ld_put (i : Pos) (l : List V) (q : Nat) : oLoad1 (.ptr i q) (h.put i (some (.cells true l))) = (match l[q]? with | some v => R.ok v (h.put i (some (.cells true l))) | none => .bad) := ld_get (put_self _ _ _) q
theorem ld_bump (n : Nat) (i : Pos) (q : Nat) {y : V} (e : oLoad1 (.ptr i q) h = .ok y h) : oLoad1 (.ptr i q) (bumpH n h) = .ok y (bumpH n h) := by
  have e' : hCells h i (fun _ cs => match nthV q cs with | some v => R.ok v h | none => .bad) = .ok y h := e
  show hCells (bumpH n h) i (fun _ cs => match nthV q cs with | some v => R.ok v (bumpH n h) | none => .bad) = _
  unfold hCells at e' ⊢
  rw [bumpH_get]
  cases hg : h.get i with
  | none => rw [hg] at e'; cases e'
  | some o =>
    rw [hg] at e'
    cases o with
    | cells w cs =>
      simp only [] at e' ⊢
      cases hq : nthV q cs with
      | none => rw [hq] at e'; cases e'
      | some z => rw [hq] at e'; cases e'; rfl
    | bytes cs =>
      simp only [] at e' ⊢
      cases hq : nthV q cs with
      | none => rw [hq] at e'; cases e'
      | some z => rw [hq] at e'; cases e'; rfl
    | map es => cases e'
    | iter a b => cases e'
theorem putV_one {y : V} : ∀ {q : Nat} {l : List V}, q < l.length → putV q [y] l = some (l.set q y)
  | 0, [], h => absurd h (by simp)
  | 0, a :: t, _ => rfl
  | q + 1, [], h => absurd h (by simp)
  | q + 1, a :: t, h => by
    show Option.casesOn (motive := fun _ => Option (List V)) (putV q [y] t) none (fun r => some (a :: r)) = _
    rw [putV_one (q := q) (l := t) (by simpa using h)]
    rfl
theorem st_get {i : Pos} {l : List V} (hg : h.get i = some (.cells true l)) {q : Nat} {y : V} (hy : y.cells = [y] ∧ notTuple y = true) (hq : q < l.length) : oStore 1 (.ptr i q) y h = .ok V.undef (h.put i (some (.cells true (l.set q y)))) := by
  show hCells h i (fun wr cs => match wr, notTuple y, Nat.beq y.cells.length 1 with
    | true, true, true => (match putV q y.cells cs with | some cs' => R.ok V.undef (h.put i (some (.cells true cs'))) | none => .bad)
    | _, _, _ => .bad) = _
  rw [hCells_row (wr := true) (all := l) (by rw [hg]; rfl), hy.1, hy.2]
  show (match putV q [y] l with | some cs' => R.ok V.undef (h.put i (some (.cells true cs'))) | none => .bad) = _
  rw [putV_one hq]
end
end Go.Vm

/- The line layer: the plain answer (no program in sight): words, pieces, the reader as an automaton over bytes. -/
namespace Go.Ln
open Go Go.Vm

/-- A row of words: kind, text, the words in it, the rest. -/
inductive Wds where
  | nil
  | cons (kind : Int) (text : List Nat) (kids rest : Wds)
  deriving DecidableEq
def Wds.len : Wds → Nat
  | .nil => 0
  | .cons _ _ _ r => r.len + 1
/-- one word -/
structure Wd where
  kind : Int
  text : List Nat
  kids : Wds

/-- what is left: of the text, and the literals with the texts behind them -/
structure St where
  cur : List Nat
  rest : List (List Nat × List Nat)
def St.size (s : St) : Nat := s.cur.length + (s.rest.map fun p => p.2.length + 1).sum
def nextM (c : Nat) (s : St) : Option St := match s.cur with
  | [] => none
  | d :: l => if d = c then some { s with cur := l } else none
/-- a quoted text, behind its first sign: the text, and what is left -/
def quotedM : List Nat → Option (List Nat × List Nat)
  | [] => none
  | c :: s =>
    if c = 34 then some ([], s)
    else if c = 13 then none
    else if c = 92 then (match s with
      | d :: s' => if d = 34 ∨ d = 92 then (match quotedM s' with | some (t, r) => some (d :: t, r) | none => none) else none
      | [] => none)
    else (match quotedM s with | some (t, r) => some (c :: t, r) | none => none)
def atomC (c : Nat) : Bool := decide (33 ≤ c ∧ c ≤ 126 ∧ c ≠ 40 ∧ c ≠ 41 ∧ c ≠ 34 ∧ c ≠ 123)
def loopW (word : St → Option (Wd × St)) : Nat → St → Option (Wds × St)
  | 0, _ => none
  | f + 1, st => (match word st with
    | none => none
    | some (w, st1) => (match nextM 32 st1 with
      | some st2 => (match loopW word f st2 with
        | some (ws, s) => some (.cons w.kind w.text w.kids ws, s)
        | none => none)
      | none => some (.cons w.kind w.text w.kids .nil, st1)))
/-- a word; n: how many lists may still be opened -/
def wordM : Nat → St → Option (Wd × St)
  | n, ⟨[], []⟩ => none
  | n, ⟨[], (l, t) :: r⟩ => some (⟨2, l, .nil⟩, ⟨t, r⟩)
  | n, ⟨c :: s, r⟩ =>
    if c = 34 then (match quotedM s with | some (t, s') => some (⟨2, t, .nil⟩, ⟨s', r⟩) | none => none)
    else if c = 40 then (match n with
      | 0 => none
      | n + 1 => (match nextM 41 ⟨s, r⟩ with
        | some st => some (⟨3, [], .nil⟩, st)
        | none => (match loopW (wordM n) (St.size ⟨s, r⟩ + 1) ⟨s, r⟩ with
          | some (ws, st) => (match nextM 41 st with | some st' => some (⟨3, [], ws⟩, st') | none => none)
          | none => none)))
    else if atomC c then some (⟨1, (c :: s).takeWhile atomC, .nil⟩, ⟨(c :: s).dropWhile atomC, r⟩) else none
def placesM : Bool → List (List Nat) → List (List Nat) → Bool
  | first, t :: texts, _ :: lits => (match t.getLast? with | none => first | some c => decide (c = 32 ∨ c = 40)) && placesM false texts lits
  | _, _, _ => true
def parseM (texts lits : List (List Nat)) : Option Wds := match texts with
  | [] => none
  | t :: ts => if placesM true texts lits then (match loopW (wordM 8) (St.size ⟨t, lits.zip ts⟩ + 1) ⟨t, lits.zip ts⟩ with
    | some (ws, st) => if st.cur = [] ∧ st.rest = [] then some ws else none
    | none => none) else none

/-- digits -/
def numM (s : List Nat) : Option Nat :=
  if s = [] ∨ s.length > 10 ∨ (s.head? = some 48 ∧ s.length > 1) ∨ ¬ (∀ c ∈ s, 48 ≤ c ∧ c ≤ 57) then none
  else if s.foldl (fun n c => n * 10 + (c - 48)) 0 > 4294967295 then none else some (s.foldl (fun n c => n * 10 + (c - 48)) 0)
/-- the last place of a byte -/
def lastM (c : Nat) : List Nat → Option Nat
  | [] => none
  | d :: l => (match lastM c l with | some i => some (i + 1) | none => if d = c then some 0 else none)
/-- the literal that a text ends with -/
def markerM (t : List Nat) : Option (List Nat × Nat × Bool) :=
  if t.getLast? = some 125 then
    (match lastM 123 t.dropLast with
    | none => none
    | some i => (if (t.dropLast.drop (i + 1)).getLast? = some 43
        then (match numM (t.dropLast.drop (i + 1)).dropLast with | some n => some (t.take i, n, true) | none => none)
        else (match numM (t.dropLast.drop (i + 1)) with | some n => some (t.take i, n, false) | none => none)))
  else none

structure Rd where
  texts : List (List Nat) := []
  lits : List (List Nat) := []
  long : Nat := 0
  wide : Nat := 0
  now : List Nat := []
  want : Nat := 0
  lit : List Nat := []
  literal : Bool := false
  skip : Nat := 0
  line : Bool := false
structure Got where
  kind : Int
  words : Wds
def cutCR (t : List Nat) : List Nat := if t.getLast? = some 13 then t.dropLast else t
def endM (most : Int) (r : Rd) : Rd × List Got :=
  match markerM (cutCR r.now) with
  | none => (match parseM (r.texts ++ [cutCR r.now]) r.lits with
    | some ws => ({}, [⟨1, ws⟩])
    | none => ({}, [⟨3, .nil⟩]))
  | some (ahead, n, plus) =>
    if (n : Int) > most - r.wide then (if plus then ({ skip := n, line := true }, [⟨3, .nil⟩]) else ({}, [⟨3, .nil⟩]))
    else ({ texts := r.texts ++ [ahead], lits := if n = 0 then r.lits ++ [[]] else r.lits, long := r.long + (cutCR r.now).length, wide := r.wide + n, now := [], want := n, lit := r.lit, literal := decide (0 < n), skip := r.skip, line := r.line },
      if plus then [] else [⟨2, .nil⟩])
/-- one byte -/
def feedM (most : Int) (r : Rd) (c : Nat) : Rd × List Got :=
  if r.skip > 0 then ({ r with skip := r.skip - 1 }, [])
  else if r.literal then (if r.want ≤ 1 then ({ r with want := 0, lits := r.lits ++ [r.lit ++ [c]], lit := [], literal := false }, []) else ({ r with want := r.want - 1, lit := r.lit ++ [c] }, []))
  else if r.line then ({ r with line := decide (c ≠ 10) }, [])
  else if c = 10 then endM most r
  else if r.long + (r.now.length + 1) > 4096 ∧ (c ≠ 13 ∨ r.long + (r.now.length + 1) > 4097) then ({ line := true }, [⟨3, .nil⟩])
  else ({ r with now := r.now ++ [c] }, [])
def feedsM (most : Int) : Rd → List Nat → Rd × List Got
  | r, [] => (r, [])
  | r, c :: b => ((feedsM most (feedM most r c).1 b).1, (feedM most r c).2 ++ (feedsM most (feedM most r c).1 b).2)
theorem feedsM_append (most : Int) : ∀ (r : Rd) (a b : List Nat), feedsM most r (a ++ b) = ((feedsM most (feedsM most r a).1 b).1, (feedsM most r a).2 ++ (feedsM most (feedsM most r a).1 b).2)
  | r, [], b => by simp [feedsM]
  | r, c :: a, b => by simp [feedsM, feedsM_append most _ a b]
end Go.Ln

noncomputable section
namespace Go.Proofs.Ytgnfkfmhjgbhhaa
open Go Go.Proofs Go.Vm Go.Ln
set_option linter.unusedVariables false
set_option maxRecDepth 100000
set_option linter.unusedSimpArgs false
def txs (l : List (List Nat)) : List V := l.map V.str
theorem txs_length (l : List (List Nat)) : (txs l).length = l.length := by simp [txs]
theorem txs_get (l : List (List Nat)) (k : Nat) : (txs l)[k]? = (l[k]?).map V.str := by simp [txs]
theorem txs_append (l m : List (List Nat)) : txs (l ++ m) = txs l ++ txs m := by simp [txs]
/-- the parser, at i, and what is left -/
structure PSt (b : Nat) (texts lits : List (List Nat)) (h : Hp) (i : Pos) (st : St) : Prop where
  ge : b ≤ i.nat
  lt : i.nat < h.next.nat
  is : ∃ (vt vl : V) (piece pos : Nat) (t : List Nat), h.get i = some (.cells true [vt, vl, .int .i64 (piece : Int), .int .i64 (pos : Int)]) ∧
    Sl b h 1 vt texts.length (txs texts) ∧ Sl b h 1 vl lits.length (txs lits) ∧ texts.length = lits.length + 1 ∧ texts[piece]? = some t ∧ pos ≤ t.length ∧
    st.cur = t.drop pos ∧ st.rest = (lits.drop piece).zip (texts.drop (piece + 1))
  small : texts.length < 1000000000 ∧ ∀ t ∈ texts, t.length < 1000000000 ∧ ∀ c ∈ t, c < 256
theorem rest_ok {b : Nat} {texts lits : List (List Nat)} {h : Hp} {i : Pos} {st : St} (p : PSt b texts lits h i st) : TryF37 [.ptr i 0] h = .ok (.str st.cur) h := by
  obtain ⟨vt, vl, piece, pos, t, hg, ht, hl, hn, hp, hpos, hc, hr⟩ := p.is
  have hpl : piece < texts.length := (List.getElem?_eq_some_iff.1 hp).1
  obtain ⟨j, q, x, hx, e1, -, e2⟩ := ht.at1 hpl
  rw [txs_get, hp] at hx
  cases hx
  have L0 : oLoad1 (.ptr i 0) h = .ok vt h := ld_get hg 0
  have L2 : oLoad1 (.ptr i 2) h = .ok (.int .i64 (piece : Int)) h := ld_get hg 2
  have L3 : oLoad1 (.ptr i 3) h = .ok (.int .i64 (pos : Int)) h := ld_get hg 3
  rw [TryF37_eq]
  simp only [seqO_eq, thenO_nor, gtO_some, bndO_ok, get_set_of, reduceCtorEq, ↓reduceIte, oFieldAddr_eq, bumpH_zero, oNilCheck_ptr, Nat.zero_add, bumpH_zero, Tryd37, Tryr37_0, Tryr37_1, L0, L2, L3, e1, e2 h rfl, oSliceStr_from hpos, outR, resK, tupR, hc]
theorem lit_ok {b : Nat} {texts lits : List (List Nat)} {h : Hp} {i : Pos} {st : St} (p : PSt b texts lits h i st) : TryF48 [.ptr i 0] h = .ok (.bool (decide (st.cur = [] ∧ st.rest ≠ []))) h := by
  have e := rest_ok p
  obtain ⟨vt, vl, piece, pos, t, hg, ht, hl, hn, hp, hpos, hc, hr⟩ := p.is
  have L1 : oLoad1 (.ptr i 1) h = .ok vl h := ld_get hg 1
  have L2 : oLoad1 (.ptr i 2) h = .ok (.int .i64 (piece : Int)) h := ld_get hg 2
  have hz : st.rest ≠ [] ↔ (piece : Int) < (lits.length : Int) := by
    rw [hr, ← List.length_pos_iff, List.length_zip, List.length_drop, List.length_drop]
    omega
  rw [TryF48_eq]
  by_cases h0 : st.cur = []
  · simp only [seqO_eq, thenO_nor, gtO_some, bndO_ok, get_set_of, ifB_true, reduceCtorEq, ↓reduceIte, oBin_lss, oFieldAddr_eq, bumpH_zero, oBin_str_eql, oNilCheck_ptr, Nat.zero_add, bumpH_zero, decide_true, Tryd48, Tryr48_0, Tryr48_1, e, h0, L1, L2, hl.length, outR, resK, tupR, hz, true_and, decide_true]
  · simp only [seqO_eq, thenO_nor, gtO_some, bndO_ok, get_set_of, ifB_false, reduceCtorEq, ↓reduceIte, oBin_lss, oFieldAddr_eq, bumpH_zero, oBin_str_eql, oNilCheck_ptr, Nat.zero_add, bumpH_zero, decide_false, Tryd48, Tryr48_0, Tryr48_1, e, h0, L1, L2, hl.length, outR, resK, tupR, hz, false_and, decide_false]
/-- on by some bytes -/
theorem PSt.go {b : Nat} {texts lits : List (List Nat)} {h : Hp} {i : Pos} {st : St} (p : PSt b texts lits h i st) (k : Nat) (hk : k ≤ st.cur.length) :
    ∃ (at0 : Int) (h' : Hp), oLoad1 (.ptr i 3) h = .ok (.int .i64 at0) h ∧ 0 ≤ at0 ∧ at0 + k < 1000000000 ∧ oStore 1 (.ptr i 3) (.int .i64 (at0 + k)) h = .ok V.undef h' ∧ PSt b texts lits h' i { st with cur := st.cur.drop k } ∧ Ch (fun j => j = i) h h' ∧ h'.next = h.next := by
  obtain ⟨vt, vl, piece, pos, t, hg, ht, hl, hn, hp, hpos, hc, hr⟩ := p.is
  have hm : t.length < 1000000000 := (p.small.2 t (List.mem_of_getElem? hp)).1
  have hkl : pos + k ≤ t.length := by rw [hc, List.length_drop] at hk; omega
  have c : Ch (fun j => j = i) h (h.put i (some (.cells true [vt, vl, .int .i64 (piece : Int), .int .i64 ((pos : Int) + k)]))) := Ch.put h _ rfl
  have hb : b ≤ h.next.nat := Nat.le_trans p.ge (Nat.le_of_lt p.lt)
  refine ⟨pos, _, ld_get hg 3, by omega, by omega, st_get hg ⟨rfl, rfl⟩ (by simp), ⟨p.ge, p.lt, ⟨vt, vl, piece, pos + k, t, ?_, ht.ch c hb ?_, hl.ch c hb ?_, hn, hp, hkl, ?_, hr⟩, p.small⟩, c, rfl⟩
  · exact put_self _ _ _
  · rintro j hj rfl; have := ht.idlt hj; have := p.ge; omega
  · rintro j hj rfl; have := hl.idlt hj; have := p.ge; omega
  · show st.cur.drop k = _; rw [hc, List.drop_drop]
theorem PSt.ch {b : Nat} {texts lits : List (List Nat)} {h h' : Hp} {i : Pos} {st : St} {S : Pos → Prop} (p : PSt b texts lits h i st) (c : Ch S h h') (hs : ∀ j : Pos, S j → i.nat < j.nat) : PSt b texts lits h' i st := by
  obtain ⟨vt, vl, piece, pos, t, hg, ht, hl, hn, hp, hpos, hc, hr⟩ := p.is
  have hb : b ≤ h.next.nat := Nat.le_trans p.ge (Nat.le_of_lt p.lt)
  refine ⟨p.ge, Nat.lt_of_lt_of_le p.lt c.next, ⟨vt, vl, piece, pos, t, ?_, ht.ch c hb ?_, hl.ch c hb ?_, hn, hp, hpos, hc, hr⟩, p.small⟩
  · rw [c.get i p.lt fun q => by have := hs i q; omega]; exact hg
  · intro j hj q; have := ht.idlt hj; have := p.ge; have := hs j q; omega
  · intro j hj q; have := hl.idlt hj; have := p.ge; have := hs j q; omega
theorem PSt.cur_small {b : Nat} {texts lits : List (List Nat)} {h : Hp} {i : Pos} {st : St} (p : PSt b texts lits h i st) : st.cur.length < 1000000000 ∧ ∀ c ∈ st.cur, c < 256 := by
  obtain ⟨vt, vl, piece, pos, t, hg, ht, hl, hn, hp, hpos, hc, hr⟩ := p.is
  have := p.small.2 t (List.mem_of_getElem? hp)
  rw [hc]
  exact ⟨by rw [List.length_drop]; omega, fun c h => this.2 c (List.mem_of_mem_drop h)⟩
theorem next_ok {b : Nat} {texts lits : List (List Nat)} {h : Hp} {i : Pos} {st : St} (p : PSt b texts lits h i st) (c : Nat) :
    (nextM c st = none ∧ TryF45 [.ptr i 0, .int .u8 (c : Int)] h = .ok (.bool false) h) ∨
    ∃ st' h', nextM c st = some st' ∧ TryF45 [.ptr i 0, .int .u8 (c : Int)] h = .ok (.bool true) h' ∧ PSt b texts lits h' i st' ∧ Ch (fun j => j = i) h h' ∧ h'.next = h.next := by
  have e := rest_ok p
  rw [TryF45_eq]
  cases hc : st.cur with
  | nil =>
    refine .inl ⟨by unfold nextM; rw [hc], ?_⟩
    rw [hc] at e
    simp only [seqO_eq, thenO_nor, thenO_ret, gtO_some, bndO_ok, get_set_of, cndX_tmp, ifB_true, Nat.reduceEqDiff, Nat.zero_ne_one, reduceCtorEq, ↓reduceIte, oBin_str_eql, decide_true, Tryd45, Tryr45_0, Tryr45_1, Tryr45_2, Tryr45_3, e, outR, resK, tupR, decide_true]
  | cons d l =>
    rw [hc] at e
    have hne : ¬ (d :: l = ([] : List Nat)) := by simp
    by_cases hd : d = c
    · subst hd
      obtain ⟨a, h', l1, l2, l3, l4, l5, l6, l7⟩ := p.go 1 (by rw [hc]; simp)
      refine .inr ⟨{ st with cur := l }, h', by unfold nextM; rw [hc]; simp only [↓reduceIte], ?_, by rw [hc] at l5; exact l5, l6, l7⟩
      simp (disch := omega) only [seqO_eq, thenO_nor, gtO_some, bndO_ok, get_set_of, cndX_tmp, ifB_false, Nat.reduceEqDiff, Nat.zero_ne_one, reduceCtorEq, ↓reduceIte, oBin_add, oBin_neq, oFieldAddr_eq, oBin_str_eql, oNilCheck_ptr, Nat.zero_add, decide_false, ne_eq, not_true, Tryd45, Tryr45_0, Tryr45_1, Tryr45_2, Tryr45_3, Tryr45_4, Tryr45_5, e, hne, oIdxStr_lit0 (s := d :: l) (a := d) rfl, outR, resK, tupR, decide_false, ne_eq, not_true, l1, show (a + 1 : Int) = a + (1 : Nat) from rfl, l4]
    · have hd' : ¬ (d : Int) = (c : Int) := by omega
      refine .inl ⟨by unfold nextM; rw [hc]; simp only [hd, ↓reduceIte], ?_⟩
      simp (disch := omega) only [seqO_eq, thenO_nor, thenO_ret, gtO_some, bndO_ok, get_set_of, cndX_tmp, ifB_true, ifB_false, Nat.reduceEqDiff, Nat.zero_ne_one, reduceCtorEq, ↓reduceIte, oBin_neq, oBin_str_eql, decide_true, decide_false, ne_eq, not_false_eq_true, Tryd45, Tryr45_0, Tryr45_1, Tryr45_2, Tryr45_3, e, hne, oIdxStr_lit0 (s := d :: l) (a := d) rfl, outR, resK, tupR, decide_true, decide_false, ne_eq, hd', not_false_eq_true]
end Go.Proofs.Ytgnfkfmhjgbhhaa

noncomputable section
namespace Go.Proofs.Ytgnfkfmhjgbhhaa
open Go Go.Proofs Go.Vm Go.Ln
set_option linter.unusedVariables false
set_option maxRecDepth 100000
set_option linter.unusedSimpArgs false
def two (x y : V) : V := .tuple (.cons x (.cons y .nil))
def QuotedQ (b : Nat) (texts lits : List (List Nat)) (h : Hp) (i : Pos) (st : St) (r : V) (h' : Hp) : Prop :=
  Ch (fun j => j = i) h h' ∧ ((quotedM st.cur = none ∧ r = two (.str []) (.bool false)) ∨ ∃ t s, quotedM st.cur = some (t, s) ∧ r = two (.str t) (.bool true) ∧ PSt b texts lits h' i { st with cur := s })
theorem quotedM_quote (s : List Nat) : quotedM (34 :: s) = some ([], s) := by unfold quotedM; rfl
theorem quotedM_cr (s : List Nat) : quotedM (13 :: s) = none := by unfold quotedM; rfl
theorem quotedM_esc (d : Nat) (s : List Nat) (hd : d = 34 ∨ d = 92) : quotedM (92 :: d :: s) = (quotedM s).map fun p => (d :: p.1, p.2) := by
  rw [quotedM]
  simp only [hd, if_true]
  cases quotedM s with
  | none => rfl
  | some p => rfl
theorem quotedM_esc1 : quotedM [92] = none := by unfold quotedM; rfl
theorem quotedM_esc2 (d : Nat) (s : List Nat) (hd : ¬ (d = 34 ∨ d = 92)) : quotedM (92 :: d :: s) = none := by
  rw [quotedM]
  simp [hd]
theorem quotedM_more (c : Nat) (s : List Nat) (h1 : c ≠ 34) (h2 : c ≠ 13) (h3 : c ≠ 92) : quotedM (c :: s) = (quotedM s).map fun p => (c :: p.1, p.2) := by
  rw [quotedM.eq_def]
  simp only [h1, h2, h3, if_false]
  cases quotedM s with
  | none => rfl
  | some p => rfl
theorem quoted_ok {b : Nat} {texts lits : List (List Nat)} {h : Hp} {i : Pos} {st : St} (p : PSt b texts lits h i st) : ∃ r h', TryF49 [.ptr i 0] h = .ok r h' ∧ QuotedQ b texts lits h i st r h' := by
  have e := rest_ok p
  have hcs := p.cur_small
  rw [TryF49_eq]
  show Tells Try.prog _ (QuotedQ b texts lits h i st) _
  simp only [seqO_eq, thenO_nor, gtO_some, bndO_ok, get_set_of, blkO_eq, reduceCtorEq, ↓reduceIte, Tryd49, Tryr49_0, Tryr49_1, Tryr49_2, e]
  refine Oc.then (loop_rule (n := st.cur.length) (fun m fr g => ∃ vb bs cur, fr.get (Pos.of 0) = some (.ptr i 0) ∧ fr.get (Pos.of 4) = some vb ∧ fr.get (Pos.of 5) = some (.str cur) ∧ cur.length = m ∧
      Own 0 g 1 vb bs.length (bys bs) ∧ (∀ j, idOf vb = some j → h.next.nat ≤ j.nat) ∧ PSt b texts lits g i { st with cur := cur } ∧ Ch (fun j => j = i) h g ∧ (∀ c ∈ bs, c < 256) ∧ bs.length + cur.length ≤ st.cur.length ∧
      quotedM st.cur = (quotedM cur).map fun p => (bs ++ p.1, p.2))
    (A := fun fr g => quotedM st.cur = none ∧ Ch (fun j => j = i) h g) (B := fun fr g => ∃ x y, fr.get (Pos.of 2) = some x ∧ fr.get (Pos.of 3) = some y ∧ QuotedQ b texts lits h i st (two x y) g) (by rw [lf_eq]; omega) ?_ ?_) ?_ ?_
  · exact ⟨.nils, [], st.cur, by simp only [get_set_of, reduceCtorEq, ↓reduceIte], by simp only [get_set_of, Nat.reduceEqDiff, ↓reduceIte], by simp only [get_set_of, ↓reduceIte], rfl, Own.nil _ _ _, fun j hj => (by cases hj), p, Ch.refl _ _, fun c hc => (by cases hc), by simp, by cases quotedM st.cur <;> rfl⟩
  · rintro m fr g ⟨vb, bs, cur, f0, f4, f5, rfl, ob, idb, pg, chg, hbs, hbl, hq⟩
    have curs := pg.cur_small
    cases hcur : cur with
    | nil =>
      rw [hcur] at f5 hq
      simp (disch := omega) only [seqO_eq, thenO_nor, thenO_ex, gtO_some, bndO_ok, get_set_of, cndX_tmp, ifB_false, ↓reduceIte, oBin_str_neq, decide_false, ne_eq, not_true, Tryb49_3, Tryr49_3, f5, ne_eq, not_true, decide_false]
      exact ⟨rfl, hq, chg⟩
    | cons c l =>
      subst hcur
      have hne : ¬ (c :: l = ([] : List Nat)) := by simp
      have hc256 : c < 256 := curs.2 c (by simp)
      obtain ⟨a, g1, l1, l2, l3, l4, p1, c1, n1⟩ := pg.go 1 (by simp)
      have ch1 := chg.trans c1 fun j _ q => q
      have ob1 : Own 0 g1 1 vb bs.length (bys bs) := ob.ch c1 fun j hj q => by have := idb j hj; have := p.lt; subst q; omega
      replace p1 : PSt b texts lits g1 i { st with cur := l } := p1
      have l4' : oStore 1 (.ptr i 3) (.int .i64 (a + 1)) g = .ok V.undef g1 := l4
      have hlen : bs.length + (l.length + 1) ≤ st.cur.length := hbl
      by_cases hc1 : c = 34
      · subst hc1
        rw [quotedM_quote] at hq
        have ix : ∀ h, oIdxStr (.str (34 :: l)) (.int .i64 0) h = .ok (.int .u8 34) h := fun h => oIdxStr_lit0 rfl
        simp (disch := omega) only [seqO_eq, thenO_nor, thenO_ret, gtO_some, bndO_ok, get_set_of, cndX_tmp, ifB_true, blkO_eq, blkX_ret, Nat.reduceEqDiff, reduceCtorEq, ↓reduceIte, oBin_add, oBin_eql, oFieldAddr_eq, oBin_str_neq, oNilCheck_ptr, Nat.zero_add, decide_true, ne_eq, not_false_eq_true, Tryb49_3, Tryr49_3, Tryr49_5, Tryr49_6, Tryr49_8, Tryr49_9, f0, f4, f5, hne, ne_eq, not_false_eq_true, decide_true, ix, l1, l4', oBytesStr_ok ob1.sl hbs fun _ _ => rfl]
        refine ⟨.str bs, .bool true, ?_, ?_, ch1, .inr ⟨bs, l, ?_, rfl, p1⟩⟩
        · simp only [get_set_of, Nat.reduceEqDiff, ↓reduceIte]
        · simp only [get_set_of, ↓reduceIte]
        · rw [hq]; simp
      · have hc1' : ¬ (c : Int) = 34 := by omega
        by_cases hc2 : c = 13
        · subst hc2
          rw [quotedM_cr] at hq
          have ix : ∀ h, oIdxStr (.str (13 :: l)) (.int .i64 0) h = .ok (.int .u8 13) h := fun h => oIdxStr_lit0 rfl
          simp (disch := omega) only [seqO_eq, thenO_nor, thenO_ret, gtO_some, bndO_ok, get_set_of, cndX_tmp, ifB_true, ifB_false, blkO_eq, blkX_ret, Nat.reduceEqDiff, reduceCtorEq, ↓reduceIte, oBin_add, oBin_eql, oFieldAddr_eq, oBin_str_neq, oNilCheck_ptr, Nat.zero_add, decide_true, decide_false, ne_eq, not_false_eq_true, Tryb49_3, Tryr49_3, Tryr49_5, Tryr49_6, Tryr49_8, Tryr49_10, Tryr49_11, f0, f5, hne, ne_eq, not_false_eq_true, decide_true, ix, l1, l4', show ¬ (13 : Int) = 34 by omega]
          refine ⟨.str [], .bool false, ?_, ?_, ch1, .inl ⟨hq, rfl⟩⟩
          · simp only [get_set_of, Nat.reduceEqDiff, ↓reduceIte]
          · simp only [get_set_of, ↓reduceIte]
        · have hc2' : ¬ (c : Int) = 13 := by omega
          by_cases hc3 : c = 92
          · subst hc3
            cases l with
            | nil =>
              rw [quotedM_esc1] at hq
              have ix : ∀ h, oIdxStr (.str [92]) (.int .i64 0) h = .ok (.int .u8 92) h := fun h => oIdxStr_lit0 rfl
              simp (disch := omega) only [seqO_eq, thenO_nor, thenO_ret, gtO_some, bndO_ok, get_set_of, cndX_tmp, ifB_true, ifB_false, ifB_pos, blkO_eq, blkX_ret, Nat.reduceEqDiff, reduceCtorEq, ↓reduceIte, oBin_add, oBin_eql, oBin_lss, oFieldAddr_eq, oBin_str_neq, oLenK_str, oNilCheck_ptr, Nat.zero_add, decide_true, decide_false, ne_eq, not_false_eq_true, Tryb49_3, Tryr49_3, Tryr49_5, Tryr49_6, Tryr49_8, Tryr49_10, Tryr49_12, Tryr49_13, Tryr49_14, f0, f5, hne, ne_eq, not_false_eq_true, decide_true, ix, l1, l4', show ¬ (92 : Int) = 34 by omega, show ¬ (92 : Int) = 13 by omega, List.length_cons, List.length_nil, Nat.zero_add, Int.natCast_one]
              refine ⟨.str [], .bool false, ?_, ?_, ch1, .inl ⟨hq, rfl⟩⟩
              · simp only [get_set_of, Nat.reduceEqDiff, ↓reduceIte]
              · simp only [get_set_of, ↓reduceIte]
            | cons d l =>
              have hd256 : d < 256 := curs.2 d (by simp)
              have ix : ∀ h, oIdxStr (.str (92 :: d :: l)) (.int .i64 0) h = .ok (.int .u8 92) h := fun h => oIdxStr_lit0 rfl
              have ix1 : ∀ h, oIdxStr (.str (92 :: d :: l)) (.int .i64 1) h = .ok (.int .u8 (d : Int)) h := fun h => oIdxStr_lit1 rfl
              have hl2 : ¬ ((92 :: d :: l).length : Int) < 2 := by simp only [List.length_cons]; omega
              by_cases hd : d = 34 ∨ d = 92
              · rw [quotedM_esc d l hd] at hq
                obtain ⟨vb', g2, a1, a2, a3, a4, a5⟩ := app1_ok (bt := 1) (new := [V.int .u8 (d : Int)]) ob1 rfl (by omega)
                have p2 := p1.ch a4 fun j hj => by have := idb j hj; have := p.lt; omega
                obtain ⟨a', g3, m1, m2, m3, m4, p3, c3, n3⟩ := p2.go 1 (by simp)
                replace p3 : PSt b texts lits g3 i { st with cur := l } := p3
                have m4' : oStore 1 (.ptr i 3) (.int .i64 (a' + 1)) g2 = .ok V.undef g3 := m4
                have hlast : ∀ x : Bool, oBin .neq .none (.int .u8 (d : Int)) (.int .u8 34) g1 = .ok (.bool x) g1 → True := fun _ _ => trivial
                have hd' : (¬ (d : Int) = 34) → (d : Int) = 92 := by omega
                have a3' : Own 0 g3 1 vb' (bs.length + 1) (bys bs ++ [V.int .u8 (d : Int)]) := a3.ch c3 fun j hj q => by rw [a2] at hj; cases hj; have hqq : g1.next.succ.nat = i.nat := (congrArg Pos.nat q); rw [Pos.nat_succ] at hqq; have := ch1.next; have := p.lt; omega
                by_cases h34 : (d : Int) = 34
                · simp (disch := omega) only [seqO_eq, thenO_nor, gtO_some, bndO_ok, get_set_of, cndX_tmp, ifB_true, ifB_false, blkO_eq, blkX_nor, Nat.reduceEqDiff, reduceCtorEq, ↓reduceIte, oBin_add, oBin_eql, oBin_neq, oBin_lss, oFieldAddr_eq, oBuildSlice_1, oBin_str_neq, oLenK_str, oNilCheck_ptr, Nat.zero_add, decide_true, decide_false, ne_eq, not_true, not_false_eq_true, Tryb49_3, Tryr49_3, Tryr49_5, Tryr49_6, Tryr49_8, Tryr49_10, Tryr49_12, Tryr49_13, Tryr49_15, Tryr49_16, Tryr49_4, f0, f4, f5, hne, ne_eq, not_true, not_false_eq_true, decide_true, decide_false, ix, ix1, hl2, eq_true h34, l1, l4', show ¬ (92 : Int) = 34 by omega, show ¬ (92 : Int) = 13 by omega, a1, m1, m4', rest_ok p3]
                  refine ⟨l.length, by simp only [List.length_cons]; omega, vb', bs ++ [d], l, ?_, ?_, ?_, rfl, by rw [bys_append, List.length_append]; exact a3', fun j hj => ?_, p3, ?_, ?_, ?_, ?_⟩
                  · simp only [get_set_of, reduceCtorEq, ↓reduceIte, f0]
                  · simp only [get_set_of, Nat.reduceEqDiff, ↓reduceIte]
                  · simp only [get_set_of, ↓reduceIte]
                  · rw [a2] at hj; cases hj; rw [Pos.nat_succ]; have := ch1.next; omega
                  · exact (ch1.trans a4 fun j hj q => by have := idb j q; omega).trans c3 fun j _ q => q
                  · intro y hy; rcases List.mem_append.1 hy with hy | hy
                    · exact hbs y hy
                    · rw [List.mem_singleton.1 hy]; exact hd256
                  · simp only [List.length_append, List.length_cons, List.length_nil] at hbl ⊢; omega
                  · rw [hq]; cases quotedM l <;> simp
                · simp (disch := omega) only [seqO_eq, thenO_nor, gtO_some, bndO_ok, get_set_of, cndX_tmp, ifB_true, ifB_false, blkO_eq, blkX_nor, Nat.reduceEqDiff, reduceCtorEq, ↓reduceIte, oBin_add, oBin_eql, oBin_neq, oBin_lss, oFieldAddr_eq, oBuildSlice_1, oBin_str_neq, oLenK_str, oNilCheck_ptr, Nat.zero_add, decide_true, decide_false, ne_eq, not_true, not_false_eq_true, Tryb49_3, Tryr49_3, Tryr49_5, Tryr49_6, Tryr49_8, Tryr49_10, Tryr49_12, Tryr49_13, Tryr49_15, Tryr49_16, Tryr49_4, f0, f4, f5, hne, ne_eq, not_true, not_false_eq_true, decide_true, decide_false, ix, ix1, hl2, h34, eq_true (hd' h34), l1, l4', show ¬ (92 : Int) = 34 by omega, show ¬ (92 : Int) = 13 by omega, a1, m1, m4', rest_ok p3]
                  refine ⟨l.length, by simp only [List.length_cons]; omega, vb', bs ++ [d], l, ?_, ?_, ?_, rfl, by rw [bys_append, List.length_append]; exact a3', fun j hj => ?_, p3, ?_, ?_, ?_, ?_⟩
                  · simp only [get_set_of, reduceCtorEq, ↓reduceIte, f0]
                  · simp only [get_set_of, Nat.reduceEqDiff, ↓reduceIte]
                  · simp only [get_set_of, ↓reduceIte]
                  · rw [a2] at hj; cases hj; rw [Pos.nat_succ]; have := ch1.next; omega
                  · exact (ch1.trans a4 fun j hj q => by have := idb j q; omega).trans c3 fun j _ q => q
                  · intro y hy; rcases List.mem_append.1 hy with hy | hy
                    · exact hbs y hy
                    · rw [List.mem_singleton.1 hy]; exact hd256
                  · simp only [List.length_append, List.length_cons, List.length_nil] at hbl ⊢; omega
                  · rw [hq]; cases quotedM l <;> simp
              · rw [quotedM_esc2 d l hd] at hq
                have h34 : ¬ (d : Int) = 34 := by omega
                have h92 : ¬ (d : Int) = 92 := by omega
                simp (disch := omega) only [seqO_eq, thenO_nor, thenO_ret, gtO_some, bndO_ok, get_set_of, cndX_tmp, ifB_true, ifB_false, blkO_eq, blkX_ret, Nat.reduceEqDiff, reduceCtorEq, ↓reduceIte, oBin_add, oBin_eql, oBin_neq, oBin_lss, oFieldAddr_eq, oBin_str_neq, oLenK_str, oNilCheck_ptr, Nat.zero_add, decide_true, decide_false, ne_eq, not_false_eq_true, Tryb49_3, Tryr49_3, Tryr49_5, Tryr49_6, Tryr49_8, Tryr49_10, Tryr49_12, Tryr49_13, Tryr49_14, f0, f5, hne, ne_eq, not_false_eq_true, decide_true, decide_false, ix, ix1, hl2, h34, h92, l1, l4', show ¬ (92 : Int) = 34 by omega, show ¬ (92 : Int) = 13 by omega]
                refine ⟨.str [], .bool false, ?_, ?_, ch1, .inl ⟨hq, rfl⟩⟩
                · simp only [get_set_of, Nat.reduceEqDiff, ↓reduceIte]
                · simp only [get_set_of, ↓reduceIte]
          · have hc3' : ¬ (c : Int) = 92 := by omega
            rw [quotedM_more c l hc1 hc2 hc3] at hq
            obtain ⟨vb', g2, a1, a2, a3, a4, a5⟩ := app1_ok (bt := 1) (new := [V.int .u8 (c : Int)]) ob1 rfl (by omega)
            have p2 := p1.ch a4 fun j hj => by have := idb j hj; have := p.lt; omega
            have p2' := p2
            simp (disch := omega) only [seqO_eq, thenO_nor, gtO_some, bndO_ok, get_set_of, cndX_tmp, ifB_true, ifB_false, blkO_eq, blkX_nor, Nat.reduceEqDiff, reduceCtorEq, ↓reduceIte, oBin_add, oBin_eql, oFieldAddr_eq, oBuildSlice_1, oBin_str_neq, oNilCheck_ptr, Nat.zero_add, decide_true, decide_false, ne_eq, not_false_eq_true, Tryb49_3, Tryr49_3, Tryr49_5, Tryr49_6, Tryr49_8, Tryr49_10, Tryr49_12, Tryr49_7, Tryr49_4, f0, f4, f5, hne, ne_eq, not_false_eq_true, decide_true, oIdxStr_lit0 (s := c :: l) (a := c) rfl, l1, l4', hc1', hc2', hc3', a1, rest_ok p2]
            refine ⟨l.length, by simp, vb', bs ++ [c], l, ?_, ?_, ?_, rfl, by rw [bys_append, List.length_append]; exact a3, fun j hj => ?_, p2', (ch1.trans a4 fun j hj q => by have := idb j q; omega), ?_, ?_, ?_⟩
            · simp only [get_set_of, reduceCtorEq, ↓reduceIte, f0]
            · simp only [get_set_of, Nat.reduceEqDiff, ↓reduceIte]
            · simp only [get_set_of, ↓reduceIte]
            · rw [a2] at hj; cases hj; rw [Pos.nat_succ]; have := ch1.next;  omega
            · intro y hy; rcases List.mem_append.1 hy with hy | hy
              · exact hbs y hy
              · rw [List.mem_singleton.1 hy]; exact hc256
            · simp only [List.length_append, List.length_cons, List.length_nil] at hbl ⊢; omega
            · rw [hq]; cases quotedM l <;> simp
  · rintro fr g ⟨hq, chg⟩
    simp only [seqO_eq, thenO_nor, Tryr49_17]
    exact Tells.ret (by simp only [resK, get_set_of, Nat.reduceEqDiff, ↓reduceIte, tupR]; rfl) ⟨chg, .inl ⟨hq, rfl⟩⟩
  · rintro fr g ⟨x, y, f2, f3, hQ⟩
    exact Tells.ret (by simp only [resK, f2, f3, tupR]; rfl) hQ
end Go.Proofs.Ytgnfkfmhjgbhhaa

noncomputable section
namespace Go.Ln
open Go Go.Vm
set_option linter.unusedVariables false
def Wds.app : Wds → Wds → Wds
  | .nil, b => b
  | .cons k t ks r, b => .cons k t ks (r.app b)
theorem Wds.app_nil : ∀ a : Wds, a.app .nil = a
  | .nil => rfl
  | .cons k t ks r => by rw [Wds.app, Wds.app_nil r]
theorem Wds.app_assoc : ∀ a b c : Wds, (a.app b).app c = a.app (b.app c)
  | .nil, b, c => rfl
  | .cons k t ks r, b, c => by rw [Wds.app, Wds.app, Wds.app, Wds.app_assoc r]
theorem Wds.len_app : ∀ a b : Wds, (a.app b).len = a.len + b.len
  | .nil, b => by simp [Wds.app, Wds.len]
  | .cons k t ks r, b => by rw [Wds.app, Wds.len, Wds.len, Wds.len_app r]; omega
/-- the cells of a row of words -/
def WAt (P : Pos → Prop) (h : Hp) : Wds → List V → Prop
  | .nil, cs => cs = []
  | .cons k t ks r, cs => ∃ vk ck cr, cs = [.int .i64 k, .str t, vk] ++ cr ∧ Own 0 h 3 vk ks.len ck ∧ (∀ j, idOf vk = some j → P j) ∧ WAt P h ks ck ∧ WAt P h r cr
def WRow (P : Pos → Prop) (h : Hp) (v : V) (ws : Wds) : Prop := ∃ cs, Own 0 h 3 v ws.len cs ∧ (∀ j, idOf v = some j → P j) ∧ WAt P h ws cs
theorem WAt.ch {P P' S : Pos → Prop} {h h' : Hp} (c : Ch S h h') (hs : ∀ j : Pos, j.nat < h.next.nat → P j → P' j ∧ ¬ S j) : ∀ {ws : Wds} {cs : List V}, WAt P h ws cs → WAt P' h' ws cs
  | .nil, _, w => w
  | .cons k t ks r, _, ⟨vk, ck, cr, e, o, p, a, b⟩ => ⟨vk, ck, cr, e, o.ch c fun j hj => (hs j (o.idlt hj).2 (p j hj)).2, fun j hj => (hs j (o.idlt hj).2 (p j hj)).1, WAt.ch c hs a, WAt.ch c hs b⟩
theorem WRow.ch {P P' S : Pos → Prop} {h h' : Hp} {v : V} {ws : Wds} (w : WRow P h v ws) (c : Ch S h h') (hs : ∀ j : Pos, j.nat < h.next.nat → P j → P' j ∧ ¬ S j) : WRow P' h' v ws := by
  obtain ⟨cs, o, p, a⟩ := w
  exact ⟨cs, o.ch c fun j hj => (hs j (o.idlt hj).2 (p j hj)).2, fun j hj => (hs j (o.idlt hj).2 (p j hj)).1, a.ch c hs⟩
theorem WRow.nil (P : Pos → Prop) (h : Hp) : WRow P h .nils .nil := ⟨[], Own.nil _ _ _, fun j hj => (by cases hj), rfl⟩
theorem WAt.app {P : Pos → Prop} {h : Hp} {b : Wds} {cb : List V} (hb : WAt P h b cb) : ∀ {a : Wds} {ca : List V}, WAt P h a ca → WAt P h (a.app b) (ca ++ cb)
  | .nil, _, w => by rw [show _ = ([] : List V) from w]; exact hb
  | .cons k t ks r, _, ⟨vk, ck, cr, e, o, p, x, y⟩ => ⟨vk, ck, cr ++ cb, by rw [e, List.append_assoc], o, p, x, WAt.app hb y⟩
/-! sizes -/
theorem nextM_size {c : Nat} {st st' : St} (e : nextM c st = some st') : St.size st' + 1 = St.size st := by
  unfold nextM at e
  split at e
  · cases e
  · rename_i d l hc
    split at e
    · cases e; simp only [St.size, hc, List.length_cons]; omega
    · cases e
theorem quotedM_size : ∀ {n : Nat} {s t r : List Nat}, s.length ≤ n → quotedM s = some (t, r) → r.length < s.length
  | 0, s, t, r, hn, e => by
    have : s = [] := List.length_eq_zero_iff.1 (by omega)
    subst this
    unfold quotedM at e; cases e
  | n + 1, [], t, r, hn, e => by unfold quotedM at e; cases e
  | n + 1, c :: s, t, r, hn, e => by
    have hn' : s.length ≤ n := by simpa using hn
    rw [quotedM.eq_def] at e
    simp only [] at e
    split at e
    · cases e; simp
    · split at e
      · cases e
      · split at e
        · cases s with
          | nil => cases e
          | cons d s' =>
            simp only [] at e
            split at e
            · cases hq : quotedM s' with
              | none => rw [hq] at e; cases e
              | some p => rw [hq] at e; cases e; have := quotedM_size (n := n) (by simp only [List.length_cons] at hn'; omega) hq; simp only [List.length_cons]; omega
            · cases e
        · cases hq : quotedM s with
          | none => rw [hq] at e; cases e
          | some p => rw [hq] at e; cases e; have := quotedM_size (n := n) hn' hq; simp only [List.length_cons]; omega
theorem loopW_size {word : St → Option (Wd × St)} (hw : ∀ st w st', word st = some (w, st') → St.size st' < St.size st) : ∀ {f : Nat} {st : St} {ws : Wds} {st' : St}, loopW word f st = some (ws, st') → St.size st' < St.size st
  | 0, st, ws, st', e => by cases e
  | f + 1, st, ws, st', e => by
    rw [loopW] at e
    cases h1 : word st with
    | none => rw [h1] at e; cases e
    | some p =>
      obtain ⟨w, st1⟩ := p
      rw [h1] at e
      have s1 := hw _ _ _ h1
      simp only [] at e
      cases h2 : nextM 32 st1 with
      | none => rw [h2] at e; cases e; exact s1
      | some st2 =>
        rw [h2] at e
        have s2 := nextM_size h2
        simp only [] at e
        cases h3 : loopW word f st2 with
        | none => rw [h3] at e; cases e
        | some q =>
          rw [h3] at e; cases e
          have := loopW_size hw h3
          omega
theorem wordM_size : ∀ {n : Nat} {st : St} {w : Wd} {st' : St}, wordM n st = some (w, st') → St.size st' < St.size st
  | n, ⟨[], []⟩, w, st', e => by rw [wordM] at e; cases e
  | n, ⟨[], (l, t) :: r⟩, w, st', e => by rw [wordM] at e; cases e; simp only [St.size, List.length_nil, List.map_cons, List.sum_cons]; omega
  | n, ⟨c :: s, r⟩, w, st', e => by
    rw [wordM.eq_def] at e
    simp only [] at e
    split at e
    · cases hq : quotedM s with
      | none => rw [hq] at e; cases e
      | some p => rw [hq] at e; cases e; have := quotedM_size (Nat.le_refl _) hq; simp only [St.size, List.length_cons]; omega
    · split at e
      · cases n with
        | zero => cases e
        | succ n =>
          simp only [] at e
          cases h1 : nextM 41 ⟨s, r⟩ with
          | some st1 => rw [h1] at e; cases e; have := nextM_size h1; simp only [St.size, List.length_cons] at this ⊢; omega
          | none =>
            rw [h1] at e
            simp only [] at e
            cases h2 : loopW (wordM n) (St.size ⟨s, r⟩ + 1) ⟨s, r⟩ with
            | none => rw [h2] at e; cases e
            | some q =>
              obtain ⟨ws, st1⟩ := q
              rw [h2] at e
              simp only [] at e
              have s2 := loopW_size (fun _ _ _ h => wordM_size (n := n) h) h2
              cases h3 : nextM 41 st1 with
              | none => rw [h3] at e; cases e
              | some st2 => rw [h3] at e; cases e; have := nextM_size h3; simp only [St.size, List.length_cons] at s2 this ⊢; omega
      · split at e
        · rename_i ha
          cases e
          have : ((c :: s).dropWhile atomC).length ≤ s.length := by
            rw [List.dropWhile_cons_of_pos ha]
            exact (List.dropWhile_suffix _).length_le
          simp only [St.size, List.length_cons]; omega
        · cases e
/-- more fuel does no harm -/
theorem loopW_fuel {word : St → Option (Wd × St)} (hw : ∀ st w st', word st = some (w, st') → St.size st' < St.size st) : ∀ {f g : Nat} {st : St}, St.size st < f → St.size st < g → loopW word f st = loopW word g st
  | 0, _, _, h, _ => by omega
  | _, 0, _, _, h => by omega
  | f + 1, g + 1, st, h1, h2 => by
    rw [loopW, loopW]
    cases e1 : word st with
    | none => rfl
    | some p =>
      obtain ⟨w, st1⟩ := p
      have s1 := hw _ _ _ e1
      simp only []
      cases e2 : nextM 32 st1 with
      | none => rfl
      | some st2 =>
        have s2 := nextM_size e2
        simp only []
        rw [loopW_fuel hw (f := f) (g := g) (by omega) (by omega)]
end Go.Ln
namespace Go.Vm
variable {h : Hp}
theorem oBuild_w2 (k : Int) (s : List Nat) : oBuild [.int .i64 0, .str [], .nils] [(0, 1, .int .i64 k), (1, 1, .str s)] h = .ok (.agg (.cons (.int .i64 k) (.cons (.str s) (.cons .nils .nil)))) h := (rfl)
theorem oBuild_w1 (k : Int) : oBuild [.int .i64 0, .str [], .nils] [(0, 1, .int .i64 k)] h = .ok (.agg (.cons (.int .i64 k) (.cons (.str []) (.cons .nils .nil)))) h := (rfl)
theorem oBuild_w0 : oBuild [.int .i64 0, .str [], .nils] [] h = .ok (.agg (.cons (.int .i64 0) (.cons (.str []) (.cons .nils .nil)))) h := (rfl)
theorem oNew_w : oNew [.int .i64 0, .str [], .nils] h = .ok (.ptr h.next 0) (h.new (.cells true [.int .i64 0, .str [], .nils])) := (rfl)
theorem aNew_w : aNew [.int .i64 0, .str [], .nils] = some (.cells true [.int .i64 0, .str [], .nils], fun p => .ptr p 0) := (rfl)
theorem st3_get {i : Pos} {x y z : V} {a b c : V} (hg : h.get i = some (.cells true [x, y, z])) : oStore 3 (.ptr i 0) (.agg (.cons a (.cons b (.cons c .nil)))) h = .ok V.undef (h.put i (some (.cells true [a, b, c]))) := by
  show hCells h i (fun wr cs => match wr, notTuple (.agg (.cons a (.cons b (.cons c .nil)))), Nat.beq (V.cells (.agg (.cons a (.cons b (.cons c .nil))))).length 3 with
    | true, true, true => (match putV 0 (V.cells (.agg (.cons a (.cons b (.cons c .nil))))) cs with | some cs' => R.ok V.undef (h.put i (some (.cells true cs'))) | none => .bad)
    | _, _, _ => .bad) = _
  rw [hCells_row (wr := true) (all := [x, y, z]) (by rw [hg]; rfl)]
  rfl
theorem ldN3_get {i : Pos} {wr : Bool} {a b c : V} (hg : h.get i = some (.cells wr [a, b, c])) : oLoadN 3 (.ptr i 0) h = .ok (.agg (.cons a (.cons b (.cons c .nil)))) h := by
  show hCells h i (fun _ cs => match takeV 3 (dropV 0 cs) with | some l => R.ok (V.agg (V.ofList l)) h | none => .bad) = _
  rw [hCells_row (wr := wr) (all := [a, b, c]) (by rw [hg]; rfl)]
  rfl
theorem oBuildSlice_3 (a b c : V) : oBuildSlice [.int .i64 0, .str [], .nils] 1 [(0, 3, .agg (.cons a (.cons b (.cons c .nil))))] h = .ok (.slice h.next 0 1 (.kn 1)) (h.new (.cells true [a, b, c])) := (rfl)
end Go.Vm

noncomputable section
namespace Go.Proofs.Ytgnfkfmhjgbhhaa
open Go Go.Proofs Go.Vm Go.Ln
set_option linter.unusedVariables false
set_option maxRecDepth 100000
set_option linter.unusedSimpArgs false
theorem idx_ok {c : Nat} (hc : c < 256) (s : List Nat) (h : Hp) : TryF50 [.str s, .int .u8 (c : Int)] h = .ok (.int .i64 (idxB c s)) h := by
  have e : TryF52 [.str s, .int .u8 (c : Int)] h = .ok (.int .i64 (idxB c s)) h := by
    show (match Nat.blt c 256 with | true => okInt .i64 (idxB c s) h | false => .bad) = _
    rw [show Nat.blt c 256 = true by rw [Nat.blt_eq]; exact hc]
    exact okInt_eq _ _ _
  rw [TryF50_eq]
  simp only [seqO_eq, thenO_nor, gtO_some, bndO_ok, get_set_of, Nat.reduceEqDiff, Nat.zero_ne_one, reduceCtorEq, ↓reduceIte, Tryd50, Tryr50_0, Tryr50_1, TryF51_eq, Tryd51, Tryr51_0, Tryr51_1, e, outR, resK, tupR]
theorem idxB_neg (c : Nat) : ∀ s : List Nat, idxB c s < 0 ↔ c ∉ s
  | [] => by simp [idxB]
  | d :: s => by
    have ih := idxB_neg c s
    simp only [idxB]
    cases hb : Nat.beq d c with
    | true => have := Nat.eq_of_beq_eq_true hb; subst this; simp
    | false =>
      have hd : ¬ c = d := fun e => by rw [e, Nat.beq_refl] at hb; cases hb
      simp only [List.mem_cons, not_or, hd, not_false_eq_true, true_and, ← ih]
      cases idxB c s with
      | ofNat n => simp only [Int.ofNat_eq_natCast]; omega
      | negSucc n => simp only []; omega
def wag (w : Wd) (vk : V) : V := .agg (.cons (.int .i64 w.kind) (.cons (.str w.text) (.cons vk .nil)))
def WordQ (b : Nat) (texts lits : List (List Nat)) (n : Nat) (h : Hp) (i : Pos) (st : St) (r : V) (h' : Hp) : Prop :=
  Ch (fun j => j = i) h h' ∧ ((wordM n st = none ∧ ∃ k t ks, r = two (wag ⟨k, t, .nil⟩ ks) (.bool false) ∧ notTuple ks = true ∧ ks.cells = [ks]) ∨
    ∃ w st' vk, wordM n st = some (w, st') ∧ r = two (wag w vk) (.bool true) ∧ PSt b texts lits h' i st' ∧ WRow (fun j => h.next.nat ≤ j.nat) h' vk w.kids)
def WordsQ (b : Nat) (texts lits : List (List Nat)) (n : Nat) (h : Hp) (i : Pos) (st : St) (r : V) (h' : Hp) : Prop :=
  Ch (fun j => j = i) h h' ∧ ((loopW (wordM n) (St.size st + 1) st = none ∧ r = two .nils (.bool false)) ∨
    ∃ ws st' v, loopW (wordM n) (St.size st + 1) st = some (ws, st') ∧ r = two v (.bool true) ∧ PSt b texts lits h' i st' ∧ WRow (fun j => h.next.nat ≤ j.nat) h' v ws)
def WordOk (b : Nat) (texts lits : List (List Nat)) (n : Nat) (W : Fun) (deep : Int) : Prop := ∀ h i st, PSt b texts lits h i st → St.size st < 1000000000 → ∃ r h', W [.ptr i 0, .int .i64 deep] h = .ok r h' ∧ WordQ b texts lits n h i st r h'
theorem words_ok {b : Nat} {texts lits : List (List Nat)} {n : Nat} {W : Fun} {deep : Int} (hW : WordOk b texts lits n W deep) {h : Hp} {i : Pos} {st : St} (p : PSt b texts lits h i st) (hsz : St.size st < 1000000000) :
    ∃ r h', TryF36 W [.ptr i 0, .int .i64 deep] h = .ok r h' ∧ WordsQ b texts lits n h i st r h' := by
  rw [TryF36_eq]
  show Tells Try.prog _ (WordsQ b texts lits n h i st) _
  simp only [seqO_eq, thenO_nor, blkO_eq, Tryd36, Tryr36_0, Tryr36_1]
  rw [← thenO_id (blkX 0 _)]
  refine Oc.then (loop_rule (n := St.size st) (fun m fr g => ∃ v acc cur, fr.get (Pos.of 0) = some (.ptr i 0) ∧ fr.get (Pos.of 1) = some (.int .i64 deep) ∧ fr.get (Pos.of 6) = some v ∧ St.size cur = m ∧ St.size cur ≤ St.size st ∧ acc.len + St.size cur ≤ St.size st ∧
      PSt b texts lits g i cur ∧ Ch (fun j => j = i) h g ∧ (∃ cs, Own 0 g 3 v acc.len cs ∧ (∀ j, idOf v = some j → h.next.nat ≤ j.nat) ∧ WAt (fun j => h.next.nat ≤ j.nat ∧ idOf v ≠ some j) g acc cs) ∧
      loopW (wordM n) (St.size st + 1) st = (loopW (wordM n) (St.size cur + 1) cur).map fun q => (acc.app q.1, q.2))
    (A := fun fr g => False) (B := fun fr g => ∃ x y, fr.get (Pos.of 4) = some x ∧ fr.get (Pos.of 5) = some y ∧ WordsQ b texts lits n h i st (two x y) g) (by rw [lf_eq]; omega) ?_ ?_) ?_ ?_
  · refine ⟨.nils, .nil, st, by simp only [get_set_of, Nat.zero_ne_one, reduceCtorEq, ↓reduceIte], by simp only [get_set_of, Nat.reduceEqDiff, ↓reduceIte], by simp only [get_set_of, ↓reduceIte], rfl, Nat.le_refl _, by simp [Wds.len], p, Ch.refl _ _, ⟨[], Own.nil _ _ _, fun j hj => (by cases hj), rfl⟩, ?_⟩
    cases loopW (wordM n) (St.size st + 1) st <;> rfl
  · rintro m fr g ⟨v, acc, cur, f0, f1, f6, rfl, hcs, hal, pg, chg, ⟨cs, ov, iv, wa⟩, hq⟩
    have hbn : i.nat < h.next.nat := p.lt
    obtain ⟨r, g1, hw, c1, hr⟩ := hW g i cur pg (by omega)
    have ch1 := chg.trans c1 fun j _ q => q
    obtain ⟨L, hL⟩ : ∃ L, L = loopW (wordM n) (St.size st + 1) st := ⟨_, rfl⟩
    rw [← hL, loopW] at hq
    rw [hL] at hq
    rcases hr with ⟨hn, k, t, ks, rfl, hk1, hk2⟩ | ⟨w, st1, vk, hm, rfl, p1, wk⟩
    · rw [hn] at hq
      have s1 : oStore 3 (.ptr g1.next 0) (wag ⟨k, t, .nil⟩ ks) (g1.new (.cells true [.int .i64 0, .str [], .nils])) = .ok V.undef ((g1.new (.cells true [.int .i64 0, .str [], .nils])).put g1.next (some (.cells true [.int .i64 k, .str t, ks]))) := st3_get (new_self _ _)
      simp only [seqO_eq, thenO_nor, thenO_ret, gtO_some, bndO_ok, get_set_of, cndX_tmp, ifB_true, blkO_eq, blkX_ret, ↓reduceIte, oUn_not, oExtract_0, oExtract_1, Bool.not_false, ne_eq, Tryb36_2, Tryr36_2, Tryr36_3, Tryr36_4, f0, f1, hw, two, oNew_w, s1]
      refine ⟨.nils, .bool false, by simp only [get_set_of, Nat.reduceEqDiff, ↓reduceIte], by simp only [get_set_of, ↓reduceIte], ?_, .inl ⟨hq, rfl⟩⟩
      exact (ch1.trans (Ch.new (fun _ => False) g1 _) fun j _ q => q.elim).trans (Ch.put (S := fun j => j = g1.next) _ _ rfl) fun j hj q => by have := ch1.next; rw [q] at hj; omega
    · rw [hm] at hq
      simp only [] at hq
      have s1 : oStore 3 (.ptr g1.next 0) (wag w vk) (g1.new (.cells true [.int .i64 0, .str [], .nils])) = .ok V.undef ((g1.new (.cells true [.int .i64 0, .str [], .nils])).put g1.next (some (.cells true [.int .i64 w.kind, .str w.text, vk]))) := st3_get (new_self _ _)
      have c2 : Ch (fun _ => False) g1 ((g1.new (.cells true [.int .i64 0, .str [], .nils])).put g1.next (some (.cells true [.int .i64 w.kind, .str w.text, vk]))) :=
        (Ch.new (fun _ => False) g1 _).trans (Ch.put (S := fun j => j = g1.next) _ _ rfl) fun j hj q => by rw [q] at hj; omega
      have s2 : ((g1.new (.cells true [.int .i64 0, .str [], .nils])).put g1.next (some (.cells true [.int .i64 w.kind, .str w.text, vk]))).get g1.next = some (.cells true [.int .i64 w.kind, .str w.text, vk]) := put_self _ _ _
      generalize (g1.new (.cells true [.int .i64 0, .str [], .nils])).put g1.next (some (.cells true [.int .i64 w.kind, .str w.text, vk])) = g3 at s1 c2 s2
      have s3 := ldN3_get s2
      have ov1 : Own 0 g1 3 v acc.len cs := ov.ch c1 fun j hj q => by have := iv j hj; rw [q] at this; omega
      have ov3 : Own 0 g3 3 v acc.len cs := ov1.ch c2 fun _ _ q => q
      obtain ⟨v', g4, a1, a2, a3, a4, a5⟩ := app1_ok (bt := 48) (new := [V.int .i64 w.kind, V.str w.text, vk]) ov3 rfl (by omega)
      have c3 := c2.next
      have c1n := c1.next
      have chn := chg.next
      have wkl := wk
      obtain ⟨ck, ok1, ik1, wk1⟩ := wk
      have c13 := ch1.trans c2 fun j _ q => q.elim
      have ch4 : Ch (fun j => j = i) h g4 := c13.trans a4 fun j hj q => by have := iv j q; omega
      have p4 : PSt b texts lits g4 i st1 := (p1.ch c2 fun _ q => q.elim).ch a4 fun j hj => by have := iv j hj; omega
      have c14 : Ch (fun j => idOf v = some j) g1 g4 := (c2.mono (S' := fun j => idOf v = some j) fun _ _ q => q.elim).trans a4 fun _ _ q => q
      have iv' : ∀ j, idOf v' = some j → j.nat = g3.next.nat + 1 := fun j hj => by rw [a2] at hj; cases hj; rw [Pos.nat_succ]
      have wa4 : WAt (fun j => h.next.nat ≤ j.nat ∧ idOf v' ≠ some j) g4 acc cs := (wa.ch c1 (P' := fun j => h.next.nat ≤ j.nat ∧ idOf v ≠ some j) fun j hj q => ⟨q, fun e => by rw [e] at q; omega⟩).ch c14 fun j hj q => ⟨⟨q.1, fun e => by have := iv' j e; omega⟩, q.2⟩
      have hvg : ∀ j, idOf v = some j → j.nat < g.next.nat := fun j hj => (ov.idlt hj).2
      have wk4 : WRow (fun j => g.next.nat ≤ j.nat ∧ j.nat < g1.next.nat) g4 vk w.kids := by
        refine ⟨ck, ok1.ch c14 fun j hj e => ?_, fun j hj => ⟨ik1 j hj, (ok1.idlt hj).2⟩, wk1.ch c14 fun j hj q => ⟨⟨q, hj⟩, fun e => ?_⟩⟩
        · have := hvg j e; have := ik1 j hj; omega
        · have := hvg j e; omega
      obtain ⟨ck4, ok4, ik4, wk5⟩ := wk4
      have wn : WAt (fun j => h.next.nat ≤ j.nat ∧ idOf v' ≠ some j) g4 (acc.app (.cons w.kind w.text w.kids .nil)) (cs ++ [V.int .i64 w.kind, V.str w.text, vk]) :=
        WAt.app (b := .cons w.kind w.text w.kids .nil) (cb := [V.int .i64 w.kind, V.str w.text, vk]) ⟨vk, ck4, [], rfl, ok4, fun j hj => ⟨by have := ik4 j hj; omega, fun e => by have := iv' j e; have := ik4 j hj; omega⟩, wk5.ch (Ch.refl (fun _ => False) _) (fun j _ q => ⟨⟨by omega, fun e => by have := iv' j e; omega⟩, fun e => e⟩), rfl⟩ wa4
      have sz1 := wordM_size hm
      have hlen : (acc.app (.cons w.kind w.text w.kids .nil)).len = acc.len + 1 := by rw [Wds.len_app]; rfl
      rcases next_ok p4 32 with ⟨hx, e45⟩ | ⟨st2, g5, hx, e45, p5, c5, n5⟩
      · rw [hx] at hq
        simp only [seqO_eq, thenO_nor, gtO_some, bndO_ok, get_set_of, cndX_tmp, ifB_true, ifB_false, blkO_eq, blkX_ret, Nat.reduceEqDiff, reduceCtorEq, ↓reduceIte, oUn_not, oExtract_0, oExtract_1, Bool.not_true, Bool.not_false, ne_eq, Tryb36_2, Tryr36_2, Tryr36_3, Tryr36_5, Tryr36_6, Tryr36_7, f0, f1, f6, hw, two, oNew_w, s1, s3, oBuildSlice_3, a1, show TryF45 [.ptr i 0, .int .u8 32] g4 = .ok (.bool false) g4 from e45]
        refine ⟨v', .bool true, by simp only [get_set_of, Nat.reduceEqDiff, ↓reduceIte], by simp only [get_set_of, ↓reduceIte], ch4, .inr ⟨_, st1, v', hq, rfl, p4, _, by rw [hlen]; exact a3, fun j hj => ?_, wn.ch (Ch.refl (fun _ => False) _) fun j _ q => ⟨q.1, fun e => e⟩⟩⟩
        have := iv' j hj; omega
      · rw [hx] at hq
        have sz2 := nextM_size hx
        have e45' : TryF45 [.ptr i 0, .int .u8 32] g4 = .ok (.bool true) g5 := e45
        simp only [seqO_eq, thenO_nor, gtO_some, bndO_ok, get_set_of, cndX_tmp, ifB_false, blkO_eq, blkX_nor, Nat.reduceEqDiff, reduceCtorEq, ↓reduceIte, oUn_not, oExtract_0, oExtract_1, Bool.not_true, ne_eq, Tryb36_2, Tryr36_2, Tryr36_3, Tryr36_5, Tryr36_6, Tryr36_7, f0, f1, f6, hw, two, oNew_w, s1, s3, oBuildSlice_3, a1, e45']
        have a3' : Own 0 g5 3 v' (acc.len + 1) (cs ++ [V.int .i64 w.kind, V.str w.text, vk]) := a3.ch c5 fun j hj q => by have := iv' j hj; rw [q] at this; omega
        refine ⟨St.size st2, by omega, v', acc.app (.cons w.kind w.text w.kids .nil), st2, by simp only [get_set_of, reduceCtorEq, ↓reduceIte, f0], by simp only [get_set_of, Nat.reduceEqDiff, ↓reduceIte, f1], by simp only [get_set_of, Nat.reduceEqDiff, ↓reduceIte], rfl, by omega, by omega, p5, ch4.trans c5 fun _ _ q => q, ⟨_, by rw [hlen]; exact a3', fun j hj => ?_, wn.ch c5 fun j hj q => ⟨q, fun e => ?_⟩⟩, ?_⟩
        · have := iv' j hj; omega
        · rw [e] at q; omega
        · rw [hq]
          simp only []
          rw [loopW_fuel (word := wordM n) (fun _ _ _ h => wordM_size h) (f := St.size cur) (g := St.size st2 + 1) (by omega) (by omega)]
          cases loopW (wordM n) (St.size st2 + 1) st2 with
          | none => rfl
          | some q => simp only [Option.map_some, Wds.app_assoc, Wds.app]
  · rintro fr g hf; exact hf.elim
  · rintro fr g ⟨x, y, f4, f5, hQ⟩
    exact Tells.ret (by simp only [resK, f4, f5, tupR]; rfl) hQ
end Go.Proofs.Ytgnfkfmhjgbhhaa

noncomputable section
namespace Go.Vm
variable {h : Hp}
theorem eqV_cons (a b : V) (ha : eqV a a = true) (hb : eqV b b = true) : eqV (.cons a b) (.cons a b) = true := by
  show (match eqV a a with | true => eqV b b | false => false) = true
  rw [ha]; exact hb
theorem eqV_str (s : List Nat) : eqV (.str s) (.str s) = true := by
  show strEq s s = true
  rw [strEq_dec]; simp
theorem eqV_own {b sz n : Nat} {v : V} {cs : List V} (o : Own b h sz v n cs) : eqV v v = true := by
  rcases o.is with ⟨_, rfl⟩ | ⟨i, rfl, _⟩
  · rfl
  · show (match i.eq i, Nat.beq 0 0, Nat.beq n n with
        | true, true, true => Nat.beq sz sz
        | _, _, _ => false) = true
    rw [Pos.eq_self, Nat.beq_refl, Nat.beq_refl, Nat.beq_refl]
end Go.Vm
namespace Go.Proofs.Ytgnfkfmhjgbhhaa
open Go Go.Proofs Go.Vm Go.Ln
set_option linter.unusedVariables false
set_option maxRecDepth 100000
set_option linter.unusedSimpArgs false
theorem dLoad43 (x : V) (h : Hp) : dLoad Try.prog 43 x h = oLoadN 3 x h := by kernel_rfl
theorem eqV_wag {b sz n : Nat} {h : Hp} {w : Wd} {v : V} {cs : List V} (o : Own b h sz v n cs) : eqV (wag w v) (wag w v) = true :=
  eqV_cons (.int .i64 w.kind) (.cons (.str w.text) (.cons v .nil)) (eqV_int _ _) (eqV_cons (.str w.text) (.cons v .nil) (eqV_str _) (eqV_cons v .nil (eqV_own o) rfl))
theorem Tells.imp {P : Program} {rs : List ResultVar} {Q Q' : V → Hp → Prop} {o : Out} (t : Tells P rs Q o) (hq : ∀ r h, Q r h → Q' r h) : Tells P rs Q' o := by
  obtain ⟨r, h, e, q⟩ := t; exact ⟨r, h, e, hq r h q⟩
/-- a literal is next -/
theorem PSt.litgo {b : Nat} {texts lits : List (List Nat)} {h : Hp} {i : Pos} {l t : List Nat} {r : List (List Nat × List Nat)} (p : PSt b texts lits h i ⟨[], (l, t) :: r⟩) :
    ∃ (vl : V) (j : Pos) (q piece : Nat), oLoad1 (.ptr i 1) h = .ok vl h ∧ oLoad1 (.ptr i 2) h = .ok (.int .i64 (piece : Int)) h ∧ (∀ h', oIdxS 1 vl (.int .i64 (piece : Int)) h' = .ok (.ptr j q) h') ∧ oLoad1 (.ptr j q) h = .ok (.str l) h ∧ piece + 1 < 1000000000 ∧
      ∀ g, Ch (fun _ => False) h g → ∃ g1 g2, oLoad1 (.ptr i 2) g = .ok (.int .i64 (piece : Int)) g ∧ oStore 1 (.ptr i 2) (.int .i64 ((piece : Int) + 1)) g = .ok V.undef g1 ∧ oStore 1 (.ptr i 3) (.int .i64 0) g1 = .ok V.undef g2 ∧ PSt b texts lits g2 i ⟨t, r⟩ ∧ Ch (fun j => j = i) g g2 := by
  obtain ⟨vt, vl, piece, pos, t0, hg, ht, hl, hn, hp, hpos, hc, hr⟩ := p.is
  have hr' : (l, t) :: r = (lits.drop piece).zip (texts.drop (piece + 1)) := hr
  have hpl : piece < lits.length := by
    have := congrArg List.length hr'
    rw [List.length_zip, List.length_drop, List.length_drop, List.length_cons] at this
    omega
  have hpt : piece + 1 < texts.length := by omega
  rw [List.drop_eq_getElem_cons hpl, List.drop_eq_getElem_cons hpt, List.zip_cons_cons] at hr'
  injection hr' with h1 h2
  injection h1 with h3 h4
  obtain ⟨j, q, x, hx, e1, -, e2⟩ := hl.at1 hpl
  rw [txs_get, List.getElem?_eq_getElem hpl, ← h3] at hx
  cases hx
  refine ⟨vl, j, q, piece, ld_get hg 1, ld_get hg 2, e1, e2 h rfl, by have := p.small.1; omega, fun g c => ?_⟩
  have hgg : g.get i = some (.cells true [vt, vl, .int .i64 (piece : Int), .int .i64 (pos : Int)]) := by rw [c.get i p.lt fun q => q]; exact hg
  have hb : b ≤ h.next.nat := Nat.le_trans p.ge (Nat.le_of_lt p.lt)
  have c2 : Ch (fun j => j = i) g ((g.put i (some (.cells true [vt, vl, .int .i64 ((piece : Int) + 1), .int .i64 (pos : Int)]))).put i (some (.cells true [vt, vl, .int .i64 ((piece : Int) + 1), .int .i64 0]))) := (Ch.put (S := fun j => j = i) g _ rfl).trans (Ch.put (S := fun j => j = i) _ _ rfl) fun _ _ q => q
  have c3 : Ch (fun j => j = i) h ((g.put i (some (.cells true [vt, vl, .int .i64 ((piece : Int) + 1), .int .i64 (pos : Int)]))).put i (some (.cells true [vt, vl, .int .i64 ((piece : Int) + 1), .int .i64 0]))) := (c.mono (S' := fun j => j = i) fun _ _ q => q.elim).trans c2 fun _ _ q => q
  refine ⟨_, _, ld_get hgg 2, st_get hgg ⟨rfl, rfl⟩ (by simp), st_get (put_self _ _ _) ⟨rfl, rfl⟩ (by simp), ⟨p.ge, Nat.lt_of_lt_of_le p.lt c3.next, ⟨vt, vl, piece + 1, 0, t, put_self _ _ _, ht.ch c3 hb ?_, hl.ch c3 hb ?_, hn, ?_, Nat.zero_le _, rfl, ?_⟩, p.small⟩, c2⟩
  · rintro j hj rfl; have := ht.idlt hj; have := p.ge; omega
  · rintro j hj rfl; have := hl.idlt hj; have := p.ge; omega
  · rw [List.getElem?_eq_getElem hpt, h4]
  · exact h2
/-- the last way: an atom -/
def AtomQ (b : Nat) (texts lits : List (List Nat)) (g : Hp) (i ir : Pos) (st : St) (r : V) (g' : Hp) : Prop :=
  Ch (fun j => j = i ∨ j = ir) g g' ∧ r = two (wag ⟨1, st.cur.takeWhile atomC, .nil⟩ .nils) (.bool (decide (((st.cur.takeWhile atomC).length : Int) > 0))) ∧ PSt b texts lits g' i { st with cur := st.cur.dropWhile atomC }
theorem atomC_iff (c : Nat) : atomC c = true ↔ (c : Int) ≥ 33 ∧ (c : Int) ≤ 126 ∧ idxB c [40, 41, 34, 123] < 0 := by
  rw [idxB_neg]
  simp only [atomC, decide_eq_true_eq, List.mem_cons, List.not_mem_nil, or_false, not_or]
  omega
theorem takeWhile_len {p : Nat → Bool} {l : List Nat} {k : Nat} (hk : k ≤ l.length) (h1 : ∀ c ∈ l.take k, p c = true) (h2 : ∀ c, l[k]? = some c → p c = false) : l.takeWhile p = l.take k ∧ l.dropWhile p = l.drop k := by
  induction l generalizing k with
  | nil => have : k = 0 := by simpa using hk
           subst this; simp
  | cons a l ih =>
    cases k with
    | zero => have := h2 a (by simp); simp [this]
    | succ k =>
      have ha : p a = true := h1 a (by simp)
      obtain ⟨e1, e2⟩ := ih (k := k) (by simpa using hk) (fun c hc => h1 c (by simp [hc])) (fun c hc => h2 c (by simpa using hc))
      simp [ha, e1, e2]
theorem atom_ok {b : Nat} {texts lits : List (List Nat)} {g : Hp} {i ir : Pos} {st : St} (V36 : Fun) (p : PSt b texts lits g i st) {fr : F} (f0 : fr.get (Pos.of 0) = some (.ptr i 0)) (f4 : fr.get (Pos.of 4) = some (.ptr ir 0)) {x y z : V} (hr : g.get ir = some (.cells true [x, y, z])) (hir : i.nat < ir.nat) (hlt : ir.nat < g.next.nat) :
    Tells Try.prog [.cell 4 43, .tmp 5] (AtomQ b texts lits g i ir st) (thenO (Tryr44_18 V36 fr g) (seqO (Tryr44_19 V36) (seqO (blkO 1 (loopO (Tryb44_20 V36) lf)) (seqO (Tryr44_22 V36) (seqO (Tryr44_23 V36) Out.ret))))) := by
  have hcs := p.cur_small
  simp only [seqO_eq, thenO_nor, gtO_some, bndO_ok, blkO_eq, Tryr44_18, Tryr44_19, f0, rest_ok p]
  refine Oc.then (loop_rule (n := st.cur.length) (fun m fr g' => ∃ k : Nat, fr.get (Pos.of 0) = some (.ptr i 0) ∧ fr.get (Pos.of 4) = some (.ptr ir 0) ∧ fr.get (Pos.of 12) = some (.str st.cur) ∧ fr.get (Pos.of 13) = some (.int .i64 (k : Int)) ∧ k + m = st.cur.length ∧ (∀ c ∈ st.cur.take k, atomC c = true) ∧ g' = g)
    (A := fun fr g' => ∃ k : Nat, fr.get (Pos.of 0) = some (.ptr i 0) ∧ fr.get (Pos.of 4) = some (.ptr ir 0) ∧ fr.get (Pos.of 12) = some (.str st.cur) ∧ fr.get (Pos.of 13) = some (.int .i64 (k : Int)) ∧ k ≤ st.cur.length ∧ (∀ c ∈ st.cur.take k, atomC c = true) ∧ (∀ c, st.cur[k]? = some c → atomC c = false) ∧ g' = g) (B := fun _ _ => False) (by rw [lf_eq]; omega) ?_ ?_) ?_ ?_
  · exact ⟨0, by simp only [get_set_of, reduceCtorEq, ↓reduceIte, f0], by simp only [get_set_of, Nat.reduceEqDiff, ↓reduceIte, f4], by simp only [get_set_of, Nat.reduceEqDiff, ↓reduceIte], by simp only [get_set_of, ↓reduceIte]; rfl, by omega, fun c hc => by simp at hc, rfl⟩
  · rintro m fr g' ⟨k, f0, f4, f12, f13, hk, hall, rfl⟩
    by_cases hlt : k < st.cur.length
    · obtain ⟨c, hc⟩ : ∃ c, st.cur[k]? = some c := ⟨_, List.getElem?_eq_getElem hlt⟩
      have hc256 := hcs.2 c (List.mem_of_getElem? hc)
      have ix : ∀ h, oIdxStr (.str st.cur) (.int .i64 (k : Int)) h = .ok (.int .u8 (c : Int)) h := fun h => oIdxStr_ok hc
      have hlt' : (k : Int) < (st.cur.length : Int) := by omega
      have hiff := atomC_iff c
      by_cases ha : atomC c = true
      · obtain ⟨h1, h2, h3⟩ := hiff.1 ha
        simp (disch := omega) only [seqO_eq, thenO_nor, gtO_some, bndO_ok, get_set_of, cndX_tmp, ifB_true, blkO_eq, blkX_nor, Nat.reduceEqDiff, ↓reduceIte, oBin_add, oBin_lss, oBin_leq, oBin_geq, oLenK_str, decide_true, Tryb44_20, Tryr44_20, Tryr44_21, f12, f13, hlt', ix, h1, h2, idx_ok hc256, h3]
        refine ⟨m - 1, by omega, k + 1, by simp only [get_set_of, reduceCtorEq, ↓reduceIte, f0], by simp only [get_set_of, Nat.reduceEqDiff, ↓reduceIte, f4], by simp only [get_set_of, Nat.reduceEqDiff, ↓reduceIte, f12], by simp only [get_set_of, ↓reduceIte]; rfl, by omega, fun d hd => ?_, rfl⟩
        rw [List.take_add_one, hc] at hd
        rcases List.mem_append.1 hd with hd | hd
        · exact hall d hd
        · simp at hd; rw [hd]; exact ha
      · have hno : ∀ d, st.cur[k]? = some d → atomC d = false := fun d hd => by rw [hc] at hd; cases hd; simpa using ha
        by_cases h1 : (c : Int) ≥ 33
        · by_cases h2 : (c : Int) ≤ 126
          · have h3 : ¬ idxB c [40, 41, 34, 123] < 0 := fun h3 => ha (hiff.2 ⟨h1, h2, h3⟩)
            simp (disch := omega) only [seqO_eq, thenO_nor, thenO_ex, gtO_some, bndO_ok, get_set_of, cndX_tmp, ifB_true, ifB_false, ↓reduceIte, oBin_lss, oBin_leq, oBin_geq, oLenK_str, decide_true, decide_false, Tryb44_20, Tryr44_20, f12, f13, hlt', ix, h1, h2, idx_ok hc256, h3]
            exact ⟨rfl, k, by simp only [get_set_of, reduceCtorEq, ↓reduceIte, f0], by simp only [get_set_of, Nat.reduceEqDiff, ↓reduceIte, f4], by simp only [get_set_of, Nat.reduceEqDiff, ↓reduceIte, f12], by simp only [get_set_of, Nat.reduceEqDiff, ↓reduceIte, f13], by omega, hall, hno, rfl⟩
          · simp (disch := omega) only [seqO_eq, thenO_nor, thenO_ex, gtO_some, bndO_ok, get_set_of, cndX_tmp, ifB_true, ifB_false, ↓reduceIte, oBin_lss, oBin_leq, oBin_geq, oLenK_str, decide_true, decide_false, Tryb44_20, Tryr44_20, f12, f13, hlt', ix, h1, h2]
            exact ⟨rfl, k, by simp only [get_set_of, reduceCtorEq, ↓reduceIte, f0], by simp only [get_set_of, Nat.reduceEqDiff, ↓reduceIte, f4], by simp only [get_set_of, Nat.reduceEqDiff, ↓reduceIte, f12], by simp only [get_set_of, Nat.reduceEqDiff, ↓reduceIte, f13], by omega, hall, hno, rfl⟩
        · simp (disch := omega) only [seqO_eq, thenO_nor, thenO_ex, gtO_some, bndO_ok, get_set_of, cndX_tmp, ifB_true, ifB_false, ifB_pos, ↓reduceIte, oBin_lss, oBin_leq, oBin_geq, oLenK_str, decide_true, decide_false, Tryb44_20, Tryr44_20, f12, f13, hlt', ix, h1]
          exact ⟨rfl, k, by simp only [get_set_of, reduceCtorEq, ↓reduceIte, f0], by simp only [get_set_of, Nat.reduceEqDiff, ↓reduceIte, f4], by simp only [get_set_of, Nat.reduceEqDiff, ↓reduceIte, f12], by simp only [get_set_of, Nat.reduceEqDiff, ↓reduceIte, f13], by omega, hall, hno, rfl⟩
    · have hlt' : ¬ (k : Int) < (st.cur.length : Int) := by omega
      simp (disch := omega) only [seqO_eq, thenO_nor, thenO_ex, gtO_some, bndO_ok, get_set_of, cndX_tmp, ifB_false, ↓reduceIte, oBin_lss, oLenK_str, decide_false, Tryb44_20, Tryr44_20, f12, f13, hlt']
      exact ⟨rfl, k, by simp only [get_set_of, reduceCtorEq, ↓reduceIte, f0], by simp only [get_set_of, Nat.reduceEqDiff, ↓reduceIte, f4], by simp only [get_set_of, Nat.reduceEqDiff, ↓reduceIte, f12], by simp only [get_set_of, Nat.reduceEqDiff, ↓reduceIte, f13], by omega, hall, fun d hd => (by rw [List.getElem?_eq_none (by omega)] at hd; cases hd), rfl⟩
  · rintro fr g' ⟨k, f0, f4, f12, f13, hk, hall, hno, rfl⟩
    obtain ⟨t1, t2⟩ := takeWhile_len hk hall hno
    obtain ⟨a, g1, l1, l2, l3, l4, p1, c1, n1⟩ := p.go k hk
    have hr1 : g1.get ir = some (.cells true [x, y, z]) := by rw [c1.get ir hlt fun e => by rw [e] at hir; omega]; exact hr
    have s1 := st3_get (a := V.int .i64 1) (b := V.str (st.cur.take k)) (c := V.nils) hr1
    have lk : ((st.cur.take k).length : Int) = (k : Int) := by rw [List.length_take]; omega
    have c2 : Ch (fun j => j = i ∨ j = ir) g' (g1.put ir (some (.cells true [V.int .i64 1, V.str (st.cur.take k), V.nils]))) := (c1.mono fun _ _ q => .inl q).trans (Ch.put (S := fun j => j = ir) _ _ rfl) fun _ _ q => .inr q
    simp (disch := omega) only [seqO_eq, thenO_nor, gtO_some, bndO_ok, oBin_add, oBin_gtr, oFieldAddr_eq, oNilCheck_ptr, Nat.zero_add, Tryr44_22, Tryr44_23, f0, f4, f12, f13, l1, l4, oSliceStr_to hk, oBuild_w2, s1]
    refine Tells.ret (by simp only [resK, get_set_of, Nat.reduceEqDiff, ↓reduceIte, f4, dLoad43, ldN3_get (put_self _ _ _), tupR]; rfl) ⟨c2, by rw [t1, lk]; rfl, ?_⟩
    rw [t2]
    exact p1.ch (Ch.put (S := fun j => j = ir) _ _ rfl) fun j hj => by rw [hj]; exact hir
  · intro _ _ hf; exact hf.elim
end Go.Proofs.Ytgnfkfmhjgbhhaa

noncomputable section
namespace Go.Proofs.Ytgnfkfmhjgbhhaa
open Go Go.Proofs Go.Vm Go.Ln
set_option linter.unusedVariables false
set_option maxRecDepth 100000
set_option linter.unusedSimpArgs false
def WordsOk (b : Nat) (texts lits : List (List Nat)) (n : Nat) (W : Fun) (deep : Int) : Prop := ∀ h i st, PSt b texts lits h i st → St.size st < 1000000000 → ∃ r h', W [.ptr i 0, .int .i64 deep] h = .ok r h' ∧ WordsQ b texts lits n h i st r h'
theorem wordM_nil (n : Nat) : wordM n ⟨[], []⟩ = none := by rw [wordM.eq_def]
theorem wordM_lit (n : Nat) (l t : List Nat) (r : List (List Nat × List Nat)) : wordM n ⟨[], (l, t) :: r⟩ = some (⟨2, l, .nil⟩, ⟨t, r⟩) := by rw [wordM.eq_def]
theorem wordM_quote (n : Nat) (s : List Nat) (r : List (List Nat × List Nat)) : wordM n ⟨34 :: s, r⟩ = (quotedM s).map fun p => (⟨2, p.1, .nil⟩, ⟨p.2, r⟩) := by
  rw [wordM.eq_def]
  simp only [if_true]
  cases quotedM s <;> rfl
theorem wordM_atom (n : Nat) (c : Nat) (s : List Nat) (r : List (List Nat × List Nat)) (h1 : c ≠ 34) (h2 : c ≠ 40) : wordM n ⟨c :: s, r⟩ = if atomC c then some (⟨1, (c :: s).takeWhile atomC, .nil⟩, ⟨(c :: s).dropWhile atomC, r⟩) else none := by
  rw [wordM.eq_def]
  simp only [h1, h2, if_false]
theorem wordM_list0 (s : List Nat) (r : List (List Nat × List Nat)) : wordM 0 ⟨40 :: s, r⟩ = none := by
  rw [wordM.eq_def]
  simp
theorem wordM_list (n : Nat) (s : List Nat) (r : List (List Nat × List Nat)) : wordM (n + 1) ⟨40 :: s, r⟩ = match nextM 41 ⟨s, r⟩ with
        | some st => some (⟨3, [], .nil⟩, st)
        | none => (match loopW (wordM n) (St.size ⟨s, r⟩ + 1) ⟨s, r⟩ with
          | some (ws, st) => (match nextM 41 st with | some st' => some (⟨3, [], ws⟩, st') | none => none)
          | none => none) := by
  rw [wordM.eq_def]
  simp <;> rfl
theorem nextM_self (c : Nat) (s : List Nat) (r : List (List Nat × List Nat)) : nextM c ⟨c :: s, r⟩ = some ⟨s, r⟩ := by simp [nextM]
theorem nextM_other (c d : Nat) (s : List Nat) (r : List (List Nat × List Nat)) (h : d ≠ c) : nextM c ⟨d :: s, r⟩ = none := by simp [nextM, h]
theorem nextM_nil (c : Nat) (r : List (List Nat × List Nat)) : nextM c ⟨[], r⟩ = none := by simp [nextM]
theorem next_no {b : Nat} {texts lits : List (List Nat)} {h : Hp} {i : Pos} {st : St} (p : PSt b texts lits h i st) {c : Nat} (e : nextM c st = none) : TryF45 [.ptr i 0, .int .u8 (c : Int)] h = .ok (.bool false) h := by
  rcases next_ok p c with ⟨_, h1⟩ | ⟨st', h', h1, _⟩
  · exact h1
  · rw [e] at h1; cases h1
theorem next_yes {b : Nat} {texts lits : List (List Nat)} {h : Hp} {i : Pos} {st st' : St} (p : PSt b texts lits h i st) {c : Nat} (e : nextM c st = some st') : ∃ h', TryF45 [.ptr i 0, .int .u8 (c : Int)] h = .ok (.bool true) h' ∧ PSt b texts lits h' i st' ∧ Ch (fun j => j = i) h h' ∧ h'.next = h.next := by
  rcases next_ok p c with ⟨h1, _⟩ | ⟨st'', h', h1, h2⟩
  · rw [e] at h1; cases h1
  · rw [e] at h1; cases h1; exact ⟨h', h2⟩
theorem word_lit {b : Nat} {texts lits : List (List Nat)} {n : Nat} {V36 : Fun} {deep : Int} {h : Hp} {i : Pos} {l t : List Nat} {r : List (List Nat × List Nat)} (p : PSt b texts lits h i ⟨[], (l, t) :: r⟩) :
    Tells Try.prog [.cell 4 43, .tmp 5] (WordQ b texts lits n h i ⟨[], (l, t) :: r⟩) (Tryd44 V36 (T.set (some (.int .i64 deep)) (Pos.of 1) (T.set (some (.ptr i 0)) (Pos.of 0) T.nil)) h) := by
  obtain ⟨h0, e0⟩ : ∃ h0, h0 = h.new (.cells true [.int .i64 0, .str [], .nils]) := ⟨_, rfl⟩
  have c0 : Ch (fun _ => False) h h0 := by rw [e0]; exact Ch.new _ _ _
  have r0 : h0.get h.next = some (.cells true [.int .i64 0, .str [], .nils]) := by rw [e0]; exact new_self _ _
  have n0 : h0.next.nat = h.next.nat + 1 := by rw [e0]; exact new_next_nat _ _
  have p0 := p.ch c0 fun _ q => q.elim
  have hi := p.lt
  have hil : i ≠ h.next := fun e => by rw [e] at hi; omega
  -- what is told at the end, by the last store
  have last : ∀ {g : Hp} {w : Wd} {vk : V} {x y z : V} {S : Pos → Prop}, Ch S h0 g → (∀ j : Pos, S j → j = i ∨ j = h.next) → Ch (fun j => j = i) h (g.put h.next (some (.cells true [.int .i64 w.kind, .str w.text, vk]))) := fun {g w vk x y z S} c hs =>
    ((c0.mono (S' := fun j => j = i) fun _ _ q => q.elim).trans c fun j hj q => by rcases hs j q with q | q; exact q; rw [q] at hj; omega).trans (Ch.put (S := fun j => j = h.next) _ _ rfl) fun j hj q => by rw [q] at hj; omega
  have hb : (([] : List Nat) = [] ∧ (l, t) :: r ≠ []) := ⟨rfl, by simp⟩
  have hlit : TryF48 [.ptr i 0] h0 = .ok (.bool true) h0 := by have := lit_ok p0; rwa [decide_eq_true hb] at this
  simp only [seqO_eq, thenO_nor, gtO_some, bndO_ok, get_set_of, cndX_tmp, ifB_true, blkO_eq, Nat.zero_ne_one, reduceCtorEq, ↓reduceIte, Tryd44, Tryr44_0, oNew_w, ← e0, Tryr44_1, hlit]
  obtain ⟨vl, j, q, piece, l1, l2, ix, l3, hpc, lgo⟩ := p0.litgo
  obtain ⟨h1, e1⟩ : ∃ h1, h1 = h0.new (.cells true [.int .i64 0, .str [], .nils]) := ⟨_, rfl⟩
  have c1 : Ch (fun _ => False) h0 h1 := by rw [e1]; exact Ch.new _ _ _
  have r1 : h1.get h0.next = some (.cells true [.int .i64 0, .str [], .nils]) := by rw [e1]; exact new_self _ _
  have s1 := st3_get (a := V.int .i64 2) (b := V.str l) (c := V.nils) r1
  obtain ⟨h2, e2⟩ : ∃ h2, h2 = h1.put h0.next (some (.cells true [V.int .i64 2, V.str l, V.nils])) := ⟨_, rfl⟩
  rw [← e2] at s1
  have c2 : Ch (fun _ => False) h0 h2 := by rw [e2]; exact c1.trans (Ch.put (S := fun j => j = h0.next) _ _ rfl) fun j hj q => by rw [q] at hj; omega
  have r2 : h2.get h0.next = some (.cells true [V.int .i64 2, V.str l, V.nils]) := by rw [e2]; exact put_self _ _ _
  obtain ⟨h3, h4, m1, m2, m3, p4, c4⟩ := lgo h2 c2
  have n2 : h0.next.nat < h2.next.nat := by rw [e2, put_next, e1, new_next_nat]; omega
  have r4 : h4.get h0.next = some (.cells true [V.int .i64 2, V.str l, V.nils]) := by rw [c4.get _ n2 fun e => by rw [← e] at hi; omega]; exact r2
  have c04 : Ch (fun j => j = i) h0 h4 := (c2.mono (S' := fun j => j = i) fun _ _ q => q.elim).trans c4 fun _ _ q => q
  have r4' : h4.get h.next = some (.cells true [.int .i64 0, .str [], .nils]) := by rw [c04.get _ (by omega) fun e => hil e.symm]; exact r0
  have s4 := st3_get (a := V.int .i64 2) (b := V.str l) (c := V.nils) r4'
  simp (disch := omega) only [seqO_eq, thenO_nor, thenO_ret, gtO_some, bndO_ok, get_set_of, blkX_ret, Nat.reduceEqDiff, Nat.zero_ne_one, reduceCtorEq, ↓reduceIte, oBin_add, oFieldAddr_eq, alcO_some, oNilCheck_ptr, Nat.zero_add, put_bump, Tryr44_2, Tryr44_3, Tryr44_4, Tryr44_5, ld_bump 1 _ _ l1, ld_bump 1 _ _ l2, ix, ld_bump 1 _ _ l3, oBuild_w2, aNew_w, ← e1, s1, m1, m2, m3, ldN3_get r4, s4]
  refine Tells.ret (by simp only [resK, get_set_of, Nat.reduceEqDiff, ↓reduceIte, dLoad43, ldN3_get (put_self _ _ _), tupR]; rfl) ⟨last (w := ⟨2, l, .nil⟩) (x := V.nils) (y := V.nils) (z := V.nils) c04 fun j q => .inl q, .inr ⟨⟨2, l, .nil⟩, ⟨t, r⟩, .nils, wordM_lit _ _ _ _, rfl, ?_, WRow.nil _ _⟩⟩
  exact p4.ch (Ch.put (S := fun j => j = h.next) _ _ rfl) fun j hj => by rw [hj]; exact hi
theorem word_atom {b : Nat} {texts lits : List (List Nat)} {n : Nat} {V36 : Fun} {deep : Int} {h : Hp} {i : Pos} {st : St} (p : PSt b texts lits h i st) (hb : ¬ (st.cur = [] ∧ st.rest ≠ [])) (n34 : nextM 34 st = none) (n40 : nextM 40 st = none)
    (hw : wordM n st = if ((st.cur.takeWhile atomC).length : Int) > 0 then some (⟨1, st.cur.takeWhile atomC, .nil⟩, { st with cur := st.cur.dropWhile atomC }) else none) :
    Tells Try.prog [.cell 4 43, .tmp 5] (WordQ b texts lits n h i st) (Tryd44 V36 (T.set (some (.int .i64 deep)) (Pos.of 1) (T.set (some (.ptr i 0)) (Pos.of 0) T.nil)) h) := by
  obtain ⟨h0, e0⟩ : ∃ h0, h0 = h.new (.cells true [.int .i64 0, .str [], .nils]) := ⟨_, rfl⟩
  have c0 : Ch (fun _ => False) h h0 := by rw [e0]; exact Ch.new _ _ _
  have r0 : h0.get h.next = some (.cells true [.int .i64 0, .str [], .nils]) := by rw [e0]; exact new_self _ _
  have n0 : h0.next.nat = h.next.nat + 1 := by rw [e0]; exact new_next_nat _ _
  have p0 := p.ch c0 fun _ q => q.elim
  have hi := p.lt
  have hil : i ≠ h.next := fun e => by rw [e] at hi; omega
  have hlit : TryF48 [.ptr i 0] h0 = .ok (.bool false) h0 := by have := lit_ok p0; rwa [decide_eq_false hb] at this
  have e34 : TryF45 [.ptr i 0, .int .u8 34] h0 = .ok (.bool false) h0 := next_no p0 n34
  have e40 : TryF45 [.ptr i 0, .int .u8 40] h0 = .ok (.bool false) h0 := next_no p0 n40
  simp only [seqO_eq, thenO_nor, gtO_some, bndO_ok, get_set_of, cndX_tmp, ifB_false, blkO_eq, blkX_nor, Nat.zero_ne_one, reduceCtorEq, ↓reduceIte, Tryd44, Tryr44_0, oNew_w, ← e0, Tryr44_1, hlit, Tryr44_6, e34, Tryr44_9, e40]
  refine Tells.imp (atom_ok V36 p0 (ir := h.next) (by simp only [get_set_of, Nat.zero_ne_one, reduceCtorEq, ↓reduceIte]) (by simp only [get_set_of, Nat.reduceEqDiff, ↓reduceIte]) r0 hi (by omega)) fun r g ⟨c, er, pg⟩ => ?_
  have cg : Ch (fun j => j = i) h g := (c0.mono (S' := fun j => j = i) fun _ _ q => q.elim).trans c fun j hj q => by
    rcases q with q | q
    · exact q
    · rw [q] at hj; omega
  by_cases hz : ((st.cur.takeWhile atomC).length : Int) > 0
  · rw [if_pos hz] at hw
    rw [decide_eq_true hz] at er
    exact ⟨cg, .inr ⟨_, _, _, hw, er, pg, WRow.nil _ _⟩⟩
  · rw [if_neg hz] at hw
    rw [decide_eq_false hz] at er
    exact ⟨cg, .inl ⟨hw, _, _, _, er, rfl, rfl⟩⟩
theorem word_quote {b : Nat} {texts lits : List (List Nat)} {n : Nat} {V36 : Fun} {deep : Int} {h : Hp} {i : Pos} {s : List Nat} {rest : List (List Nat × List Nat)} (p : PSt b texts lits h i ⟨34 :: s, rest⟩) :
    Tells Try.prog [.cell 4 43, .tmp 5] (WordQ b texts lits n h i ⟨34 :: s, rest⟩) (Tryd44 V36 (T.set (some (.int .i64 deep)) (Pos.of 1) (T.set (some (.ptr i 0)) (Pos.of 0) T.nil)) h) := by
  obtain ⟨h0, e0⟩ : ∃ h0, h0 = h.new (.cells true [.int .i64 0, .str [], .nils]) := ⟨_, rfl⟩
  have c0 : Ch (fun _ => False) h h0 := by rw [e0]; exact Ch.new _ _ _
  have r0 : h0.get h.next = some (.cells true [.int .i64 0, .str [], .nils]) := by rw [e0]; exact new_self _ _
  have n0 : h0.next.nat = h.next.nat + 1 := by rw [e0]; exact new_next_nat _ _
  have p0 := p.ch c0 fun _ q => q.elim
  have hi := p.lt
  have hil : i ≠ h.next := fun e => by rw [e] at hi; omega
  -- what is told at the end, by the last store
  have last : ∀ {g : Hp} {w : Wd} {vk : V} {x y z : V} {S : Pos → Prop}, Ch S h0 g → (∀ j : Pos, S j → j = i ∨ j = h.next) → Ch (fun j => j = i) h (g.put h.next (some (.cells true [.int .i64 w.kind, .str w.text, vk]))) := fun {g w vk x y z S} c hs =>
    ((c0.mono (S' := fun j => j = i) fun _ _ q => q.elim).trans c fun j hj q => by rcases hs j q with q | q; exact q; rw [q] at hj; omega).trans (Ch.put (S := fun j => j = h.next) _ _ rfl) fun j hj q => by rw [q] at hj; omega
  have hb : ¬ ((34 :: s : List Nat) = [] ∧ rest ≠ []) := fun q => by cases q.1
  have hlit : TryF48 [.ptr i 0] h0 = .ok (.bool false) h0 := by have := lit_ok p0; rwa [decide_eq_false hb] at this
  obtain ⟨h1, e34, p1, c1, n1⟩ := next_yes p0 (nextM_self 34 s rest)
  replace e34 : TryF45 [.ptr i 0, .int .u8 34] h0 = .ok (.bool true) h1 := e34
  obtain ⟨r, h2, eq, c2, hq⟩ := quoted_ok p1
  have c02 : Ch (fun j => j = i) h0 h2 := c1.trans c2 fun _ _ q => q
  have r2 : h2.get h.next = some (.cells true [.int .i64 0, .str [], .nils]) := by rw [c02.get _ (by omega) fun e => hil e.symm]; exact r0
  have hwm := wordM_quote n s rest
  rcases hq with ⟨hn, rfl⟩ | ⟨t, s', hm, rfl, p2⟩
  · rw [show quotedM s = none from hn] at hwm
    have s2 := st3_get (a := V.int .i64 2) (b := V.str []) (c := V.nils) r2
    simp only [seqO_eq, thenO_nor, thenO_ret, gtO_some, bndO_ok, get_set_of, cndX_tmp, ifB_true, ifB_false, blkO_eq, blkX_ret, Nat.reduceEqDiff, Nat.zero_ne_one, reduceCtorEq, ↓reduceIte, oExtract_0, oExtract_1, Tryd44, Tryr44_0, oNew_w, ← e0, Tryr44_1, hlit, Tryr44_6, e34, Tryr44_7, Tryr44_8, eq, two, oBuild_w2, s2]
    exact Tells.ret (by simp only [resK, get_set_of, Nat.reduceEqDiff, ↓reduceIte, dLoad43, ldN3_get (put_self _ _ _), tupR]; rfl) ⟨last (w := ⟨2, [], .nil⟩) (x := V.nils) (y := V.nils) (z := V.nils) c02 fun j q => .inl q, .inl ⟨hwm, 2, [], .nils, rfl, rfl, rfl⟩⟩
  · rw [show quotedM s = some (t, s') from hm] at hwm
    have s2 := st3_get (a := V.int .i64 2) (b := V.str t) (c := V.nils) r2
    simp only [seqO_eq, thenO_nor, thenO_ret, gtO_some, bndO_ok, get_set_of, cndX_tmp, ifB_true, ifB_false, blkO_eq, blkX_ret, Nat.reduceEqDiff, Nat.zero_ne_one, reduceCtorEq, ↓reduceIte, oExtract_0, oExtract_1, Tryd44, Tryr44_0, oNew_w, ← e0, Tryr44_1, hlit, Tryr44_6, e34, Tryr44_7, Tryr44_8, eq, two, oBuild_w2, s2]
    exact Tells.ret (by simp only [resK, get_set_of, Nat.reduceEqDiff, ↓reduceIte, dLoad43, ldN3_get (put_self _ _ _), tupR]; rfl) ⟨last (w := ⟨2, t, .nil⟩) (x := V.nils) (y := V.nils) (z := V.nils) c02 fun j q => .inl q, .inr ⟨⟨2, t, .nil⟩, ⟨s', rest⟩, .nils, hwm, rfl, p2.ch (Ch.put (S := fun j => j = h.next) _ _ rfl) fun j hj => by rw [hj]; exact hi, WRow.nil _ _⟩⟩
theorem word_list0 {b : Nat} {texts lits : List (List Nat)} {n : Nat} {V36 : Fun} {deep : Int} {h : Hp} {i : Pos} {s : List Nat} {rest : List (List Nat × List Nat)} (hn : n = 0) (hd : deep = 8) (p : PSt b texts lits h i ⟨40 :: s, rest⟩) :
    Tells Try.prog [.cell 4 43, .tmp 5] (WordQ b texts lits n h i ⟨40 :: s, rest⟩) (Tryd44 V36 (T.set (some (.int .i64 deep)) (Pos.of 1) (T.set (some (.ptr i 0)) (Pos.of 0) T.nil)) h) := by
  obtain ⟨h0, e0⟩ : ∃ h0, h0 = h.new (.cells true [.int .i64 0, .str [], .nils]) := ⟨_, rfl⟩
  have c0 : Ch (fun _ => False) h h0 := by rw [e0]; exact Ch.new _ _ _
  have r0 : h0.get h.next = some (.cells true [.int .i64 0, .str [], .nils]) := by rw [e0]; exact new_self _ _
  have n0 : h0.next.nat = h.next.nat + 1 := by rw [e0]; exact new_next_nat _ _
  have p0 := p.ch c0 fun _ q => q.elim
  have hi := p.lt
  have hil : i ≠ h.next := fun e => by rw [e] at hi; omega
  -- what is told at the end, by the last store
  have last : ∀ {g : Hp} {w : Wd} {vk : V} {x y z : V} {S : Pos → Prop}, Ch S h0 g → (∀ j : Pos, S j → j = i ∨ j = h.next) → Ch (fun j => j = i) h (g.put h.next (some (.cells true [.int .i64 w.kind, .str w.text, vk]))) := fun {g w vk x y z S} c hs =>
    ((c0.mono (S' := fun j => j = i) fun _ _ q => q.elim).trans c fun j hj q => by rcases hs j q with q | q; exact q; rw [q] at hj; omega).trans (Ch.put (S := fun j => j = h.next) _ _ rfl) fun j hj q => by rw [q] at hj; omega
  have hb : ¬ ((40 :: s : List Nat) = [] ∧ rest ≠ []) := fun q => by cases q.1
  have hlit : TryF48 [.ptr i 0] h0 = .ok (.bool false) h0 := by have := lit_ok p0; rwa [decide_eq_false hb] at this
  have e34 : TryF45 [.ptr i 0, .int .u8 34] h0 = .ok (.bool false) h0 := next_no p0 (nextM_other 34 40 s rest (by omega))
  obtain ⟨h1, e40, p1, c1, n1⟩ := next_yes p0 (nextM_self 40 s rest)
  replace e40 : TryF45 [.ptr i 0, .int .u8 40] h0 = .ok (.bool true) h1 := e40
  have r1 : h1.get h.next = some (.cells true [.int .i64 0, .str [], .nils]) := by rw [c1.get _ (by omega) fun e => hil e.symm]; exact r0
  subst hn hd
  have s1 := st3_get (a := V.int .i64 0) (b := V.str []) (c := V.nils) r1
  simp only [seqO_eq, thenO_nor, thenO_ret, gtO_some, bndO_ok, get_set_of, cndX_tmp, ifB_true, ifB_false, blkO_eq, blkX_ret, Nat.reduceEqDiff, Nat.zero_ne_one, reduceCtorEq, ↓reduceIte, oBin_geq, decide_true, Tryd44, Tryr44_0, oNew_w, ← e0, Tryr44_1, hlit, Tryr44_6, e34, Tryr44_9, e40, Tryr44_10, Tryr44_11, oBuild_w0, s1, ge_iff_le, show ((8 : Int) ≤ 8) by omega]
  exact Tells.ret (by simp only [resK, get_set_of, Nat.reduceEqDiff, ↓reduceIte, dLoad43, ldN3_get (put_self _ _ _), tupR]; rfl) ⟨last (w := ⟨0, [], .nil⟩) (x := V.nils) (y := V.nils) (z := V.nils) c1 fun j q => .inl q, .inl ⟨wordM_list0 _ _, 0, [], .nils, rfl, rfl, rfl⟩⟩
theorem word_list {b : Nat} {texts lits : List (List Nat)} {n : Nat} {V36 : Fun} {deep : Int} {h : Hp} {i : Pos} {s : List Nat} {rest : List (List Nat × List Nat)} {n' : Nat} (hn : n = n' + 1) (hd : deep < 8) (hd0 : 0 ≤ deep) (h36 : WordsOk b texts lits n' V36 (deep + 1)) (p : PSt b texts lits h i ⟨40 :: s, rest⟩) (hsz : St.size ⟨40 :: s, rest⟩ < 1000000000) :
    Tells Try.prog [.cell 4 43, .tmp 5] (WordQ b texts lits n h i ⟨40 :: s, rest⟩) (Tryd44 V36 (T.set (some (.int .i64 deep)) (Pos.of 1) (T.set (some (.ptr i 0)) (Pos.of 0) T.nil)) h) := by
  obtain ⟨h0, e0⟩ : ∃ h0, h0 = h.new (.cells true [.int .i64 0, .str [], .nils]) := ⟨_, rfl⟩
  have c0 : Ch (fun _ => False) h h0 := by rw [e0]; exact Ch.new _ _ _
  have r0 : h0.get h.next = some (.cells true [.int .i64 0, .str [], .nils]) := by rw [e0]; exact new_self _ _
  have n0 : h0.next.nat = h.next.nat + 1 := by rw [e0]; exact new_next_nat _ _
  have p0 := p.ch c0 fun _ q => q.elim
  have hi := p.lt
  have hil : i ≠ h.next := fun e => by rw [e] at hi; omega
  -- what is told at the end, by the last store
  have last : ∀ {g : Hp} {w : Wd} {vk : V} {x y z : V} {S : Pos → Prop}, Ch S h0 g → (∀ j : Pos, S j → j = i ∨ j = h.next) → Ch (fun j => j = i) h (g.put h.next (some (.cells true [.int .i64 w.kind, .str w.text, vk]))) := fun {g w vk x y z S} c hs =>
    ((c0.mono (S' := fun j => j = i) fun _ _ q => q.elim).trans c fun j hj q => by rcases hs j q with q | q; exact q; rw [q] at hj; omega).trans (Ch.put (S := fun j => j = h.next) _ _ rfl) fun j hj q => by rw [q] at hj; omega
  have hb : ¬ ((40 :: s : List Nat) = [] ∧ rest ≠ []) := fun q => by cases q.1
  have hlit : TryF48 [.ptr i 0] h0 = .ok (.bool false) h0 := by have := lit_ok p0; rwa [decide_eq_false hb] at this
  have e34 : TryF45 [.ptr i 0, .int .u8 34] h0 = .ok (.bool false) h0 := next_no p0 (nextM_other 34 40 s rest (by omega))
  obtain ⟨h1, e40, p1, c1, n1⟩ := next_yes p0 (nextM_self 40 s rest)
  replace e40 : TryF45 [.ptr i 0, .int .u8 40] h0 = .ok (.bool true) h1 := e40
  have r1 : h1.get h.next = some (.cells true [.int .i64 0, .str [], .nils]) := by rw [c1.get _ (by omega) fun e => hil e.symm]; exact r0
  subst hn
  have sz1 := nextM_size (nextM_self 40 s rest)
  have hwm := wordM_list n' s rest
  have hd8 : ¬ deep ≥ 8 := by omega
  have s1 : oStore 3 (.ptr h1.next 0) (.agg (.cons (.int .i64 3) (.cons (.str []) (.cons .nils .nil)))) (h1.new (.cells true [.int .i64 0, .str [], .nils])) = .ok V.undef ((h1.new (.cells true [.int .i64 0, .str [], .nils])).put h1.next (some (.cells true [.int .i64 3, .str [], .nils]))) := st3_get (new_self _ _)
  have c2 : Ch (fun _ => False) h1 ((h1.new (.cells true [.int .i64 0, .str [], .nils])).put h1.next (some (.cells true [.int .i64 3, .str [], .nils]))) :=
    (Ch.new (fun _ => False) h1 _).trans (Ch.put (S := fun j => j = h1.next) _ _ rfl) fun j hj q => by rw [q] at hj; omega
  have w2 : ((h1.new (.cells true [.int .i64 0, .str [], .nils])).put h1.next (some (.cells true [.int .i64 3, .str [], .nils]))).get h1.next = some (.cells true [.int .i64 3, .str [], .nils]) := put_self _ _ _
  have n2 : ((h1.new (.cells true [.int .i64 0, .str [], .nils])).put h1.next (some (.cells true [.int .i64 3, .str [], .nils]))).next.nat = h1.next.nat + 1 := by rw [put_next, new_next_nat]
  generalize (h1.new (.cells true [.int .i64 0, .str [], .nils])).put h1.next (some (.cells true [.int .i64 3, .str [], .nils])) = h2 at s1 c2 w2 n2
  have p2 := p1.ch c2 fun _ q => q.elim
  have c02 : Ch (fun j => j = i) h0 h2 := c1.trans c2 fun _ _ q => q.elim
  have hn1 : h.next.nat < h1.next.nat := by rw [n1]; omega
  have r2 : h2.get h.next = some (.cells true [.int .i64 0, .str [], .nils]) := by rw [c2.get _ hn1 fun q => q]; exact r1
  cases hx : nextM 41 ⟨s, rest⟩ with
  | some st2 =>
    rw [hx] at hwm
    obtain ⟨h3, e41, p3, c3, n3⟩ := next_yes p2 hx
    replace e41 : TryF45 [.ptr i 0, .int .u8 41] h2 = .ok (.bool true) h3 := e41
    have c03 : Ch (fun j => j = i) h0 h3 := c02.trans c3 fun _ _ q => q
    have r3 : h3.get h.next = some (.cells true [.int .i64 0, .str [], .nils]) := by rw [c3.get _ (by omega) fun e => hil e.symm]; exact r2
    have w3 : h3.get h1.next = some (.cells true [.int .i64 3, .str [], .nils]) := by rw [c3.get _ (by omega) fun e => by rw [← e] at hi; omega]; exact w2
    have s3 := st3_get (a := V.int .i64 3) (b := V.str []) (c := V.nils) r3
    simp only [seqO_eq, thenO_nor, thenO_ret, gtO_some, bndO_ok, get_set_of, cndX_tmp, ifB_true, ifB_false, blkO_eq, blkX_ret, Nat.reduceEqDiff, Nat.zero_ne_one, reduceCtorEq, ↓reduceIte, oBin_geq, decide_false, Tryd44, Tryr44_0, oNew_w, ← e0, Tryr44_1, hlit, Tryr44_6, e34, Tryr44_9, e40, Tryr44_10, Tryr44_12, oBuild_w1, hd8, s1, Tryr44_13, e41, Tryr44_14, ldN3_get w3, s3]
    exact Tells.ret (by simp only [resK, get_set_of, Nat.reduceEqDiff, ↓reduceIte, dLoad43, ldN3_get (put_self _ _ _), tupR]; rfl) ⟨last (w := ⟨3, [], .nil⟩) (x := V.nils) (y := V.nils) (z := V.nils) c03 fun j q => .inl q, .inr ⟨⟨3, [], .nil⟩, st2, .nils, hwm, rfl, p3.ch (Ch.put (S := fun j => j = h.next) _ _ rfl) fun j hj => by rw [hj]; exact hi, WRow.nil _ _⟩⟩
  | none =>
    rw [hx] at hwm
    simp only [] at hwm
    have e41 : TryF45 [.ptr i 0, .int .u8 41] h2 = .ok (.bool false) h2 := next_no p2 hx
    obtain ⟨r, h3, e36, c3, hq⟩ := h36 h2 i ⟨s, rest⟩ p2 (by omega)
    have c03 : Ch (fun j => j = i) h0 h3 := c02.trans c3 fun _ _ q => q
    have r3 : h3.get h.next = some (.cells true [.int .i64 0, .str [], .nils]) := by rw [c3.get _ (by omega) fun e => hil e.symm]; exact r2
    have w3 : h3.get h1.next = some (.cells true [.int .i64 3, .str [], .nils]) := by rw [c3.get _ (by omega) fun e => by rw [← e] at hi; omega]; exact w2
    have lt3 := c3.next
    rcases hq with ⟨hno, rfl⟩ | ⟨ws, st2, v, hm, rfl, p3, wr⟩
    · rw [hno] at hwm
      have s3 := st_get (q := 2) (y := V.nils) w3 ⟨rfl, rfl⟩ (by simp)
      have w4 : (h3.put h1.next (some (.cells true ([V.int .i64 3, V.str [], V.nils].set 2 V.nils)))).get h1.next = some (.cells true [.int .i64 3, .str [], .nils]) := put_self _ _ _
      have c4 : Ch (fun j => j = h1.next) h3 (h3.put h1.next (some (.cells true ([V.int .i64 3, V.str [], V.nils].set 2 V.nils)))) := Ch.put (S := fun j => j = h1.next) _ _ rfl
      generalize h3.put h1.next (some (.cells true ([V.int .i64 3, V.str [], V.nils].set 2 V.nils))) = h4 at s3 w4 c4
      have r4 : h4.get h.next = some (.cells true [.int .i64 0, .str [], .nils]) := by rw [c4.get _ (by omega) fun e => by rw [e] at hn1; omega]; exact r3
      have s4 := st3_get (a := V.int .i64 3) (b := V.str []) (c := V.nils) r4
      have c04 : Ch (fun j => j = i) h0 h4 := c03.trans c4 fun j hj q => by rw [q, n1] at hj; omega
      have ck : ∀ k, chk (fun h => oLoadN 3 (.ptr h1.next 0) h) (.agg (.cons (.int .i64 3) (.cons (.str []) (.cons .nils .nil)))) k 1 [h4] = k := fun k => chk_one (ldN3_get w4) (eqV_wag (w := ⟨3, [], .nil⟩) (Own.nil 0 h4 3))
      simp (disch := omega) only [seqO_eq, thenO_nor, thenO_ret, gtO_some, bndO_ok, get_set_of, cndX_tmp, ifB_true, ifB_false, blkO_eq, blkX_ret, Nat.reduceEqDiff, Nat.zero_ne_one, reduceCtorEq, ↓reduceIte, oBin_add, oBin_geq, oExtract_0, oExtract_1, oFieldAddr_eq, bumpH_zero, Nat.zero_add, bumpH_zero, decide_false, Tryd44, Tryr44_0, oNew_w, ← e0, Tryr44_1, hlit, Tryr44_6, e34, Tryr44_9, e40, Tryr44_10, Tryr44_12, oBuild_w1, hd8, s1, Tryr44_13, e41, Tryr44_15, e36, two, Tryr44_16, s3, Tryr44_17, ldN3_get w4, ck, s4]
      exact Tells.ret (by simp only [resK, get_set_of, Nat.reduceEqDiff, ↓reduceIte, dLoad43, ldN3_get (put_self _ _ _), tupR]; rfl) ⟨last (w := ⟨3, [], .nil⟩) (x := V.nils) (y := V.nils) (z := V.nils) c04 fun j q => .inl q, .inl ⟨hwm, 3, [], .nils, rfl, rfl, rfl⟩⟩
    · rw [hm] at hwm
      simp only [] at hwm
      obtain ⟨cs, ov, iv, wa⟩ := wr
      have s3 := st_get (q := 2) (y := v) w3 ov.cell (by simp)
      have w4 : (h3.put h1.next (some (.cells true ([V.int .i64 3, V.str [], V.nils].set 2 v)))).get h1.next = some (.cells true [.int .i64 3, .str [], v]) := put_self _ _ _
      have c4 : Ch (fun j => j = h1.next) h3 (h3.put h1.next (some (.cells true ([V.int .i64 3, V.str [], V.nils].set 2 v)))) := Ch.put (S := fun j => j = h1.next) _ _ rfl
      generalize h3.put h1.next (some (.cells true ([V.int .i64 3, V.str [], V.nils].set 2 v))) = h4 at s3 w4 c4
      have r4 : h4.get h.next = some (.cells true [.int .i64 0, .str [], .nils]) := by rw [c4.get _ (by omega) fun e => by rw [e] at hn1; omega]; exact r3
      have c04 : Ch (fun j => j = i) h0 h4 := c03.trans c4 fun j hj q => by rw [q, n1] at hj; omega
      have p4 := p3.ch c4 fun j hj => by rw [hj]; omega
      have lt4 := c4.next
      have ck : ∀ k, chk (fun h => oLoadN 3 (.ptr h1.next 0) h) (.agg (.cons (.int .i64 3) (.cons (.str []) (.cons v .nil)))) k 1 [h4] = k := fun k => chk_one (ldN3_get w4) (eqV_wag (w := ⟨3, [], .nil⟩) ov)
      cases hy : nextM 41 st2 with
      | none =>
        rw [hy] at hwm
        have e41' : TryF45 [.ptr i 0, .int .u8 41] h4 = .ok (.bool false) h4 := next_no p4 hy
        have s4 := st3_get (a := V.int .i64 3) (b := V.str []) (c := v) r4
        simp (disch := omega) only [seqO_eq, thenO_nor, thenO_ret, gtO_some, bndO_ok, get_set_of, cndX_tmp, ifB_true, ifB_false, blkO_eq, blkX_ret, Nat.reduceEqDiff, Nat.zero_ne_one, reduceCtorEq, ↓reduceIte, oBin_add, oBin_geq, oExtract_0, oExtract_1, oFieldAddr_eq, bumpH_zero, Nat.zero_add, bumpH_zero, decide_false, Tryd44, Tryr44_0, oNew_w, ← e0, Tryr44_1, hlit, Tryr44_6, e34, Tryr44_9, e40, Tryr44_10, Tryr44_12, oBuild_w1, hd8, s1, Tryr44_13, e41, Tryr44_15, e36, two, Tryr44_16, s3, Tryr44_17, e41', ldN3_get w4, ck, s4]
        exact Tells.ret (by simp only [resK, get_set_of, Nat.reduceEqDiff, ↓reduceIte, dLoad43, ldN3_get (put_self _ _ _), tupR]; rfl) ⟨last (w := ⟨3, [], .nil⟩) (x := V.nils) (y := V.nils) (z := V.nils) c04 fun j q => .inl q, .inl ⟨hwm, 3, [], v, rfl, ov.cell.2, ov.cell.1⟩⟩
      | some st3 =>
        rw [hy] at hwm
        obtain ⟨h5, e41', p5, c5, n5⟩ := next_yes p4 hy
        replace e41' : TryF45 [.ptr i 0, .int .u8 41] h4 = .ok (.bool true) h5 := e41'
        have r5 : h5.get h.next = some (.cells true [.int .i64 0, .str [], .nils]) := by rw [c5.get _ (by omega) fun e => hil e.symm]; exact r4
        have w5 : h5.get h1.next = some (.cells true [.int .i64 3, .str [], v]) := by rw [c5.get _ (by omega) fun e => by rw [← e] at hi; omega]; exact w4
        have c05 : Ch (fun j => j = i) h0 h5 := c04.trans c5 fun _ _ q => q
        have s5 := st3_get (a := V.int .i64 3) (b := V.str []) (c := v) r5
        have lt5 := c5.next
        have c6 : Ch (fun j => j = h.next) h5 (h5.put h.next (some (.cells true [V.int .i64 3, V.str [], v]))) := Ch.put (S := fun j => j = h.next) _ _ rfl
        have c36 : Ch (fun j => j = h1.next ∨ j = i ∨ j = h.next) h3 (h5.put h.next (some (.cells true [V.int .i64 3, V.str [], v]))) :=
          ((c4.mono (S' := fun j => j = h1.next ∨ j = i ∨ j = h.next) fun _ _ q => .inl q).trans c5 fun _ _ q => .inr (.inl q)).trans c6 fun _ _ q => .inr (.inr q)
        simp (disch := omega) only [seqO_eq, thenO_nor, thenO_ret, gtO_some, bndO_ok, get_set_of, cndX_tmp, ifB_true, ifB_false, blkO_eq, blkX_ret, Nat.reduceEqDiff, Nat.zero_ne_one, reduceCtorEq, ↓reduceIte, oBin_add, oBin_geq, oExtract_0, oExtract_1, oFieldAddr_eq, bumpH_zero, Nat.zero_add, bumpH_zero, decide_false, Tryd44, Tryr44_0, oNew_w, ← e0, Tryr44_1, hlit, Tryr44_6, e34, Tryr44_9, e40, Tryr44_10, Tryr44_12, oBuild_w1, hd8, s1, Tryr44_13, e41, Tryr44_15, e36, two, Tryr44_16, s3, Tryr44_17, e41', ldN3_get w5, ck, s5]
        refine Tells.ret (by simp only [resK, get_set_of, Nat.reduceEqDiff, ↓reduceIte, dLoad43, ldN3_get (put_self _ _ _), tupR]; rfl) ⟨last (w := ⟨3, [], .nil⟩) (x := V.nils) (y := V.nils) (z := V.nils) c05 fun j q => .inl q, .inr ⟨⟨3, [], ws⟩, st3, v, hwm, rfl, p5.ch c6 fun j hj => by rw [hj]; exact hi, WRow.ch ⟨cs, ov, iv, wa⟩ c36 fun j hj q => ⟨by omega, fun e => ?_⟩⟩⟩
        rcases e with e | e | e
        · rw [e] at q; omega
        · rw [e] at q; omega
        · rw [e] at q; omega
theorem word_ok {b : Nat} {texts lits : List (List Nat)} : ∀ {n m : Nat} {deep : Int}, deep = 8 - (n : Int) → 0 ≤ deep → n < m → WordOk b texts lits n (TryW m) deep
  | n, 0, _, _, _, h => by omega
  | n, m + 1, deep, hd, hd0, hm => by
    intro h i st p hsz
    show ∃ r h', TryF44 (TryF36 (TryW m)) [.ptr i 0, .int .i64 deep] h = .ok r h' ∧ WordQ b texts lits n h i st r h'
    rw [TryF44_eq]
    obtain ⟨cur, rest⟩ := st
    cases cur with
    | nil =>
      cases rest with
      | cons lt r => exact word_lit p
      | nil => exact word_atom p (fun q => q.2 rfl) (nextM_nil _ _) (nextM_nil _ _) (by rw [wordM_nil]; rfl)
    | cons c s =>
      by_cases h34 : c = 34
      · subst h34; exact word_quote p
      · by_cases h40 : c = 40
        · subst h40
          cases n with
          | zero => exact word_list0 rfl (by omega) p
          | succ n' => exact word_list rfl (by omega) hd0 (fun h i st p hz => words_ok (word_ok (n := n') (m := m) (by omega) (by omega) (by omega)) p hz) p hsz
        · refine word_atom p (fun q => by cases q.1) (nextM_other _ _ _ _ h34) (nextM_other _ _ _ _ h40) ?_
          rw [wordM_atom n c s rest h34 h40]
          by_cases ha : atomC c = true
          · rw [if_pos ha, if_pos]
            rw [List.takeWhile_cons_of_pos ha, List.length_cons]; omega
          · rw [if_neg ha, if_neg]
            rw [List.takeWhile_cons_of_neg ha]; simp
end Go.Proofs.Ytgnfkfmhjgbhhaa
