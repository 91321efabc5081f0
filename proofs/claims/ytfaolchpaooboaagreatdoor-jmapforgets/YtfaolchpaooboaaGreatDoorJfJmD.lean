/- Part of the value machine, or of a walk by it: lemmas that the claim's last text uses. No conditions. -/
import Derived.Test.YtfaolchpaooboaaGreatDoorJfVmO
import Derived.Test.YtfaolchpaooboaaGreatDoorJfJmC
set_option linter.unusedVariables false
set_option linter.unusedSimpArgs false
set_option linter.unnecessarySimpa false
noncomputable section
namespace Go.Proofs.Jm
open Go Go.Proofs Go.Vm
set_option linter.unusedVariables false
set_option maxRecDepth 100000
set_option linter.unusedSimpArgs false
def okB (c : Nat) : Bool := match Nat.ble 32 c with
  | true => (match Nat.blt c 128 with
    | true => (match Nat.beq c 34 with
      | true => false
      | false => (match Nat.beq c 92 with | true => false | false => true))
    | false => false)
  | false => false
theorem okB_ok {c : Nat} (h : okB c = true) : okC c := by
  unfold okB at h
  split at h
  · rename_i h1
    split at h
    · rename_i h2
      split at h
      · cases h
      · rename_i h3
        split at h
        · cases h
        · rename_i h4
          exact ⟨Nat.le_of_ble_eq_true h1, by simpa [Nat.blt_eq] using h2, Nat.ne_of_beq_eq_false h3, Nat.ne_of_beq_eq_false h4⟩
    · cases h
  · cases h
def spanQ : List Nat → Option (List Nat)
  | [] => none
  | c :: l => (match Nat.beq c 34 with
    | true => some []
    | false => (match okB c with
      | true => (match spanQ l with | some q => some (c :: q) | none => none)
      | false => none))
theorem spanQ_ok : ∀ {l q : List Nat}, spanQ l = some q → (∃ r, l = q ++ 34 :: r) ∧ ∀ c ∈ q, okC c
  | [], q, h => by cases h
  | c :: l, q, h => by
    unfold spanQ at h
    split at h
    · rename_i hb
      cases h
      exact ⟨⟨l, by rw [Nat.eq_of_beq_eq_true hb]; rfl⟩, fun _ h => by cases h⟩
    · split at h
      · rename_i ho
        split at h
        · rename_i q' hq
          cases h
          obtain ⟨⟨r, e⟩, k⟩ := spanQ_ok hq
          exact ⟨⟨r, by rw [e]; rfl⟩, fun d hd => by rcases List.mem_cons.1 hd with rfl | hd; exact okB_ok ho; exact k d hd⟩
        · cases h
      · cases h
def asciiB : List Nat → Bool
  | [] => true
  | c :: l => (match Nat.blt c 128 with | true => asciiB l | false => false)
theorem asciiB_ok : ∀ {l : List Nat}, asciiB l = true → ∀ c ∈ l, c < 128
  | [], _, c, h => by cases h
  | d :: l, e, c, h => by
    unfold asciiB at e
    split at e
    · rename_i hb
      rcases List.mem_cons.1 h with rfl | h
      · simpa [Nat.blt_eq] using hb
      · exact asciiB_ok e c h
    · cases e
def preB : List Nat → List Nat → Bool
  | [], _ => true
  | c :: t, u => (match u with | [] => false | d :: u => (match Nat.beq c d with | true => preB t u | false => false))
theorem preB_true : ∀ {t u : List Nat}, preB t u = true → ∃ r, u = t ++ r
  | [], u, _ => ⟨u, rfl⟩
  | c :: t, [], h => by cases h
  | c :: t, d :: u, h => by
    simp only [preB] at h
    split at h
    · rename_i hb
      obtain ⟨r, e⟩ := preB_true h
      exact ⟨r, by rw [e, Nat.eq_of_beq_eq_true hb]; rfl⟩
    · cases h
theorem preB_false : ∀ {t u : List Nat}, preB t u = false → ¬ ∃ r, u = t ++ r
  | [], u, h => by cases h
  | c :: t, [], _ => by rintro ⟨r, e⟩; cases e
  | c :: t, d :: u, h => by
    simp only [preB] at h
    rintro ⟨r, e⟩
    cases e
    rw [Nat.beq_refl] at h
    exact preB_false h ⟨r, rfl⟩
def nthN : List Nat → Nat → Option Nat := fun s => List.rec (motive := fun _ => Nat → Option Nat) (fun _ => none) (fun c _ ih n => Nat.casesOn n (some c) fun n => ih n) s
theorem nthN_eq : ∀ (s : List Nat) (n : Nat), nthN s n = s[n]?
  | [], n => by simp [nthN]
  | c :: s, 0 => rfl
  | c :: s, n + 1 => by
    show nthN s n = _
    rw [nthN_eq s n]; rfl
def blankB (c : Nat) : Bool := match Nat.beq c 32 with
  | true => true
  | false => (match Nat.beq c 9 with
    | true => true
    | false => (match Nat.beq c 10 with | true => true | false => Nat.beq c 13))
theorem blankB_false {c : Nat} (h : blankB c = false) : ¬ isBlank c := by
  rintro (rfl | rfl | rfl | rfl) <;> cases h
def rd3 (o : Option Ob) : Option (TypeId × List Nat × Nat × V) := match o with
  | some (.cells (.rw ty true) [.str s, .int .i64 (.ofNat a), x]) => some (ty, s, a, x)
  | _ => none
theorem rd3_ok {o : Option Ob} {ty : TypeId} {s : List Nat} {a : Nat} {x : V} (h : rd3 o = some (ty, s, a, x)) : o = some (.cells (.rw ty true) [.str s, .int .i64 (a : Int), x]) := by
  unfold rd3 at h
  split at h
  · cases h; rfl
  · cases h
def rd4 (o : Option Ob) : Option (TypeId × List Nat × Nat × V) := match o with
  | some (.cells (.rw ty true) [.str s, .int .i64 (.ofNat a), x, .int .i64 (.ofNat 0)]) => some (ty, s, a, x)
  | _ => none
theorem rd4_ok {o : Option Ob} {ty : TypeId} {s : List Nat} {a : Nat} {x : V} (h : rd4 o = some (ty, s, a, x)) : o = some (.cells (.rw ty true) [.str s, .int .i64 (a : Int), x, .int .i64 0]) := by
  unfold rd4 at h
  split at h
  · cases h; rfl
  · cases h
def a1S (args : List V) : Option (List Nat) := match args with
  | [.str s] => some s
  | _ => none
theorem a1S_ok {args : List V} {s : List Nat} (h : a1S args = some s) : args = [.str s] := by
  unfold a1S at h; split at h; cases h; rfl; cases h
def a1P (args : List V) : Option Pos := match args with
  | [.ptr p 0] => some p
  | _ => none
theorem a1P_ok {args : List V} {p : Pos} (h : a1P args = some p) : args = [.ptr p 0] := by
  unfold a1P at h; split at h; cases h; rfl; cases h
def a2S (args : List V) : Option (Pos × List Nat) := match args with
  | [.ptr p 0, .str t] => some (p, t)
  | _ => none
theorem a2S_ok {args : List V} {p : Pos} {t : List Nat} (h : a2S args = some (p, t)) : args = [.ptr p 0, .str t] := by
  unfold a2S at h; split at h; cases h; rfl; cases h
def a2C (args : List V) : Option (Pos × Nat) := match args with
  | [.ptr p 0, .int .u8 (.ofNat c)] => some (p, c)
  | _ => none
theorem a2C_ok {args : List V} {p : Pos} {c : Nat} (h : a2C args = some (p, c)) : args = [.ptr p 0, .int .u8 (c : Int)] := by
  unfold a2C at h; split at h; cases h; rfl; cases h
def short (s : List Nat) : Bool := Nat.ble s.length 1000000
theorem short_ok {s : List Nat} (h : short s = true) : s.length < 1000000000 := by have := Nat.le_of_ble_eq_true h; omega
def validS (args : List V) (h : Hp) : Option (V × Hp) := match a1S args with
  | some s => (match short s with
    | true => (match asciiB s with | true => some (.bool true, h) | false => none)
    | false => none)
  | none => none
theorem validS_ok {args : List V} {h h2 : Hp} {r : V} (e : validS args h = some (r, h2)) : ∃ s, args = [.str s] ∧ s.length < 1000000000 ∧ (∀ c ∈ s, c < 128) ∧ r = .bool true ∧ h2 = h := by
  unfold validS at e
  split at e
  · rename_i s hs
    split at e
    · rename_i hl
      split at e
      · rename_i ha
        cases e
        exact ⟨s, a1S_ok hs, short_ok hl, asciiB_ok ha, rfl, rfl⟩
      · cases e
    · cases e
  · cases e
theorem valid_fast {f : FuncId} (hF : CallOk Tryz.prog TryG f JmF151) : CallOk Tryz.prog TryG f (fastF validS JmF151) := fast_pure hF fun args h r h2 ok e => by
  obtain ⟨s, rfl, hl, ha, rfl, rfl⟩ := validS_ok e
  exact ⟨rfl, fun _ => rfl, valid_ascii ha hl _⟩
theorem valid7_fast {f : FuncId} (hF : CallOk Tryz.prog TryG f JmF154) : CallOk Tryz.prog TryG f (fastF validS JmF154) := fast_pure hF fun args h r h2 ok e => by
  obtain ⟨s, rfl, hl, ha, rfl, rfl⟩ := validS_ok e
  exact ⟨rfl, fun _ => rfl, valid7_ascii ha hl _⟩
def mayS (args : List V) (h : Hp) : Option (V × Hp) := match a2S args with
  | some (p, t) => (match rd3 (h.get p) with
    | some (ty, s, a, x) => (match short s with
      | true => (match Nat.ble a s.length with
        | true => (match short t with
          | true => (match preB t (dropN a s) with
            | true => forceNat (a + t.length) fun b => some (.bool true, h.put p (some (.cells (.rw ty true) [.str s, .int .i64 (.ofNat b), x])))
            | false => some (.bool false, h))
          | false => none)
        | false => none)
      | false => none)
    | none => none)
  | none => none
theorem may_fast {f : FuncId} (hF : CallOk Tryz.prog TryG f JmF246) : CallOk Tryz.prog TryG f (fastF mayS JmF246) := fast_ok hF fun args h r h2 ok hi e => by
  unfold mayS at e
  split at e
  · rename_i p t hat
    obtain rfl := a2S_ok hat
    split at e
    · rename_i ty s a x hrd
      have hg := rd3_ok hrd
      have hp := (ok _ _ hg).1
      split at e
      · rename_i hls
        split at e
        · rename_i hla
          split at e
          · rename_i hlt
            have hs := short_ok hls
            have ht := short_ok hlt
            have ha := Nat.le_of_ble_eq_true hla
            split at e
            · rename_i hpre
              rw [dropN_eq] at hpre
              obtain ⟨u, hu⟩ := preB_true hpre
              have h1 : a + t.length ≤ s.length := by
                have := congrArg List.length hu
                simp at this
                omega
              have h2' : (s.drop a).take t.length = t := by rw [hu]; simp
              rw [forceNat_eq] at e
              cases e
              refine ⟨_, id, may_yes hg h1 h2' hs, Carry.one ok hp (Ch.put _ _ rfl) (by rw [put_self]; rfl) ((ok _ _ hg).2), rfl⟩
            · rename_i hpre
              rw [dropN_eq] at hpre
              cases e
              refine ⟨h, id, may_no hg (fun q => preB_false hpre ⟨(s.drop a).drop t.length, ?_⟩) hs (by omega) ht, Carry.none ok (Ch.refl _ _), rfl⟩
              conv => lhs; rw [← List.take_append_drop t.length (s.drop a), q.2]
          · cases e
        · cases e
      · cases e
    · cases e
  · cases e
def mustS (args : List V) (h : Hp) : Option (V × Hp) := match a2S args with
  | some (p, t) => (match rd3 (h.get p) with
    | some (ty, s, a, x) => (match short s with
      | true => (match Nat.ble a s.length with
        | true => (match preB t (dropN a s) with
          | true => forceNat (a + t.length) fun b => some (.tuple .nil, h.put p (some (.cells (.rw ty true) [.str s, .int .i64 (.ofNat b), x])))
          | false => none)
        | false => none)
      | false => none)
    | none => none)
  | none => none
theorem must_fast {f : FuncId} (hF : CallOk Tryz.prog TryG f JmF251) : CallOk Tryz.prog TryG f (fastF mustS JmF251) := fast_ok hF fun args h r h2 ok hi e => by
  unfold mustS at e
  split at e
  · rename_i p t hat
    obtain rfl := a2S_ok hat
    split at e
    · rename_i ty s a x hrd
      have hg := rd3_ok hrd
      have hp := (ok _ _ hg).1
      split at e
      · rename_i hls
        split at e
        · rename_i hla
          have hs := short_ok hls
          have ha := Nat.le_of_ble_eq_true hla
          split at e
          · rename_i hpre
            rw [dropN_eq] at hpre
            obtain ⟨u, hu⟩ := preB_true hpre
            have h1 : a + t.length ≤ s.length := by
              have := congrArg List.length hu
              simp at this
              omega
            have h2' : (s.drop a).take t.length = t := by rw [hu]; simp
            rw [forceNat_eq] at e
            cases e
            exact ⟨_, id, must_yes hg h1 h2' hs, Carry.one ok hp (Ch.put _ _ rfl) (by rw [put_self]; rfl) ((ok _ _ hg).2), rfl⟩
          · cases e
        · cases e
      · cases e
    · cases e
  · cases e
def blanksS (args : List V) (h : Hp) : Option (V × Hp) := match a1P args with
  | some p => (match rd3 (h.get p) with
    | some (ty, s, a, x) => (match nthN s a with
      | some c => (match blankB c with | true => none | false => some (.tuple .nil, h))
      | none => some (.tuple .nil, h))
    | none => none)
  | none => none
theorem blanks_fast {f : FuncId} (hF : CallOk Tryz.prog TryG f JmF190) : CallOk Tryz.prog TryG f (fastF blanksS JmF190) := fast_ok hF fun args h r h2 ok hi e => by
  unfold blanksS at e
  split at e
  · rename_i p hat
    obtain rfl := a1P_ok hat
    split at e
    · rename_i ty s a x hrd
      have hg := rd3_ok hrd
      rw [nthN_eq] at e
      split at e
      · rename_i c hc
        split at e
        · cases e
        · rename_i hb
          cases e
          exact ⟨h, id, blanks_none hg hc (blankB_false hb), Carry.none ok (Ch.refl _ _), rfl⟩
      · rename_i hc
        cases e
        exact ⟨h, id, blanks_end hg (by simpa using hc), Carry.none ok (Ch.refl _ _), rfl⟩
    · cases e
  · cases e
def blanks7S (args : List V) (h : Hp) : Option (V × Hp) := match a1P args with
  | some p => (match rd4 (h.get p) with
    | some (ty, s, a, x) => (match nthN s a with
      | some c => (match blankB c with | true => none | false => some (.tuple .nil, h))
      | none => some (.tuple .nil, h))
    | none => none)
  | none => none
theorem blanks7_fast {f : FuncId} (hF : CallOk Tryz.prog TryG f JmF48) : CallOk Tryz.prog TryG f (fastF blanks7S JmF48) := fast_ok hF fun args h r h2 ok hi e => by
  unfold blanks7S at e
  split at e
  · rename_i p hat
    obtain rfl := a1P_ok hat
    split at e
    · rename_i ty s a x hrd
      have hg := rd4_ok hrd
      rw [nthN_eq] at e
      split at e
      · rename_i c hc
        split at e
        · cases e
        · rename_i hb
          cases e
          exact ⟨h, id, blanks7_none hg hc (blankB_false hb), Carry.none ok (Ch.refl _ _), rfl⟩
      · rename_i hc
        cases e
        exact ⟨h, id, blanks7_end hg (by simpa using hc), Carry.none ok (Ch.refl _ _), rfl⟩
    · cases e
  · cases e
def isS7 (args : List V) (h : Hp) : Option (V × Hp) := match a2C args with
  | some (p, d) => (match rd4 (h.get p) with
    | some (ty, s, a, x) => (match short s with
      | true => (match nthN s a with
        | some c => (match Nat.beq c d with
          | true => forceNat (a + 1) fun b => some (.bool true, h.put p (some (.cells (.rw ty true) [.str s, .int .i64 (.ofNat b), x, .int .i64 (.ofNat 0)])))
          | false => some (.bool false, h))
        | none => some (.bool false, h))
      | false => none)
    | none => none)
  | none => none
theorem is_fast {f : FuncId} (hF : CallOk Tryz.prog TryG f JmF186) : CallOk Tryz.prog TryG f (fastF isS7 JmF186) := fast_ok hF fun args h r h2 ok hi e => by
  unfold isS7 at e
  split at e
  · rename_i p d hat
    obtain rfl := a2C_ok hat
    split at e
    · rename_i ty s a x hrd
      have hg := rd4_ok hrd
      have hp := (ok _ _ hg).1
      rw [nthN_eq] at e
      split at e
      · rename_i hls
        split at e
        · rename_i c hc
          split at e
          · rename_i hb
            obtain rfl := Nat.eq_of_beq_eq_true hb
            rw [forceNat_eq] at e
            cases e
            exact ⟨_, id, is_yes hg hc (short_ok hls), Carry.one ok hp (Ch.put _ _ rfl) (by rw [put_self]; rfl) ((ok _ _ hg).2), rfl⟩
          · rename_i hb
            cases e
            exact ⟨h, id, is_no hg hc (Nat.ne_of_beq_eq_false hb), Carry.none ok (Ch.refl _ _), rfl⟩
        · rename_i hc
          cases e
          exact ⟨h, id, is_end hg (by simpa using hc), Carry.none ok (Ch.refl _ _), rfl⟩
      · cases e
    · cases e
  · cases e
def textS (args : List V) (h : Hp) : Option (V × Hp) := match a1P args with
  | some p => (match rd3 (h.get p) with
    | some (ty, s, a, x) => (match short s with
      | true => (match dropN a s with
        | [] => none
        | c :: l => (match Nat.beq c 34 with
          | true => (match spanQ l with
            | some q => forceNat (a + (q.length + 2)) fun b => some (.str q, h.put p (some (.cells (.rw ty true) [.str s, .int .i64 (.ofNat b), x])))
            | none => none)
          | false => none))
      | false => none)
    | none => none)
  | none => none
theorem text_fast {f : FuncId} (hF : CallOk Tryz.prog TryG f JmF250) : CallOk Tryz.prog TryG f (fastF textS JmF250) := fast_ok hF fun args h r h2 ok hi e => by
  unfold textS at e
  split at e
  · rename_i p hat
    obtain rfl := a1P_ok hat
    split at e
    · rename_i ty s a x hrd
      have hg := rd3_ok hrd
      have hp := (ok _ _ hg).1
      split at e
      · rename_i hls
        split at e
        · cases e
        · rename_i c l hd
          rw [dropN_eq] at hd
          split at e
          · rename_i hb
            obtain rfl := Nat.eq_of_beq_eq_true hb
            split at e
            · rename_i q hq
              obtain ⟨⟨u, rfl⟩, hk⟩ := spanQ_ok hq
              rw [forceNat_eq] at e
              cases e
              obtain ⟨y, h1, e1, rfl, c1, g1⟩ := text_asciiT hg hp hd hk (short_ok hls)
              exact ⟨h1, id, e1, Carry.one ok hp c1 g1 ((ok _ _ hg).2), rfl⟩
            · cases e
          · cases e
      · cases e
    · cases e
  · cases e
def text7S (args : List V) (h : Hp) : Option (V × Hp) := match a1P args with
  | some p => (match rd4 (h.get p) with
    | some (ty, s, a, x) => (match short s with
      | true => (match spanQ (dropN a s) with
        | some q => forceNat (a + (q.length + 1)) fun b => some (.str q, h.put p (some (.cells (.rw ty true) [.str s, .int .i64 (.ofNat b), x, .int .i64 (.ofNat 0)])))
        | none => none)
      | false => none)
    | none => none)
  | none => none
theorem text7_fast {f : FuncId} (hF : CallOk Tryz.prog TryG f JmF123) : CallOk Tryz.prog TryG f (fastF text7S JmF123) := fast_ok hF fun args h r h2 ok hi e => by
  unfold text7S at e
  split at e
  · rename_i p hat
    obtain rfl := a1P_ok hat
    split at e
    · rename_i ty s a x hrd
      have hg := rd4_ok hrd
      have hp := (ok _ _ hg).1
      split at e
      · rename_i hls
        split at e
        · rename_i q hq
          rw [dropN_eq] at hq
          obtain ⟨⟨u, hu⟩, hk⟩ := spanQ_ok hq
          rw [forceNat_eq] at e
          cases e
          obtain ⟨y, h1, e1, rfl, c1, g1⟩ := text7_asciiT hg hp hu hk (short_ok hls)
          exact ⟨h1, id, e1, Carry.one ok hp c1 g1 ((ok _ _ hg).2), rfl⟩
        · cases e
      · cases e
    · cases e
  · cases e
end Go.Proofs.Jm
