/- Part of the value machine, or of a walk by it: lemmas that the claim's last text uses. No conditions. -/
import Derived.Test.YtnlbcbjgejpanaaGreatDoorSeVmN
set_option linter.unusedVariables false
set_option linter.unusedSimpArgs false
set_option linter.unnecessarySimpa false
namespace Go.Vm
noncomputable section
variable {h h' : Hp} {sz n b : Nat} {v : V} {cs : List V}
def capOk (sz : Nat) (v : V) : Prop := ∀ i o n c, v = .slice i o n c → (match c with | .kn k => n ≤ k | .un u => u = sz)
theorem moved_le {sz o l m k : Nat} (hl : l ≤ k) (hk : k ≤ m) : moved sz o l m = o + l * sz ∨ (moved sz o l m = o ∧ k = l) := by
  unfold moved
  cases hb : Nat.beq m l with
  | true => exact .inr ⟨rfl, by have := Nat.eq_of_beq_eq_true hb; omega⟩
  | false => exact .inl rfl
theorem Sl.cut (s : Sl b h sz v n cs) (hc : capOk sz v) (hsz : 0 < sz) {lo hi : Nat} (h1 : lo ≤ hi) (h2 : hi ≤ n) (h3 : v ≠ .nils ∧ v ≠ .emp) :
    ∃ v', (∀ h', sliceX sz v (some (.int .i64 (lo : Int))) (some (.int .i64 (hi : Int))) none h' = .ok v' h') ∧ Sl b h sz v' (hi - lo) ((cs.drop (lo * sz)).take ((hi - lo) * sz)) ∧ capOk sz v' ∧ ∀ i, idOf v' = some i → idOf v = some i := by
  have hl := s.len
  have hlen : ((cs.drop (lo * sz)).take ((hi - lo) * sz)).length = (hi - lo) * sz := by
    rw [List.length_take, List.length_drop, hl, ← Nat.sub_mul]
    exact Nat.min_eq_left (Nat.mul_le_mul_right _ (by omega))
  have hget : ∀ (all : List V) (o : Nat), (∀ k, k < n * sz → all[o + k]? = cs[k]?) → ∀ k, k < (hi - lo) * sz → all[o + lo * sz + k]? = ((cs.drop (lo * sz)).take ((hi - lo) * sz))[k]? := fun all o ha k hk => by
    rw [List.getElem?_take, if_pos hk, List.getElem?_drop, Nat.add_assoc]
    apply ha
    have : lo * sz + (hi - lo) * sz ≤ n * sz := by rw [← Nat.add_mul]; exact Nat.mul_le_mul_right _ (by omega)
    omega
  rcases s.is with ⟨_, h0 | h0⟩ | ⟨i, o, c, wr, all, rfl, hi', hg, ha⟩
  · exact absurd h0 h3.1
  · exact absurd h0 h3.2
  · have hcap := hc i o n c rfl
    cases c with
    | kn k =>
      have hk : n ≤ k := hcap
      have e1 : Nat.ble k k = true := Nat.ble_eq_true_of_le (Nat.le_refl _)
      have e2 : Nat.ble hi k = true := Nat.ble_eq_true_of_le (by omega)
      have e3 : Nat.ble lo hi = true := Nat.ble_eq_true_of_le h1
      refine ⟨.slice i (moved sz o lo k) (hi - lo) (.kn (k - lo)), fun h' => ?_, ⟨hlen, ?_⟩, fun i' o' n' c' e => by cases e; show hi - lo ≤ k - lo; omega, fun j hj => hj⟩
      · show (match Nat.ble k k, Nat.ble hi k, Nat.ble lo hi with
          | true, true, true => forceNat (moved sz o lo k) fun q => forceNat (hi - lo) fun n => R.ok (V.slice i q n (.kn (k - lo))) h'
          | _, _, _ => .bad) = _
        rw [e1, e2, e3]
        simp only [forceNat_eq]
      · refine .inr ⟨i, _, _, wr, all, rfl, hi', hg, fun q hq => ?_⟩
        rcases moved_le (sz := sz) (o := o) (m := k) h1 (by omega) with e | ⟨_, e⟩
        · rw [e]; exact hget all o ha q hq
        · rw [e, Nat.sub_self, Nat.zero_mul] at hq; omega
    | un u =>
      have hu : u = sz := hcap
      subst hu
      have e2 : Nat.ble hi n = true := Nat.ble_eq_true_of_le h2
      have e3 : Nat.ble lo hi = true := Nat.ble_eq_true_of_le h1
      cases lo with
      | zero =>
        refine ⟨.slice i o hi (.un u), fun h' => ?_, ⟨hlen, .inr ⟨i, o, .un u, wr, all, rfl, hi', hg, fun q hq => ?_⟩⟩, fun i' o' n' c' e => (by cases e; rfl), fun j hj => hj⟩
        · show (match Nat.ble hi n, Nat.ble 0 hi, Nat.beq u u with
            | true, true, true => R.ok (V.slice i o hi (.un u)) h'
            | _, _, _ => R.bad) = _
          rw [e2, e3, Nat.beq_refl]
        · have := hget all o ha q hq
          rw [show o + 0 * u + q = o + q by omega] at this
          exact this
      | succ l =>
        have es : ∀ h', sliceX u (.slice i o n (.un u)) (some (.int .i64 ((l + 1 : Nat) : Int))) (some (.int .i64 (hi : Int))) none h' = (match Nat.blt (l + 1) n with
            | true => forceNat (o + (l + 1) * u) fun q => forceNat (hi - (l + 1)) fun n => R.ok (V.slice i q n (.un u)) h'
            | false => .ok .emp h') := fun h' => by
          show (match Nat.ble hi n, Nat.ble (l + 1) hi, Nat.beq u u with
            | true, true, true => (match Nat.blt (l + 1) n with
              | true => forceNat (o + (l + 1) * u) fun q => forceNat (hi - (l + 1)) fun n => R.ok (V.slice i q n (.un u)) h'
              | false => .ok .emp h')
            | _, _, _ => R.bad) = _
          rw [e2, e3, Nat.beq_refl]
        by_cases hlt : l + 1 < n
        · have e4 : Nat.blt (l + 1) n = true := by rw [Nat.blt_eq]; exact hlt
          refine ⟨.slice i (o + (l + 1) * u) (hi - (l + 1)) (.un u), fun h' => by rw [es]; simp only [e4, forceNat_eq], ⟨hlen, .inr ⟨i, _, _, wr, all, rfl, hi', hg, fun q hq => hget all o ha q hq⟩⟩, fun i' o' n' c' e => (by cases e; rfl), fun j hj => hj⟩
        · have e4 : Nat.blt (l + 1) n = false := by
            cases hb : Nat.blt (l + 1) n with
            | false => rfl
            | true => rw [Nat.blt_eq] at hb; omega
          have hz : hi - (l + 1) = 0 := by omega
          exact ⟨.emp, fun h' => by rw [es]; simp only [e4], ⟨hlen, .inl ⟨hz, .inr rfl⟩⟩, fun i' o' n' c' e => (by cases e), fun j hj => (by cases hj)⟩
end
end Go.Vm
namespace Go.Vm
noncomputable section
variable {h h' : Hp} {sz n b : Nat} {v : V} {cs : List V}
theorem Sl.from (s : Sl b h sz v n cs) (hc : capOk sz v) (hsz : 0 < sz) {lo : Nat} (h1 : lo ≤ n) :
    ∃ v', (∀ h', oSlice sz v (some (.int .i64 (lo : Int))) none none h' = .ok v' h') ∧ Sl b h sz v' (n - lo) (cs.drop (lo * sz)) ∧ capOk sz v' ∧ ∀ i, idOf v' = some i → idOf v = some i := by
  by_cases h3 : v = .nils ∨ v = .emp
  · have hn : n = 0 := by
      rcases s.is with ⟨h0, _⟩ | ⟨i, o, c, wr, all, e, _⟩
      · exact h0
      · rcases h3 with h3 | h3 <;> rw [h3] at e <;> cases e
    subst hn
    have hlo : lo = 0 := by omega
    subst hlo
    have hcs : cs = [] := List.length_eq_zero_iff.1 (by rw [s.len]; simp)
    subst hcs
    exact ⟨v, fun h' => by rcases h3 with rfl | rfl <;> rfl, by simpa using s, hc, fun _ hi => hi⟩
  · obtain ⟨v', e1, e2, e3, e4⟩ := s.cut hc hsz (hi := n) h1 (Nat.le_refl _) ⟨fun q => h3 (.inl q), fun q => h3 (.inr q)⟩
    refine ⟨v', fun h' => ?_, ?_, e3, e4⟩
    · rw [← e1 h']
      rcases s.is with ⟨_, h0⟩ | ⟨i, o, c, wr, all, rfl, _⟩
      · exact absurd h0 h3
      · rfl
    · have hl : (cs.drop (lo * sz)).length ≤ (n - lo) * sz := by rw [List.length_drop, s.len, ← Nat.sub_mul]; exact Nat.le_refl _
      rw [List.take_of_length_le hl] at e2
      exact e2
theorem Sl.upto (s : Sl b h sz v n cs) (hc : capOk sz v) (hsz : 0 < sz) {hi : Nat} (h1 : hi ≤ n) :
    ∃ v', (∀ h', oSlice sz v none (some (.int .i64 (hi : Int))) none h' = .ok v' h') ∧ Sl b h sz v' hi (cs.take (hi * sz)) ∧ capOk sz v' ∧ ∀ i, idOf v' = some i → idOf v = some i := by
  by_cases h3 : v = .nils ∨ v = .emp
  · have hn : n = 0 := by
      rcases s.is with ⟨h0, _⟩ | ⟨i, o, c, wr, all, e, _⟩
      · exact h0
      · rcases h3 with h3 | h3 <;> rw [h3] at e <;> cases e
    subst hn
    have hhi : hi = 0 := by omega
    subst hhi
    have hcs : cs = [] := List.length_eq_zero_iff.1 (by rw [s.len]; simp)
    subst hcs
    exact ⟨v, fun h' => by rcases h3 with rfl | rfl <;> rfl, by simpa using s, hc, fun _ hi => hi⟩
  · obtain ⟨v', e1, e2, e3, e4⟩ := s.cut hc hsz (lo := 0) (Nat.zero_le _) h1 ⟨fun q => h3 (.inl q), fun q => h3 (.inr q)⟩
    refine ⟨v', fun h' => ?_, ?_, e3, e4⟩
    · rw [← e1 h']
      rcases s.is with ⟨_, h0⟩ | ⟨i, o, c, wr, all, rfl, _⟩
      · exact absurd h0 h3
      · rfl
    · simpa using e2
end
end Go.Vm

namespace Go.Vm
noncomputable section
variable {h h' : Hp} {el : TypeId} {bt : Nat} {c : EqC}
theorem wrap_u8 {n : Nat} (hn : n < 256) : IntKind.u8.wrap (n : Int) = (n : Int) := by
  simp [IntKind.wrap, IntKind.signed, IntKind.bits]
  omega
theorem oBin_add8 {a b : Nat} (hn : a + b < 256) : oBin .add c (.int .u8 (a : Int)) (.int .u8 (b : Int)) h = .ok (.int .u8 ((a + b : Nat) : Int)) h := by
  show okInt .u8 (wrapK .u8 ((a : Int) + (b : Int))) h = _
  rw [wrapK_eq, show (a : Int) + (b : Int) = ((a + b : Nat) : Int) by omega, wrap_u8 hn, okInt_eq]
theorem app_kn {p : Pos} {n k : Nat} {t : TypeId} {f : Bool} {pre post : List V} {x y : V} (hg : h.get p = some (.cells (.rw t f) (pre ++ x :: post))) (hk : pre.length = k) (hn : k < n) (hp : p.nat < h.next.nat) :
    oAppend el 1 bt (.slice p 0 k (.kn n)) (.slice h.next 0 1 (.kn 1)) (h.new (.cells (.rw el true) [y])) = .ok (.slice p 0 (k + 1) (.kn n)) ((h.new (.cells (.rw el true) [y])).put p (some (.cells (.rw t f) (pre ++ y :: post)))) := by
  have hg' : (h.new (.cells (.rw el true) [y])).get p = some (.cells (.rw t f) (pre ++ x :: post)) := by rw [new_ne h (by omega)]; exact hg
  unfold oAppend
  have hsrc : ∀ f : Nat → List V → R V, srcCells 1 (.slice h.next 0 1 (.kn 1)) (h.new (.cells (.rw el true) [y])) f = f 1 [y] := fun f => by
    show hCells _ _ _ = _
    rw [hCells_rowA (wr := .rw el true) (all := [y]) (by rw [new_self]; rfl)]
    rfl
  rw [hsrc]
  simp only []
  rw [hCells_rowA (wr := .rw t f) (all := pre ++ x :: post) (by rw [hg']; rfl)]
  simp only [forceNat_eq, Nat.zero_add, Nat.mul_one]
  rw [Nat.ble_eq_true_of_le (show k + 1 ≤ n by omega), putV_one (by simp; omega)]
  simp only []
  rw [show (pre ++ x :: post).set k y = pre ++ y :: post by rw [← hk]; simp]
theorem times_len (n : Nat) (z : V) : (times n [z]).length = n := by
  induction n with
  | zero => rfl
  | succ n ih =>
    show (z :: times n [z]).length = n + 1
    simp [ih]
theorem oMakeSlice_0 {z : V} {n : Nat} (hn : n * bt ≤ 140737488355328) : oMakeSlice el bt [z] (.int .i64 0) (.int .i64 (n : Int)) h = .ok (.slice h.next 0 0 (.kn n)) (h.new (.cells (.rw el true) (times n [z]))) := by
  show (match Nat.ble 0 n, Nat.ble (Nat.mul n bt) 140737488355328 with
    | true, true => R.ok (V.slice h.next 0 0 (.kn n)) (h.new (.cells (.rw el true) (times n [z])))
    | _, _ => .bad) = _
  rw [Nat.ble_eq_true_of_le (Nat.zero_le n), show Nat.ble (Nat.mul n bt) 140737488355328 = true from Nat.ble_eq_true_of_le hn]
def lowC (c : Nat) : Nat := if 65 ≤ c ∧ c ≤ 90 then c + 32 else c
def foldM (s : List Nat) : List Nat := s.map lowC
theorem lowC_lt {c : Nat} (h : c < 256) : lowC c < 256 := by unfold lowC; split <;> omega
theorem foldM_lt {s : List Nat} (h : ∀ c ∈ s, c < 256) : ∀ c ∈ foldM s, c < 256 := fun c hc => by
  obtain ⟨d, hd, rfl⟩ := List.mem_map.1 hc
  exact lowC_lt (h d hd)
theorem bytesStr_kn {p : Pos} {n : Nat} {t : TypeId} {f : Bool} {s : List Nat} {rest : List V} (hg : h.get p = some (.cells (.rw t f) (bys s ++ rest))) (hs : ∀ b ∈ s, b < 256) : oBytesStr (.slice p 0 s.length (.kn n)) h = .ok (.str s) h := by
  show hCells h p (fun _ cs => (match takeV s.length (dropV 0 cs) with
    | some l => (match natsOf l with | some s => R.ok (V.str s) h | none => .bad)
    | none => .bad)) = _
  rw [hCells_rowA (wr := .rw t f) (all := bys s ++ rest) (by rw [hg]; rfl), takeV_of (cs := bys s) (fun k hk => by rw [Nat.zero_add, List.getElem?_append_left (by rw [bys_length]; exact hk)]) (bys_length s)]
  simp only []
  rw [natsOf_bys hs]
end
end Go.Vm
namespace Go.Vm
noncomputable section
variable {h h' : Hp} {el : TypeId} {bt : Nat} {c : EqC} {P : Program}
theorem ptr_eql_nil (n : Nat) (i : Pos) (q : Nat) : oBin .eql (.ptr n) (.ptr i q) .nilp h = .ok (.bool false) h := (rfl)
theorem ptr_neq_nil (n : Nat) (i : Pos) (q : Nat) : oBin .neq (.ptr n) (.ptr i q) .nilp h = .ok (.bool true) h := (rfl)
theorem nil_eql_nil (n : Nat) : oBin .eql (.ptr n) .nilp .nilp h = .ok (.bool true) h := (rfl)
theorem nil_neq_nil (n : Nat) : oBin .neq (.ptr n) .nilp .nilp h = .ok (.bool false) h := (rfl)
theorem ptr_neq_self {n : Nat} (hn : Nat.beq n 0 = false) (i : Pos) (q : Nat) : oBin .neq (.ptr n) (.ptr i q) (.ptr i q) h = .ok (.bool false) h := by
  show (match Nat.beq n 0, i.eq i with | false, true => okBool (not (Nat.beq q q)) h | _, _ => .bad) = _
  rw [hn, Pos.eq_self, Nat.beq_refl]; rfl
theorem oToU_at {i : Pos} {wr : Wr} {l : List V} {q : Nat} {v : V} (hg : h.get i = some (.cells wr l)) (hq : l[q]? = some v) : oToU (.ptr i q) h = .ok (.ptr i q) h := by
  show hCells h i (fun _ cs => (match nthV q cs with | some _ => R.ok (V.ptr i q) h | none => .bad)) = _
  rw [hCells_rowA (wr := wr) (all := l) (by rw [hg]; rfl), nthV_eq, hq]
theorem dFromU_at {i : Pos} {t u : TypeId} {l : List V} {q : Nat} {v : V} (hg : h.get i = some (.cells (.rw t true) l)) (hq : l[q]? = some v) (hl : liesAt P P.depth t (l.length / P.cellsOf t) q u 1 = true) : dFromU P u (.ptr i q) h = .ok (.ptr i q) h := by
  show hCells h i (fun wr cs => (match wr with
    | .rw t full => (match full, nthV q cs, liesAt P P.depth t (cs.length / P.cellsOf t) q u 1 with
      | true, some _, true => R.ok (V.ptr i q) h
      | _, _, _ => .bad)
    | .ro => .bad)) = _
  rw [hCells_rowA (wr := .rw t true) (all := l) (by rw [hg]; rfl)]
  simp only [nthV_eq, hq, hl]
theorem app_str {b n : Nat} {v : V} {s t : List Nat} (o : Ow b h el 1 v n (bys s)) (hb : b ≤ h.next.nat) (hs : (n + t.length) * bt ≤ 140737488355328) :
    ∃ v' h', oAppend el 1 bt v (.str t) h = .ok v' h' ∧ Ow b h' el 1 v' (n + t.length) (bys (s ++ t)) ∧ Ch (fun j => idOf v = some j) h h' ∧ (∀ j, idOf v' = some j → idOf v = some j ∨ h.next.nat ≤ j.nat) := by
  have hl : (bys (s ++ t)).length = (n + t.length) * 1 := by rw [bys_append, List.length_append, o.len, bys_length]; omega
  have hsrc : ∀ f : Nat → List V → R V, srcCells 1 (.str t) h f = f t.length (bys t) := fun f => by
    show (match Nat.beq 1 1 with | true => f t.length (u8s t) | false => .bad) = _
    rw [u8s_bys]
  unfold oAppend
  rw [hsrc]
  cases t with
  | nil =>
    simp only [List.length_nil, List.append_nil] at *
    rcases o.is with ⟨rfl, rfl⟩ | ⟨i, rfl, hbi, hi, f1, hg⟩
    · exact ⟨_, _, rfl, o, Ch.refl _ _, fun j hj => (by cases hj)⟩
    · exact ⟨_, _, rfl, o, Ch.refl _ _, fun j hj => .inl hj⟩
  | cons c t =>
    simp only [List.length_cons]
    rcases o.is with ⟨rfl, rfl⟩ | ⟨i, rfl, hbi, hi, f1, hg⟩
    · have hc : s = [] := by have := o.len; rw [bys_length] at this; exact List.length_eq_zero_iff.1 (by omega)
      subst hc
      simp only []
      rw [freshRow_eq (by rw [List.length_cons, Nat.zero_add] at hs; exact hs)]
      refine ⟨_, _, rfl, ⟨hl, .inr ⟨h.next, by simp, hb, by rw [new_next_nat]; omega, false, ?_⟩⟩, Ch.new _ _ _, fun j hj => by cases hj; exact .inr (Nat.le_refl _)⟩
      rw [List.nil_append]; exact new_self _ _
    · simp only []
      rw [hCells_rowA (wr := .rw el f1) (all := bys s) (by rw [hg]; rfl)]
      have hn : (bys s).length = n * 1 := o.len
      have h1 : takeV (n * 1) (dropV 0 (bys s)) = some (bys s) := by rw [dropV_eq, List.drop_zero, ← hn, takeV_all]
      have h2 : dropV (n * 1) (dropV 0 (bys s)) = [] := by rw [dropV_eq, dropV_eq, List.drop_zero, ← hn, List.drop_length]
      simp only [forceNat_eq, h1, h2, Nat.beq_refl]
      rw [freshRow_eq (by rw [List.length_cons] at hs; exact hs)]
      refine ⟨_, _, rfl, ⟨hl, .inr ⟨h.next, rfl, hb, by rw [new_next_nat, put_next]; omega, false, ?_⟩⟩, (Ch.put (S := fun j => idOf (.slice i 0 n (.un 1)) = some j) h none rfl).trans (Ch.new (fun _ => False) _ _) fun _ _ q => q.elim, fun j hj => by cases hj; exact .inr (Nat.le_refl _)⟩
      rw [bys_append]; exact new_self (h.put i none) _
theorem unsafeStr_at {i : Pos} {t : TypeId} {f : Bool} {s : List Nat} (hg : h.get i = some (.cells (.rw t f) (bys s))) (hs : ∀ b ∈ s, b < 256) (hl : s.length ≤ 9223372036854775807) (h0 : s ≠ []) :
    oUnsafeStr t (.ptr i 0) (.int .i64 (s.length : Int)) h = .ok (.str s) (h.put i (some (.cells .ro (bys s)))) := by
  obtain ⟨m, hm⟩ : ∃ m, s.length = m + 1 := by
    cases s with
    | nil => exact absurd rfl h0
    | cons a l => exact ⟨l.length, rfl⟩
  rw [hm]
  show hCells h i (fun wr cs => (match wr with
      | .rw t' _ => (match Nat.beq t' t with
        | true => (match takeV (m + 1) (dropV 0 cs) with
          | some l => (match natsOf l with
            | some s => (match Nat.ble s.length 9223372036854775807 with | true => R.ok (V.str s) (h.put i (some (.cells .ro cs))) | false => .bad)
            | none => .bad)
          | none => .bad)
        | false => .bad)
      | .ro => .bad)) = _
  rw [hCells_rowA (wr := .rw t f) (all := bys s) (by rw [hg]; rfl)]
  simp only [Nat.beq_refl]
  rw [takeV_of (cs := bys s) (fun k hk => by rw [Nat.zero_add]) (by rw [bys_length, hm])]
  simp only []
  rw [natsOf_bys hs]
  simp only []
  rw [Nat.ble_eq_true_of_le hl]
end
end Go.Vm
namespace Go.Vm
noncomputable section
variable {h h' : Hp} {el : TypeId} {bt : Nat} {c : EqC}
theorem oBin_mul {a b : Int} (h1 : -9223372036854775808 ≤ a * b) (h2 : a * b < 9223372036854775808) : oBin .mul c (.int .i64 a) (.int .i64 b) h = .ok (.int .i64 (a * b)) h := by
  show okInt .i64 (wrap64 (a * b)) h = _
  rw [wrap64_in h1 h2, okInt_eq]
theorem oBin_quo {a b : Int} (h0 : b ≠ 0) (h1 : -9223372036854775808 ≤ a.tdiv b) (h2 : a.tdiv b < 9223372036854775808) : oBin .quo c (.int .i64 a) (.int .i64 b) h = .ok (.int .i64 (a.tdiv b)) h := by
  show (match intEq b 0 with | true => R.bad | false => okInt .i64 (wrap64 (Int.tdiv a b)) h) = _
  rw [intEq_dec, decide_eq_false h0]
  simp only []
  rw [wrap64_in h1 h2, okInt_eq]
theorem oCap_nils : oCap .nils h = .ok (.int .i64 0) h := (rfl)
theorem oLen_nils : oLenK 2 .nils h = .ok (.int .i64 0) h := (rfl)
theorem noZero_eq {n : Nat} (hn : n ≤ 140737488355328) : noZero el [.int .i64 (n : Int)] h = .ok (.slice h.next 0 n (.un 1)) (h.new (.cells (.rw el false) [])) := by
  show (match Nat.ble n 140737488355328 with
          | true => R.ok (V.slice h.next 0 n (.un 1)) (h.new (.cells (.rw el false) []))
          | false => .bad) = _
  rw [Nat.ble_eq_true_of_le hn]
theorem oSlice_un0 (p : Pos) (n : Nat) : oSlice 1 (.slice p 0 n (.un 1)) none (some (.int .i64 0)) none h = .ok (.slice p 0 0 (.un 1)) h := by
  show (match Nat.ble 0 n, Nat.ble 0 0, Nat.beq 1 1 with
    | true, true, true => R.ok (V.slice p 0 0 (.un 1)) h
    | _, _, _ => R.bad) = _
  rw [Nat.ble_eq_true_of_le (Nat.zero_le n)]
theorem oCopy_nils (p : Pos) (o n : Nat) (k : Cap) : oCopy 1 (.slice p o n k) .nils h = .ok (.int .i64 0) h := by
  show (match Nat.ble 0 n with | true => R.ok (V.int .i64 (.ofNat 0)) h | false => .bad) = _
  rw [Nat.ble_eq_true_of_le (Nat.zero_le n)]; rfl
theorem chk_two {m : Hp → R V} {v : V} {k : Out} {g g1 g' g1' : Hp} (hm : m g = .ok v g') (hm1 : m g1 = .ok v g1') (hv : eqV v v = true) : chk m v k 2 [g, g1] = k := by
  show (match m g with | .ok v' _ => (match eqV v v' with | true => chk m v k 1 [g1] | false => .bad) | .bad => .bad) = _
  rw [hm]
  simp only [hv]
  exact chk_one hm1 hv
def joinM (sep : List Nat) : List (List Nat) → List Nat
  | [] => []
  | a :: r => (match r with | [] => a | _ :: _ => a ++ sep ++ joinM sep r)
def joinT (sep : List Nat) (l : List (List Nat)) : List Nat := (l.map fun a => sep ++ a).flatten
theorem joinM_cons (sep a : List Nat) : ∀ r, joinM sep (a :: r) = a ++ joinT sep r
  | [] => by simp [joinM, joinT]
  | b :: r => by
    show a ++ sep ++ joinM sep (b :: r) = _
    rw [joinM_cons sep b r]
    simp [joinT]
theorem joinT_snoc (sep : List Nat) (l : List (List Nat)) (a : List Nat) : joinT sep (l ++ [a]) = joinT sep l ++ (sep ++ a) := by simp [joinT]
def sizeL (l : List (List Nat)) : Nat := (l.map List.length).sum
theorem sizeL_snoc (l : List (List Nat)) (a : List Nat) : sizeL (l ++ [a]) = sizeL l + a.length := by simp [sizeL]
theorem sizeL_take (l : List (List Nat)) (k : Nat) : sizeL (l.take k) ≤ sizeL l := by
  have e : sizeL l = sizeL (l.take k) + sizeL (l.drop k) := by
    unfold sizeL
    rw [← List.sum_append, ← List.map_append, List.take_append_drop]
  omega
theorem joinT_len (sep : List Nat) (l : List (List Nat)) : (joinT sep l).length = sizeL l + sep.length * l.length := by
  induction l with
  | nil => simp [joinT, sizeL]
  | cons a l ih => simp [joinT, sizeL] at ih ⊢; rw [ih, Nat.mul_succ]; omega
end
end Go.Vm

namespace Go.Vm
theorem vmL : type_of% @seqO_eq ∧ type_of% @thenO_nor ∧ type_of% @thenO_ret ∧ type_of% @thenO_ex ∧ type_of% @gtO_some ∧ type_of% @bndO_ok ∧ type_of% @get_set_of ∧ type_of% @cndX_tmp ∧ type_of% @ifB_true ∧ type_of% @ifB_false ∧ type_of% @ifB_pos ∧ type_of% @ifB_neg ∧ type_of% @blkO_eq ∧ type_of% @blkX_nor ∧ type_of% @blkX_ret ∧ type_of% @blkX_ex ∧ type_of% @Nat.zero_ne_one ∧ type_of% @Nat.one_ne_zero ∧ type_of% @oBin_add ∧ type_of% @oBin_sub ∧ type_of% @oBin_eql ∧ type_of% @oBin_neq ∧ type_of% @oBin_lss ∧ type_of% @oBin_leq ∧ type_of% @oBin_gtr ∧ type_of% @oBin_geq ∧ type_of% @oUn_not ∧ type_of% @oPick_true ∧ type_of% @oPick_false ∧ type_of% @oExtract_0 ∧ type_of% @oExtract_1 ∧ type_of% @oExtract_2 ∧ type_of% @oMin_eq ∧ type_of% @oMax_eq ∧ type_of% @oFieldAddr_eq ∧ type_of% @oConvInt_i64 ∧ type_of% @oBin_rem ∧ type_of% @oBuildSlice_11 ∧ type_of% @oBinAgg_eql2 ∧ type_of% @oBinAgg_neq2 ∧ type_of% @oBuildSlice_1 ∧ type_of% @oBuild_2 ∧ type_of% @oBuildSlice_2 ∧ type_of% @chk_zero ∧ type_of% @chk_nil ∧ type_of% @bumpH_zero ∧ type_of% @aBuildSlice_1 ∧ type_of% @oBuildSlice_22 ∧ type_of% @alcO_some ∧ type_of% @Bool.not_true ∧ type_of% @Bool.not_false :=
  ⟨@seqO_eq, @thenO_nor, @thenO_ret, @thenO_ex, @gtO_some, @bndO_ok, @get_set_of, @cndX_tmp, @ifB_true, @ifB_false, @ifB_pos, @ifB_neg, @blkO_eq, @blkX_nor, @blkX_ret, @blkX_ex, @Nat.zero_ne_one, @Nat.one_ne_zero, @oBin_add, @oBin_sub, @oBin_eql, @oBin_neq, @oBin_lss, @oBin_leq, @oBin_gtr, @oBin_geq, @oUn_not, @oPick_true, @oPick_false, @oExtract_0, @oExtract_1, @oExtract_2, @oMin_eq, @oMax_eq, @oFieldAddr_eq, @oConvInt_i64, @oBin_rem, @oBuildSlice_11, @oBinAgg_eql2, @oBinAgg_neq2, @oBuildSlice_1, @oBuild_2, @oBuildSlice_2, @chk_zero, @chk_nil, @bumpH_zero, @aBuildSlice_1, @oBuildSlice_22, @alcO_some, @Bool.not_true, @Bool.not_false⟩
theorem vsL : type_of% @oBin_str_eql ∧ type_of% @oBin_str_neq ∧ type_of% @oLenK_str ∧ type_of% @oNilCheck_ptr ∧ type_of% @Nat.zero_add ∧ type_of% @put_bump :=
  ⟨@oBin_str_eql, @oBin_str_neq, @oLenK_str, @oNilCheck_ptr, @Nat.zero_add, @put_bump⟩
theorem vpL : (∀ {α : Type} (a b : α), (some a).getD b = a) ∧ (∀ {α : Type} (b : α), (none : Option α).getD b = b) ∧ (∀ {α : Type} (a : α), (some a).isSome = true) ∧ (∀ {α : Type}, (none : Option α).isSome = false) :=
  ⟨fun _ _ => rfl, fun _ => rfl, fun _ => rfl, rfl⟩
theorem vqL : (∀ {α : Type} (a b : α), (a ≠ b) = ¬ (a = b)) ∧ (∀ h : Decidable True, @decide True h = true) ∧ (∀ h : Decidable False, @decide False h = false) ∧ ((¬ True) = False) ∧ ((¬ False) = True) :=
  ⟨fun _ _ => rfl, fun h => decide_true h, fun h => decide_false h, propext not_true, not_false_eq_true⟩
end Go.Vm
