/- Part of the value machine, or of a walk by it: lemmas that the claim's last text uses. No conditions. -/
import Derived.Test.YtnlbcbjgejpanaaGreatDoorStVmN
set_option linter.unusedVariables false
set_option linter.unusedSimpArgs false
set_option linter.unnecessarySimpa false
namespace Go.Vm
noncomputable section
variable {h h' : Hp} {sz n b : Nat} {v : V} {cs : List V}
def capOk (sz : Nat) (v : V) : Prop := ∀ i o n c, v = .slice i o n c → (match c with | .kn k => n ≤ k | .un u => u = sz)
theorem moved_le {sz o l m k : Nat} (hl : l ≤ k) (hk : k ≤ m) : moved sz o l m = o + l * sz ∨ (moved sz o l m = o ∧ k = l) := by
  unfold moved
  cases hb : Nat.beq m l with
  | true => exact .inr ⟨rfl, by have := Nat.eq_of_beq_eq_true hb; omega⟩
  | false => exact .inl rfl
theorem Sl.cut (s : Sl b h sz v n cs) (hc : capOk sz v) (hsz : 0 < sz) {lo hi : Nat} (h1 : lo ≤ hi) (h2 : hi ≤ n) (h3 : v ≠ .nils ∧ v ≠ .emp) :
    ∃ v', (∀ h', sliceX sz v (some (.int .i64 (lo : Int))) (some (.int .i64 (hi : Int))) none h' = .ok v' h') ∧ Sl b h sz v' (hi - lo) ((cs.drop (lo * sz)).take ((hi - lo) * sz)) ∧ capOk sz v' ∧ ∀ i, idOf v' = some i → idOf v = some i := by
  have hl := s.len
  have hlen : ((cs.drop (lo * sz)).take ((hi - lo) * sz)).length = (hi - lo) * sz := by
    rw [List.length_take, List.length_drop, hl, ← Nat.sub_mul]
    exact Nat.min_eq_left (Nat.mul_le_mul_right _ (by omega))
  have hget : ∀ (all : List V) (o : Nat), (∀ k, k < n * sz → all[o + k]? = cs[k]?) → ∀ k, k < (hi - lo) * sz → all[o + lo * sz + k]? = ((cs.drop (lo * sz)).take ((hi - lo) * sz))[k]? := fun all o ha k hk => by
    rw [List.getElem?_take, if_pos hk, List.getElem?_drop, Nat.add_assoc]
    apply ha
    have : lo * sz + (hi - lo) * sz ≤ n * sz := by rw [← Nat.add_mul]; exact Nat.mul_le_mul_right _ (by omega)
    omega
  rcases s.is with ⟨_, h0 | h0⟩ | ⟨i, o, c, wr, all, rfl, hi', hg, ha⟩
  · exact absurd h0 h3.1
  · exact absurd h0 h3.2
  · have hcap := hc i o n c rfl
    cases c with
    | kn k =>
      have hk : n ≤ k := hcap
      have e1 : Nat.ble k k = true := Nat.ble_eq_true_of_le (Nat.le_refl _)
      have e2 : Nat.ble hi k = true := Nat.ble_eq_true_of_le (by omega)
      have e3 : Nat.ble lo hi = true := Nat.ble_eq_true_of_le h1
      refine ⟨.slice i (moved sz o lo k) (hi - lo) (.kn (k - lo)), fun h' => ?_, ⟨hlen, ?_⟩, fun i' o' n' c' e => by cases e; show hi - lo ≤ k - lo; omega, fun j hj => hj⟩
      · show (match Nat.ble k k, Nat.ble hi k, Nat.ble lo hi with
          | true, true, true => forceNat (moved sz o lo k) fun q => forceNat (hi - lo) fun n => R.ok (V.slice i q n (.kn (k - lo))) h'
          | _, _, _ => .bad) = _
        rw [e1, e2, e3]
        simp only [forceNat_eq]
      · refine .inr ⟨i, _, _, wr, all, rfl, hi', hg, fun q hq => ?_⟩
        rcases moved_le (sz := sz) (o := o) (m := k) h1 (by omega) with e | ⟨_, e⟩
        · rw [e]; exact hget all o ha q hq
        · rw [e, Nat.sub_self, Nat.zero_mul] at hq; omega
    | un u =>
      have hu : u = sz := hcap
      subst hu
      have e2 : Nat.ble hi n = true := Nat.ble_eq_true_of_le h2
      have e3 : Nat.ble lo hi = true := Nat.ble_eq_true_of_le h1
      cases lo with
      | zero =>
        refine ⟨.slice i o hi (.un u), fun h' => ?_, ⟨hlen, .inr ⟨i, o, .un u, wr, all, rfl, hi', hg, fun q hq => ?_⟩⟩, fun i' o' n' c' e => (by cases e; rfl), fun j hj => hj⟩
        · show (match Nat.ble hi n, Nat.ble 0 hi, Nat.beq u u with
            | true, true, true => R.ok (V.slice i o hi (.un u)) h'
            | _, _, _ => R.bad) = _
          rw [e2, e3, Nat.beq_refl]
        · have := hget all o ha q hq
          rw [show o + 0 * u + q = o + q by omega] at this
          exact this
      | succ l =>
        have es : ∀ h', sliceX u (.slice i o n (.un u)) (some (.int .i64 ((l + 1 : Nat) : Int))) (some (.int .i64 (hi : Int))) none h' = (match Nat.blt (l + 1) n with
            | true => forceNat (o + (l + 1) * u) fun q => forceNat (hi - (l + 1)) fun n => R.ok (V.slice i q n (.un u)) h'
            | false => .ok .emp h') := fun h' => by
          show (match Nat.ble hi n, Nat.ble (l + 1) hi, Nat.beq u u with
            | true, true, true => (match Nat.blt (l + 1) n with
              | true => forceNat (o + (l + 1) * u) fun q => forceNat (hi - (l + 1)) fun n => R.ok (V.slice i q n (.un u)) h'
              | false => .ok .emp h')
            | _, _, _ => R.bad) = _
          rw [e2, e3, Nat.beq_refl]
        by_cases hlt : l + 1 < n
        · have e4 : Nat.blt (l + 1) n = true := by rw [Nat.blt_eq]; exact hlt
          refine ⟨.slice i (o + (l + 1) * u) (hi - (l + 1)) (.un u), fun h' => by rw [es]; simp only [e4, forceNat_eq], ⟨hlen, .inr ⟨i, _, _, wr, all, rfl, hi', hg, fun q hq => hget all o ha q hq⟩⟩, fun i' o' n' c' e => (by cases e; rfl), fun j hj => hj⟩
        · have e4 : Nat.blt (l + 1) n = false := by
            cases hb : Nat.blt (l + 1) n with
            | false => rfl
            | true => rw [Nat.blt_eq] at hb; omega
          have hz : hi - (l + 1) = 0 := by omega
          exact ⟨.emp, fun h' => by rw [es]; simp only [e4], ⟨hlen, .inl ⟨hz, .inr rfl⟩⟩, fun i' o' n' c' e => (by cases e), fun j hj => (by cases hj)⟩
end
end Go.Vm
namespace Go.Vm
noncomputable section
variable {h h' : Hp} {sz n b : Nat} {v : V} {cs : List V}
theorem Sl.from (s : Sl b h sz v n cs) (hc : capOk sz v) (hsz : 0 < sz) {lo : Nat} (h1 : lo ≤ n) :
    ∃ v', (∀ h', oSlice sz v (some (.int .i64 (lo : Int))) none none h' = .ok v' h') ∧ Sl b h sz v' (n - lo) (cs.drop (lo * sz)) ∧ capOk sz v' ∧ ∀ i, idOf v' = some i → idOf v = some i := by
  by_cases h3 : v = .nils ∨ v = .emp
  · have hn : n = 0 := by
      rcases s.is with ⟨h0, _⟩ | ⟨i, o, c, wr, all, e, _⟩
      · exact h0
      · rcases h3 with h3 | h3 <;> rw [h3] at e <;> cases e
    subst hn
    have hlo : lo = 0 := by omega
    subst hlo
    have hcs : cs = [] := List.length_eq_zero_iff.1 (by rw [s.len]; simp)
    subst hcs
    exact ⟨v, fun h' => by rcases h3 with rfl | rfl <;> rfl, by simpa using s, hc, fun _ hi => hi⟩
  · obtain ⟨v', e1, e2, e3, e4⟩ := s.cut hc hsz (hi := n) h1 (Nat.le_refl _) ⟨fun q => h3 (.inl q), fun q => h3 (.inr q)⟩
    refine ⟨v', fun h' => ?_, ?_, e3, e4⟩
    · rw [← e1 h']
      rcases s.is with ⟨_, h0⟩ | ⟨i, o, c, wr, all, rfl, _⟩
      · exact absurd h0 h3
      · rfl
    · have hl : (cs.drop (lo * sz)).length ≤ (n - lo) * sz := by rw [List.length_drop, s.len, ← Nat.sub_mul]; exact Nat.le_refl _
      rw [List.take_of_length_le hl] at e2
      exact e2
end
end Go.Vm

namespace Go.Vm
noncomputable section
variable {h h' : Hp} {el : TypeId} {bt : Nat} {c : EqC}
end
end Go.Vm
namespace Go.Vm
noncomputable section
variable {h h' : Hp} {el : TypeId} {bt : Nat} {c : EqC} {P : Program}
end
end Go.Vm
namespace Go.Vm
noncomputable section
variable {h h' : Hp} {el : TypeId} {bt : Nat} {c : EqC}
end
end Go.Vm

namespace Go.Vm
theorem vmL : type_of% @seqO_eq ∧ type_of% @thenO_nor ∧ type_of% @thenO_ret ∧ type_of% @thenO_ex ∧ type_of% @gtO_some ∧ type_of% @bndO_ok ∧ type_of% @get_set_of ∧ type_of% @cndX_tmp ∧ type_of% @ifB_true ∧ type_of% @ifB_false ∧ type_of% @ifB_pos ∧ type_of% @ifB_neg ∧ type_of% @blkO_eq ∧ type_of% @blkX_nor ∧ type_of% @blkX_ret ∧ type_of% @blkX_ex ∧ type_of% @Nat.zero_ne_one ∧ type_of% @Nat.one_ne_zero ∧ type_of% @oBin_add ∧ type_of% @oBin_sub ∧ type_of% @oBin_eql ∧ type_of% @oBin_neq ∧ type_of% @oBin_lss ∧ type_of% @oBin_leq ∧ type_of% @oBin_gtr ∧ type_of% @oBin_geq ∧ type_of% @oUn_not ∧ type_of% @oPick_true ∧ type_of% @oPick_false ∧ type_of% @oExtract_0 ∧ type_of% @oExtract_1 ∧ type_of% @oExtract_2 ∧ type_of% @oMin_eq ∧ type_of% @oMax_eq ∧ type_of% @oFieldAddr_eq ∧ type_of% @oConvInt_i64 ∧ type_of% @oBin_rem ∧ type_of% @oBuildSlice_11 ∧ type_of% @oBinAgg_eql2 ∧ type_of% @oBinAgg_neq2 ∧ type_of% @oBuildSlice_1 ∧ type_of% @oBuild_2 ∧ type_of% @oBuildSlice_2 ∧ type_of% @chk_zero ∧ type_of% @chk_nil ∧ type_of% @bumpH_zero ∧ type_of% @aBuildSlice_1 ∧ type_of% @oBuildSlice_22 ∧ type_of% @alcO_some ∧ type_of% @Bool.not_true ∧ type_of% @Bool.not_false :=
  ⟨@seqO_eq, @thenO_nor, @thenO_ret, @thenO_ex, @gtO_some, @bndO_ok, @get_set_of, @cndX_tmp, @ifB_true, @ifB_false, @ifB_pos, @ifB_neg, @blkO_eq, @blkX_nor, @blkX_ret, @blkX_ex, @Nat.zero_ne_one, @Nat.one_ne_zero, @oBin_add, @oBin_sub, @oBin_eql, @oBin_neq, @oBin_lss, @oBin_leq, @oBin_gtr, @oBin_geq, @oUn_not, @oPick_true, @oPick_false, @oExtract_0, @oExtract_1, @oExtract_2, @oMin_eq, @oMax_eq, @oFieldAddr_eq, @oConvInt_i64, @oBin_rem, @oBuildSlice_11, @oBinAgg_eql2, @oBinAgg_neq2, @oBuildSlice_1, @oBuild_2, @oBuildSlice_2, @chk_zero, @chk_nil, @bumpH_zero, @aBuildSlice_1, @oBuildSlice_22, @alcO_some, @Bool.not_true, @Bool.not_false⟩
theorem vsL : type_of% @oBin_str_eql ∧ type_of% @oBin_str_neq ∧ type_of% @oLenK_str ∧ type_of% @oNilCheck_ptr ∧ type_of% @Nat.zero_add ∧ type_of% @put_bump :=
  ⟨@oBin_str_eql, @oBin_str_neq, @oLenK_str, @oNilCheck_ptr, @Nat.zero_add, @put_bump⟩
theorem vpL : (∀ {α : Type} (a b : α), (some a).getD b = a) ∧ (∀ {α : Type} (b : α), (none : Option α).getD b = b) ∧ (∀ {α : Type} (a : α), (some a).isSome = true) ∧ (∀ {α : Type}, (none : Option α).isSome = false) :=
  ⟨fun _ _ => rfl, fun _ => rfl, fun _ => rfl, rfl⟩
theorem vqL : (∀ {α : Type} (a b : α), (a ≠ b) = ¬ (a = b)) ∧ (∀ h : Decidable True, @decide True h = true) ∧ (∀ h : Decidable False, @decide False h = false) ∧ ((¬ True) = False) ∧ ((¬ False) = True) :=
  ⟨fun _ _ => rfl, fun h => decide_true h, fun h => decide_false h, propext not_true, not_false_eq_true⟩
end Go.Vm
