/- Part of the value machine, or of a walk by it: lemmas that the claim's last text uses. No conditions. -/
import Derived.Test.YtnlbcbjgejpanaaGreatDoorSeVmO
import Derived.Test.YtnlbcbjgejpanaaGreatDoorChecked
import Derived.KernelRfl
import Derived.Test.YtnlbcbjgejpanaaGreatDoorSeFeF
import Derived.Test.YtnlbcbjgejpanaaGreatDoorSeFeC
set_option linter.unusedVariables false
set_option linter.unusedSimpArgs false
set_option linter.unnecessarySimpa false
noncomputable section
namespace Go.Proofs.Im
open Go Go.Proofs Go.Vm Go.Ln
set_option linter.unusedVariables false
set_option maxRecDepth 100000
set_option linter.unusedSimpArgs false
theorem take_end {most : Int} {h : Hp} {i : Pos} {r : Rd} {vt vl vn vq vb : V} {c : Nat} {bs : List Nat} (a : RdAt most h i r vt vl vn vq) (s : Sl c h 1 vb bs.length (bys bs)) (hc : capOk 1 vb) (hb : ∀ j, idOf vb = some j → ¬ RdF i vt vl vn vq j) (hcn : c ≤ h.next.nat) (hsk : r.skip = 0)
    (hw : 0 < r.want) (hwl : r.want ≤ bs.length) (hl : bs.length < 1000000000) (hq : r.lit.length < 1000000000) (hls : r.lits.length < 1000000000) (h256 : ∀ b ∈ r.lit, b < 256) (hb256 : ∀ b ∈ bs, b < 256) :
    ∃ v' vl' h', TryF20 [.ptr i 0, vb] h = .ok v' h' ∧ RdAt most h' i { r with want := 0, lits := r.lits ++ [r.lit ++ bs.take r.want], lit := [], literal := false } vt vl' vn .nils ∧ Stp (RdF i vt vl vn vq) h (RdF i vt vl' vn .nils) h' ∧
      Sl c h' 1 v' (bs.drop r.want).length (bys (bs.drop r.want)) ∧ capOk 1 v' ∧ ∀ j, idOf v' = some j → idOf vb = some j := by
  have hmi : min (r.want : Int) (bs.length : Int) = (r.want : Int) := by omega
  obtain ⟨v1, e1, e2, -, -⟩ := s.upto hc (by omega) (hi := r.want) hwl
  obtain ⟨v', f1, f2, f3, f4⟩ := s.from hc (by omega) (lo := r.want) hwl
  have L9 := a.fld.2.2.2.2.2.2.2.2.2.1
  have L7 := a.fld.2.2.2.2.2.2.2.1
  have L6 := a.fld.2.2.2.2.2.2.1
  have hgt : ¬ (r.skip : Int) > 0 := by omega
  have htl : (bs.take r.want).length = r.want := by rw [List.length_take]; omega
  rw [Nat.mul_one, ← bys_take] at e2
  obtain ⟨vq', h1, a1, a2, a3, a4, a5⟩ := app_ok (bt := 1) a.q e2 hw (by omega)
  have o1 : Ow 0 h1 tB 1 vq' (r.lit ++ bs.take r.want).length (bys (r.lit ++ bs.take r.want)) := by rw [List.length_append, htl, bys_append]; exact a4
  obtain ⟨h2, s2, b2, p2, -⟩ := a.set_lit a5 o1 (fun j hj => by rw [a2] at hj; cases hj; exact Nat.le_refl _)
  obtain ⟨h3, s3, b3, p3, -⟩ := b2.set_want 0
  replace s3 : oStore 1 (.ptr i 6) (.int .i64 ((r.want : Int) - (r.want : Int))) h2 = .ok V.undef h3 := by rw [Int.sub_self]; exact s3
  have M6 : oLoad1 (.ptr i 6) h2 = .ok (.int .i64 (r.want : Int)) h2 := b2.fld.2.2.2.2.2.2.1
  have N6 : oLoad1 (.ptr i 6) h3 = .ok (.int .i64 0) h3 := b3.fld.2.2.2.2.2.2.1
  have K2 : oLoad1 (.ptr i 2) (bumpH 1 h3) = .ok vl (bumpH 1 h3) := ld_bump 1 i 2 b3.fld.2.2.1
  have K7 : oLoad1 (.ptr i 7) (bumpH 1 h3) = .ok vq' (bumpH 1 h3) := ld_bump 1 i 7 b3.fld.2.2.2.2.2.2.2.1
  have hall : ∀ b ∈ r.lit ++ bs.take r.want, b < 256 := fun b hm => by
    rcases List.mem_append.1 hm with hm | hm
    · exact h256 b hm
    · exact hb256 b (List.mem_of_mem_take hm)
  have B : oBytesStr vq' (bumpH 1 h3) = .ok (.str (r.lit ++ bs.take r.want)) (bumpH 1 h3) := oBytesStr_ok b3.q.sl hall (fun _ _ => rfl)
  obtain ⟨vl', h4, c1, c2, c3, c4, c5⟩ := app1_ok (bt := 16) (new := [V.str (r.lit ++ bs.take r.want)]) b3.l rfl (by show (r.lits.length + 1) * 16 ≤ _; omega)
  obtain ⟨h5, s5, b5, p5, -⟩ := b3.set_lits (l := r.lits ++ [r.lit ++ bs.take r.want]) c4 (by rw [List.length_append, txs, List.map_append]; exact c3) (fun j hj => by rw [c2] at hj; cases hj; rw [Pos.nat_succ]; omega)
  obtain ⟨h6, s6, b6, p6, -⟩ := b5.set_lit (v := .nils) (l := []) (Ch.refl _ _) (Ow.nil _ _ _ _) (fun j q => by cases q)
  obtain ⟨h7, s7, b7, p7, -⟩ := b6.set_literal false
  have p := ((((p2.trans p3).trans p5).trans p6).trans p7)
  rw [TryF20_eq]
  simp (disch := omega) only [vmL, Nat.reduceEqDiff, reduceCtorEq, ↓reduceIte, vpL, vsL, vqL, Tryd20, Tryr20_0, Tryr20_1, Tryr20_5, Tryr20_6, Tryr20_7, Tryr20_8, Tryr20_9, Tryr20_10, Tryr20_11, L9, hgt, L6, L7, s.length, hmi, e1, a1, s2, M6, s3, N6, K2, K7, B, aBuildSlice_s, c1, s5, s6, s7, f1, outR, resK, tupR]
  refine ⟨v', vl', h7, rfl, b7, p, ?_, f3, f4⟩
  rw [Nat.mul_one, ← bys_drop] at f2
  rw [List.length_drop]
  exact f2.ch p.ch hcn fun j hj q => hb j (f4 j hj) q
theorem take_ok {most : Int} {h : Hp} {i : Pos} {r : Rd} {vt vl vn vq vb : V} {c : Nat} {bs : List Nat} (a : RdAt most h i r vt vl vn vq) (s : Sl c h 1 vb bs.length (bys bs)) (hc : capOk 1 vb) (hb : ∀ j, idOf vb = some j → ¬ RdF i vt vl vn vq j) (hcn : c ≤ h.next.nat)
    (hpos : 0 < bs.length) (ho : 0 < r.skip ∨ r.literal = true) (hw : r.literal = true → 0 < r.want) (hw2 : r.want < 9000000000000000000) (hsk2 : r.skip < 9000000000000000000) (hl : bs.length < 1000000000) (hq : r.lit.length < 1000000000) (hls : r.lits.length < 1000000000) (h256 : ∀ b ∈ r.lit, b < 256) (hb256 : ∀ b ∈ bs, b < 256) :
    ∃ v' h' n vl' vq', TryF20 [.ptr i 0, vb] h = .ok v' h' ∧ 0 < n ∧ n ≤ bs.length ∧ (feedsM most r (bs.take n)).2 = [] ∧ RdAt most h' i (feedsM most r (bs.take n)).1 vt vl' vn vq' ∧ Stp (RdF i vt vl vn vq) h (RdF i vt vl' vn vq') h' ∧
      Sl c h' 1 v' (bs.drop n).length (bys (bs.drop n)) ∧ capOk 1 v' ∧ ∀ j, idOf v' = some j → idOf vb = some j := by
  by_cases hsk : 0 < r.skip
  · obtain ⟨v', h', e, a', ch, hn, s', hc', hid⟩ := take_skip a s hc (fun q => hb i q (.inl rfl)) hcn hsk hsk2 hl
    refine ⟨v', h', min r.skip bs.length, vl, vq, e, by omega, by omega, ?_, ?_, stp_i ch, s', hc', hid⟩
    · rw [feeds_skip most _ r (by rw [List.length_take]; omega)]
    · rw [feeds_skip most _ r (by rw [List.length_take]; omega), List.length_take, Nat.min_eq_left (Nat.min_le_right r.skip bs.length)]
      exact a'
  · have hs0 : r.skip = 0 := by omega
    have hlit : r.literal = true := ho.resolve_left hsk
    have hw0 := hw hlit
    by_cases hlt : bs.length < r.want
    · obtain ⟨v', vq', h', e, a', ch, hid, s', hc', hjj⟩ := take_part a s hc (fun q => hb i q (.inl rfl)) (fun j hj q => hb j hj (.inr (.inr (.inr (.inr q))))) hcn hs0 hpos hlt hw2 hl hq
      have e1 := feeds_lit most bs r hs0 hlit (fun q => by rw [q] at hpos; simp at hpos) (by omega)
      rw [if_neg (by omega)] at e1
      refine ⟨v', h', bs.length, vl, vq', e, hpos, Nat.le_refl _, ?_, ?_, ⟨ch.mono fun j _ q => q.elim .inl fun q => .inr (.inr (.inr (.inr q))), ?_⟩, ?_, hc', hjj⟩
      · rw [List.take_length, e1]
      · rw [List.take_length, e1]; exact a'
      · rintro j (q | q | q | q | q)
        · exact .inl (.inl q)
        · exact .inl (.inr (.inl q))
        · exact .inl (.inr (.inr (.inl q)))
        · exact .inl (.inr (.inr (.inr (.inl q))))
        · exact .inr (hid j q)
      · rw [List.drop_length]; exact s'
    · obtain ⟨v', vl', h', e, a', p, s', hc', hid⟩ := take_end a s hc hb hcn hs0 hw0 (by omega) hl hq hls h256 hb256
      have e1 := feeds_lit most (bs.take r.want) r hs0 hlit (fun q => by have := congrArg List.length q; rw [List.length_take, List.length_nil] at this; omega) (by rw [List.length_take]; omega)
      rw [if_pos (by rw [List.length_take]; omega)] at e1
      exact ⟨v', h', r.want, vl', .nils, e, hw0, by omega, by rw [e1], by rw [e1]; exact a', p, s', hc', hid⟩
end Go.Proofs.Im

namespace Go.Ln
open Go Go.Vm Go.Proofs.Im
set_option linter.unusedVariables false
def bytesL (l : List (List Nat)) : Nat := (l.map fun t => t.length + 1).sum
theorem bytesL_append (a b : List (List Nat)) : bytesL (a ++ b) = bytesL a + bytesL b := by simp [bytesL]
theorem bytesL_one (t : List Nat) : bytesL [t] = t.length + 1 := by simp [bytesL]
theorem bytesL_len : ∀ l : List (List Nat), l.length ≤ bytesL l
  | [] => Nat.le_refl _
  | t :: l => by have := bytesL_len l; simp only [bytesL, List.map_cons, List.sum_cons, List.length_cons] at this ⊢; omega
theorem bytesL_mem : ∀ {l : List (List Nat)} {t : List Nat}, t ∈ l → t.length < bytesL l
  | [], t, h => by cases h
  | u :: l, t, h => by
    rcases List.mem_cons.1 h with rfl | h
    · simp only [bytesL, List.map_cons, List.sum_cons]; omega
    · have := bytesL_mem h; simp only [bytesL, List.map_cons, List.sum_cons] at this ⊢; omega
def Rd.mu (r : Rd) : Nat := r.long + 2 * r.now.length + r.lit.length + bytesL r.texts + bytesL r.lits
structure RdOk (most : Int) (B : Nat) (r : Rd) : Prop where
  cnt : r.texts.length = r.lits.length + (if r.literal then 1 else 0)
  want : r.literal = true → 0 < r.want
  wmax : r.want ≤ 4294967295
  smax : r.skip ≤ 4294967295
  wide : (r.wide : Int) ≤ most
  mmax : most < 9223372036854775808
  tb : ∀ t ∈ r.texts, ∀ c ∈ t, c < 256
  lb : ∀ t ∈ r.lits, ∀ c ∈ t, c < 256
  nb : ∀ c ∈ r.now, c < 256
  qb : ∀ c ∈ r.lit, c < 256
  mu : r.mu ≤ B
theorem RdOk.fresh {most : Int} {B skip : Nat} {line : Bool} (h0 : 0 ≤ most) (h : most < 9223372036854775808) (hs : skip ≤ 4294967295) : RdOk most B { skip := skip, line := line } :=
  ⟨rfl, fun h => (by cases h), Nat.zero_le _, hs, h0, h, fun _ h => (by cases h), fun _ h => (by cases h), fun _ h => (by cases h), fun _ h => (by cases h), Nat.zero_le _⟩
theorem RdOk.le {most : Int} {B B' : Nat} {r : Rd} (k : RdOk most B r) (h : B ≤ B') : RdOk most B' r := ⟨k.cnt, k.want, k.wmax, k.smax, k.wide, k.mmax, k.tb, k.lb, k.nb, k.qb, Nat.le_trans k.mu h⟩
theorem numM_le {s : List Nat} {n : Nat} (h : numM s = some n) : n ≤ 4294967295 := by
  unfold numM at h
  split at h
  · cases h
  · split at h
    · cases h
    · cases h; omega
theorem lastM_lt : ∀ {c : Nat} {l : List Nat} {i : Nat}, lastM c l = some i → i < l.length
  | c, [], i, h => by cases h
  | c, d :: l, i, h => by
    rw [lastM] at h
    cases hl : lastM c l with
    | some j => rw [hl] at h; cases h; have := lastM_lt hl; simp only [List.length_cons]; omega
    | none =>
      rw [hl] at h
      simp only [] at h
      split at h
      · cases h; simp
      · cases h
theorem markerM_some {t a : List Nat} {n : Nat} {p : Bool} (h : markerM t = some (a, n, p)) : n ≤ 4294967295 ∧ a.length + 2 ≤ t.length ∧ ∀ c ∈ a, c ∈ t := by
  unfold markerM at h
  split at h
  · cases hl : lastM 123 t.dropLast with
    | none => rw [hl] at h; cases h
    | some i =>
      rw [hl] at h
      have hi := lastM_lt hl
      rw [List.length_dropLast] at hi
      simp only [] at h
      have key : t.take i = a → a.length + 2 ≤ t.length ∧ ∀ c ∈ a, c ∈ t := fun e => by
        cases e
        exact ⟨by rw [List.length_take]; omega, fun c hc => List.mem_of_mem_take hc⟩
      split at h
      · cases hn : numM (t.dropLast.drop (i + 1)).dropLast with
        | none => rw [hn] at h; cases h
        | some m => rw [hn] at h; cases h; exact ⟨numM_le hn, key rfl⟩
      · cases hn : numM (t.dropLast.drop (i + 1)) with
        | none => rw [hn] at h; cases h
        | some m => rw [hn] at h; cases h; exact ⟨numM_le hn, key rfl⟩
  · cases h
theorem cutCR_le (t : List Nat) : (cutCR t).length ≤ t.length ∧ ∀ c ∈ cutCR t, c ∈ t := by
  unfold cutCR
  split
  · exact ⟨by rw [List.length_dropLast]; omega, fun c h => (List.dropLast_sublist t).subset h⟩
  · exact ⟨Nat.le_refl _, fun c h => h⟩
theorem RdOk.endM {most : Int} {B : Nat} {r : Rd} (k : RdOk most B r) (h1 : r.literal = false) (hm : 0 ≤ most) : RdOk most B (endM most r).1 := by
  unfold Ln.endM
  have hc := cutCR_le r.now
  cases h : markerM (cutCR r.now) with
  | none =>
    simp only []
    cases parseM (r.texts ++ [cutCR r.now]) r.lits <;> exact RdOk.fresh hm k.mmax (Nat.zero_le _)
  | some x =>
    obtain ⟨a, n, p⟩ := x
    have hs := markerM_some h
    simp only []
    split
    · cases p
      · exact RdOk.fresh hm k.mmax (Nat.zero_le _)
      · exact RdOk.fresh hm k.mmax hs.1
    · rename_i hle
      have hcnt := k.cnt
      rw [h1] at hcnt
      refine ⟨?_, ?_, hs.1, k.smax, ?_, k.mmax, ?_, ?_, fun c hc => (by cases hc), k.qb, ?_⟩
      · show (r.texts ++ [a]).length = _
        simp only [List.length_append, List.length_cons, List.length_nil, hcnt]
        by_cases hn : n = 0
        · simp [hn]
        · simp [hn, show 0 < n by omega]
      · intro hd
        exact of_decide_eq_true hd
      · show ((r.wide + n : Nat) : Int) ≤ most
        omega
      · intro t ht c hct
        rcases List.mem_append.1 ht with ht | ht
        · exact k.tb t ht c hct
        · rw [List.mem_singleton.1 ht] at hct; exact k.nb c (hc.2 c (hs.2.2 c hct))
      · intro t ht c hct
        by_cases hn : n = 0
        · replace ht : t ∈ (if n = 0 then r.lits ++ [[]] else r.lits) := ht
          rw [if_pos hn] at ht
          rcases List.mem_append.1 ht with ht | ht
          · exact k.lb t ht c hct
          · rw [List.mem_singleton.1 ht] at hct; cases hct
        · replace ht : t ∈ (if n = 0 then r.lits ++ [[]] else r.lits) := ht
          rw [if_neg hn] at ht
          exact k.lb t ht c hct
      · have hmu := k.mu
        show (r.long + (cutCR r.now).length) + 2 * 0 + r.lit.length + bytesL (r.texts ++ [a]) + bytesL (if n = 0 then r.lits ++ [[]] else r.lits) ≤ B
        have hb : bytesL (if n = 0 then r.lits ++ [[]] else r.lits) ≤ bytesL r.lits + 1 := by
          by_cases hn : n = 0
          · rw [if_pos hn, bytesL_append, bytesL_one]; simp
          · rw [if_neg hn]; omega
        rw [bytesL_append, bytesL_one]
        unfold Rd.mu at hmu
        have := hs.2.1
        have := hc.1
        omega
theorem RdOk.feedM {most : Int} {B c : Nat} {r : Rd} (k : RdOk most B r) (hm : 0 ≤ most) (hc : c < 256) : RdOk most (B + 2) (feedM most r c).1 := by
  unfold Ln.feedM
  have hmu := k.mu
  unfold Rd.mu at hmu
  split
  · have := k.smax
    exact ⟨k.cnt, k.want, k.wmax, by show r.skip - 1 ≤ _; omega, k.wide, k.mmax, k.tb, k.lb, k.nb, k.qb, by unfold Rd.mu; show r.long + 2 * r.now.length + r.lit.length + bytesL r.texts + bytesL r.lits ≤ _; omega⟩
  · split
    · rename_i hlit
      have hcnt := k.cnt
      rw [hlit] at hcnt
      simp only [if_true] at hcnt
      split
      · refine ⟨?_, fun h => (by cases h), Nat.zero_le _, k.smax, k.wide, k.mmax, k.tb, ?_, k.nb, fun _ h => (by cases h), ?_⟩
        · show r.texts.length = (r.lits ++ [r.lit ++ [c]]).length + 0
          simp only [List.length_append, List.length_cons, List.length_nil]; omega
        · intro t ht d hd
          rcases List.mem_append.1 ht with ht | ht
          · exact k.lb t ht d hd
          · rw [List.mem_singleton.1 ht] at hd
            rcases List.mem_append.1 hd with hd | hd
            · exact k.qb d hd
            · rw [List.mem_singleton.1 hd]; exact hc
        · show r.long + 2 * r.now.length + 0 + bytesL r.texts + bytesL (r.lits ++ [r.lit ++ [c]]) ≤ B + 2
          rw [bytesL_append, bytesL_one, List.length_append, List.length_cons, List.length_nil]; omega
      · have hw := k.wmax
        refine ⟨?_, fun _ => ?_, ?_, k.smax, k.wide, k.mmax, k.tb, k.lb, k.nb, ?_, ?_⟩
        · show r.texts.length = r.lits.length + (if r.literal then 1 else 0)
          rw [hlit]; exact hcnt
        · show 0 < r.want - 1; omega
        · show r.want - 1 ≤ _; omega
        · intro d hd
          rcases List.mem_append.1 hd with hd | hd
          · exact k.qb d hd
          · rw [List.mem_singleton.1 hd]; exact hc
        · show r.long + 2 * r.now.length + (r.lit ++ [c]).length + bytesL r.texts + bytesL r.lits ≤ B + 2
          rw [List.length_append, List.length_cons, List.length_nil]; omega
    · rename_i hlit
      split
      · exact ⟨k.cnt, k.want, k.wmax, k.smax, k.wide, k.mmax, k.tb, k.lb, k.nb, k.qb, Nat.le_trans k.mu (by omega)⟩
      · split
        · exact (RdOk.endM k (by cases h : r.literal <;> simp_all) hm).le (by omega)
        · split
          · exact RdOk.fresh hm k.mmax (Nat.zero_le _)
          · refine ⟨k.cnt, k.want, k.wmax, k.smax, k.wide, k.mmax, k.tb, k.lb, ?_, k.qb, ?_⟩
            · intro d hd
              rcases List.mem_append.1 hd with hd | hd
              · exact k.nb d hd
              · rw [List.mem_singleton.1 hd]; exact hc
            · show r.long + 2 * (r.now ++ [c]).length + r.lit.length + bytesL r.texts + bytesL r.lits ≤ B + 2
              rw [List.length_append, List.length_cons, List.length_nil]; omega
theorem RdOk.feedsM {most : Int} (hm : 0 ≤ most) : ∀ {b : List Nat} {B : Nat} {r : Rd}, RdOk most B r → (∀ c ∈ b, c < 256) → RdOk most (B + 2 * b.length) (feedsM most r b).1
  | [], B, r, k, _ => k
  | c :: b, B, r, k, hb => by
    rw [Ln.feedsM]
    exact (RdOk.feedsM hm (k.feedM hm (hb c (by simp))) fun d hd => hb d (by simp [hd])).le (by simp only [List.length_cons]; omega)
theorem St_size {t : List Nat} {ts lits : List (List Nat)} : St.size ⟨t, lits.zip ts⟩ ≤ bytesL (t :: ts) := by
  have key : ∀ lits ts : List (List Nat), ((lits.zip ts).map fun p => p.2.length + 1).sum ≤ bytesL ts := by
    intro lits
    induction lits with
    | nil => intro ts; simp
    | cons l lits ih =>
      intro ts
      cases ts with
      | nil => simp
      | cons u ts =>
        have := ih ts
        simp only [List.zip_cons_cons, List.map_cons, List.sum_cons, bytesL] at this ⊢
        omega
  have := key lits ts
  simp only [St.size, bytesL, List.map_cons, List.sum_cons] at this ⊢
  omega
end Go.Ln

noncomputable section
namespace Go.Proofs.Im
open Go Go.Proofs Go.Vm Go.Ln
set_option linter.unusedVariables false
set_option maxRecDepth 100000
set_option linter.unusedSimpArgs false
def GAt (P : Pos → Prop) (h : Hp) : List Ln.Got → List V → Prop
  | [], cs => cs = []
  | g :: l, cs => ∃ vw cr, cs = [.int .i64 g.kind, vw] ++ cr ∧ WRow P h vw g.words ∧ GAt P h l cr
theorem GAt.ch {P P' S : Pos → Prop} {h h' : Hp} (c : Ch S h h') (hs : ∀ j : Pos, j.nat < h.next.nat → P j → P' j ∧ ¬ S j) : ∀ {l : List Ln.Got} {cs : List V}, GAt P h l cs → GAt P' h' l cs
  | [], _, w => w
  | g :: l, _, ⟨vw, cr, e, a, b⟩ => ⟨vw, cr, e, a.ch c hs, GAt.ch c hs b⟩
theorem GAt.app {P : Pos → Prop} {h : Hp} {b : List Ln.Got} {cb : List V} (hb : GAt P h b cb) : ∀ {a : List Ln.Got} {ca : List V}, GAt P h a ca → GAt P h (a ++ b) (ca ++ cb)
  | [], _, w => by rw [show _ = ([] : List V) from w]; exact hb
  | g :: l, _, ⟨vw, cr, e, a, r⟩ => ⟨vw, cr ++ cb, by rw [e, List.append_assoc], a, GAt.app hb r⟩
theorem GAt.one {P : Pos → Prop} {h : Hp} {k : Int} {v : V} {ws : Wds} (w : WRow P h v ws) : GAt P h [⟨k, ws⟩] [.int .i64 k, v] := ⟨v, [], rfl, w, rfl⟩
theorem Sl.made {el : TypeId} {h : Hp} (l : List V) : Sl (h.next.nat + 1) (h.new (.cells (.rw el true) l)) l.length (.slice h.next 0 1 (.kn 1)) 1 l := ⟨by simp, .inr ⟨h.next, 0, _, .rw el true, l, rfl, by omega, by rw [new_self]; rfl, fun k _ => by rw [Nat.zero_add]⟩⟩
def EndQ (most : Int) (r : Rd) (i : Pos) (S : Pos → Prop) (h : Hp) (v : V) (h' : Hp) : Prop :=
  ∃ vt vl vn vq cs, RdAt most h' i (endM most r).1 vt vl vn vq ∧ Stp S h (RdF i vt vl vn vq) h' ∧ Sl h'.next.nat h' 2 v (endM most r).2.length cs ∧ GAt (fun j => h.next.nat ≤ j.nat ∧ ¬ RdF i vt vl vn vq j) h' (endM most r).2 cs
theorem end_told {most : Int} {r r' : Rd} {i : Pos} {S : Pos → Prop} {h h4 : Hp} {k : Int} {ws : Wds} {vt vl vn vq v : V} (a4 : RdAt most h4 i r' vt vl vn vq) (p : Stp S h (RdF i vt vl vn vq) h4) (e : endM most r = (r', [⟨k, ws⟩])) (w : WRow (fun j => h.next.nat ≤ j.nat ∧ ¬ RdF i vt vl vn vq j) h4 v ws) :
    EndQ most r i S h (.slice h4.next 0 1 (.kn 1)) (h4.new (.cells (.rw tG true) [.int .i64 k, v])) := by
  have c5 : Ch (fun _ => False) h4 (h4.new (.cells (.rw tG true) [.int .i64 k, v])) := Ch.new _ _ _
  refine ⟨vt, vl, vn, vq, [.int .i64 k, v], ?_, p.step c5 (fun _ q => q.elim), ?_, ?_⟩
  · rw [e]; exact a4.ch c5 fun _ _ q => q
  · rw [e]
    have := Sl.made (el := tG) (h := h4) [V.int .i64 k, v]
    rw [new_next_nat]
    exact this
  · rw [e]
    exact GAt.one (w.ch c5 fun j _ q => ⟨q, fun q => q⟩)
theorem end_ok {most : Int} {h : Hp} {i : Pos} {r : Rd} {vt vl vn vq : V} {B : Nat} (a : RdAt most h i r vt vl vn vq) (k : RdOk most B r) (hB : B < 900000000) (hlit : r.literal = false) :
    ∃ v h', TryF21 [.ptr i 0] h = .ok v h' ∧ EndQ most r i (RdF i vt vl vn vq) h v h' := by
  have hmu := k.mu
  unfold Rd.mu at hmu
  have hcnt := k.cnt
  rw [hlit] at hcnt
  simp only [Bool.false_eq_true, if_false, Nat.add_zero] at hcnt
  have hcut := cutCR_le r.now
  have hwide := k.wide
  have hmax := k.mmax
  have htl := bytesL_len r.texts
  have hll := bytesL_len r.lits
  have L5 := a.fld.2.2.2.2.2.1
  have B5 : oBytesStr vn h = .ok (.str r.now) h := oBytesStr_ok a.n.sl k.nb (fun _ _ => rfl)
  have T := trim_ok (s := r.now) (by omega) h
  obtain ⟨h1, s1, b1, p1, -⟩ := a.set_now (v := .nils) (l := []) (Ch.refl _ _) (Ow.nil _ _ _ _) (fun j q => by cases q)
  have M := marker_ok (t := cutCR r.now) (by omega) h1
  rw [TryF21_eq]
  show Tells Tryz.prog _ (EndQ most r i (RdF i vt vl vn vq) h) _
  cases hm : markerM (cutCR r.now) with
  | none =>
    rw [markV, hm] at M
    simp only [four] at M
    have K1 : oLoad1 (.ptr i 1) (bumpH 1 h1) = .ok vt (bumpH 1 h1) := ld_bump 1 i 1 b1.fld.2.1
    obtain ⟨vt', h2, c1, c2, c3, c4, c5⟩ := app1_ok (bt := 16) (new := [V.str (cutCR r.now)]) b1.t rfl (by show (r.texts.length + 1) * 16 ≤ _; omega)
    have g2 : h2.get i = _ := (c4.get i b1.lt b1.ti).trans b1.get
    have lt2 : i.nat < h2.next.nat := Nat.lt_of_lt_of_le b1.lt c4.next
    have L2 : oLoad1 (.ptr i 2) h2 = .ok vl h2 := ld_get g2 2
    have ck : ∀ k, chk (fun h => oLoad1 (.ptr i 2) h) vl k 1 [bumpH 1 h1] = k := fun k => chk_one (ld_bump 1 i 2 b1.fld.2.2.1) (eqV_own b1.l)
    have ol2 : Ow 0 h2 tS 1 vl r.lits.length (txs r.lits) := b1.l.ch c4 (fun j hj q => b1.tl.symm j hj q)
    have ot2 : Ow 0 h2 tS 1 vt' (r.texts ++ [cutCR r.now]).length (txs (r.texts ++ [cutCR r.now])) := by rw [List.length_append, txs, List.map_append]; exact c3
    obtain ⟨x, h3, e28, c3', hq⟩ := linewords_ok (texts := r.texts ++ [cutCR r.now]) (lits := r.lits) ot2.sl ol2.sl (by rw [List.length_append, hcnt]; rfl)
      ⟨by rw [List.length_append, List.length_cons, List.length_nil]; omega, fun t ht => by
        rcases List.mem_append.1 ht with ht | ht
        · exact ⟨by have := bytesL_mem ht; omega, k.tb t ht⟩
        · rw [List.mem_singleton.1 ht]; exact ⟨by omega, fun c hc => k.nb c (hcut.2 c hc)⟩⟩
      (fun t ts e => by
        have hs := St_size (t := t) (ts := ts) (lits := r.lits)
        rw [← e, bytesL_append, bytesL_one] at hs
        omega)
    have g3 : h3.get i = _ := (c3'.get i lt2 (fun q => q)).trans g2
    have lt3 : i.nat < h3.next.nat := Nat.lt_of_lt_of_le lt2 c3'.next
    obtain ⟨u, h4, e22, a4, c4', n4⟩ := reset_ok lt3 g3
    have p2 : Stp (RdF i vt vl vn vq) h (RdF i vt vl .nils vq) h2 := p1.step c4 fun j q => .inr (.inl q)
    have p4 : Stp (RdF i vt vl vn vq) h (RdF i .nils .nils .nils .nils) h4 := ((p2.step c3' fun j q => q.elim).step c4' fun j q => .inl q).less fun j q => by
      rcases q with q | q | q | q | q
      · exact .inl q
      · cases q
      · cases q
      · cases q
      · cases q
    have hn2 := p2.ch.next
    rcases hq with ⟨hno, y, rfl⟩ | ⟨ws, v, hso, rfl, hw⟩
    · have ee : endM most r = ({}, [⟨3, .nil⟩]) := by unfold endM; rw [hm]; simp only []; rw [hno]
      simp (disch := omega) only [vmL, Nat.reduceEqDiff, reduceCtorEq, ↓reduceIte, vpL, vsL, vqL, Tryd21, Tryr21_0, Tryr21_1, Tryr21_2, Tryr21_3, Tryr21_4, Tryr21_5, Tryr21_6, Tryr21_7, Tryr21_8, L5, B5, T, s1, M, oExtract_3, K1, aBuildSlice_s, c1, L2, ck, e28, two, e22, oBuild_g0, oBuildSlice_2]
      exact Tells.ret (by simp only [resK, vmL, Nat.reduceEqDiff, reduceCtorEq, ↓reduceIte, vpL, vsL, vqL, tupR] <;> rfl) (end_told a4 p4 ee (WRow.nil _ _))
    · have ee : endM most r = ({}, [⟨1, ws⟩]) := by unfold endM; rw [hm]; simp only []; rw [hso]
      have hvc : v.cells = [v] ∧ notTuple v = true := by obtain ⟨cs, o, -⟩ := hw; exact o.cell
      simp (disch := omega) only [vmL, Nat.reduceEqDiff, reduceCtorEq, ↓reduceIte, vpL, vsL, vqL, Tryd21, Tryr21_0, Tryr21_1, Tryr21_2, Tryr21_3, Tryr21_4, Tryr21_5, Tryr21_6, Tryr21_7, Tryr21_9, L5, B5, T, s1, M, oExtract_3, K1, aBuildSlice_s, c1, L2, ck, e28, two, e22, oBuild_g1 _ hvc, oBuildSlice_2]
      refine Tells.ret (by simp only [resK, vmL, Nat.reduceEqDiff, reduceCtorEq, ↓reduceIte, vpL, vsL, vqL, tupR] <;> rfl) (end_told a4 p4 ee (hw.ch c4' fun j _ q => ⟨⟨by omega, fun q' => ?_⟩, fun q' => ?_⟩))
      · rcases q' with q' | q' | q' | q' | q'
        · rw [q'] at q; omega
        · cases q'
        · cases q'
        · cases q'
        · cases q'
      · rw [q'] at q; omega
  | some x =>
    obtain ⟨ahead, n, plus⟩ := x
    have hs := markerM_some hm
    rw [markV, hm] at M
    simp only [four] at M
    have M0 : oLoad1 (.ptr i 0) h1 = .ok (.int .i64 most) h1 := b1.fld.1
    have M4 : oLoad1 (.ptr i 4) h1 = .ok (.int .i64 (r.wide : Int)) h1 := b1.fld.2.2.2.2.1
    by_cases hgt : (n : Int) > most - (r.wide : Int)
    · obtain ⟨u, h2, e22, a2, c2, n2⟩ := reset_ok b1.lt b1.get
      have p2 : Stp (RdF i vt vl vn vq) h (RdF i .nils .nils .nils .nils) h2 := (p1.step c2 fun j q => .inl q).less fun j q => by
        rcases q with q | q | q | q | q
        · exact .inl q
        · cases q
        · cases q
        · cases q
        · cases q
      cases plus with
      | false =>
        have ee : endM most r = ({}, [⟨3, .nil⟩]) := by unfold endM; rw [hm]; simp only []; rw [if_pos hgt]; rfl
        simp (disch := omega) only [vmL, Nat.reduceEqDiff, reduceCtorEq, ↓reduceIte, vpL, vsL, vqL, Tryd21, Tryr21_0, Tryr21_1, Tryr21_2, Tryr21_3, Tryr21_4, Tryr21_10, Tryr21_11, Tryr21_12, Tryr21_14, L5, B5, T, s1, M, oExtract_3, M0, M4, hgt, e22, oBuild_g0, oBuildSlice_2]
        exact Tells.ret (by simp only [resK, vmL, Nat.reduceEqDiff, reduceCtorEq, ↓reduceIte, vpL, vsL, vqL, tupR] <;> rfl) (end_told a2 p2 ee (WRow.nil _ _))
      | true =>
        obtain ⟨h3, s3, a3, p3, -⟩ := a2.set_skip n
        obtain ⟨h4, s4, a4, p4, -⟩ := a3.set_line true
        have ee : endM most r = ({ skip := n, line := true }, [⟨3, .nil⟩]) := by unfold endM; rw [hm]; simp only []; rw [if_pos hgt]; rfl
        simp (disch := omega) only [vmL, Nat.reduceEqDiff, reduceCtorEq, ↓reduceIte, vpL, vsL, vqL, Tryd21, Tryr21_0, Tryr21_1, Tryr21_2, Tryr21_3, Tryr21_4, Tryr21_10, Tryr21_11, Tryr21_12, Tryr21_13, Tryr21_14, L5, B5, T, s1, M, oExtract_3, M0, M4, hgt, e22, s3, s4, oBuild_g0, oBuildSlice_2]
        exact Tells.ret (by simp only [resK, vmL, Nat.reduceEqDiff, reduceCtorEq, ↓reduceIte, vpL, vsL, vqL, tupR] <;> rfl) (end_told a4 ((p2.trans p3).trans p4) ee (WRow.nil _ _))
    · have hgt' : (most - (r.wide : Int) : Int) ≥ n := by omega
      have L1 : oLoad1 (.ptr i 1) h1 = .ok vt h1 := b1.fld.2.1
      obtain ⟨vt', h2, c1, c2, c3, c4, c5⟩ := app1_ok (bt := 16) (new := [V.str ahead]) b1.t rfl (by show (r.texts.length + 1) * 16 ≤ _; omega)
      obtain ⟨h3, s3, b3, p3, -⟩ := b1.set_texts (l := r.texts ++ [ahead]) c4 (by rw [List.length_append, txs, List.map_append]; exact c3) (fun j hj => by rw [c2] at hj; cases hj; rw [Pos.nat_succ]; omega)
      have L3 : oLoad1 (.ptr i 3) h3 = .ok (.int .i64 (r.long : Int)) h3 := b3.fld.2.2.2.1
      obtain ⟨h4, s4, b4, p4, -⟩ := b3.set_long (r.long + (cutCR r.now).length)
      have L4 : oLoad1 (.ptr i 4) h4 = .ok (.int .i64 (r.wide : Int)) h4 := b4.fld.2.2.2.2.1
      obtain ⟨h5, s5, b5, p5, -⟩ := b4.set_wide (r.wide + n)
      obtain ⟨h6, s6, b6, p6, -⟩ := b5.set_want n
      rw [Int.natCast_add] at s4 s5
      have p16 := (((p1.trans p3).trans p4).trans p5).trans p6
      by_cases hn0 : n = 0
      · subst hn0
        have hz : ¬ (0 : Int) > 0 := by omega
        replace M : TryF27 [.str (cutCR r.now)] h1 = .ok (.tuple (.cons (.str ahead) (.cons (.int .i64 0) (.cons (.bool plus) (.cons (.bool true) .nil))))) h1 := M
        replace s5 : oStore 1 (.ptr i 4) (.int .i64 ((r.wide : Int) + 0)) h4 = .ok V.undef h5 := s5
        replace s6 : oStore 1 (.ptr i 6) (.int .i64 0) h5 = .ok V.undef h6 := s6
        have hgt2 : ¬ (0 : Int) > most - (r.wide : Int) := by omega
        obtain ⟨h7, s7, b7, p7, -⟩ := b6.set_literal false
        have L7 : oLoad1 (.ptr i 2) h7 = .ok vl h7 := b7.fld.2.2.1
        obtain ⟨vl', h8, d1, d2, d3, d4, d5⟩ := app1_ok (bt := 16) (new := [V.str []]) b7.l rfl (by show (r.lits.length + 1) * 16 ≤ _; omega)
        obtain ⟨h9, s9, b9, p9, -⟩ := b7.set_lits (l := r.lits ++ [[]]) d4 (by rw [List.length_append, txs, List.map_append]; exact d3) (fun j hj => by rw [d2] at hj; cases hj; rw [Pos.nat_succ]; omega)
        have p := (p16.trans p7).trans p9
        cases plus with
        | true =>
          have ee : endM most r = ({ texts := r.texts ++ [ahead], lits := r.lits ++ [[]], long := r.long + (cutCR r.now).length, wide := r.wide + 0, now := [], want := 0, lit := r.lit, literal := false, skip := r.skip, line := r.line }, []) := by unfold endM; rw [hm]; simp only []; rw [if_neg hgt]; rfl
          simp (disch := omega) only [vmL, Nat.reduceEqDiff, reduceCtorEq, ↓reduceIte, vpL, vsL, vqL, Tryd21, Tryr21_0, Tryr21_1, Tryr21_2, Tryr21_3, Tryr21_4, Tryr21_10, Tryr21_15, Tryr21_16, Tryr21_17, Tryr21_18, Tryr21_19, Tryr21_20, Tryr21_21, Tryr21_22, L5, B5, T, s1, M, oExtract_3, M0, M4, hgt2, L1, oBuildSlice_s, c1, s3, L3, s4, L4, s5, hz, s6, s7, L7, d1, s9]
          refine Tells.ret (by simp only [resK, vmL, Nat.reduceEqDiff, reduceCtorEq, ↓reduceIte, vpL, vsL, vqL, tupR] <;> rfl) ⟨vt', vl', .nils, vq, [], by rw [ee]; exact b9, p, by rw [ee]; exact ⟨rfl, .inl ⟨rfl, .inl rfl⟩⟩, by rw [ee]; rfl⟩
        | false =>
          have ee : endM most r = ({ texts := r.texts ++ [ahead], lits := r.lits ++ [[]], long := r.long + (cutCR r.now).length, wide := r.wide + 0, now := [], want := 0, lit := r.lit, literal := false, skip := r.skip, line := r.line }, [⟨2, .nil⟩]) := by unfold endM; rw [hm]; simp only []; rw [if_neg hgt]; rfl
          simp (disch := omega) only [vmL, Nat.reduceEqDiff, reduceCtorEq, ↓reduceIte, vpL, vsL, vqL, Tryd21, Tryr21_0, Tryr21_1, Tryr21_2, Tryr21_3, Tryr21_4, Tryr21_10, Tryr21_15, Tryr21_16, Tryr21_17, Tryr21_18, Tryr21_19, Tryr21_20, Tryr21_21, Tryr21_23, L5, B5, T, s1, M, oExtract_3, M0, M4, hgt2, L1, oBuildSlice_s, c1, s3, L3, s4, L4, s5, hz, s6, s7, L7, d1, s9, oBuild_g0, oBuildSlice_2]
          exact Tells.ret (by simp only [resK, vmL, Nat.reduceEqDiff, reduceCtorEq, ↓reduceIte, vpL, vsL, vqL, tupR] <;> rfl) (end_told b9 p ee (WRow.nil _ _))
      · have hz : (n : Int) > 0 := by omega
        have hnz : ¬ (n : Int) = 0 := by omega
        obtain ⟨h7, s7, b7, p7, -⟩ := b6.set_literal true
        have p := p16.trans p7
        have hd : decide (0 < n) = true := decide_eq_true (by omega)
        cases plus with
        | true =>
          have ee : endM most r = ({ texts := r.texts ++ [ahead], lits := r.lits, long := r.long + (cutCR r.now).length, wide := r.wide + n, now := [], want := n, lit := r.lit, literal := true, skip := r.skip, line := r.line }, []) := by unfold endM; rw [hm]; simp only []; rw [if_neg hgt, if_neg hn0, hd]; rfl
          simp (disch := omega) only [vmL, Nat.reduceEqDiff, reduceCtorEq, ↓reduceIte, vpL, vsL, vqL, Tryd21, Tryr21_0, Tryr21_1, Tryr21_2, Tryr21_3, Tryr21_4, Tryr21_10, Tryr21_15, Tryr21_16, Tryr21_17, Tryr21_18, Tryr21_19, Tryr21_21, Tryr21_22, L5, B5, T, s1, M, oExtract_3, M0, M4, hgt, L1, oBuildSlice_s, c1, s3, L3, s4, L4, s5, hz, hnz, s6, s7]
          refine Tells.ret (by simp only [resK, vmL, Nat.reduceEqDiff, reduceCtorEq, ↓reduceIte, vpL, vsL, vqL, tupR] <;> rfl) ⟨vt', vl, .nils, vq, [], by rw [ee]; exact b7, p, by rw [ee]; exact ⟨rfl, .inl ⟨rfl, .inl rfl⟩⟩, by rw [ee]; rfl⟩
        | false =>
          have ee : endM most r = ({ texts := r.texts ++ [ahead], lits := r.lits, long := r.long + (cutCR r.now).length, wide := r.wide + n, now := [], want := n, lit := r.lit, literal := true, skip := r.skip, line := r.line }, [⟨2, .nil⟩]) := by unfold endM; rw [hm]; simp only []; rw [if_neg hgt, if_neg hn0, hd]; rfl
          simp (disch := omega) only [vmL, Nat.reduceEqDiff, reduceCtorEq, ↓reduceIte, vpL, vsL, vqL, Tryd21, Tryr21_0, Tryr21_1, Tryr21_2, Tryr21_3, Tryr21_4, Tryr21_10, Tryr21_15, Tryr21_16, Tryr21_17, Tryr21_18, Tryr21_19, Tryr21_21, Tryr21_23, L5, B5, T, s1, M, oExtract_3, M0, M4, hgt, L1, oBuildSlice_s, c1, s3, L3, s4, L4, s5, hz, hnz, s6, s7, oBuild_g0, oBuildSlice_2]
          exact Tells.ret (by simp only [resK, vmL, Nat.reduceEqDiff, reduceCtorEq, ↓reduceIte, vpL, vsL, vqL, tupR] <;> rfl) (end_told b7 p ee (WRow.nil _ _))
end Go.Proofs.Im
