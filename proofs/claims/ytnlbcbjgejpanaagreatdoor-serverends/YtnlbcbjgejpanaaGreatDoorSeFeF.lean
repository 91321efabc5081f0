/- Part of the value machine, or of a walk by it: lemmas that the claim's last text uses. No conditions. -/
import Derived.Test.YtnlbcbjgejpanaaGreatDoorSeVmO
import Derived.Test.YtnlbcbjgejpanaaGreatDoorChecked
import Derived.KernelRfl
import Derived.Test.YtnlbcbjgejpanaaGreatDoorSeFeE
import Derived.Test.YtnlbcbjgejpanaaGreatDoorSeFeA
set_option linter.unusedVariables false
set_option linter.unusedSimpArgs false
set_option linter.unnecessarySimpa false
noncomputable section
namespace Go.Vm
variable {h : Hp} {tR : TypeId}
theorem st11_get {i : Pos} {x0 x1 x2 x3 x4 x5 x6 x7 x8 x9 x10 a0 a1 a2 a3 a4 a5 a6 a7 a8 a9 a10 : V} (hg : h.get i = some (.cells (.rw tR true) [x0, x1, x2, x3, x4, x5, x6, x7, x8, x9, x10])) :
    oStore 11 (.ptr i 0) (.agg (.cons a0 (.cons a1 (.cons a2 (.cons a3 (.cons a4 (.cons a5 (.cons a6 (.cons a7 (.cons a8 (.cons a9 (.cons a10 .nil)))))))))))) h = .ok V.undef (h.put i (some (.cells (.rw tR true) [a0, a1, a2, a3, a4, a5, a6, a7, a8, a9, a10]))) := by
  obtain ⟨x, hx⟩ : ∃ x, x = V.agg (.cons a0 (.cons a1 (.cons a2 (.cons a3 (.cons a4 (.cons a5 (.cons a6 (.cons a7 (.cons a8 (.cons a9 (.cons a10 .nil))))))))))) := ⟨_, rfl⟩
  rw [← hx]
  rw [hx]
  rw [oStore_row hg rfl rfl]
  rfl
theorem oBuild_rd (most : Int) : oBuild [.int .i64 0, .nils, .nils, .int .i64 0, .int .i64 0, .nils, .int .i64 0, .nils, .bool false, .int .i64 0, .bool false] [(0, 1, .int .i64 most)] h =
    .ok (.agg (.cons (.int .i64 most) (.cons .nils (.cons .nils (.cons (.int .i64 0) (.cons (.int .i64 0) (.cons .nils (.cons (.int .i64 0) (.cons .nils (.cons (.bool false) (.cons (.int .i64 0) (.cons (.bool false) .nil)))))))))))) h := (rfl)
end Go.Vm
namespace Go.Proofs.Im
open Go Go.Proofs Go.Vm Go.Ln
set_option linter.unusedVariables false
set_option maxRecDepth 100000
set_option linter.unusedSimpArgs false
structure RdAt (most : Int) (h : Hp) (i : Pos) (r : Rd) (vt vl vn vq : V) : Prop where
  lt : i.nat < h.next.nat
  get : h.get i = some (.cells (.rw tR true) [.int .i64 most, vt, vl, .int .i64 (r.long : Int), .int .i64 (r.wide : Int), vn, .int .i64 (r.want : Int), vq, .bool r.literal, .int .i64 (r.skip : Int), .bool r.line])
  t : Ow 0 h tS 1 vt r.texts.length (txs r.texts)
  l : Ow 0 h tS 1 vl r.lits.length (txs r.lits)
  n : Ow 0 h tB 1 vn r.now.length (bys r.now)
  q : Ow 0 h tB 1 vq r.lit.length (bys r.lit)
  ti : idOf vt ≠ some i
  li : idOf vl ≠ some i
  ni : idOf vn ≠ some i
  qi : idOf vq ≠ some i
  tl : Sep vt vl
  tn : Sep vt vn
  tq : Sep vt vq
  ln : Sep vl vn
  lq : Sep vl vq
  nq : Sep vn vq
def RdF (i : Pos) (vt vl vn vq : V) (j : Pos) : Prop := j = i ∨ idOf vt = some j ∨ idOf vl = some j ∨ idOf vn = some j ∨ idOf vq = some j
theorem RdAt.fresh {most : Int} {h : Hp} {i : Pos} (lt : i.nat < h.next.nat) (get : h.get i = some (.cells (.rw tR true) [.int .i64 most, .nils, .nils, .int .i64 0, .int .i64 0, .nils, .int .i64 0, .nils, .bool false, .int .i64 0, .bool false])) : RdAt most h i {} .nils .nils .nils .nils :=
  ⟨lt, get, Ow.nil _ _ _ _, Ow.nil _ _ _ _, Ow.nil _ _ _ _, Ow.nil _ _ _ _, by simp [idOf], by simp [idOf], by simp [idOf], by simp [idOf], Sep.nil _, Sep.nil _, Sep.nil _, Sep.nil _, Sep.nil _, Sep.nil _⟩
theorem RdAt.ch {most : Int} {h h' : Hp} {i : Pos} {r : Rd} {vt vl vn vq : V} {S : Pos → Prop} (a : RdAt most h i r vt vl vn vq) (c : Ch S h h') (hs : ∀ j, RdF i vt vl vn vq j → ¬ S j) : RdAt most h' i r vt vl vn vq :=
  ⟨Nat.lt_of_lt_of_le a.lt c.next, by rw [c.get i a.lt (hs i (.inl rfl))]; exact a.get, a.t.ch c fun j hj => hs j (.inr (.inl hj)), a.l.ch c fun j hj => hs j (.inr (.inr (.inl hj))), a.n.ch c fun j hj => hs j (.inr (.inr (.inr (.inl hj)))), a.q.ch c fun j hj => hs j (.inr (.inr (.inr (.inr hj)))),
    a.ti, a.li, a.ni, a.qi, a.tl, a.tn, a.tq, a.ln, a.lq, a.nq⟩
theorem RdAt.fld {most : Int} {h : Hp} {i : Pos} {r : Rd} {vt vl vn vq : V} (a : RdAt most h i r vt vl vn vq) : oLoad1 (.ptr i 0) h = .ok (.int .i64 most) h ∧ oLoad1 (.ptr i 1) h = .ok vt h ∧ oLoad1 (.ptr i 2) h = .ok vl h ∧ oLoad1 (.ptr i 3) h = .ok (.int .i64 (r.long : Int)) h ∧ oLoad1 (.ptr i 4) h = .ok (.int .i64 (r.wide : Int)) h ∧ oLoad1 (.ptr i 5) h = .ok vn h ∧ oLoad1 (.ptr i 6) h = .ok (.int .i64 (r.want : Int)) h ∧ oLoad1 (.ptr i 7) h = .ok vq h ∧ oLoad1 (.ptr i 8) h = .ok (.bool r.literal) h ∧ oLoad1 (.ptr i 9) h = .ok (.int .i64 (r.skip : Int)) h ∧ oLoad1 (.ptr i 10) h = .ok (.bool r.line) h :=
  ⟨ld_get a.get 0, ld_get a.get 1, ld_get a.get 2, ld_get a.get 3, ld_get a.get 4, ld_get a.get 5, ld_get a.get 6, ld_get a.get 7, ld_get a.get 8, ld_get a.get 9, ld_get a.get 10⟩
theorem reset_ok {most : Int} {h : Hp} {i : Pos} {x1 x2 x3 x4 x5 x6 x7 x8 x9 x10 : V} (lt : i.nat < h.next.nat) (get : h.get i = some (.cells (.rw tR true) [.int .i64 most, x1, x2, x3, x4, x5, x6, x7, x8, x9, x10])) :
    ∃ v h', TryF22 [.ptr i 0] h = .ok v h' ∧ RdAt most h' i {} .nils .nils .nils .nils ∧ Ch (fun j => j = i) h h' ∧ h'.next = h.next := by
  have L0 : oLoad1 (.ptr i 0) h = .ok (.int .i64 most) h := ld_get get 0
  have s := st11_get (a0 := .int .i64 most) (a1 := .nils) (a2 := .nils) (a3 := .int .i64 0) (a4 := .int .i64 0) (a5 := .nils) (a6 := .int .i64 0) (a7 := .nils) (a8 := .bool false) (a9 := .int .i64 0) (a10 := .bool false) get
  rw [TryF22_eq]
  simp only [vmL, Nat.reduceEqDiff, reduceCtorEq, ↓reduceIte, vpL, vsL, vqL, Tryd22, Tryr22_0, L0, oBuild_rd, s, outR, resK, tupR]
  exact ⟨_, _, rfl, RdAt.fresh lt (put_self _ _ _), Ch.put (S := fun j => j = i) _ _ rfl, rfl⟩
end Go.Proofs.Im

namespace Go.Ln
open Go Go.Vm
set_option linter.unusedVariables false
theorem feeds_skip (most : Int) : ∀ (b : List Nat) (r : Rd), b.length ≤ r.skip → feedsM most r b = ({ r with skip := r.skip - b.length }, [])
  | [], r, _ => rfl
  | c :: b, r, h => by
    have h0 : r.skip > 0 := by simp only [List.length_cons] at h; omega
    have e : feedM most r c = ({ r with skip := r.skip - 1 }, []) := by unfold feedM; rw [if_pos h0]
    rw [feedsM, e]
    simp only []
    rw [feeds_skip most b _ (by simp only [List.length_cons] at h ⊢; omega)]
    simp only [List.append_nil, List.length_cons]
    rw [show r.skip - 1 - b.length = r.skip - (b.length + 1) by omega]
theorem feeds_lit (most : Int) : ∀ (b : List Nat) (r : Rd), r.skip = 0 → r.literal = true → b ≠ [] → b.length ≤ r.want →
    feedsM most r b = (if b.length = r.want then { r with want := 0, lits := r.lits ++ [r.lit ++ b], lit := [], literal := false } else { r with want := r.want - b.length, lit := r.lit ++ b }, [])
  | [], r, _, _, h, _ => absurd rfl h
  | [c], r, h1, h2, _, h4 => by
    have h0 : ¬ r.skip > 0 := by omega
    have e : feedM most r c = (if r.want ≤ 1 then ({ r with want := 0, lits := r.lits ++ [r.lit ++ [c]], lit := [], literal := false }, []) else ({ r with want := r.want - 1, lit := r.lit ++ [c] }, [])) := by
      unfold feedM; rw [if_neg h0, if_pos h2]
    rw [feedsM, feedsM, e]
    simp only [List.length_cons, List.length_nil] at h4
    by_cases hw : r.want ≤ 1
    · have : [c].length = r.want := by simp only [List.length_cons, List.length_nil]; omega
      rw [if_pos hw, if_pos this]; rfl
    · have : ¬ [c].length = r.want := by simp only [List.length_cons, List.length_nil]; omega
      rw [if_neg hw, if_neg this]; rfl
  | c :: d :: b, r, h1, h2, _, h4 => by
    have h0 : ¬ r.skip > 0 := by omega
    simp only [List.length_cons] at h4
    have hw : ¬ r.want ≤ 1 := by omega
    have e : feedM most r c = ({ r with want := r.want - 1, lit := r.lit ++ [c] }, []) := by
      unfold feedM; rw [if_neg h0, if_pos h2, if_neg hw]
    rw [feedsM, e]
    simp only []
    have ih := feeds_lit most (d :: b) { r with want := r.want - 1, lit := r.lit ++ [c] } h1 h2 (by simp) (by simp only [List.length_cons]; omega)
    rw [ih]
    simp only [List.length_cons, List.append_assoc, List.singleton_append, List.append_nil]
    by_cases hz : b.length + 1 = r.want - 1
    · rw [if_pos hz, if_pos (by omega)]
    · rw [if_neg hz, if_neg (by omega)]
      rw [show r.want - 1 - (b.length + 1) = r.want - (b.length + 1 + 1) by omega]
end Go.Ln

noncomputable section
namespace Go.Proofs.Im
open Go Go.Proofs Go.Vm Go.Ln
set_option linter.unusedVariables false
set_option maxRecDepth 100000
set_option linter.unusedSimpArgs false
theorem take_skip {most : Int} {h : Hp} {i : Pos} {r : Rd} {vt vl vn vq vb : V} {c : Nat} {bs : List Nat} (a : RdAt most h i r vt vl vn vq) (s : Sl c h 1 vb bs.length (bys bs)) (hc : capOk 1 vb) (hb : idOf vb ≠ some i) (hcn : c ≤ h.next.nat) (hsk : 0 < r.skip) (hsk2 : r.skip < 9000000000000000000) (hl : bs.length < 1000000000) :
    ∃ v' h', TryF20 [.ptr i 0, vb] h = .ok v' h' ∧ RdAt most h' i { r with skip := r.skip - min r.skip bs.length } vt vl vn vq ∧ Ch (fun j => j = i) h h' ∧ h'.next = h.next ∧
      Sl c h' 1 v' (bs.drop (min r.skip bs.length)).length (bys (bs.drop (min r.skip bs.length))) ∧ capOk 1 v' ∧ ∀ j, idOf v' = some j → idOf vb = some j := by
  obtain ⟨m, hm⟩ : ∃ m, m = min r.skip bs.length := ⟨_, rfl⟩
  rw [← hm]
  have hmi : min (r.skip : Int) (bs.length : Int) = (m : Int) := by omega
  obtain ⟨v', e1, e2, e3, e4⟩ := s.from hc (by omega) (lo := m) (by omega)
  have L9 := a.fld.2.2.2.2.2.2.2.2.2.1
  have hgt : (r.skip : Int) > 0 := by omega
  have st := st_get (q := 9) (y := .int .i64 ((r.skip : Int) - (m : Int))) a.get ⟨rfl, rfl⟩ (by simp)
  have ch : Ch (fun j => j = i) h (h.put i (some (.cells (.rw tR true) ([V.int .i64 most, vt, vl, .int .i64 (r.long : Int), .int .i64 (r.wide : Int), vn, .int .i64 (r.want : Int), vq, .bool r.literal, .int .i64 (r.skip : Int), .bool r.line].set 9 (.int .i64 ((r.skip : Int) - (m : Int))))))) := Ch.put (S := fun j => j = i) _ _ rfl
  rw [TryF20_eq]
  simp (disch := omega) only [vmL, Nat.reduceEqDiff, reduceCtorEq, ↓reduceIte, vpL, vsL, vqL, Tryd20, Tryr20_0, Tryr20_1, Tryr20_2, Tryr20_3, Tryr20_4, L9, hgt, s.length, hmi, st, e1, outR, resK, tupR]
  refine ⟨v', _, rfl, ⟨a.lt, ?_, a.t.ch ch ?_, a.l.ch ch ?_, a.n.ch ch ?_, a.q.ch ch ?_, a.ti, a.li, a.ni, a.qi, a.tl, a.tn, a.tq, a.ln, a.lq, a.nq⟩, ch, rfl, ?_, e3, e4⟩
  · rw [put_self]
    show some (Ob.cells (.rw tR true) [V.int .i64 most, vt, vl, .int .i64 (r.long : Int), .int .i64 (r.wide : Int), vn, .int .i64 (r.want : Int), vq, .bool r.literal, .int .i64 ((r.skip : Int) - (m : Int)), .bool r.line]) = _
    rw [show (r.skip : Int) - (m : Int) = ((r.skip - m : Nat) : Int) by omega]
  · rintro j hj rfl; exact a.ti hj
  · rintro j hj rfl; exact a.li hj
  · rintro j hj rfl; exact a.ni hj
  · rintro j hj rfl; exact a.qi hj
  · rw [List.length_drop, bys_drop]
    rw [Nat.mul_one] at e2
    exact e2.ch ch hcn fun j hj q => by rw [q] at hj; exact hb (e4 _ hj)
end Go.Proofs.Im

noncomputable section
namespace Go.Proofs.Im
open Go Go.Proofs Go.Vm Go.Ln
set_option linter.unusedVariables false
set_option maxRecDepth 100000
set_option linter.unusedSimpArgs false
theorem take_part {most : Int} {h : Hp} {i : Pos} {r : Rd} {vt vl vn vq vb : V} {c : Nat} {bs : List Nat} (a : RdAt most h i r vt vl vn vq) (s : Sl c h 1 vb bs.length (bys bs)) (hc : capOk 1 vb) (hb : idOf vb ≠ some i) (hbq : ∀ j, idOf vb = some j → idOf vq ≠ some j) (hcn : c ≤ h.next.nat) (hsk : r.skip = 0) (hpos : 0 < bs.length) (hw : bs.length < r.want) (hw2 : r.want < 9000000000000000000) (hl : bs.length < 1000000000) (hq : r.lit.length < 1000000000) :
    ∃ v' vq' h', TryF20 [.ptr i 0, vb] h = .ok v' h' ∧ RdAt most h' i { r with want := r.want - bs.length, lit := r.lit ++ bs } vt vl vn vq' ∧ Ch (fun j => j = i ∨ idOf vq = some j) h h' ∧ (∀ j, idOf vq' = some j → h.next.nat ≤ j.nat) ∧
      Sl c h' 1 v' 0 [] ∧ capOk 1 v' ∧ ∀ j, idOf v' = some j → idOf vb = some j := by
  have hmi : min (r.want : Int) (bs.length : Int) = (bs.length : Int) := by omega
  obtain ⟨v1, e1, e2, -, -⟩ := s.upto hc (by omega) (hi := bs.length) (Nat.le_refl _)
  obtain ⟨v', f1, f2, f3, f4⟩ := s.from hc (by omega) (lo := bs.length) (Nat.le_refl _)
  have L9 := a.fld.2.2.2.2.2.2.2.2.2.1
  have L7 := a.fld.2.2.2.2.2.2.2.1
  have L6 := a.fld.2.2.2.2.2.2.1
  have hgt : ¬ (r.skip : Int) > 0 := by omega
  rw [Nat.mul_one, ← bys_length, List.take_length] at e2
  rw [bys_length] at e2
  obtain ⟨vq', h1, a1, a2, a3, a4, a5⟩ := app_ok (bt := 1) a.q e2 hpos (by omega)
  have g1 : h1.get i = some (.cells (.rw tR true) [.int .i64 most, vt, vl, .int .i64 (r.long : Int), .int .i64 (r.wide : Int), vn, .int .i64 (r.want : Int), vq, .bool r.literal, .int .i64 (r.skip : Int), .bool r.line]) := by rw [a5.get i a.lt a.qi]; exact a.get
  have s2 := st_get (q := 7) (y := vq') g1 a4.cell (by simp)
  obtain ⟨h2, e2'⟩ : ∃ h2, h2 = h1.put i (some (.cells (.rw tR true) [.int .i64 most, vt, vl, .int .i64 (r.long : Int), .int .i64 (r.wide : Int), vn, .int .i64 (r.want : Int), vq', .bool r.literal, .int .i64 (r.skip : Int), .bool r.line])) := ⟨_, rfl⟩
  replace s2 : oStore 1 (.ptr i 7) vq' h1 = .ok V.undef h2 := by rw [e2']; exact s2
  have g2 : h2.get i = some (.cells (.rw tR true) [.int .i64 most, vt, vl, .int .i64 (r.long : Int), .int .i64 (r.wide : Int), vn, .int .i64 (r.want : Int), vq', .bool r.literal, .int .i64 (r.skip : Int), .bool r.line]) := by rw [e2']; exact put_self _ _ _
  have c2 : Ch (fun j => j = i) h1 h2 := by rw [e2']; exact Ch.put (S := fun j => j = i) _ _ rfl
  have s3 := st_get (q := 6) (y := .int .i64 ((r.want : Int) - (bs.length : Int))) g2 ⟨rfl, rfl⟩ (by simp)
  obtain ⟨h3, e3'⟩ : ∃ h3, h3 = h2.put i (some (.cells (.rw tR true) [.int .i64 most, vt, vl, .int .i64 (r.long : Int), .int .i64 (r.wide : Int), vn, .int .i64 ((r.want : Int) - (bs.length : Int)), vq', .bool r.literal, .int .i64 (r.skip : Int), .bool r.line])) := ⟨_, rfl⟩
  replace s3 : oStore 1 (.ptr i 6) (.int .i64 ((r.want : Int) - (bs.length : Int))) h2 = .ok V.undef h3 := by rw [e3']; exact s3
  have g3 : h3.get i = some (.cells (.rw tR true) [.int .i64 most, vt, vl, .int .i64 (r.long : Int), .int .i64 (r.wide : Int), vn, .int .i64 ((r.want : Int) - (bs.length : Int)), vq', .bool r.literal, .int .i64 (r.skip : Int), .bool r.line]) := by rw [e3']; exact put_self _ _ _
  have c3 : Ch (fun j => j = i) h2 h3 := by rw [e3']; exact Ch.put (S := fun j => j = i) _ _ rfl
  have M6 : oLoad1 (.ptr i 6) h2 = .ok (.int .i64 (r.want : Int)) h2 := ld_get g2 6
  have N6 : oLoad1 (.ptr i 6) h3 = .ok (.int .i64 ((r.want : Int) - (bs.length : Int))) h3 := ld_get g3 6
  have hne : ¬ (r.want : Int) - (bs.length : Int) = 0 := by omega
  have ch : Ch (fun j => j = i ∨ idOf vq = some j) h h3 := ((a5.mono (S' := fun j => j = i ∨ idOf vq = some j) fun _ _ q => .inr q).trans c2 fun _ _ q => .inl q).trans c3 fun _ _ q => .inl q
  rw [TryF20_eq]
  simp (disch := omega) only [vmL, Nat.reduceEqDiff, reduceCtorEq, ↓reduceIte, vpL, vsL, vqL, Tryd20, Tryr20_0, Tryr20_1, Tryr20_5, Tryr20_6, Tryr20_7, Tryr20_8, Tryr20_11, L9, hgt, L6, L7, s.length, hmi, e1, a1, s2, M6, s3, N6, hne, f1, outR, resK, tupR]
  have hidq : ∀ j, idOf vq' = some j → h.next.nat ≤ j.nat := fun j hj => by rw [a2] at hj; cases hj; exact Nat.le_refl _
  have fresh : ∀ (v : V), (∀ j, idOf v = some j → j.nat < h.next.nat) → Sep v vq' := fun v hv j hj q => by have := hv j hj; have := hidq j q; omega
  refine ⟨v', vq', h3, rfl, ⟨Nat.lt_of_lt_of_le a.lt ch.next, ?_, a.t.ch ch ?_, a.l.ch ch ?_, a.n.ch ch ?_, ?_, a.ti, a.li, a.ni, fun q => ?_, a.tl, a.tn, fresh _ fun j hj => (a.t.idlt hj).2, a.ln, fresh _ fun j hj => (a.l.idlt hj).2, fresh _ fun j hj => (a.n.idlt hj).2⟩, ch, hidq, ?_, f3, f4⟩
  · rw [g3, show (r.want : Int) - (bs.length : Int) = ((r.want - bs.length : Nat) : Int) by omega]
  · rintro j hj (q | q); exact a.ti (q ▸ hj); exact a.tq j hj q
  · rintro j hj (q | q); exact a.li (q ▸ hj); exact a.lq j hj q
  · rintro j hj (q | q); exact a.ni (q ▸ hj); exact a.nq j hj q
  · rw [List.length_append, bys_append]
    exact (a4.ch c2 fun j hj q => by have := hidq j hj; have := a.lt; rw [q] at *; omega).ch c3 fun j hj q => by have := hidq j hj; have := a.lt; rw [q] at *; omega
  · have := hidq i q; have := a.lt; omega
  · rw [Nat.sub_self, Nat.mul_one, ← bys_length, List.drop_length] at f2
    exact f2.ch ch hcn fun j hj q => by
      rcases q with q | q
      · rw [q] at hj; exact hb (f4 _ hj)
      · exact hbq j (f4 _ hj) q
end Go.Proofs.Im

noncomputable section
namespace Go.Vm
structure Stp (S : Pos → Prop) (h : Hp) (S' : Pos → Prop) (h' : Hp) : Prop where
  ch : Ch S h h'
  sub : ∀ j, S' j → S j ∨ h.next.nat ≤ j.nat
theorem Stp.refl (S : Pos → Prop) (h : Hp) : Stp S h S h := ⟨Ch.refl _ _, fun _ q => .inl q⟩
theorem Stp.trans {S S1 S2 : Pos → Prop} {h h1 h2 : Hp} (x : Stp S h S1 h1) (y : Stp S1 h1 S2 h2) : Stp S h S2 h2 :=
  ⟨x.ch.trans y.ch fun j hj q => (x.sub j q).resolve_right (by omega), fun j q => (y.sub j q).elim (fun q => x.sub j q) fun q => .inr (Nat.le_trans x.ch.next q)⟩
theorem Stp.step {S S1 C : Pos → Prop} {h h1 h2 : Hp} (x : Stp S h S1 h1) (c : Ch C h1 h2) (hc : ∀ j, C j → S1 j) : Stp S h S1 h2 := x.trans ⟨c.mono fun j _ q => hc j q, fun _ q => .inl q⟩
theorem Stp.less {S S1 S2 : Pos → Prop} {h h1 : Hp} (x : Stp S h S1 h1) (hs : ∀ j, S2 j → S1 j) : Stp S h S2 h1 := ⟨x.ch, fun j q => x.sub j (hs j q)⟩
theorem aBuildSlice_s {tS : TypeId} (s : List Nat) : aBuildSlice tS [.str []] 1 [(0, 1, .str s)] = some (.cells (.rw tS true) [.str s], fun p => .slice p 0 1 (.kn 1)) := (rfl)
theorem oBuildSlice_s {tS : TypeId} (s : List Nat) {h : Hp} : oBuildSlice tS [.str []] 1 [(0, 1, .str s)] h = .ok (.slice h.next 0 1 (.kn 1)) (h.new (.cells (.rw tS true) [.str s])) := (rfl)
theorem oBuild_g0 (k : Int) {h : Hp} : oBuild [.int .i64 0, .nils] [(0, 1, .int .i64 k)] h = .ok (.agg (.cons (.int .i64 k) (.cons .nils .nil))) h := (rfl)
theorem oBuild_g1 (k : Int) {v : V} {h : Hp} (hv : v.cells = [v] ∧ notTuple v = true) : oBuild [.int .i64 0, .nils] [(0, 1, .int .i64 k), (1, 1, v)] h = .ok (.agg (.cons (.int .i64 k) (.cons v .nil))) h := by
  unfold oBuild
  simp only [fillP, hv.1, hv.2]
  rfl
theorem Ow.ch' {S : Pos → Prop} {h h' : Hp} {el : TypeId} {sz n : Nat} {v : V} {cs : List V} {b : Nat} (s : Ow b h el sz v n cs) (x : Ch S h h') (hs : ∀ i, idOf v = some i → ¬ S i) : Ow b h' el sz v n cs := s.ch x hs
end Go.Vm
namespace Go.Proofs.Im
open Go Go.Proofs Go.Vm Go.Ln
set_option linter.unusedVariables false
set_option maxRecDepth 100000
set_option linter.unusedSimpArgs false
variable {most : Int} {h h1 : Hp} {i : Pos} {r : Rd} {vt vl vn vq v : V}
theorem RdAt.upd {r' : Rd} {h' : Hp} (a : RdAt most h i r vt vl vn vq) (c : Ch (fun j => j = i) h h') (g : h'.get i = some (.cells (.rw tR true) [.int .i64 most, vt, vl, .int .i64 (r'.long : Int), .int .i64 (r'.wide : Int), vn, .int .i64 (r'.want : Int), vq, .bool r'.literal, .int .i64 (r'.skip : Int), .bool r'.line]))
    (ht : r'.texts = r.texts) (hl : r'.lits = r.lits) (hn : r'.now = r.now) (hq : r'.lit = r.lit) : RdAt most h' i r' vt vl vn vq :=
  ⟨Nat.lt_of_lt_of_le a.lt c.next, g, by rw [ht]; exact a.t.ch c fun j hj q => a.ti (q ▸ hj), by rw [hl]; exact a.l.ch c fun j hj q => a.li (q ▸ hj), by rw [hn]; exact a.n.ch c fun j hj q => a.ni (q ▸ hj), by rw [hq]; exact a.q.ch c fun j hj q => a.qi (q ▸ hj),
    a.ti, a.li, a.ni, a.qi, a.tl, a.tn, a.tq, a.ln, a.lq, a.nq⟩
theorem stp_i {h' : Hp} (c : Ch (fun j => j = i) h h') : Stp (RdF i vt vl vn vq) h (RdF i vt vl vn vq) h' := ⟨c.mono fun j _ q => .inl q, fun j q => .inl q⟩
theorem RdAt.set_long (a : RdAt most h i r vt vl vn vq) (n : Nat) : ∃ h', oStore 1 (.ptr i 3) (.int .i64 (n : Int)) h = .ok V.undef h' ∧ RdAt most h' i { r with long := n } vt vl vn vq ∧ Stp (RdF i vt vl vn vq) h (RdF i vt vl vn vq) h' ∧ h'.next = h.next := by
  have c : Ch (fun j => j = i) h (h.put i (some (.cells (.rw tR true) [.int .i64 most, vt, vl, .int .i64 (n : Int), .int .i64 (r.wide : Int), vn, .int .i64 (r.want : Int), vq, .bool r.literal, .int .i64 (r.skip : Int), .bool r.line]))) := Ch.put (S := fun j => j = i) _ _ rfl
  exact ⟨_, st_get (q := 3) a.get ⟨rfl, rfl⟩ (by simp), a.upd c (put_self _ _ _) rfl rfl rfl rfl, stp_i c, rfl⟩
theorem RdAt.set_wide (a : RdAt most h i r vt vl vn vq) (n : Nat) : ∃ h', oStore 1 (.ptr i 4) (.int .i64 (n : Int)) h = .ok V.undef h' ∧ RdAt most h' i { r with wide := n } vt vl vn vq ∧ Stp (RdF i vt vl vn vq) h (RdF i vt vl vn vq) h' ∧ h'.next = h.next := by
  have c : Ch (fun j => j = i) h (h.put i (some (.cells (.rw tR true) [.int .i64 most, vt, vl, .int .i64 (r.long : Int), .int .i64 (n : Int), vn, .int .i64 (r.want : Int), vq, .bool r.literal, .int .i64 (r.skip : Int), .bool r.line]))) := Ch.put (S := fun j => j = i) _ _ rfl
  exact ⟨_, st_get (q := 4) a.get ⟨rfl, rfl⟩ (by simp), a.upd c (put_self _ _ _) rfl rfl rfl rfl, stp_i c, rfl⟩
theorem RdAt.set_want (a : RdAt most h i r vt vl vn vq) (n : Nat) : ∃ h', oStore 1 (.ptr i 6) (.int .i64 (n : Int)) h = .ok V.undef h' ∧ RdAt most h' i { r with want := n } vt vl vn vq ∧ Stp (RdF i vt vl vn vq) h (RdF i vt vl vn vq) h' ∧ h'.next = h.next := by
  have c : Ch (fun j => j = i) h (h.put i (some (.cells (.rw tR true) [.int .i64 most, vt, vl, .int .i64 (r.long : Int), .int .i64 (r.wide : Int), vn, .int .i64 (n : Int), vq, .bool r.literal, .int .i64 (r.skip : Int), .bool r.line]))) := Ch.put (S := fun j => j = i) _ _ rfl
  exact ⟨_, st_get (q := 6) a.get ⟨rfl, rfl⟩ (by simp), a.upd c (put_self _ _ _) rfl rfl rfl rfl, stp_i c, rfl⟩
theorem RdAt.set_skip (a : RdAt most h i r vt vl vn vq) (n : Nat) : ∃ h', oStore 1 (.ptr i 9) (.int .i64 (n : Int)) h = .ok V.undef h' ∧ RdAt most h' i { r with skip := n } vt vl vn vq ∧ Stp (RdF i vt vl vn vq) h (RdF i vt vl vn vq) h' ∧ h'.next = h.next := by
  have c : Ch (fun j => j = i) h (h.put i (some (.cells (.rw tR true) [.int .i64 most, vt, vl, .int .i64 (r.long : Int), .int .i64 (r.wide : Int), vn, .int .i64 (r.want : Int), vq, .bool r.literal, .int .i64 (n : Int), .bool r.line]))) := Ch.put (S := fun j => j = i) _ _ rfl
  exact ⟨_, st_get (q := 9) a.get ⟨rfl, rfl⟩ (by simp), a.upd c (put_self _ _ _) rfl rfl rfl rfl, stp_i c, rfl⟩
theorem RdAt.set_literal (a : RdAt most h i r vt vl vn vq) (n : Bool) : ∃ h', oStore 1 (.ptr i 8) (.bool n) h = .ok V.undef h' ∧ RdAt most h' i { r with literal := n } vt vl vn vq ∧ Stp (RdF i vt vl vn vq) h (RdF i vt vl vn vq) h' ∧ h'.next = h.next := by
  have c : Ch (fun j => j = i) h (h.put i (some (.cells (.rw tR true) [.int .i64 most, vt, vl, .int .i64 (r.long : Int), .int .i64 (r.wide : Int), vn, .int .i64 (r.want : Int), vq, .bool n, .int .i64 (r.skip : Int), .bool r.line]))) := Ch.put (S := fun j => j = i) _ _ rfl
  exact ⟨_, st_get (q := 8) a.get ⟨rfl, rfl⟩ (by simp), a.upd c (put_self _ _ _) rfl rfl rfl rfl, stp_i c, rfl⟩
theorem RdAt.set_line (a : RdAt most h i r vt vl vn vq) (n : Bool) : ∃ h', oStore 1 (.ptr i 10) (.bool n) h = .ok V.undef h' ∧ RdAt most h' i { r with line := n } vt vl vn vq ∧ Stp (RdF i vt vl vn vq) h (RdF i vt vl vn vq) h' ∧ h'.next = h.next := by
  have c : Ch (fun j => j = i) h (h.put i (some (.cells (.rw tR true) [.int .i64 most, vt, vl, .int .i64 (r.long : Int), .int .i64 (r.wide : Int), vn, .int .i64 (r.want : Int), vq, .bool r.literal, .int .i64 (r.skip : Int), .bool n]))) := Ch.put (S := fun j => j = i) _ _ rfl
  exact ⟨_, st_get (q := 10) a.get ⟨rfl, rfl⟩ (by simp), a.upd c (put_self _ _ _) rfl rfl rfl rfl, stp_i c, rfl⟩
theorem RdAt.set_texts {l : List (List Nat)} (a : RdAt most h i r vt vl vn vq) (x : Ch (fun j => idOf vt = some j) h h1) (o : Ow 0 h1 tS 1 v l.length (txs l)) (hv : ∀ j, idOf v = some j → h.next.nat ≤ j.nat) : ∃ h', oStore 1 (.ptr i 1) v h1 = .ok V.undef h' ∧ RdAt most h' i { r with texts := l } v vl vn vq ∧ Stp (RdF i vt vl vn vq) h (RdF i v vl vn vq) h' ∧ h'.next = h1.next := by
  have g1 : h1.get i = some (.cells (.rw tR true) [.int .i64 most, vt, vl, .int .i64 (r.long : Int), .int .i64 (r.wide : Int), vn, .int .i64 (r.want : Int), vq, .bool r.literal, .int .i64 (r.skip : Int), .bool r.line]) := by rw [x.get i a.lt a.ti]; exact a.get
  have hvi : idOf v ≠ some i := fun q => by have := hv i q; have := a.lt; omega
  have hvi' : ∀ j, idOf v = some j → ¬ j = i := fun j hj q => hvi (q ▸ hj)
  have fr : ∀ (w : V), (∀ j, idOf w = some j → j.nat < h.next.nat) → Sep w v := fun w hw j hj q => by have := hw j hj; have := hv j q; omega
  have sep_l := a.tl.symm
  have sep_n := a.tn.symm
  have sep_q := a.tq.symm
  have c1 : Ch (fun j => j = i) h1 (h1.put i (some (.cells (.rw tR true) [.int .i64 most, v, vl, .int .i64 (r.long : Int), .int .i64 (r.wide : Int), vn, .int .i64 (r.want : Int), vq, .bool r.literal, .int .i64 (r.skip : Int), .bool r.line]))) := Ch.put (S := fun j => j = i) _ _ rfl
  refine ⟨_, st_get (q := 1) g1 o.cell (by simp), ⟨Nat.lt_of_lt_of_le a.lt (Nat.le_trans x.next c1.next), put_self _ _ _, o.ch c1 hvi', (a.l.ch x fun j hj q => sep_l j hj q).ch c1 fun j hj q => a.li (q ▸ hj), (a.n.ch x fun j hj q => sep_n j hj q).ch c1 fun j hj q => a.ni (q ▸ hj), (a.q.ch x fun j hj q => sep_q j hj q).ch c1 fun j hj q => a.qi (q ▸ hj),
    hvi, a.li, a.ni, a.qi, (fr _ fun j hj => (a.l.idlt hj).2).symm, (fr _ fun j hj => (a.n.idlt hj).2).symm, (fr _ fun j hj => (a.q.idlt hj).2).symm, a.ln, a.lq, a.nq⟩, ⟨(x.mono (S' := RdF i vt vl vn vq) fun j _ q => by exact .inr (.inl q)).trans c1 fun j _ q => .inl q, ?_⟩, rfl⟩
  rintro j (q | q | q | q | q)
  · exact .inl (.inl q)
  · exact .inr (hv j q)
  · exact .inl (.inr (.inr (.inl q)))
  · exact .inl (.inr (.inr (.inr (.inl q))))
  · exact .inl (.inr (.inr (.inr (.inr q))))
theorem RdAt.set_lits {l : List (List Nat)} (a : RdAt most h i r vt vl vn vq) (x : Ch (fun j => idOf vl = some j) h h1) (o : Ow 0 h1 tS 1 v l.length (txs l)) (hv : ∀ j, idOf v = some j → h.next.nat ≤ j.nat) : ∃ h', oStore 1 (.ptr i 2) v h1 = .ok V.undef h' ∧ RdAt most h' i { r with lits := l } vt v vn vq ∧ Stp (RdF i vt vl vn vq) h (RdF i vt v vn vq) h' ∧ h'.next = h1.next := by
  have g1 : h1.get i = some (.cells (.rw tR true) [.int .i64 most, vt, vl, .int .i64 (r.long : Int), .int .i64 (r.wide : Int), vn, .int .i64 (r.want : Int), vq, .bool r.literal, .int .i64 (r.skip : Int), .bool r.line]) := by rw [x.get i a.lt a.li]; exact a.get
  have hvi : idOf v ≠ some i := fun q => by have := hv i q; have := a.lt; omega
  have hvi' : ∀ j, idOf v = some j → ¬ j = i := fun j hj q => hvi (q ▸ hj)
  have fr : ∀ (w : V), (∀ j, idOf w = some j → j.nat < h.next.nat) → Sep w v := fun w hw j hj q => by have := hw j hj; have := hv j q; omega
  have sep_t := a.tl
  have sep_n := a.ln.symm
  have sep_q := a.lq.symm
  have c1 : Ch (fun j => j = i) h1 (h1.put i (some (.cells (.rw tR true) [.int .i64 most, vt, v, .int .i64 (r.long : Int), .int .i64 (r.wide : Int), vn, .int .i64 (r.want : Int), vq, .bool r.literal, .int .i64 (r.skip : Int), .bool r.line]))) := Ch.put (S := fun j => j = i) _ _ rfl
  refine ⟨_, st_get (q := 2) g1 o.cell (by simp), ⟨Nat.lt_of_lt_of_le a.lt (Nat.le_trans x.next c1.next), put_self _ _ _, (a.t.ch x fun j hj q => sep_t j hj q).ch c1 fun j hj q => a.ti (q ▸ hj), o.ch c1 hvi', (a.n.ch x fun j hj q => sep_n j hj q).ch c1 fun j hj q => a.ni (q ▸ hj), (a.q.ch x fun j hj q => sep_q j hj q).ch c1 fun j hj q => a.qi (q ▸ hj),
    a.ti, hvi, a.ni, a.qi, fr _ fun j hj => (a.t.idlt hj).2, a.tn, a.tq, (fr _ fun j hj => (a.n.idlt hj).2).symm, (fr _ fun j hj => (a.q.idlt hj).2).symm, a.nq⟩, ⟨(x.mono (S' := RdF i vt vl vn vq) fun j _ q => by exact .inr (.inr (.inl q))).trans c1 fun j _ q => .inl q, ?_⟩, rfl⟩
  rintro j (q | q | q | q | q)
  · exact .inl (.inl q)
  · exact .inl (.inr (.inl q))
  · exact .inr (hv j q)
  · exact .inl (.inr (.inr (.inr (.inl q))))
  · exact .inl (.inr (.inr (.inr (.inr q))))
theorem RdAt.set_now {l : List Nat} (a : RdAt most h i r vt vl vn vq) (x : Ch (fun j => idOf vn = some j) h h1) (o : Ow 0 h1 tB 1 v l.length (bys l)) (hv : ∀ j, idOf v = some j → h.next.nat ≤ j.nat) : ∃ h', oStore 1 (.ptr i 5) v h1 = .ok V.undef h' ∧ RdAt most h' i { r with now := l } vt vl v vq ∧ Stp (RdF i vt vl vn vq) h (RdF i vt vl v vq) h' ∧ h'.next = h1.next := by
  have g1 : h1.get i = some (.cells (.rw tR true) [.int .i64 most, vt, vl, .int .i64 (r.long : Int), .int .i64 (r.wide : Int), vn, .int .i64 (r.want : Int), vq, .bool r.literal, .int .i64 (r.skip : Int), .bool r.line]) := by rw [x.get i a.lt a.ni]; exact a.get
  have hvi : idOf v ≠ some i := fun q => by have := hv i q; have := a.lt; omega
  have hvi' : ∀ j, idOf v = some j → ¬ j = i := fun j hj q => hvi (q ▸ hj)
  have fr : ∀ (w : V), (∀ j, idOf w = some j → j.nat < h.next.nat) → Sep w v := fun w hw j hj q => by have := hw j hj; have := hv j q; omega
  have sep_t := a.tn
  have sep_l := a.ln
  have sep_q := a.nq.symm
  have c1 : Ch (fun j => j = i) h1 (h1.put i (some (.cells (.rw tR true) [.int .i64 most, vt, vl, .int .i64 (r.long : Int), .int .i64 (r.wide : Int), v, .int .i64 (r.want : Int), vq, .bool r.literal, .int .i64 (r.skip : Int), .bool r.line]))) := Ch.put (S := fun j => j = i) _ _ rfl
  refine ⟨_, st_get (q := 5) g1 o.cell (by simp), ⟨Nat.lt_of_lt_of_le a.lt (Nat.le_trans x.next c1.next), put_self _ _ _, (a.t.ch x fun j hj q => sep_t j hj q).ch c1 fun j hj q => a.ti (q ▸ hj), (a.l.ch x fun j hj q => sep_l j hj q).ch c1 fun j hj q => a.li (q ▸ hj), o.ch c1 hvi', (a.q.ch x fun j hj q => sep_q j hj q).ch c1 fun j hj q => a.qi (q ▸ hj),
    a.ti, a.li, hvi, a.qi, a.tl, fr _ fun j hj => (a.t.idlt hj).2, a.tq, fr _ fun j hj => (a.l.idlt hj).2, a.lq, (fr _ fun j hj => (a.q.idlt hj).2).symm⟩, ⟨(x.mono (S' := RdF i vt vl vn vq) fun j _ q => by exact .inr (.inr (.inr (.inl q)))).trans c1 fun j _ q => .inl q, ?_⟩, rfl⟩
  rintro j (q | q | q | q | q)
  · exact .inl (.inl q)
  · exact .inl (.inr (.inl q))
  · exact .inl (.inr (.inr (.inl q)))
  · exact .inr (hv j q)
  · exact .inl (.inr (.inr (.inr (.inr q))))
theorem RdAt.set_lit {l : List Nat} (a : RdAt most h i r vt vl vn vq) (x : Ch (fun j => idOf vq = some j) h h1) (o : Ow 0 h1 tB 1 v l.length (bys l)) (hv : ∀ j, idOf v = some j → h.next.nat ≤ j.nat) : ∃ h', oStore 1 (.ptr i 7) v h1 = .ok V.undef h' ∧ RdAt most h' i { r with lit := l } vt vl vn v ∧ Stp (RdF i vt vl vn vq) h (RdF i vt vl vn v) h' ∧ h'.next = h1.next := by
  have g1 : h1.get i = some (.cells (.rw tR true) [.int .i64 most, vt, vl, .int .i64 (r.long : Int), .int .i64 (r.wide : Int), vn, .int .i64 (r.want : Int), vq, .bool r.literal, .int .i64 (r.skip : Int), .bool r.line]) := by rw [x.get i a.lt a.qi]; exact a.get
  have hvi : idOf v ≠ some i := fun q => by have := hv i q; have := a.lt; omega
  have hvi' : ∀ j, idOf v = some j → ¬ j = i := fun j hj q => hvi (q ▸ hj)
  have fr : ∀ (w : V), (∀ j, idOf w = some j → j.nat < h.next.nat) → Sep w v := fun w hw j hj q => by have := hw j hj; have := hv j q; omega
  have sep_t := a.tq
  have sep_l := a.lq
  have sep_n := a.nq
  have c1 : Ch (fun j => j = i) h1 (h1.put i (some (.cells (.rw tR true) [.int .i64 most, vt, vl, .int .i64 (r.long : Int), .int .i64 (r.wide : Int), vn, .int .i64 (r.want : Int), v, .bool r.literal, .int .i64 (r.skip : Int), .bool r.line]))) := Ch.put (S := fun j => j = i) _ _ rfl
  refine ⟨_, st_get (q := 7) g1 o.cell (by simp), ⟨Nat.lt_of_lt_of_le a.lt (Nat.le_trans x.next c1.next), put_self _ _ _, (a.t.ch x fun j hj q => sep_t j hj q).ch c1 fun j hj q => a.ti (q ▸ hj), (a.l.ch x fun j hj q => sep_l j hj q).ch c1 fun j hj q => a.li (q ▸ hj), (a.n.ch x fun j hj q => sep_n j hj q).ch c1 fun j hj q => a.ni (q ▸ hj), o.ch c1 hvi',
    a.ti, a.li, a.ni, hvi, a.tl, a.tn, fr _ fun j hj => (a.t.idlt hj).2, a.ln, fr _ fun j hj => (a.l.idlt hj).2, fr _ fun j hj => (a.n.idlt hj).2⟩, ⟨(x.mono (S' := RdF i vt vl vn vq) fun j _ q => by exact .inr (.inr (.inr (.inr q)))).trans c1 fun j _ q => .inl q, ?_⟩, rfl⟩
  rintro j (q | q | q | q | q)
  · exact .inl (.inl q)
  · exact .inl (.inr (.inl q))
  · exact .inl (.inr (.inr (.inl q)))
  · exact .inl (.inr (.inr (.inr (.inl q))))
  · exact .inr (hv j q)
end Go.Proofs.Im
