/- Part of the value machine, or of a walk by it: lemmas that the claim's last text uses. No conditions. -/
import Derived.Test.YtgnfkfmhjgbhhaaChecked
import Derived.KernelRfl
import Derived.Test.YtgnfkfmhjgbhhaaLineBb
import Derived.Test.YtgnfkfmhjgbhhaaLineA
set_option linter.unusedVariables false
set_option linter.unusedSimpArgs false
set_option linter.unnecessarySimpa false
noncomputable section
namespace Go.Vm
variable {h : Hp}
theorem st11_get {i : Pos} {x0 x1 x2 x3 x4 x5 x6 x7 x8 x9 x10 a0 a1 a2 a3 a4 a5 a6 a7 a8 a9 a10 : V} (hg : h.get i = some (.cells true [x0, x1, x2, x3, x4, x5, x6, x7, x8, x9, x10])) :
    oStore 11 (.ptr i 0) (.agg (.cons a0 (.cons a1 (.cons a2 (.cons a3 (.cons a4 (.cons a5 (.cons a6 (.cons a7 (.cons a8 (.cons a9 (.cons a10 .nil)))))))))))) h = .ok V.undef (h.put i (some (.cells true [a0, a1, a2, a3, a4, a5, a6, a7, a8, a9, a10]))) := by
  obtain ⟨x, hx⟩ : ∃ x, x = V.agg (.cons a0 (.cons a1 (.cons a2 (.cons a3 (.cons a4 (.cons a5 (.cons a6 (.cons a7 (.cons a8 (.cons a9 (.cons a10 .nil))))))))))) := ⟨_, rfl⟩
  rw [← hx]
  show hCells h i (fun wr cs => match wr, notTuple x, Nat.beq x.cells.length 11 with
    | true, true, true => (match putV 0 x.cells cs with | some cs' => R.ok V.undef (h.put i (some (.cells true cs'))) | none => .bad)
    | _, _, _ => .bad) = _
  rw [hCells_row (wr := true) (all := [x0, x1, x2, x3, x4, x5, x6, x7, x8, x9, x10]) (by rw [hg]; rfl), hx]
  rfl
theorem oBuild_rd (most : Int) : oBuild [.int .i64 0, .nils, .nils, .int .i64 0, .int .i64 0, .nils, .int .i64 0, .nils, .bool false, .int .i64 0, .bool false] [(0, 1, .int .i64 most)] h =
    .ok (.agg (.cons (.int .i64 most) (.cons .nils (.cons .nils (.cons (.int .i64 0) (.cons (.int .i64 0) (.cons .nils (.cons (.int .i64 0) (.cons .nils (.cons (.bool false) (.cons (.int .i64 0) (.cons (.bool false) .nil)))))))))))) h := (rfl)
end Go.Vm
namespace Go.Proofs.Ytgnfkfmhjgbhhaa
open Go Go.Proofs Go.Vm Go.Ln
set_option linter.unusedVariables false
set_option maxRecDepth 100000
set_option linter.unusedSimpArgs false
/-- the reader at i -/
structure RdAt (most : Int) (h : Hp) (i : Pos) (r : Rd) (vt vl vn vq : V) : Prop where
  lt : i.nat < h.next.nat
  get : h.get i = some (.cells true [.int .i64 most, vt, vl, .int .i64 (r.long : Int), .int .i64 (r.wide : Int), vn, .int .i64 (r.want : Int), vq, .bool r.literal, .int .i64 (r.skip : Int), .bool r.line])
  t : Own 0 h 1 vt r.texts.length (txs r.texts)
  l : Own 0 h 1 vl r.lits.length (txs r.lits)
  n : Own 0 h 1 vn r.now.length (bys r.now)
  q : Own 0 h 1 vq r.lit.length (bys r.lit)
  ti : idOf vt ≠ some i
  li : idOf vl ≠ some i
  ni : idOf vn ≠ some i
  qi : idOf vq ≠ some i
  tl : Sep vt vl
  tn : Sep vt vn
  tq : Sep vt vq
  ln : Sep vl vn
  lq : Sep vl vq
  nq : Sep vn vq
/-- what a reader holds -/
def RdF (i : Pos) (vt vl vn vq : V) (j : Pos) : Prop := j = i ∨ idOf vt = some j ∨ idOf vl = some j ∨ idOf vn = some j ∨ idOf vq = some j
theorem RdAt.fresh {most : Int} {h : Hp} {i : Pos} (lt : i.nat < h.next.nat) (get : h.get i = some (.cells true [.int .i64 most, .nils, .nils, .int .i64 0, .int .i64 0, .nils, .int .i64 0, .nils, .bool false, .int .i64 0, .bool false])) : RdAt most h i {} .nils .nils .nils .nils :=
  ⟨lt, get, Own.nil _ _ _, Own.nil _ _ _, Own.nil _ _ _, Own.nil _ _ _, by simp [idOf], by simp [idOf], by simp [idOf], by simp [idOf], Sep.nil _, Sep.nil _, Sep.nil _, Sep.nil _, Sep.nil _, Sep.nil _⟩
theorem RdAt.ch {most : Int} {h h' : Hp} {i : Pos} {r : Rd} {vt vl vn vq : V} {S : Pos → Prop} (a : RdAt most h i r vt vl vn vq) (c : Ch S h h') (hs : ∀ j, RdF i vt vl vn vq j → ¬ S j) : RdAt most h' i r vt vl vn vq :=
  ⟨Nat.lt_of_lt_of_le a.lt c.next, by rw [c.get i a.lt (hs i (.inl rfl))]; exact a.get, a.t.ch c fun j hj => hs j (.inr (.inl hj)), a.l.ch c fun j hj => hs j (.inr (.inr (.inl hj))), a.n.ch c fun j hj => hs j (.inr (.inr (.inr (.inl hj)))), a.q.ch c fun j hj => hs j (.inr (.inr (.inr (.inr hj)))),
    a.ti, a.li, a.ni, a.qi, a.tl, a.tn, a.tq, a.ln, a.lq, a.nq⟩
theorem RdAt.fld {most : Int} {h : Hp} {i : Pos} {r : Rd} {vt vl vn vq : V} (a : RdAt most h i r vt vl vn vq) : oLoad1 (.ptr i 0) h = .ok (.int .i64 most) h ∧ oLoad1 (.ptr i 1) h = .ok vt h ∧ oLoad1 (.ptr i 2) h = .ok vl h ∧ oLoad1 (.ptr i 3) h = .ok (.int .i64 (r.long : Int)) h ∧ oLoad1 (.ptr i 4) h = .ok (.int .i64 (r.wide : Int)) h ∧ oLoad1 (.ptr i 5) h = .ok vn h ∧ oLoad1 (.ptr i 6) h = .ok (.int .i64 (r.want : Int)) h ∧ oLoad1 (.ptr i 7) h = .ok vq h ∧ oLoad1 (.ptr i 8) h = .ok (.bool r.literal) h ∧ oLoad1 (.ptr i 9) h = .ok (.int .i64 (r.skip : Int)) h ∧ oLoad1 (.ptr i 10) h = .ok (.bool r.line) h :=
  ⟨ld_get a.get 0, ld_get a.get 1, ld_get a.get 2, ld_get a.get 3, ld_get a.get 4, ld_get a.get 5, ld_get a.get 6, ld_get a.get 7, ld_get a.get 8, ld_get a.get 9, ld_get a.get 10⟩
theorem reset_ok {most : Int} {h : Hp} {i : Pos} {x1 x2 x3 x4 x5 x6 x7 x8 x9 x10 : V} (lt : i.nat < h.next.nat) (get : h.get i = some (.cells true [.int .i64 most, x1, x2, x3, x4, x5, x6, x7, x8, x9, x10])) :
    ∃ v h', TryF22 [.ptr i 0] h = .ok v h' ∧ RdAt most h' i {} .nils .nils .nils .nils ∧ Ch (fun j => j = i) h h' ∧ h'.next = h.next := by
  have L0 : oLoad1 (.ptr i 0) h = .ok (.int .i64 most) h := ld_get get 0
  have s := st11_get (a0 := .int .i64 most) (a1 := .nils) (a2 := .nils) (a3 := .int .i64 0) (a4 := .int .i64 0) (a5 := .nils) (a6 := .int .i64 0) (a7 := .nils) (a8 := .bool false) (a9 := .int .i64 0) (a10 := .bool false) get
  rw [TryF22_eq]
  simp only [gtO_some, bndO_ok, get_set_of, ↓reduceIte, oFieldAddr_eq, oNilCheck_ptr, Nat.zero_add, Tryd22, Tryr22_0, L0, oBuild_rd, s, outR, resK, tupR]
  exact ⟨_, _, rfl, RdAt.fresh lt (put_self _ _ _), Ch.put (S := fun j => j = i) _ _ rfl, rfl⟩
end Go.Proofs.Ytgnfkfmhjgbhhaa

noncomputable section
namespace Go.Proofs.Ytgnfkfmhjgbhhaa
open Go Go.Proofs Go.Vm Go.Ln
set_option linter.unusedVariables false
set_option maxRecDepth 100000
set_option linter.unusedSimpArgs false
theorem take_skip {most : Int} {h : Hp} {i : Pos} {r : Rd} {vt vl vn vq vb : V} {c : Nat} {bs : List Nat} (a : RdAt most h i r vt vl vn vq) (s : Sl c h 1 vb bs.length (bys bs)) (hc : capOk 1 vb) (hb : idOf vb ≠ some i) (hcn : c ≤ h.next.nat) (hsk : 0 < r.skip) (hsk2 : r.skip < 9000000000000000000) (hl : bs.length < 1000000000) :
    ∃ v' h', TryF20 [.ptr i 0, vb] h = .ok v' h' ∧ RdAt most h' i { r with skip := r.skip - min r.skip bs.length } vt vl vn vq ∧ Ch (fun j => j = i) h h' ∧ h'.next = h.next ∧
      Sl c h' 1 v' (bs.drop (min r.skip bs.length)).length (bys (bs.drop (min r.skip bs.length))) ∧ capOk 1 v' ∧ ∀ j, idOf v' = some j → idOf vb = some j := by
  obtain ⟨m, hm⟩ : ∃ m, m = min r.skip bs.length := ⟨_, rfl⟩
  rw [← hm]
  have hmi : min (r.skip : Int) (bs.length : Int) = (m : Int) := by omega
  obtain ⟨v', e1, e2, e3, e4⟩ := s.from hc (by omega) (lo := m) (by omega)
  have L9 := a.fld.2.2.2.2.2.2.2.2.2.1
  have hgt : (r.skip : Int) > 0 := by omega
  have st := st_get (q := 9) (y := .int .i64 ((r.skip : Int) - (m : Int))) a.get ⟨rfl, rfl⟩ (by simp)
  have ch : Ch (fun j => j = i) h (h.put i (some (.cells true ([V.int .i64 most, vt, vl, .int .i64 (r.long : Int), .int .i64 (r.wide : Int), vn, .int .i64 (r.want : Int), vq, .bool r.literal, .int .i64 (r.skip : Int), .bool r.line].set 9 (.int .i64 ((r.skip : Int) - (m : Int))))))) := Ch.put (S := fun j => j = i) _ _ rfl
  rw [TryF20_eq]
  simp (disch := omega) only [seqO_eq, thenO_nor, thenO_ret, gtO_some, bndO_ok, get_set_of, cndX_tmp, ifB_true, Nat.reduceEqDiff, Nat.zero_ne_one, reduceCtorEq, ↓reduceIte, oBin_sub, oBin_gtr, oMin_eq, oFieldAddr_eq, oNilCheck_ptr, Nat.zero_add, decide_true, Tryd20, Tryr20_0, Tryr20_1, Tryr20_2, Tryr20_3, Tryr20_4, L9, hgt, s.length, hmi, st, e1, outR, resK, tupR]
  refine ⟨v', _, rfl, ⟨a.lt, ?_, a.t.ch ch ?_, a.l.ch ch ?_, a.n.ch ch ?_, a.q.ch ch ?_, a.ti, a.li, a.ni, a.qi, a.tl, a.tn, a.tq, a.ln, a.lq, a.nq⟩, ch, rfl, ?_, e3, e4⟩
  · rw [put_self]
    show some (Ob.cells true [V.int .i64 most, vt, vl, .int .i64 (r.long : Int), .int .i64 (r.wide : Int), vn, .int .i64 (r.want : Int), vq, .bool r.literal, .int .i64 ((r.skip : Int) - (m : Int)), .bool r.line]) = _
    rw [show (r.skip : Int) - (m : Int) = ((r.skip - m : Nat) : Int) by omega]
  · rintro j hj rfl; exact a.ti hj
  · rintro j hj rfl; exact a.li hj
  · rintro j hj rfl; exact a.ni hj
  · rintro j hj rfl; exact a.qi hj
  · rw [List.length_drop, bys_drop]
    rw [Nat.mul_one] at e2
    exact e2.ch ch hcn fun j hj q => by rw [q] at hj; exact hb (e4 _ hj)
end Go.Proofs.Ytgnfkfmhjgbhhaa

noncomputable section
namespace Go.Proofs.Ytgnfkfmhjgbhhaa
open Go Go.Proofs Go.Vm Go.Ln
set_option linter.unusedVariables false
set_option maxRecDepth 100000
set_option linter.unusedSimpArgs false
/-- a part of a literal, not its end -/
theorem take_part {most : Int} {h : Hp} {i : Pos} {r : Rd} {vt vl vn vq vb : V} {c : Nat} {bs : List Nat} (a : RdAt most h i r vt vl vn vq) (s : Sl c h 1 vb bs.length (bys bs)) (hc : capOk 1 vb) (hb : idOf vb ≠ some i) (hbq : ∀ j, idOf vb = some j → idOf vq ≠ some j) (hcn : c ≤ h.next.nat) (hsk : r.skip = 0) (hpos : 0 < bs.length) (hw : bs.length < r.want) (hw2 : r.want < 9000000000000000000) (hl : bs.length < 1000000000) (hq : r.lit.length < 1000000000) :
    ∃ v' vq' h', TryF20 [.ptr i 0, vb] h = .ok v' h' ∧ RdAt most h' i { r with want := r.want - bs.length, lit := r.lit ++ bs } vt vl vn vq' ∧ Ch (fun j => j = i ∨ idOf vq = some j) h h' ∧ (∀ j, idOf vq' = some j → h.next.nat ≤ j.nat) ∧
      Sl c h' 1 v' 0 [] ∧ capOk 1 v' ∧ ∀ j, idOf v' = some j → idOf vb = some j := by
  have hmi : min (r.want : Int) (bs.length : Int) = (bs.length : Int) := by omega
  obtain ⟨v1, e1, e2, -, -⟩ := s.upto hc (by omega) (hi := bs.length) (Nat.le_refl _)
  obtain ⟨v', f1, f2, f3, f4⟩ := s.from hc (by omega) (lo := bs.length) (Nat.le_refl _)
  have L9 := a.fld.2.2.2.2.2.2.2.2.2.1
  have L7 := a.fld.2.2.2.2.2.2.2.1
  have L6 := a.fld.2.2.2.2.2.2.1
  have hgt : ¬ (r.skip : Int) > 0 := by omega
  rw [Nat.mul_one, ← bys_length, List.take_length] at e2
  rw [bys_length] at e2
  obtain ⟨vq', h1, a1, a2, a3, a4, a5⟩ := app_ok (bt := 1) a.q e2 hpos (by omega)
  have g1 : h1.get i = some (.cells true [.int .i64 most, vt, vl, .int .i64 (r.long : Int), .int .i64 (r.wide : Int), vn, .int .i64 (r.want : Int), vq, .bool r.literal, .int .i64 (r.skip : Int), .bool r.line]) := by rw [a5.get i a.lt a.qi]; exact a.get
  have s2 := st_get (q := 7) (y := vq') g1 a4.cell (by simp)
  obtain ⟨h2, e2'⟩ : ∃ h2, h2 = h1.put i (some (.cells true [.int .i64 most, vt, vl, .int .i64 (r.long : Int), .int .i64 (r.wide : Int), vn, .int .i64 (r.want : Int), vq', .bool r.literal, .int .i64 (r.skip : Int), .bool r.line])) := ⟨_, rfl⟩
  replace s2 : oStore 1 (.ptr i 7) vq' h1 = .ok V.undef h2 := by rw [e2']; exact s2
  have g2 : h2.get i = some (.cells true [.int .i64 most, vt, vl, .int .i64 (r.long : Int), .int .i64 (r.wide : Int), vn, .int .i64 (r.want : Int), vq', .bool r.literal, .int .i64 (r.skip : Int), .bool r.line]) := by rw [e2']; exact put_self _ _ _
  have c2 : Ch (fun j => j = i) h1 h2 := by rw [e2']; exact Ch.put (S := fun j => j = i) _ _ rfl
  have s3 := st_get (q := 6) (y := .int .i64 ((r.want : Int) - (bs.length : Int))) g2 ⟨rfl, rfl⟩ (by simp)
  obtain ⟨h3, e3'⟩ : ∃ h3, h3 = h2.put i (some (.cells true [.int .i64 most, vt, vl, .int .i64 (r.long : Int), .int .i64 (r.wide : Int), vn, .int .i64 ((r.want : Int) - (bs.length : Int)), vq', .bool r.literal, .int .i64 (r.skip : Int), .bool r.line])) := ⟨_, rfl⟩
  replace s3 : oStore 1 (.ptr i 6) (.int .i64 ((r.want : Int) - (bs.length : Int))) h2 = .ok V.undef h3 := by rw [e3']; exact s3
  have g3 : h3.get i = some (.cells true [.int .i64 most, vt, vl, .int .i64 (r.long : Int), .int .i64 (r.wide : Int), vn, .int .i64 ((r.want : Int) - (bs.length : Int)), vq', .bool r.literal, .int .i64 (r.skip : Int), .bool r.line]) := by rw [e3']; exact put_self _ _ _
  have c3 : Ch (fun j => j = i) h2 h3 := by rw [e3']; exact Ch.put (S := fun j => j = i) _ _ rfl
  have M6 : oLoad1 (.ptr i 6) h2 = .ok (.int .i64 (r.want : Int)) h2 := ld_get g2 6
  have N6 : oLoad1 (.ptr i 6) h3 = .ok (.int .i64 ((r.want : Int) - (bs.length : Int))) h3 := ld_get g3 6
  have hne : ¬ (r.want : Int) - (bs.length : Int) = 0 := by omega
  have ch : Ch (fun j => j = i ∨ idOf vq = some j) h h3 := ((a5.mono (S' := fun j => j = i ∨ idOf vq = some j) fun _ _ q => .inr q).trans c2 fun _ _ q => .inl q).trans c3 fun _ _ q => .inl q
  rw [TryF20_eq]
  simp (disch := omega) only [seqO_eq, thenO_nor, gtO_some, bndO_ok, get_set_of, cndX_tmp, ifB_false, Nat.reduceEqDiff, Nat.zero_ne_one, reduceCtorEq, ↓reduceIte, oBin_sub, oBin_eql, oBin_gtr, oMin_eq, oFieldAddr_eq, bumpH_zero, oNilCheck_ptr, Nat.zero_add, bumpH_zero, decide_false, Tryd20, Tryr20_0, Tryr20_1, Tryr20_5, Tryr20_6, Tryr20_7, Tryr20_8, Tryr20_11, L9, hgt, L6, L7, s.length, hmi, e1, a1, s2, M6, s3, N6, hne, f1, outR, resK, tupR]
  have hidq : ∀ j, idOf vq' = some j → h.next.nat ≤ j.nat := fun j hj => by rw [a2] at hj; cases hj; exact Nat.le_refl _
  have fresh : ∀ (v : V), (∀ j, idOf v = some j → j.nat < h.next.nat) → Sep v vq' := fun v hv j hj q => by have := hv j hj; have := hidq j q; omega
  refine ⟨v', vq', h3, rfl, ⟨Nat.lt_of_lt_of_le a.lt ch.next, ?_, a.t.ch ch ?_, a.l.ch ch ?_, a.n.ch ch ?_, ?_, a.ti, a.li, a.ni, fun q => ?_, a.tl, a.tn, fresh _ fun j hj => (a.t.idlt hj).2, a.ln, fresh _ fun j hj => (a.l.idlt hj).2, fresh _ fun j hj => (a.n.idlt hj).2⟩, ch, hidq, ?_, f3, f4⟩
  · rw [g3, show (r.want : Int) - (bs.length : Int) = ((r.want - bs.length : Nat) : Int) by omega]
  · rintro j hj (q | q); exact a.ti (q ▸ hj); exact a.tq j hj q
  · rintro j hj (q | q); exact a.li (q ▸ hj); exact a.lq j hj q
  · rintro j hj (q | q); exact a.ni (q ▸ hj); exact a.nq j hj q
  · rw [List.length_append, bys_append]
    exact (a4.ch c2 fun j hj q => by have := hidq j hj; have := a.lt; rw [q] at *; omega).ch c3 fun j hj q => by have := hidq j hj; have := a.lt; rw [q] at *; omega
  · have := hidq i q; have := a.lt; omega
  · rw [Nat.sub_self, Nat.mul_one, ← bys_length, List.drop_length] at f2
    exact f2.ch ch hcn fun j hj q => by
      rcases q with q | q
      · rw [q] at hj; exact hb (f4 _ hj)
      · exact hbq j (f4 _ hj) q
end Go.Proofs.Ytgnfkfmhjgbhhaa

noncomputable section
namespace Go.Vm
/-- what is held before, and behind -/
structure Stp (S : Pos → Prop) (h : Hp) (S' : Pos → Prop) (h' : Hp) : Prop where
  ch : Ch S h h'
  sub : ∀ j, S' j → S j ∨ h.next.nat ≤ j.nat
theorem Stp.refl (S : Pos → Prop) (h : Hp) : Stp S h S h := ⟨Ch.refl _ _, fun _ q => .inl q⟩
theorem Stp.trans {S S1 S2 : Pos → Prop} {h h1 h2 : Hp} (x : Stp S h S1 h1) (y : Stp S1 h1 S2 h2) : Stp S h S2 h2 :=
  ⟨x.ch.trans y.ch fun j hj q => (x.sub j q).resolve_right (by omega), fun j q => (y.sub j q).elim (fun q => x.sub j q) fun q => .inr (Nat.le_trans x.ch.next q)⟩
theorem Stp.step {S S1 C : Pos → Prop} {h h1 h2 : Hp} (x : Stp S h S1 h1) (c : Ch C h1 h2) (hc : ∀ j, C j → S1 j) : Stp S h S1 h2 := x.trans ⟨c.mono fun j _ q => hc j q, fun _ q => .inl q⟩
theorem Stp.less {S S1 S2 : Pos → Prop} {h h1 : Hp} (x : Stp S h S1 h1) (hs : ∀ j, S2 j → S1 j) : Stp S h S2 h1 := ⟨x.ch, fun j q => x.sub j (hs j q)⟩
theorem aBuildSlice_s (s : List Nat) : aBuildSlice [.str []] 1 [(0, 1, .str s)] = some (.cells true [.str s], fun p => .slice p 0 1 (.kn 1)) := (rfl)
theorem oBuildSlice_s (s : List Nat) {h : Hp} : oBuildSlice [.str []] 1 [(0, 1, .str s)] h = .ok (.slice h.next 0 1 (.kn 1)) (h.new (.cells true [.str s])) := (rfl)
theorem oBuild_g0 (k : Int) {h : Hp} : oBuild [.int .i64 0, .nils] [(0, 1, .int .i64 k)] h = .ok (.agg (.cons (.int .i64 k) (.cons .nils .nil))) h := (rfl)
theorem oBuild_g1 (k : Int) {v : V} {h : Hp} (hv : v.cells = [v] ∧ notTuple v = true) : oBuild [.int .i64 0, .nils] [(0, 1, .int .i64 k), (1, 1, v)] h = .ok (.agg (.cons (.int .i64 k) (.cons v .nil))) h := by
  unfold oBuild
  simp only [fillP, hv.1, hv.2]
  rfl
theorem Own.ch' {S : Pos → Prop} {h h' : Hp} {sz n : Nat} {v : V} {cs : List V} {b : Nat} (s : Own b h sz v n cs) (x : Ch S h h') (hs : ∀ i, idOf v = some i → ¬ S i) : Own b h' sz v n cs := s.ch x hs
end Go.Vm
namespace Go.Proofs.Ytgnfkfmhjgbhhaa
open Go Go.Proofs Go.Vm Go.Ln
set_option linter.unusedVariables false
set_option maxRecDepth 100000
set_option linter.unusedSimpArgs false
variable {most : Int} {h h1 : Hp} {i : Pos} {r : Rd} {vt vl vn vq v : V}
theorem RdAt.upd {r' : Rd} {h' : Hp} (a : RdAt most h i r vt vl vn vq) (c : Ch (fun j => j = i) h h') (g : h'.get i = some (.cells true [.int .i64 most, vt, vl, .int .i64 (r'.long : Int), .int .i64 (r'.wide : Int), vn, .int .i64 (r'.want : Int), vq, .bool r'.literal, .int .i64 (r'.skip : Int), .bool r'.line]))
    (ht : r'.texts = r.texts) (hl : r'.lits = r.lits) (hn : r'.now = r.now) (hq : r'.lit = r.lit) : RdAt most h' i r' vt vl vn vq :=
  ⟨Nat.lt_of_lt_of_le a.lt c.next, g, by rw [ht]; exact a.t.ch c fun j hj q => a.ti (q ▸ hj), by rw [hl]; exact a.l.ch c fun j hj q => a.li (q ▸ hj), by rw [hn]; exact a.n.ch c fun j hj q => a.ni (q ▸ hj), by rw [hq]; exact a.q.ch c fun j hj q => a.qi (q ▸ hj),
    a.ti, a.li, a.ni, a.qi, a.tl, a.tn, a.tq, a.ln, a.lq, a.nq⟩
theorem stp_i {h' : Hp} (c : Ch (fun j => j = i) h h') : Stp (RdF i vt vl vn vq) h (RdF i vt vl vn vq) h' := ⟨c.mono fun j _ q => .inl q, fun j q => .inl q⟩

theorem RdAt.set_long (a : RdAt most h i r vt vl vn vq) (n : Nat) : ∃ h', oStore 1 (.ptr i 3) (.int .i64 (n : Int)) h = .ok V.undef h' ∧ RdAt most h' i { r with long := n } vt vl vn vq ∧ Stp (RdF i vt vl vn vq) h (RdF i vt vl vn vq) h' ∧ h'.next = h.next := by
  have c : Ch (fun j => j = i) h (h.put i (some (.cells true [.int .i64 most, vt, vl, .int .i64 (n : Int), .int .i64 (r.wide : Int), vn, .int .i64 (r.want : Int), vq, .bool r.literal, .int .i64 (r.skip : Int), .bool r.line]))) := Ch.put (S := fun j => j = i) _ _ rfl
  exact ⟨_, st_get (q := 3) a.get ⟨rfl, rfl⟩ (by simp), a.upd c (put_self _ _ _) rfl rfl rfl rfl, stp_i c, rfl⟩

theorem RdAt.set_wide (a : RdAt most h i r vt vl vn vq) (n : Nat) : ∃ h', oStore 1 (.ptr i 4) (.int .i64 (n : Int)) h = .ok V.undef h' ∧ RdAt most h' i { r with wide := n } vt vl vn vq ∧ Stp (RdF i vt vl vn vq) h (RdF i vt vl vn vq) h' ∧ h'.next = h.next := by
  have c : Ch (fun j => j = i) h (h.put i (some (.cells true [.int .i64 most, vt, vl, .int .i64 (r.long : Int), .int .i64 (n : Int), vn, .int .i64 (r.want : Int), vq, .bool r.literal, .int .i64 (r.skip : Int), .bool r.line]))) := Ch.put (S := fun j => j = i) _ _ rfl
  exact ⟨_, st_get (q := 4) a.get ⟨rfl, rfl⟩ (by simp), a.upd c (put_self _ _ _) rfl rfl rfl rfl, stp_i c, rfl⟩

theorem RdAt.set_want (a : RdAt most h i r vt vl vn vq) (n : Nat) : ∃ h', oStore 1 (.ptr i 6) (.int .i64 (n : Int)) h = .ok V.undef h' ∧ RdAt most h' i { r with want := n } vt vl vn vq ∧ Stp (RdF i vt vl vn vq) h (RdF i vt vl vn vq) h' ∧ h'.next = h.next := by
  have c : Ch (fun j => j = i) h (h.put i (some (.cells true [.int .i64 most, vt, vl, .int .i64 (r.long : Int), .int .i64 (r.wide : Int), vn, .int .i64 (n : Int), vq, .bool r.literal, .int .i64 (r.skip : Int), .bool r.line]))) := Ch.put (S := fun j => j = i) _ _ rfl
  exact ⟨_, st_get (q := 6) a.get ⟨rfl, rfl⟩ (by simp), a.upd c (put_self _ _ _) rfl rfl rfl rfl, stp_i c, rfl⟩

theorem RdAt.set_skip (a : RdAt most h i r vt vl vn vq) (n : Nat) : ∃ h', oStore 1 (.ptr i 9) (.int .i64 (n : Int)) h = .ok V.undef h' ∧ RdAt most h' i { r with skip := n } vt vl vn vq ∧ Stp (RdF i vt vl vn vq) h (RdF i vt vl vn vq) h' ∧ h'.next = h.next := by
  have c : Ch (fun j => j = i) h (h.put i (some (.cells true [.int .i64 most, vt, vl, .int .i64 (r.long : Int), .int .i64 (r.wide : Int), vn, .int .i64 (r.want : Int), vq, .bool r.literal, .int .i64 (n : Int), .bool r.line]))) := Ch.put (S := fun j => j = i) _ _ rfl
  exact ⟨_, st_get (q := 9) a.get ⟨rfl, rfl⟩ (by simp), a.upd c (put_self _ _ _) rfl rfl rfl rfl, stp_i c, rfl⟩

theorem RdAt.set_literal (a : RdAt most h i r vt vl vn vq) (n : Bool) : ∃ h', oStore 1 (.ptr i 8) (.bool n) h = .ok V.undef h' ∧ RdAt most h' i { r with literal := n } vt vl vn vq ∧ Stp (RdF i vt vl vn vq) h (RdF i vt vl vn vq) h' ∧ h'.next = h.next := by
  have c : Ch (fun j => j = i) h (h.put i (some (.cells true [.int .i64 most, vt, vl, .int .i64 (r.long : Int), .int .i64 (r.wide : Int), vn, .int .i64 (r.want : Int), vq, .bool n, .int .i64 (r.skip : Int), .bool r.line]))) := Ch.put (S := fun j => j = i) _ _ rfl
  exact ⟨_, st_get (q := 8) a.get ⟨rfl, rfl⟩ (by simp), a.upd c (put_self _ _ _) rfl rfl rfl rfl, stp_i c, rfl⟩

theorem RdAt.set_line (a : RdAt most h i r vt vl vn vq) (n : Bool) : ∃ h', oStore 1 (.ptr i 10) (.bool n) h = .ok V.undef h' ∧ RdAt most h' i { r with line := n } vt vl vn vq ∧ Stp (RdF i vt vl vn vq) h (RdF i vt vl vn vq) h' ∧ h'.next = h.next := by
  have c : Ch (fun j => j = i) h (h.put i (some (.cells true [.int .i64 most, vt, vl, .int .i64 (r.long : Int), .int .i64 (r.wide : Int), vn, .int .i64 (r.want : Int), vq, .bool r.literal, .int .i64 (r.skip : Int), .bool n]))) := Ch.put (S := fun j => j = i) _ _ rfl
  exact ⟨_, st_get (q := 10) a.get ⟨rfl, rfl⟩ (by simp), a.upd c (put_self _ _ _) rfl rfl rfl rfl, stp_i c, rfl⟩

theorem RdAt.set_texts {l : List (List Nat)} (a : RdAt most h i r vt vl vn vq) (x : Ch (fun j => idOf vt = some j) h h1) (o : Own 0 h1 1 v l.length (txs l)) (hv : ∀ j, idOf v = some j → h.next.nat ≤ j.nat) : ∃ h', oStore 1 (.ptr i 1) v h1 = .ok V.undef h' ∧ RdAt most h' i { r with texts := l } v vl vn vq ∧ Stp (RdF i vt vl vn vq) h (RdF i v vl vn vq) h' ∧ h'.next = h1.next := by
  have g1 : h1.get i = some (.cells true [.int .i64 most, vt, vl, .int .i64 (r.long : Int), .int .i64 (r.wide : Int), vn, .int .i64 (r.want : Int), vq, .bool r.literal, .int .i64 (r.skip : Int), .bool r.line]) := by rw [x.get i a.lt a.ti]; exact a.get
  have hvi : idOf v ≠ some i := fun q => by have := hv i q; have := a.lt; omega
  have hvi' : ∀ j, idOf v = some j → ¬ j = i := fun j hj q => hvi (q ▸ hj)
  have fr : ∀ (w : V), (∀ j, idOf w = some j → j.nat < h.next.nat) → Sep w v := fun w hw j hj q => by have := hw j hj; have := hv j q; omega
  have sep_l := a.tl.symm
  have sep_n := a.tn.symm
  have sep_q := a.tq.symm
  have c1 : Ch (fun j => j = i) h1 (h1.put i (some (.cells true [.int .i64 most, v, vl, .int .i64 (r.long : Int), .int .i64 (r.wide : Int), vn, .int .i64 (r.want : Int), vq, .bool r.literal, .int .i64 (r.skip : Int), .bool r.line]))) := Ch.put (S := fun j => j = i) _ _ rfl
  refine ⟨_, st_get (q := 1) g1 o.cell (by simp), ⟨Nat.lt_of_lt_of_le a.lt (Nat.le_trans x.next c1.next), put_self _ _ _, o.ch c1 hvi', (a.l.ch x fun j hj q => sep_l j hj q).ch c1 fun j hj q => a.li (q ▸ hj), (a.n.ch x fun j hj q => sep_n j hj q).ch c1 fun j hj q => a.ni (q ▸ hj), (a.q.ch x fun j hj q => sep_q j hj q).ch c1 fun j hj q => a.qi (q ▸ hj),
    hvi, a.li, a.ni, a.qi, (fr _ fun j hj => (a.l.idlt hj).2).symm, (fr _ fun j hj => (a.n.idlt hj).2).symm, (fr _ fun j hj => (a.q.idlt hj).2).symm, a.ln, a.lq, a.nq⟩, ⟨(x.mono (S' := RdF i vt vl vn vq) fun j _ q => by exact .inr (.inl q)).trans c1 fun j _ q => .inl q, ?_⟩, rfl⟩
  rintro j (q | q | q | q | q)
  · exact .inl (.inl q)
  · exact .inr (hv j q)
  · exact .inl (.inr (.inr (.inl q)))
  · exact .inl (.inr (.inr (.inr (.inl q))))
  · exact .inl (.inr (.inr (.inr (.inr q))))

theorem RdAt.set_lits {l : List (List Nat)} (a : RdAt most h i r vt vl vn vq) (x : Ch (fun j => idOf vl = some j) h h1) (o : Own 0 h1 1 v l.length (txs l)) (hv : ∀ j, idOf v = some j → h.next.nat ≤ j.nat) : ∃ h', oStore 1 (.ptr i 2) v h1 = .ok V.undef h' ∧ RdAt most h' i { r with lits := l } vt v vn vq ∧ Stp (RdF i vt vl vn vq) h (RdF i vt v vn vq) h' ∧ h'.next = h1.next := by
  have g1 : h1.get i = some (.cells true [.int .i64 most, vt, vl, .int .i64 (r.long : Int), .int .i64 (r.wide : Int), vn, .int .i64 (r.want : Int), vq, .bool r.literal, .int .i64 (r.skip : Int), .bool r.line]) := by rw [x.get i a.lt a.li]; exact a.get
  have hvi : idOf v ≠ some i := fun q => by have := hv i q; have := a.lt; omega
  have hvi' : ∀ j, idOf v = some j → ¬ j = i := fun j hj q => hvi (q ▸ hj)
  have fr : ∀ (w : V), (∀ j, idOf w = some j → j.nat < h.next.nat) → Sep w v := fun w hw j hj q => by have := hw j hj; have := hv j q; omega
  have sep_t := a.tl
  have sep_n := a.ln.symm
  have sep_q := a.lq.symm
  have c1 : Ch (fun j => j = i) h1 (h1.put i (some (.cells true [.int .i64 most, vt, v, .int .i64 (r.long : Int), .int .i64 (r.wide : Int), vn, .int .i64 (r.want : Int), vq, .bool r.literal, .int .i64 (r.skip : Int), .bool r.line]))) := Ch.put (S := fun j => j = i) _ _ rfl
  refine ⟨_, st_get (q := 2) g1 o.cell (by simp), ⟨Nat.lt_of_lt_of_le a.lt (Nat.le_trans x.next c1.next), put_self _ _ _, (a.t.ch x fun j hj q => sep_t j hj q).ch c1 fun j hj q => a.ti (q ▸ hj), o.ch c1 hvi', (a.n.ch x fun j hj q => sep_n j hj q).ch c1 fun j hj q => a.ni (q ▸ hj), (a.q.ch x fun j hj q => sep_q j hj q).ch c1 fun j hj q => a.qi (q ▸ hj),
    a.ti, hvi, a.ni, a.qi, fr _ fun j hj => (a.t.idlt hj).2, a.tn, a.tq, (fr _ fun j hj => (a.n.idlt hj).2).symm, (fr _ fun j hj => (a.q.idlt hj).2).symm, a.nq⟩, ⟨(x.mono (S' := RdF i vt vl vn vq) fun j _ q => by exact .inr (.inr (.inl q))).trans c1 fun j _ q => .inl q, ?_⟩, rfl⟩
  rintro j (q | q | q | q | q)
  · exact .inl (.inl q)
  · exact .inl (.inr (.inl q))
  · exact .inr (hv j q)
  · exact .inl (.inr (.inr (.inr (.inl q))))
  · exact .inl (.inr (.inr (.inr (.inr q))))

theorem RdAt.set_now {l : List Nat} (a : RdAt most h i r vt vl vn vq) (x : Ch (fun j => idOf vn = some j) h h1) (o : Own 0 h1 1 v l.length (bys l)) (hv : ∀ j, idOf v = some j → h.next.nat ≤ j.nat) : ∃ h', oStore 1 (.ptr i 5) v h1 = .ok V.undef h' ∧ RdAt most h' i { r with now := l } vt vl v vq ∧ Stp (RdF i vt vl vn vq) h (RdF i vt vl v vq) h' ∧ h'.next = h1.next := by
  have g1 : h1.get i = some (.cells true [.int .i64 most, vt, vl, .int .i64 (r.long : Int), .int .i64 (r.wide : Int), vn, .int .i64 (r.want : Int), vq, .bool r.literal, .int .i64 (r.skip : Int), .bool r.line]) := by rw [x.get i a.lt a.ni]; exact a.get
  have hvi : idOf v ≠ some i := fun q => by have := hv i q; have := a.lt; omega
  have hvi' : ∀ j, idOf v = some j → ¬ j = i := fun j hj q => hvi (q ▸ hj)
  have fr : ∀ (w : V), (∀ j, idOf w = some j → j.nat < h.next.nat) → Sep w v := fun w hw j hj q => by have := hw j hj; have := hv j q; omega
  have sep_t := a.tn
  have sep_l := a.ln
  have sep_q := a.nq.symm
  have c1 : Ch (fun j => j = i) h1 (h1.put i (some (.cells true [.int .i64 most, vt, vl, .int .i64 (r.long : Int), .int .i64 (r.wide : Int), v, .int .i64 (r.want : Int), vq, .bool r.literal, .int .i64 (r.skip : Int), .bool r.line]))) := Ch.put (S := fun j => j = i) _ _ rfl
  refine ⟨_, st_get (q := 5) g1 o.cell (by simp), ⟨Nat.lt_of_lt_of_le a.lt (Nat.le_trans x.next c1.next), put_self _ _ _, (a.t.ch x fun j hj q => sep_t j hj q).ch c1 fun j hj q => a.ti (q ▸ hj), (a.l.ch x fun j hj q => sep_l j hj q).ch c1 fun j hj q => a.li (q ▸ hj), o.ch c1 hvi', (a.q.ch x fun j hj q => sep_q j hj q).ch c1 fun j hj q => a.qi (q ▸ hj),
    a.ti, a.li, hvi, a.qi, a.tl, fr _ fun j hj => (a.t.idlt hj).2, a.tq, fr _ fun j hj => (a.l.idlt hj).2, a.lq, (fr _ fun j hj => (a.q.idlt hj).2).symm⟩, ⟨(x.mono (S' := RdF i vt vl vn vq) fun j _ q => by exact .inr (.inr (.inr (.inl q)))).trans c1 fun j _ q => .inl q, ?_⟩, rfl⟩
  rintro j (q | q | q | q | q)
  · exact .inl (.inl q)
  · exact .inl (.inr (.inl q))
  · exact .inl (.inr (.inr (.inl q)))
  · exact .inr (hv j q)
  · exact .inl (.inr (.inr (.inr (.inr q))))

theorem RdAt.set_lit {l : List Nat} (a : RdAt most h i r vt vl vn vq) (x : Ch (fun j => idOf vq = some j) h h1) (o : Own 0 h1 1 v l.length (bys l)) (hv : ∀ j, idOf v = some j → h.next.nat ≤ j.nat) : ∃ h', oStore 1 (.ptr i 7) v h1 = .ok V.undef h' ∧ RdAt most h' i { r with lit := l } vt vl vn v ∧ Stp (RdF i vt vl vn vq) h (RdF i vt vl vn v) h' ∧ h'.next = h1.next := by
  have g1 : h1.get i = some (.cells true [.int .i64 most, vt, vl, .int .i64 (r.long : Int), .int .i64 (r.wide : Int), vn, .int .i64 (r.want : Int), vq, .bool r.literal, .int .i64 (r.skip : Int), .bool r.line]) := by rw [x.get i a.lt a.qi]; exact a.get
  have hvi : idOf v ≠ some i := fun q => by have := hv i q; have := a.lt; omega
  have hvi' : ∀ j, idOf v = some j → ¬ j = i := fun j hj q => hvi (q ▸ hj)
  have fr : ∀ (w : V), (∀ j, idOf w = some j → j.nat < h.next.nat) → Sep w v := fun w hw j hj q => by have := hw j hj; have := hv j q; omega
  have sep_t := a.tq
  have sep_l := a.lq
  have sep_n := a.nq
  have c1 : Ch (fun j => j = i) h1 (h1.put i (some (.cells true [.int .i64 most, vt, vl, .int .i64 (r.long : Int), .int .i64 (r.wide : Int), vn, .int .i64 (r.want : Int), v, .bool r.literal, .int .i64 (r.skip : Int), .bool r.line]))) := Ch.put (S := fun j => j = i) _ _ rfl
  refine ⟨_, st_get (q := 7) g1 o.cell (by simp), ⟨Nat.lt_of_lt_of_le a.lt (Nat.le_trans x.next c1.next), put_self _ _ _, (a.t.ch x fun j hj q => sep_t j hj q).ch c1 fun j hj q => a.ti (q ▸ hj), (a.l.ch x fun j hj q => sep_l j hj q).ch c1 fun j hj q => a.li (q ▸ hj), (a.n.ch x fun j hj q => sep_n j hj q).ch c1 fun j hj q => a.ni (q ▸ hj), o.ch c1 hvi',
    a.ti, a.li, a.ni, hvi, a.tl, a.tn, fr _ fun j hj => (a.t.idlt hj).2, a.ln, fr _ fun j hj => (a.l.idlt hj).2, fr _ fun j hj => (a.n.idlt hj).2⟩, ⟨(x.mono (S' := RdF i vt vl vn vq) fun j _ q => by exact .inr (.inr (.inr (.inr q)))).trans c1 fun j _ q => .inl q, ?_⟩, rfl⟩
  rintro j (q | q | q | q | q)
  · exact .inl (.inl q)
  · exact .inl (.inr (.inl q))
  · exact .inl (.inr (.inr (.inl q)))
  · exact .inl (.inr (.inr (.inr (.inl q))))
  · exact .inr (hv j q)

end Go.Proofs.Ytgnfkfmhjgbhhaa

noncomputable section
namespace Go.Proofs.Ytgnfkfmhjgbhhaa
open Go Go.Proofs Go.Vm Go.Ln
set_option linter.unusedVariables false
set_option maxRecDepth 100000
set_option linter.unusedSimpArgs false
/-- a literal that ends -/
theorem take_end {most : Int} {h : Hp} {i : Pos} {r : Rd} {vt vl vn vq vb : V} {c : Nat} {bs : List Nat} (a : RdAt most h i r vt vl vn vq) (s : Sl c h 1 vb bs.length (bys bs)) (hc : capOk 1 vb) (hb : ∀ j, idOf vb = some j → ¬ RdF i vt vl vn vq j) (hcn : c ≤ h.next.nat) (hsk : r.skip = 0)
    (hw : 0 < r.want) (hwl : r.want ≤ bs.length) (hl : bs.length < 1000000000) (hq : r.lit.length < 1000000000) (hls : r.lits.length < 1000000000) (h256 : ∀ b ∈ r.lit, b < 256) (hb256 : ∀ b ∈ bs, b < 256) :
    ∃ v' vl' h', TryF20 [.ptr i 0, vb] h = .ok v' h' ∧ RdAt most h' i { r with want := 0, lits := r.lits ++ [r.lit ++ bs.take r.want], lit := [], literal := false } vt vl' vn .nils ∧ Stp (RdF i vt vl vn vq) h (RdF i vt vl' vn .nils) h' ∧
      Sl c h' 1 v' (bs.drop r.want).length (bys (bs.drop r.want)) ∧ capOk 1 v' ∧ ∀ j, idOf v' = some j → idOf vb = some j := by
  have hmi : min (r.want : Int) (bs.length : Int) = (r.want : Int) := by omega
  obtain ⟨v1, e1, e2, -, -⟩ := s.upto hc (by omega) (hi := r.want) hwl
  obtain ⟨v', f1, f2, f3, f4⟩ := s.from hc (by omega) (lo := r.want) hwl
  have L9 := a.fld.2.2.2.2.2.2.2.2.2.1
  have L7 := a.fld.2.2.2.2.2.2.2.1
  have L6 := a.fld.2.2.2.2.2.2.1
  have hgt : ¬ (r.skip : Int) > 0 := by omega
  have htl : (bs.take r.want).length = r.want := by rw [List.length_take]; omega
  rw [Nat.mul_one, ← bys_take] at e2
  obtain ⟨vq', h1, a1, a2, a3, a4, a5⟩ := app_ok (bt := 1) a.q e2 hw (by omega)
  have o1 : Own 0 h1 1 vq' (r.lit ++ bs.take r.want).length (bys (r.lit ++ bs.take r.want)) := by rw [List.length_append, htl, bys_append]; exact a4
  obtain ⟨h2, s2, b2, p2, -⟩ := a.set_lit a5 o1 (fun j hj => by rw [a2] at hj; cases hj; exact Nat.le_refl _)
  obtain ⟨h3, s3, b3, p3, -⟩ := b2.set_want 0
  replace s3 : oStore 1 (.ptr i 6) (.int .i64 ((r.want : Int) - (r.want : Int))) h2 = .ok V.undef h3 := by rw [Int.sub_self]; exact s3
  have M6 : oLoad1 (.ptr i 6) h2 = .ok (.int .i64 (r.want : Int)) h2 := b2.fld.2.2.2.2.2.2.1
  have N6 : oLoad1 (.ptr i 6) h3 = .ok (.int .i64 0) h3 := b3.fld.2.2.2.2.2.2.1
  have K2 : oLoad1 (.ptr i 2) (bumpH 1 h3) = .ok vl (bumpH 1 h3) := ld_bump 1 i 2 b3.fld.2.2.1
  have K7 : oLoad1 (.ptr i 7) (bumpH 1 h3) = .ok vq' (bumpH 1 h3) := ld_bump 1 i 7 b3.fld.2.2.2.2.2.2.2.1
  have hall : ∀ b ∈ r.lit ++ bs.take r.want, b < 256 := fun b hm => by
    rcases List.mem_append.1 hm with hm | hm
    · exact h256 b hm
    · exact hb256 b (List.mem_of_mem_take hm)
  have B : oBytesStr vq' (bumpH 1 h3) = .ok (.str (r.lit ++ bs.take r.want)) (bumpH 1 h3) := oBytesStr_ok b3.q.sl hall (fun _ _ => rfl)
  obtain ⟨vl', h4, c1, c2, c3, c4, c5⟩ := app1_ok (bt := 16) (new := [V.str (r.lit ++ bs.take r.want)]) b3.l rfl (by show (r.lits.length + 1) * 16 ≤ _; omega)
  obtain ⟨h5, s5, b5, p5, -⟩ := b3.set_lits (l := r.lits ++ [r.lit ++ bs.take r.want]) c4 (by rw [List.length_append, txs, List.map_append]; exact c3) (fun j hj => by rw [c2] at hj; cases hj; rw [Pos.nat_succ]; omega)
  obtain ⟨h6, s6, b6, p6, -⟩ := b5.set_lit (v := .nils) (l := []) (Ch.refl _ _) (Own.nil _ _ _) (fun j q => by cases q)
  obtain ⟨h7, s7, b7, p7, -⟩ := b6.set_literal false
  have p := ((((p2.trans p3).trans p5).trans p6).trans p7)
  rw [TryF20_eq]
  simp (disch := omega) only [seqO_eq, thenO_nor, gtO_some, bndO_ok, get_set_of, cndX_tmp, ifB_true, ifB_false, Nat.reduceEqDiff, Nat.zero_ne_one, reduceCtorEq, ↓reduceIte, oBin_sub, oBin_eql, oBin_gtr, oMin_eq, oFieldAddr_eq, bumpH_zero, alcO_some, oNilCheck_ptr, Nat.zero_add, bumpH_zero, put_bump, decide_true, decide_false, Tryd20, Tryr20_0, Tryr20_1, Tryr20_5, Tryr20_6, Tryr20_7, Tryr20_8, Tryr20_9, Tryr20_10, Tryr20_11, L9, hgt, L6, L7, s.length, hmi, e1, a1, s2, M6, s3, N6, K2, K7, B, aBuildSlice_s, c1, s5, s6, s7, f1, outR, resK, tupR]
  refine ⟨v', vl', h7, rfl, b7, p, ?_, f3, f4⟩
  rw [Nat.mul_one, ← bys_drop] at f2
  rw [List.length_drop]
  exact f2.ch p.ch hcn fun j hj q => hb j (f4 j hj) q
/-- bytes of a literal, or that are passed over -/
theorem take_ok {most : Int} {h : Hp} {i : Pos} {r : Rd} {vt vl vn vq vb : V} {c : Nat} {bs : List Nat} (a : RdAt most h i r vt vl vn vq) (s : Sl c h 1 vb bs.length (bys bs)) (hc : capOk 1 vb) (hb : ∀ j, idOf vb = some j → ¬ RdF i vt vl vn vq j) (hcn : c ≤ h.next.nat)
    (hpos : 0 < bs.length) (ho : 0 < r.skip ∨ r.literal = true) (hw : r.literal = true → 0 < r.want) (hw2 : r.want < 9000000000000000000) (hsk2 : r.skip < 9000000000000000000) (hl : bs.length < 1000000000) (hq : r.lit.length < 1000000000) (hls : r.lits.length < 1000000000) (h256 : ∀ b ∈ r.lit, b < 256) (hb256 : ∀ b ∈ bs, b < 256) :
    ∃ v' h' n vl' vq', TryF20 [.ptr i 0, vb] h = .ok v' h' ∧ 0 < n ∧ n ≤ bs.length ∧ (feedsM most r (bs.take n)).2 = [] ∧ RdAt most h' i (feedsM most r (bs.take n)).1 vt vl' vn vq' ∧ Stp (RdF i vt vl vn vq) h (RdF i vt vl' vn vq') h' ∧
      Sl c h' 1 v' (bs.drop n).length (bys (bs.drop n)) ∧ capOk 1 v' ∧ ∀ j, idOf v' = some j → idOf vb = some j := by
  by_cases hsk : 0 < r.skip
  · obtain ⟨v', h', e, a', ch, hn, s', hc', hid⟩ := take_skip a s hc (fun q => hb i q (.inl rfl)) hcn hsk hsk2 hl
    refine ⟨v', h', min r.skip bs.length, vl, vq, e, by omega, by omega, ?_, ?_, stp_i ch, s', hc', hid⟩
    · rw [feeds_skip most _ r (by rw [List.length_take]; omega)]
    · rw [feeds_skip most _ r (by rw [List.length_take]; omega), List.length_take, Nat.min_eq_left (Nat.min_le_right r.skip bs.length)]
      exact a'
  · have hs0 : r.skip = 0 := by omega
    have hlit : r.literal = true := ho.resolve_left hsk
    have hw0 := hw hlit
    by_cases hlt : bs.length < r.want
    · obtain ⟨v', vq', h', e, a', ch, hid, s', hc', hjj⟩ := take_part a s hc (fun q => hb i q (.inl rfl)) (fun j hj q => hb j hj (.inr (.inr (.inr (.inr q))))) hcn hs0 hpos hlt hw2 hl hq
      have e1 := feeds_lit most bs r hs0 hlit (fun q => by rw [q] at hpos; simp at hpos) (by omega)
      rw [if_neg (by omega)] at e1
      refine ⟨v', h', bs.length, vl, vq', e, hpos, Nat.le_refl _, ?_, ?_, ⟨ch.mono fun j _ q => q.elim .inl fun q => .inr (.inr (.inr (.inr q))), ?_⟩, ?_, hc', hjj⟩
      · rw [List.take_length, e1]
      · rw [List.take_length, e1]; exact a'
      · rintro j (q | q | q | q | q)
        · exact .inl (.inl q)
        · exact .inl (.inr (.inl q))
        · exact .inl (.inr (.inr (.inl q)))
        · exact .inl (.inr (.inr (.inr (.inl q))))
        · exact .inr (hid j q)
      · rw [List.drop_length]; exact s'
    · obtain ⟨v', vl', h', e, a', p, s', hc', hid⟩ := take_end a s hc hb hcn hs0 hw0 (by omega) hl hq hls h256 hb256
      have e1 := feeds_lit most (bs.take r.want) r hs0 hlit (fun q => by have := congrArg List.length q; rw [List.length_take, List.length_nil] at this; omega) (by rw [List.length_take]; omega)
      rw [if_pos (by rw [List.length_take]; omega)] at e1
      exact ⟨v', h', r.want, vl', .nils, e, hw0, by omega, by rw [e1], by rw [e1]; exact a', p, s', hc', hid⟩
end Go.Proofs.Ytgnfkfmhjgbhhaa

noncomputable section
namespace Go.Proofs.Ytgnfkfmhjgbhhaa
open Go Go.Proofs Go.Vm Go.Ln
set_option linter.unusedVariables false
set_option maxRecDepth 100000
set_option linter.unusedSimpArgs false
/-- the cells of a row of what is told -/
def GAt (P : Pos → Prop) (h : Hp) : List Ln.Got → List V → Prop
  | [], cs => cs = []
  | g :: l, cs => ∃ vw cr, cs = [.int .i64 g.kind, vw] ++ cr ∧ WRow P h vw g.words ∧ GAt P h l cr
theorem GAt.ch {P P' S : Pos → Prop} {h h' : Hp} (c : Ch S h h') (hs : ∀ j : Pos, j.nat < h.next.nat → P j → P' j ∧ ¬ S j) : ∀ {l : List Ln.Got} {cs : List V}, GAt P h l cs → GAt P' h' l cs
  | [], _, w => w
  | g :: l, _, ⟨vw, cr, e, a, b⟩ => ⟨vw, cr, e, a.ch c hs, GAt.ch c hs b⟩
theorem GAt.app {P : Pos → Prop} {h : Hp} {b : List Ln.Got} {cb : List V} (hb : GAt P h b cb) : ∀ {a : List Ln.Got} {ca : List V}, GAt P h a ca → GAt P h (a ++ b) (ca ++ cb)
  | [], _, w => by rw [show _ = ([] : List V) from w]; exact hb
  | g :: l, _, ⟨vw, cr, e, a, r⟩ => ⟨vw, cr ++ cb, by rw [e, List.append_assoc], a, GAt.app hb r⟩
theorem GAt.one {P : Pos → Prop} {h : Hp} {k : Int} {v : V} {ws : Wds} (w : WRow P h v ws) : GAt P h [⟨k, ws⟩] [.int .i64 k, v] := ⟨v, [], rfl, w, rfl⟩
/-- a row of one, just made -/
theorem Sl.made {h : Hp} (l : List V) : Sl (h.next.nat + 1) (h.new (.cells true l)) l.length (.slice h.next 0 1 (.kn 1)) 1 l := ⟨by simp, .inr ⟨h.next, 0, _, true, l, rfl, by omega, by rw [new_self]; rfl, fun k _ => by rw [Nat.zero_add]⟩⟩
/-- what a text's end tells -/
def EndQ (most : Int) (r : Rd) (i : Pos) (S : Pos → Prop) (h : Hp) (v : V) (h' : Hp) : Prop :=
  ∃ vt vl vn vq cs, RdAt most h' i (endM most r).1 vt vl vn vq ∧ Stp S h (RdF i vt vl vn vq) h' ∧ Sl h'.next.nat h' 2 v (endM most r).2.length cs ∧ GAt (fun j => h.next.nat ≤ j.nat ∧ ¬ RdF i vt vl vn vq j) h' (endM most r).2 cs
/-- the reader forgets, and tells one thing -/
theorem end_told {most : Int} {r r' : Rd} {i : Pos} {S : Pos → Prop} {h h4 : Hp} {k : Int} {ws : Wds} {vt vl vn vq v : V} (a4 : RdAt most h4 i r' vt vl vn vq) (p : Stp S h (RdF i vt vl vn vq) h4) (e : endM most r = (r', [⟨k, ws⟩])) (w : WRow (fun j => h.next.nat ≤ j.nat ∧ ¬ RdF i vt vl vn vq j) h4 v ws) :
    EndQ most r i S h (.slice h4.next 0 1 (.kn 1)) (h4.new (.cells true [.int .i64 k, v])) := by
  have c5 : Ch (fun _ => False) h4 (h4.new (.cells true [.int .i64 k, v])) := Ch.new _ _ _
  refine ⟨vt, vl, vn, vq, [.int .i64 k, v], ?_, p.step c5 (fun _ q => q.elim), ?_, ?_⟩
  · rw [e]; exact a4.ch c5 fun _ _ q => q
  · rw [e]
    have := Sl.made (h := h4) [V.int .i64 k, v]
    rw [new_next_nat]
    exact this
  · rw [e]
    exact GAt.one (w.ch c5 fun j _ q => ⟨q, fun q => q⟩)
theorem end_ok {most : Int} {h : Hp} {i : Pos} {r : Rd} {vt vl vn vq : V} {B : Nat} (a : RdAt most h i r vt vl vn vq) (k : RdOk most B r) (hB : B < 900000000) (hlit : r.literal = false) :
    ∃ v h', TryF21 [.ptr i 0] h = .ok v h' ∧ EndQ most r i (RdF i vt vl vn vq) h v h' := by
  have hmu := k.mu
  unfold Rd.mu at hmu
  have hcnt := k.cnt
  rw [hlit] at hcnt
  simp only [Bool.false_eq_true, if_false, Nat.add_zero] at hcnt
  have hcut := cutCR_le r.now
  have hwide := k.wide
  have hmax := k.mmax
  have htl := bytesL_len r.texts
  have hll := bytesL_len r.lits
  have L5 := a.fld.2.2.2.2.2.1
  have B5 : oBytesStr vn h = .ok (.str r.now) h := oBytesStr_ok a.n.sl k.nb (fun _ _ => rfl)
  have T := trim_ok (s := r.now) (by omega) h
  obtain ⟨h1, s1, b1, p1, -⟩ := a.set_now (v := .nils) (l := []) (Ch.refl _ _) (Own.nil _ _ _) (fun j q => by cases q)
  have M := marker_ok (t := cutCR r.now) (by omega) h1
  rw [TryF21_eq]
  show Tells Try.prog _ (EndQ most r i (RdF i vt vl vn vq) h) _
  cases hm : markerM (cutCR r.now) with
  | none =>
    rw [markV, hm] at M
    simp only [four] at M
    have K1 : oLoad1 (.ptr i 1) (bumpH 1 h1) = .ok vt (bumpH 1 h1) := ld_bump 1 i 1 b1.fld.2.1
    obtain ⟨vt', h2, c1, c2, c3, c4, c5⟩ := app1_ok (bt := 16) (new := [V.str (cutCR r.now)]) b1.t rfl (by show (r.texts.length + 1) * 16 ≤ _; omega)
    have g2 : h2.get i = _ := (c4.get i b1.lt b1.ti).trans b1.get
    have lt2 : i.nat < h2.next.nat := Nat.lt_of_lt_of_le b1.lt c4.next
    have L2 : oLoad1 (.ptr i 2) h2 = .ok vl h2 := ld_get g2 2
    have ck : ∀ k, chk (fun h => oLoad1 (.ptr i 2) h) vl k 1 [bumpH 1 h1] = k := fun k => chk_one (ld_bump 1 i 2 b1.fld.2.2.1) (eqV_own b1.l)
    have ol2 : Own 0 h2 1 vl r.lits.length (txs r.lits) := b1.l.ch c4 (fun j hj q => b1.tl.symm j hj q)
    have ot2 : Own 0 h2 1 vt' (r.texts ++ [cutCR r.now]).length (txs (r.texts ++ [cutCR r.now])) := by rw [List.length_append, txs, List.map_append]; exact c3
    obtain ⟨x, h3, e28, c3', hq⟩ := linewords_ok (texts := r.texts ++ [cutCR r.now]) (lits := r.lits) ot2.sl ol2.sl (by rw [List.length_append, hcnt]; rfl)
      ⟨by rw [List.length_append, List.length_cons, List.length_nil]; omega, fun t ht => by
        rcases List.mem_append.1 ht with ht | ht
        · exact ⟨by have := bytesL_mem ht; omega, k.tb t ht⟩
        · rw [List.mem_singleton.1 ht]; exact ⟨by omega, fun c hc => k.nb c (hcut.2 c hc)⟩⟩
      (fun t ts e => by
        have hs := St_size (t := t) (ts := ts) (lits := r.lits)
        rw [← e, bytesL_append, bytesL_one] at hs
        omega)
    have g3 : h3.get i = _ := (c3'.get i lt2 (fun q => q)).trans g2
    have lt3 : i.nat < h3.next.nat := Nat.lt_of_lt_of_le lt2 c3'.next
    obtain ⟨u, h4, e22, a4, c4', n4⟩ := reset_ok lt3 g3
    have p2 : Stp (RdF i vt vl vn vq) h (RdF i vt vl .nils vq) h2 := p1.step c4 fun j q => .inr (.inl q)
    have p4 : Stp (RdF i vt vl vn vq) h (RdF i .nils .nils .nils .nils) h4 := ((p2.step c3' fun j q => q.elim).step c4' fun j q => .inl q).less fun j q => by
      rcases q with q | q | q | q | q
      · exact .inl q
      · cases q
      · cases q
      · cases q
      · cases q
    have hn2 := p2.ch.next
    rcases hq with ⟨hno, y, rfl⟩ | ⟨ws, v, hso, rfl, hw⟩
    · have ee : endM most r = ({}, [⟨3, .nil⟩]) := by unfold endM; rw [hm]; simp only []; rw [hno]
      simp (disch := omega) only [seqO_eq, thenO_nor, thenO_ret, gtO_some, bndO_ok, get_set_of, cndX_tmp, ifB_true, Nat.reduceEqDiff, reduceCtorEq, ↓reduceIte, oUn_not, oExtract_0, oExtract_1, oExtract_2, oFieldAddr_eq, oBuildSlice_2, alcO_some, Bool.not_false, oNilCheck_ptr, Nat.zero_add, put_bump, Tryd21, Tryr21_0, Tryr21_1, Tryr21_2, Tryr21_3, Tryr21_4, Tryr21_5, Tryr21_6, Tryr21_7, Tryr21_8, L5, B5, T, s1, M, oExtract_3, K1, aBuildSlice_s, c1, L2, ck, e28, two, e22, oBuild_g0, oBuildSlice_2]
      exact Tells.ret (by simp only [resK, get_set_of, ↓reduceIte, tupR] <;> rfl) (end_told a4 p4 ee (WRow.nil _ _))
    · have ee : endM most r = ({}, [⟨1, ws⟩]) := by unfold endM; rw [hm]; simp only []; rw [hso]
      have hvc : v.cells = [v] ∧ notTuple v = true := by obtain ⟨cs, o, -⟩ := hw; exact o.cell
      simp (disch := omega) only [seqO_eq, thenO_nor, thenO_ret, gtO_some, bndO_ok, get_set_of, cndX_tmp, ifB_true, ifB_false, Nat.reduceEqDiff, reduceCtorEq, ↓reduceIte, oUn_not, oExtract_0, oExtract_1, oExtract_2, oFieldAddr_eq, oBuildSlice_2, alcO_some, Bool.not_true, Bool.not_false, oNilCheck_ptr, Nat.zero_add, put_bump, Tryd21, Tryr21_0, Tryr21_1, Tryr21_2, Tryr21_3, Tryr21_4, Tryr21_5, Tryr21_6, Tryr21_7, Tryr21_9, L5, B5, T, s1, M, oExtract_3, K1, aBuildSlice_s, c1, L2, ck, e28, two, e22, oBuild_g1 _ hvc, oBuildSlice_2]
      refine Tells.ret (by simp only [resK, get_set_of, ↓reduceIte, tupR] <;> rfl) (end_told a4 p4 ee (hw.ch c4' fun j _ q => ⟨⟨by omega, fun q' => ?_⟩, fun q' => ?_⟩))
      · rcases q' with q' | q' | q' | q' | q'
        · rw [q'] at q; omega
        · cases q'
        · cases q'
        · cases q'
        · cases q'
      · rw [q'] at q; omega
  | some x =>
    obtain ⟨ahead, n, plus⟩ := x
    have hs := markerM_some hm
    rw [markV, hm] at M
    simp only [four] at M
    have M0 : oLoad1 (.ptr i 0) h1 = .ok (.int .i64 most) h1 := b1.fld.1
    have M4 : oLoad1 (.ptr i 4) h1 = .ok (.int .i64 (r.wide : Int)) h1 := b1.fld.2.2.2.2.1
    by_cases hgt : (n : Int) > most - (r.wide : Int)
    · obtain ⟨u, h2, e22, a2, c2, n2⟩ := reset_ok b1.lt b1.get
      have p2 : Stp (RdF i vt vl vn vq) h (RdF i .nils .nils .nils .nils) h2 := (p1.step c2 fun j q => .inl q).less fun j q => by
        rcases q with q | q | q | q | q
        · exact .inl q
        · cases q
        · cases q
        · cases q
        · cases q
      cases plus with
      | false =>
        have ee : endM most r = ({}, [⟨3, .nil⟩]) := by unfold endM; rw [hm]; simp only []; rw [if_pos hgt]; rfl
        simp (disch := omega) only [seqO_eq, thenO_nor, thenO_ret, gtO_some, bndO_ok, get_set_of, cndX_tmp, ifB_true, ifB_false, Nat.reduceEqDiff, reduceCtorEq, ↓reduceIte, oBin_sub, oBin_gtr, oUn_not, oExtract_0, oExtract_1, oExtract_2, oFieldAddr_eq, oBuildSlice_2, bumpH_zero, Bool.not_true, oNilCheck_ptr, Nat.zero_add, bumpH_zero, decide_true, Tryd21, Tryr21_0, Tryr21_1, Tryr21_2, Tryr21_3, Tryr21_4, Tryr21_10, Tryr21_11, Tryr21_12, Tryr21_14, L5, B5, T, s1, M, oExtract_3, M0, M4, hgt, e22, oBuild_g0, oBuildSlice_2]
        exact Tells.ret (by simp only [resK, get_set_of, ↓reduceIte, tupR] <;> rfl) (end_told a2 p2 ee (WRow.nil _ _))
      | true =>
        obtain ⟨h3, s3, a3, p3, -⟩ := a2.set_skip n
        obtain ⟨h4, s4, a4, p4, -⟩ := a3.set_line true
        have ee : endM most r = ({ skip := n, line := true }, [⟨3, .nil⟩]) := by unfold endM; rw [hm]; simp only []; rw [if_pos hgt]; rfl
        simp (disch := omega) only [seqO_eq, thenO_nor, thenO_ret, gtO_some, bndO_ok, get_set_of, cndX_tmp, ifB_true, ifB_false, Nat.reduceEqDiff, reduceCtorEq, ↓reduceIte, oBin_sub, oBin_gtr, oUn_not, oExtract_0, oExtract_1, oExtract_2, oFieldAddr_eq, oBuildSlice_2, bumpH_zero, Bool.not_true, oNilCheck_ptr, Nat.zero_add, bumpH_zero, decide_true, Tryd21, Tryr21_0, Tryr21_1, Tryr21_2, Tryr21_3, Tryr21_4, Tryr21_10, Tryr21_11, Tryr21_12, Tryr21_13, Tryr21_14, L5, B5, T, s1, M, oExtract_3, M0, M4, hgt, e22, s3, s4, oBuild_g0, oBuildSlice_2]
        exact Tells.ret (by simp only [resK, get_set_of, ↓reduceIte, tupR] <;> rfl) (end_told a4 ((p2.trans p3).trans p4) ee (WRow.nil _ _))
    · have hgt' : (most - (r.wide : Int) : Int) ≥ n := by omega
      have L1 : oLoad1 (.ptr i 1) h1 = .ok vt h1 := b1.fld.2.1
      obtain ⟨vt', h2, c1, c2, c3, c4, c5⟩ := app1_ok (bt := 16) (new := [V.str ahead]) b1.t rfl (by show (r.texts.length + 1) * 16 ≤ _; omega)
      obtain ⟨h3, s3, b3, p3, -⟩ := b1.set_texts (l := r.texts ++ [ahead]) c4 (by rw [List.length_append, txs, List.map_append]; exact c3) (fun j hj => by rw [c2] at hj; cases hj; rw [Pos.nat_succ]; omega)
      have L3 : oLoad1 (.ptr i 3) h3 = .ok (.int .i64 (r.long : Int)) h3 := b3.fld.2.2.2.1
      obtain ⟨h4, s4, b4, p4, -⟩ := b3.set_long (r.long + (cutCR r.now).length)
      have L4 : oLoad1 (.ptr i 4) h4 = .ok (.int .i64 (r.wide : Int)) h4 := b4.fld.2.2.2.2.1
      obtain ⟨h5, s5, b5, p5, -⟩ := b4.set_wide (r.wide + n)
      obtain ⟨h6, s6, b6, p6, -⟩ := b5.set_want n
      rw [Int.natCast_add] at s4 s5
      have p16 := (((p1.trans p3).trans p4).trans p5).trans p6
      by_cases hn0 : n = 0
      · subst hn0
        have hz : ¬ (0 : Int) > 0 := by omega
        replace M : TryF27 [.str (cutCR r.now)] h1 = .ok (.tuple (.cons (.str ahead) (.cons (.int .i64 0) (.cons (.bool plus) (.cons (.bool true) .nil))))) h1 := M
        replace s5 : oStore 1 (.ptr i 4) (.int .i64 ((r.wide : Int) + 0)) h4 = .ok V.undef h5 := s5
        replace s6 : oStore 1 (.ptr i 6) (.int .i64 0) h5 = .ok V.undef h6 := s6
        have hgt2 : ¬ (0 : Int) > most - (r.wide : Int) := by omega
        obtain ⟨h7, s7, b7, p7, -⟩ := b6.set_literal false
        have L7 : oLoad1 (.ptr i 2) h7 = .ok vl h7 := b7.fld.2.2.1
        obtain ⟨vl', h8, d1, d2, d3, d4, d5⟩ := app1_ok (bt := 16) (new := [V.str []]) b7.l rfl (by show (r.lits.length + 1) * 16 ≤ _; omega)
        obtain ⟨h9, s9, b9, p9, -⟩ := b7.set_lits (l := r.lits ++ [[]]) d4 (by rw [List.length_append, txs, List.map_append]; exact d3) (fun j hj => by rw [d2] at hj; cases hj; rw [Pos.nat_succ]; omega)
        have p := (p16.trans p7).trans p9
        cases plus with
        | true =>
          have ee : endM most r = ({ texts := r.texts ++ [ahead], lits := r.lits ++ [[]], long := r.long + (cutCR r.now).length, wide := r.wide + 0, now := [], want := 0, lit := r.lit, literal := false, skip := r.skip, line := r.line }, []) := by unfold endM; rw [hm]; simp only []; rw [if_neg hgt]; rfl
          simp (disch := omega) only [seqO_eq, thenO_nor, thenO_ret, gtO_some, bndO_ok, get_set_of, cndX_tmp, ifB_true, ifB_false, Nat.reduceEqDiff, reduceCtorEq, ↓reduceIte, oBin_add, oBin_sub, oBin_eql, oBin_gtr, oUn_not, oExtract_0, oExtract_1, oExtract_2, oFieldAddr_eq, bumpH_zero, Bool.not_true, oLenK_str, oNilCheck_ptr, Nat.zero_add, bumpH_zero, decide_true, decide_false, Tryd21, Tryr21_0, Tryr21_1, Tryr21_2, Tryr21_3, Tryr21_4, Tryr21_10, Tryr21_15, Tryr21_16, Tryr21_17, Tryr21_18, Tryr21_19, Tryr21_20, Tryr21_21, Tryr21_22, L5, B5, T, s1, M, oExtract_3, M0, M4, hgt2, L1, oBuildSlice_s, c1, s3, L3, s4, L4, s5, hz, s6, s7, L7, d1, s9]
          refine Tells.ret (by simp only [resK, get_set_of, ↓reduceIte, tupR] <;> rfl) ⟨vt', vl', .nils, vq, [], by rw [ee]; exact b9, p, by rw [ee]; exact ⟨rfl, .inl ⟨rfl, .inl rfl⟩⟩, by rw [ee]; rfl⟩
        | false =>
          have ee : endM most r = ({ texts := r.texts ++ [ahead], lits := r.lits ++ [[]], long := r.long + (cutCR r.now).length, wide := r.wide + 0, now := [], want := 0, lit := r.lit, literal := false, skip := r.skip, line := r.line }, [⟨2, .nil⟩]) := by unfold endM; rw [hm]; simp only []; rw [if_neg hgt]; rfl
          simp (disch := omega) only [seqO_eq, thenO_nor, gtO_some, bndO_ok, get_set_of, cndX_tmp, ifB_true, ifB_false, Nat.reduceEqDiff, reduceCtorEq, ↓reduceIte, oBin_add, oBin_sub, oBin_eql, oBin_gtr, oUn_not, oExtract_0, oExtract_1, oExtract_2, oFieldAddr_eq, oBuildSlice_2, bumpH_zero, Bool.not_true, oLenK_str, oNilCheck_ptr, Nat.zero_add, bumpH_zero, decide_true, decide_false, Tryd21, Tryr21_0, Tryr21_1, Tryr21_2, Tryr21_3, Tryr21_4, Tryr21_10, Tryr21_15, Tryr21_16, Tryr21_17, Tryr21_18, Tryr21_19, Tryr21_20, Tryr21_21, Tryr21_23, L5, B5, T, s1, M, oExtract_3, M0, M4, hgt2, L1, oBuildSlice_s, c1, s3, L3, s4, L4, s5, hz, s6, s7, L7, d1, s9, oBuild_g0, oBuildSlice_2]
          exact Tells.ret (by simp only [resK, get_set_of, ↓reduceIte, tupR] <;> rfl) (end_told b9 p ee (WRow.nil _ _))
      · have hz : (n : Int) > 0 := by omega
        have hnz : ¬ (n : Int) = 0 := by omega
        obtain ⟨h7, s7, b7, p7, -⟩ := b6.set_literal true
        have p := p16.trans p7
        have hd : decide (0 < n) = true := decide_eq_true (by omega)
        cases plus with
        | true =>
          have ee : endM most r = ({ texts := r.texts ++ [ahead], lits := r.lits, long := r.long + (cutCR r.now).length, wide := r.wide + n, now := [], want := n, lit := r.lit, literal := true, skip := r.skip, line := r.line }, []) := by unfold endM; rw [hm]; simp only []; rw [if_neg hgt, if_neg hn0, hd]; rfl
          simp (disch := omega) only [seqO_eq, thenO_nor, thenO_ret, gtO_some, bndO_ok, get_set_of, cndX_tmp, ifB_true, ifB_false, Nat.reduceEqDiff, reduceCtorEq, ↓reduceIte, oBin_add, oBin_sub, oBin_eql, oBin_gtr, oUn_not, oExtract_0, oExtract_1, oExtract_2, oFieldAddr_eq, bumpH_zero, Bool.not_true, oLenK_str, oNilCheck_ptr, Nat.zero_add, bumpH_zero, decide_true, decide_false, Tryd21, Tryr21_0, Tryr21_1, Tryr21_2, Tryr21_3, Tryr21_4, Tryr21_10, Tryr21_15, Tryr21_16, Tryr21_17, Tryr21_18, Tryr21_19, Tryr21_21, Tryr21_22, L5, B5, T, s1, M, oExtract_3, M0, M4, hgt, L1, oBuildSlice_s, c1, s3, L3, s4, L4, s5, hz, hnz, s6, s7]
          refine Tells.ret (by simp only [resK, get_set_of, ↓reduceIte, tupR] <;> rfl) ⟨vt', vl, .nils, vq, [], by rw [ee]; exact b7, p, by rw [ee]; exact ⟨rfl, .inl ⟨rfl, .inl rfl⟩⟩, by rw [ee]; rfl⟩
        | false =>
          have ee : endM most r = ({ texts := r.texts ++ [ahead], lits := r.lits, long := r.long + (cutCR r.now).length, wide := r.wide + n, now := [], want := n, lit := r.lit, literal := true, skip := r.skip, line := r.line }, [⟨2, .nil⟩]) := by unfold endM; rw [hm]; simp only []; rw [if_neg hgt, if_neg hn0, hd]; rfl
          simp (disch := omega) only [seqO_eq, thenO_nor, gtO_some, bndO_ok, get_set_of, cndX_tmp, ifB_false, Nat.reduceEqDiff, reduceCtorEq, ↓reduceIte, oBin_add, oBin_sub, oBin_eql, oBin_gtr, oUn_not, oExtract_0, oExtract_1, oExtract_2, oFieldAddr_eq, oBuildSlice_2, bumpH_zero, Bool.not_true, oLenK_str, oNilCheck_ptr, Nat.zero_add, bumpH_zero, decide_true, decide_false, Tryd21, Tryr21_0, Tryr21_1, Tryr21_2, Tryr21_3, Tryr21_4, Tryr21_10, Tryr21_15, Tryr21_16, Tryr21_17, Tryr21_18, Tryr21_19, Tryr21_21, Tryr21_23, L5, B5, T, s1, M, oExtract_3, M0, M4, hgt, L1, oBuildSlice_s, c1, s3, L3, s4, L4, s5, hz, hnz, s6, s7, oBuild_g0, oBuildSlice_2]
          exact Tells.ret (by simp only [resK, get_set_of, ↓reduceIte, tupR] <;> rfl) (end_told b7 p ee (WRow.nil _ _))
end Go.Proofs.Ytgnfkfmhjgbhhaa

noncomputable section
namespace Go.Proofs.Ytgnfkfmhjgbhhaa
open Go Go.Proofs Go.Vm Go.Ln
set_option linter.unusedVariables false
set_option maxRecDepth 100000
set_option linter.unusedSimpArgs false
/-- on the way through the bytes -/
structure FeedS (most : Int) (i : Pos) (h : Hp) (S0 : Pos → Prop) (c : Nat) (r : Rd) (bs : List Nat) (g : Hp) (vb vo : V) (rest : List Nat) (r' : Rd) (gs : List Ln.Got) (vt vl vn vq : V) (cs : List V) : Prop where
  s : Sl c g 1 vb rest.length (bys rest)
  cap : capOk 1 vb
  b : ∀ j, idOf vb = some j → ¬ RdF i vt vl vn vq j
  a : RdAt most g i r' vt vl vn vq
  ok : ∃ B, RdOk most B r' ∧ B + 2 * rest.length < 900000000
  p : Stp S0 h (RdF i vt vl vn vq) g
  e : feedsM most r bs = ((feedsM most r' rest).1, gs ++ (feedsM most r' rest).2)
  o : Own 0 g 2 vo gs.length cs
  oi : ∀ j, idOf vo = some j → h.next.nat ≤ j.nat ∧ ¬ RdF i vt vl vn vq j
  w : GAt (fun j => h.next.nat ≤ j.nat ∧ ¬ RdF i vt vl vn vq j ∧ idOf vo ≠ some j) g gs cs
  n : gs.length + rest.length ≤ bs.length
  by256 : ∀ x ∈ rest, x < 256
variable {most : Int} {i : Pos} {h g g' : Hp} {S0 : Pos → Prop} {c : Nat} {r r' r2 : Rd} {bs rest pre rest' : List Nat} {vb vo v' x : V} {gs gs2 : List Ln.Got} {vt vl vn vq vt' vl' vn' vq' : V} {cs cs2 : List V}
theorem RdAt.idlt (a : RdAt most h i r vt vl vn vq) {j : Pos} (q : RdF i vt vl vn vq j) : j.nat < h.next.nat := by
  rcases q with q | q | q | q | q
  · rw [q]; exact a.lt
  · exact (a.t.idlt q).2
  · exact (a.l.idlt q).2
  · exact (a.n.idlt q).2
  · exact (a.q.idlt q).2
/-- some bytes that tell nothing -/
theorem FeedS.go (f : FeedS most i h S0 c r bs g vb vo rest r' gs vt vl vn vq cs) (hm : 0 ≤ most) (hc : c ≤ h.next.nat) (a : RdAt most g' i r2 vt' vl' vn' vq') (p : Stp (RdF i vt vl vn vq) g (RdF i vt' vl' vn' vq') g')
    (s : Sl c g' 1 v' rest'.length (bys rest')) (cap : capOk 1 v') (hid : ∀ j, idOf v' = some j → idOf vb = some j) (hr : rest = pre ++ rest') (hf : feedsM most r' pre = (r2, [])) :
    FeedS most i h S0 c r bs g' v' vo rest' r2 gs vt' vl' vn' vq' cs := by
  have nR : ∀ j, ¬ RdF i vt vl vn vq j → j.nat < g.next.nat → ¬ RdF i vt' vl' vn' vq' j := fun j hn hj q => by
    rcases p.sub j q with q | q
    · exact hn q
    · omega
  have hng := f.p.ch.next
  have ok' : ∃ B, RdOk most B r2 ∧ B + 2 * rest'.length < 900000000 := by
    obtain ⟨B, k, hB⟩ := f.ok
    have := k.feedsM hm (b := pre) (fun y hy => f.by256 y (by rw [hr]; exact List.mem_append_left _ hy))
    rw [hf] at this
    exact ⟨_, this, by rw [hr, List.length_append] at hB; omega⟩
  have w1 : GAt (fun j => h.next.nat ≤ j.nat ∧ ¬ RdF i vt' vl' vn' vq' j ∧ idOf vo ≠ some j) g' gs cs := f.w.ch p.ch fun j hj q => ⟨⟨q.1, nR j q.2.1 hj, q.2.2⟩, q.2.1⟩
  exact ⟨s, cap, fun j hj => nR j (f.b j (hid j hj)) (by have := s.idlt hj; omega), a, ok', f.p.trans p, by rw [f.e, hr, feedsM_append, hf]; rfl, f.o.ch p.ch fun j hj q => (f.oi j hj).2 q,
    fun j hj => ⟨(f.oi j hj).1, nR j (f.oi j hj).2 (f.o.idlt hj).2⟩, w1, by have := f.n; rw [hr, List.length_append] at this; omega, fun y hy => f.by256 y (by rw [hr]; exact List.mem_append_right _ hy)⟩
/-- bytes that tell something -/
theorem FeedS.told (f : FeedS most i h S0 c r bs g vb vo rest r' gs vt vl vn vq cs) (hm : 0 ≤ most) (hc : c ≤ h.next.nat) (hbs : bs.length < 1000000000) (a : RdAt most g' i r2 vt' vl' vn' vq') (p : Stp (RdF i vt vl vn vq) g (RdF i vt' vl' vn' vq') g')
    (s : Sl c g' 1 v' rest'.length (bys rest')) (cap : capOk 1 v') (hid : ∀ j, idOf v' = some j → idOf vb = some j) (hr : rest = pre ++ rest') (hf : feedsM most r' pre = (r2, gs2)) (hpre : gs2.length ≤ pre.length)
    (sx : Sl g'.next.nat g' 2 x gs2.length cs2) (wx : GAt (fun j => g.next.nat ≤ j.nat ∧ ¬ RdF i vt' vl' vn' vq' j) g' gs2 cs2) :
    ∃ vo' g2, oAppend 2 32 vo x g' = .ok vo' g2 ∧ FeedS most i h S0 c r bs g2 v' vo' rest' r2 (gs ++ gs2) vt' vl' vn' vq' (cs ++ cs2) := by
  have o1 : Own 0 g' 2 vo gs.length cs := f.o.ch p.ch fun j hj q => (f.oi j hj).2 q
  have nR : ∀ j, ¬ RdF i vt vl vn vq j → j.nat < g.next.nat → ¬ RdF i vt' vl' vn' vq' j := fun j hn hj q => by
    rcases p.sub j q with q | q
    · exact hn q
    · omega
  have oi1 : ∀ j, idOf vo = some j → h.next.nat ≤ j.nat ∧ ¬ RdF i vt' vl' vn' vq' j := fun j hj => ⟨(f.oi j hj).1, nR j (f.oi j hj).2 (f.o.idlt hj).2⟩
  have w1 : GAt (fun j => h.next.nat ≤ j.nat ∧ ¬ RdF i vt' vl' vn' vq' j ∧ idOf vo ≠ some j) g' gs cs := f.w.ch p.ch fun j hj q => ⟨⟨q.1, nR j q.2.1 hj, q.2.2⟩, q.2.1⟩
  have hng := f.p.ch.next
  have w2 : GAt (fun j => h.next.nat ≤ j.nat ∧ ¬ RdF i vt' vl' vn' vq' j ∧ idOf vo ≠ some j) g' gs2 cs2 := wx.ch (Ch.refl (fun _ => False) _) fun j hj q => by
    have q1 : g.next.nat ≤ j.nat := q.1
    exact ⟨⟨by omega, q.2, fun q' => by have := (f.o.idlt q').2; omega⟩, fun q => q⟩
  have hb : ∀ j, idOf v' = some j → ¬ RdF i vt' vl' vn' vq' j := fun j hj q => by
    rcases p.sub j q with q | q
    · exact f.b j (hid j hj) q
    · have := s.idlt hj; have := f.p.ch.next; omega
  have ok' : ∃ B, RdOk most B r2 ∧ B + 2 * rest'.length < 900000000 := by
    obtain ⟨B, k, hB⟩ := f.ok
    have := k.feedsM hm (b := pre) (fun y hy => f.by256 y (by rw [hr]; exact List.mem_append_left _ hy))
    rw [hf] at this
    exact ⟨_, this, by rw [hr, List.length_append] at hB; omega⟩
  have e' : feedsM most r bs = ((feedsM most r2 rest').1, gs ++ gs2 ++ (feedsM most r2 rest').2) := by rw [f.e, hr, feedsM_append, hf, List.append_assoc]
  have n' : (gs ++ gs2).length + rest'.length ≤ bs.length := by have := f.n; rw [hr, List.length_append] at this; rw [List.length_append]; omega
  have by' : ∀ y ∈ rest', y < 256 := fun y hy => f.by256 y (by rw [hr]; exact List.mem_append_right _ hy)
  by_cases h0 : gs2.length = 0
  · have hg : gs2 = [] := List.length_eq_zero_iff.1 h0
    subst hg
    have hcs : cs2 = [] := wx
    subst hcs
    have e0 := app0_ok (bt := 32) o1 sx
    rw [List.append_nil] at e' n'
    exact ⟨vo, g', e0, s, cap, hb, a, ok', f.p.trans p, by rw [List.append_nil]; exact e', by rw [List.append_nil, List.append_nil]; exact o1, oi1, by rw [List.append_nil, List.append_nil]; exact w1, by rw [List.append_nil]; exact n', by'⟩
  · obtain ⟨vo', g2, e1, e2, e3, o2, c2⟩ := app_ok (bt := 32) o1 sx (by omega) (by rw [List.length_append] at n'; omega)
    have hvo' : ∀ j, idOf vo' = some j → j = g'.next := fun j hj => by rw [e2] at hj; cases hj; rfl
    have hn1 := f.p.ch.next
    have hn2 := p.ch.next
    refine ⟨vo', g2, e1, s.ch c2 (by omega) (fun j hj q => by have := s.idlt hj; have := (oi1 j q).1; omega), cap, hb, a.ch c2 (fun j hj q => (oi1 j q).2 hj), ok', ?_, e', by rw [List.length_append]; exact o2, ?_, GAt.app ?_ ?_, n', by'⟩
    · exact ⟨⟨Nat.le_trans (f.p.trans p).ch.next c2.next, fun j hj hn => (c2.get j (by omega) (fun q => by have := (oi1 j q).1; omega)).trans ((f.p.trans p).ch.get j hj hn)⟩, (f.p.trans p).sub⟩
    · intro j hj
      rw [hvo' j hj]
      exact ⟨by omega, fun q => by have := a.idlt q; omega⟩
    · exact w2.ch c2 fun j hj q => ⟨⟨q.1, q.2.1, fun q' => by rw [hvo' j q'] at hj; omega⟩, q.2.2⟩
    · exact w1.ch c2 fun j hj q => ⟨⟨q.1, q.2.1, fun q' => by rw [hvo' j q'] at hj; omega⟩, q.2.2⟩

def FeedI (most : Int) (i : Pos) (h : Hp) (S0 : Pos → Prop) (c : Nat) (r : Rd) (bs : List Nat) (m : Nat) (fr : F) (g : Hp) : Prop :=
  ∃ vb vo rest r' gs vt vl vn vq cs, fr.get (Pos.of 0) = some (.ptr i 0) ∧ fr.get (Pos.of 1) = some vb ∧ fr.get (Pos.of 5) = some vo ∧ rest.length = m ∧ FeedS most i h S0 c r bs g vb vo rest r' gs vt vl vn vq cs
def FeedA (most : Int) (i : Pos) (h : Hp) (S0 : Pos → Prop) (r : Rd) (bs : List Nat) (fr : F) (g : Hp) : Prop :=
  ∃ vo vt vl vn vq cs, fr.get (Pos.of 5) = some vo ∧ RdAt most g i (feedsM most r bs).1 vt vl vn vq ∧ Stp S0 h (RdF i vt vl vn vq) g ∧ Own 0 g 2 vo (feedsM most r bs).2.length cs ∧ (∀ j, idOf vo = some j → h.next.nat ≤ j.nat ∧ ¬ RdF i vt vl vn vq j) ∧
    GAt (fun j => h.next.nat ≤ j.nat ∧ ¬ RdF i vt vl vn vq j ∧ idOf vo ≠ some j) g (feedsM most r bs).2 cs
theorem feeds_one (most : Int) (r : Rd) (c : Nat) : feedsM most r [c] = feedM most r c := by
  rw [feedsM, feedsM, List.append_nil]
theorem oBuildSlice_1u (c : Nat) {h : Hp} : oBuildSlice [.int .u8 0] 1 [(0, 1, .int .u8 (c : Int))] h = .ok (.slice h.next 0 1 (.kn 1)) (h.new (.cells true [.int .u8 (c : Int)])) := (rfl)
theorem feed_step (hm : 0 ≤ most) (hc : c ≤ h.next.nat) (hbs : bs.length < 400000000) (m : Nat) (fr : F) (g : Hp) (I : FeedI most i h S0 c r bs m fr g) :
    LS 0 (fun fr g => ∃ m', m' < m ∧ FeedI most i h S0 c r bs m' fr g) (FeedA most i h S0 r bs) (fun _ _ => False) (Tryb16_4 fr g) := by
  obtain ⟨vb, vo, rest, r', gs, vt, vl, vn, vq, cs, f0, f1, f5, hlen, f⟩ := I
  cases rest with
  | nil =>
    have hz : ¬ (([] : List Nat).length : Int) > 0 := by simp
    simp (disch := omega) only [seqO_eq, thenO_nor, thenO_ex, gtO_some, bndO_ok, get_set_of, cndX_tmp, ifB_false, ↓reduceIte, oBin_gtr, decide_false, Tryb16_4, Tryr16_4, f1, f.s.length, hz]
    refine ⟨rfl, vo, vt, vl, vn, vq, cs, by simp only [get_set_of, Nat.reduceEqDiff, ↓reduceIte, f5], ?_, f.p, ?_, f.oi, ?_⟩
    · rw [f.e]; exact f.a
    · rw [f.e]; show Own 0 g 2 vo (gs ++ []).length cs; rw [List.append_nil]; exact f.o
    · rw [f.e]; show GAt _ g (gs ++ []) cs; rw [List.append_nil]; exact f.w
  | cons d tl =>
    have hz : (((d :: tl).length : Nat) : Int) > 0 := by simp only [List.length_cons]; omega
    obtain ⟨B, k, hB⟩ := f.ok
    have hmu := k.mu
    unfold Rd.mu at hmu
    have hll := bytesL_len r'.lits
    have L9 := f.a.fld.2.2.2.2.2.2.2.2.2.1
    have L8 := f.a.fld.2.2.2.2.2.2.2.2.1
    have hn := f.n
    simp only [List.length_cons] at hlen hn
    by_cases ho : 0 < r'.skip ∨ r'.literal = true
    · have hwm := k.wmax
      have hsm := k.smax
      obtain ⟨v', g', n, vl', vq', e20, hn0, hn1, ht, a', p', s', cap', hid⟩ := take_ok f.a f.s f.cap f.b (by have := f.p.ch.next; omega) (by simp) ho k.want (by omega) (by omega) (by simp only [List.length_cons]; omega) (by omega) (by omega) k.qb f.by256
      have f' := f.go hm hc a' p' s' cap' hid (pre := (d :: tl).take n) (List.take_append_drop n _).symm (Prod.ext rfl ht)
      have fin : ∀ fr' : F, fr'.get (Pos.of 0) = some (.ptr i 0) → fr'.get (Pos.of 1) = some v' → fr'.get (Pos.of 5) = some vo → ∃ m', m' < m ∧ FeedI most i h S0 c r bs m' fr' g' := fun fr' a0 a1 a5 =>
        ⟨((d :: tl).drop n).length, by rw [List.length_drop]; simp only [List.length_cons] at hn1 ⊢; omega, v', vo, _, _, gs, vt, vl', vn, vq', cs, a0, a1, a5, rfl, f'⟩
      by_cases hsk : 0 < r'.skip
      · have hsk' : (r'.skip : Int) > 0 := by omega
        simp (disch := omega) only [seqO_eq, thenO_nor, thenO_ex, gtO_some, bndO_ok, get_set_of, cndX_tmp, ifB_true, blkO_eq, blkX_ex, Nat.reduceEqDiff, reduceCtorEq, ↓reduceIte, oBin_gtr, oFieldAddr_eq, oNilCheck_ptr, Nat.zero_add, decide_true, Tryb16_4, Tryr16_4, Tryr16_5, Tryr16_6, f0, f1, f.s.length, hz, L9, hsk', e20]
        exact fin _ (by simp only [get_set_of, Nat.zero_ne_one, reduceCtorEq, ↓reduceIte, f0]) (by simp only [get_set_of, ↓reduceIte]) (by simp only [get_set_of, Nat.reduceEqDiff, ↓reduceIte, f5])
      · have hsk' : ¬ (r'.skip : Int) > 0 := by omega
        have hlit : r'.literal = true := ho.resolve_left hsk
        rw [hlit] at L8
        simp (disch := omega) only [seqO_eq, thenO_nor, thenO_ex, gtO_some, bndO_ok, get_set_of, cndX_tmp, ifB_true, ifB_false, blkO_eq, blkX_ex, Nat.reduceEqDiff, reduceCtorEq, ↓reduceIte, oBin_gtr, oFieldAddr_eq, oNilCheck_ptr, Nat.zero_add, decide_true, decide_false, Tryb16_4, Tryr16_4, Tryr16_5, Tryr16_6, f0, f1, f.s.length, hz, L9, L8, hsk', e20]
        exact fin _ (by simp only [get_set_of, Nat.zero_ne_one, reduceCtorEq, ↓reduceIte, f0]) (by simp only [get_set_of, ↓reduceIte]) (by simp only [get_set_of, Nat.reduceEqDiff, ↓reduceIte, f5])
    · have hs0 : ¬ r'.skip > 0 := fun q => ho (.inl q)
      have hlit : r'.literal = false := by cases q : r'.literal with | false => rfl | true => exact absurd (.inr q) ho
      have hsk' : ¬ (r'.skip : Int) > 0 := by omega
      rw [hlit] at L8
      have hd256 := f.by256 d (by simp)
      obtain ⟨j, q, x, hx, e1, -, e2⟩ := f.s.at1 (m := 0) (by simp)
      cases (show some (V.int .u8 (d : Int)) = some x from hx)
      replace e1 : ∀ h', oIdxS 1 vb (.int .i64 0) h' = .ok (.ptr j q) h' := e1
      have e2' := e2 g rfl
      obtain ⟨v', e3, s1, cap', hid⟩ := f.s.from f.cap (by omega) (lo := 1) (by simp)
      replace e3 : ∀ h', oSlice 1 vb (some (.int .i64 1)) none none h' = .ok v' h' := e3
      replace s1 : Sl c g 1 v' tl.length (bys tl) := s1
      have hc' : c ≤ g.next.nat := by have := f.p.ch.next; omega
      have sl' : ∀ {g' : Hp} {vt' vl' vn' vq' : V}, Stp (RdF i vt vl vn vq) g (RdF i vt' vl' vn' vq') g' → Sl c g' 1 v' tl.length (bys tl) := fun p => s1.ch p.ch hc' fun j hj => f.b j (hid j hj)
      have fin : ∀ {g' : Hp} {vo' : V} {r2 : Rd} {gs' : List Ln.Got} {vt' vl' vn' vq' : V} {cs' : List V}, FeedS most i h S0 c r bs g' v' vo' tl r2 gs' vt' vl' vn' vq' cs' → ∀ fr' : F, fr'.get (Pos.of 0) = some (.ptr i 0) → fr'.get (Pos.of 1) = some v' → fr'.get (Pos.of 5) = some vo' → ∃ m', m' < m ∧ FeedI most i h S0 c r bs m' fr' g' := fun f' fr' a0 a1 a5 =>
        ⟨tl.length, by omega, v', _, tl, _, _, _, _, _, _, _, a0, a1, a5, rfl, f'⟩
      have L10 := f.a.fld.2.2.2.2.2.2.2.2.2.2
      cases hline : r'.line with
      | true =>
        rw [hline] at L10
        obtain ⟨g', e4, a', p', -⟩ := f.a.set_line (decide (d ≠ 10))
        have hf : feedsM most r' [d] = ({ r' with line := decide (d ≠ 10) }, []) := by
          rw [feeds_one]; unfold feedM; rw [if_neg hs0, hlit, hline]; rfl
        have f' := f.go hm hc a' p' (sl' p') cap' hid (pre := [d]) rfl hf
        by_cases h10 : d = 10
        · have h10' : (d : Int) = 10 := by omega
          rw [decide_eq_false (fun q => q h10)] at e4
          simp (disch := omega) only [seqO_eq, thenO_nor, gtO_some, bndO_ok, get_set_of, cndX_tmp, ifB_true, ifB_false, blkO_eq, blkX_nor, Nat.reduceEqDiff, Nat.zero_ne_one, reduceCtorEq, ↓reduceIte, oBin_neq, oBin_gtr, oFieldAddr_eq, oNilCheck_ptr, Nat.zero_add, decide_true, decide_false, ne_eq, not_true, Tryb16_4, Tryr16_4, Tryr16_5, Tryr16_7, Tryr16_8, Tryr16_15, Tryr16_16, f0, f1, f.s.length, hz, L9, L8, hsk', e1, e2', e3, L10, eq_true h10', e4]
          exact fin f' _ (by simp only [get_set_of, Nat.zero_ne_one, reduceCtorEq, ↓reduceIte, f0]) (by simp only [get_set_of, Nat.reduceEqDiff, ↓reduceIte]) (by simp only [get_set_of, Nat.reduceEqDiff, ↓reduceIte, f5])
        · have h10' : ¬ (d : Int) = 10 := by omega
          rw [decide_eq_true h10] at e4
          simp (disch := omega) only [seqO_eq, thenO_nor, gtO_some, bndO_ok, get_set_of, cndX_tmp, ifB_true, ifB_false, blkO_eq, blkX_nor, Nat.reduceEqDiff, Nat.zero_ne_one, reduceCtorEq, ↓reduceIte, oBin_neq, oBin_gtr, oFieldAddr_eq, oNilCheck_ptr, Nat.zero_add, decide_true, decide_false, ne_eq, not_false_eq_true, Tryb16_4, Tryr16_4, Tryr16_5, Tryr16_7, Tryr16_8, Tryr16_15, Tryr16_16, f0, f1, f.s.length, hz, L9, L8, hsk', e1, e2', e3, L10, h10', e4]
          exact fin f' _ (by simp only [get_set_of, Nat.zero_ne_one, reduceCtorEq, ↓reduceIte, f0]) (by simp only [get_set_of, Nat.reduceEqDiff, ↓reduceIte]) (by simp only [get_set_of, Nat.reduceEqDiff, ↓reduceIte, f5])
      | false =>
        rw [hline] at L10
        by_cases h10 : d = 10
        · have h10' : (d : Int) = 10 := by omega
          obtain ⟨x, g', e21, vt', vl', vn', vq', cs2, a', p', sx, wx⟩ := end_ok f.a k (by omega) hlit
          have hf : feedsM most r' [d] = endM most r' := by
            rw [feeds_one]; unfold feedM; rw [if_neg hs0, hlit, hline, if_neg (by simp), if_neg (by simp), if_pos h10]
          have hle : (endM most r').2.length ≤ 1 := by
            unfold endM
            split
            · split <;> simp
            · split
              · split <;> simp
              · simp only []
                split <;> simp
          obtain ⟨vo', g2, e22, f'⟩ := f.told hm hc (by omega) a' p' (sl' p') cap' hid (pre := [d]) rfl (show feedsM most r' [d] = ((endM most r').1, (endM most r').2) from hf) hle sx wx
          simp (disch := omega) only [seqO_eq, thenO_nor, gtO_some, bndO_ok, get_set_of, cndX_tmp, ifB_true, ifB_false, blkO_eq, blkX_nor, Nat.reduceEqDiff, Nat.zero_ne_one, reduceCtorEq, ↓reduceIte, oBin_eql, oBin_gtr, oFieldAddr_eq, oNilCheck_ptr, Nat.zero_add, decide_true, decide_false, Tryb16_4, Tryr16_4, Tryr16_5, Tryr16_7, Tryr16_8, Tryr16_15, Tryr16_17, Tryr16_18, f0, f1, f5, f.s.length, hz, L9, L8, hsk', e1, e2', e3, L10, eq_true h10', e21, e22]
          exact fin f' _ (by simp only [get_set_of, Nat.zero_ne_one, reduceCtorEq, ↓reduceIte, f0]) (by simp only [get_set_of, Nat.reduceEqDiff, ↓reduceIte]) (by simp only [get_set_of, ↓reduceIte])
        · have h10' : ¬ (d : Int) = 10 := by omega
          have L5 := f.a.fld.2.2.2.2.2.1
          obtain ⟨vn', g1, c1, c2, c3, c4, c5⟩ := app1_ok (bt := 1) (new := [V.int .u8 (d : Int)]) f.a.n rfl (by omega)
          obtain ⟨g2, e4, a2, p2, -⟩ := f.a.set_now (l := r'.now ++ [d]) c4 (by rw [List.length_append, bys_append]; exact c3) (fun j hj => by rw [c2] at hj; cases hj; rw [Pos.nat_succ]; omega)
          have M3 : oLoad1 (.ptr i 3) g2 = .ok (.int .i64 (r'.long : Int)) g2 := a2.fld.2.2.2.1
          have M5 : oLoad1 (.ptr i 5) g2 = .ok vn' g2 := a2.fld.2.2.2.2.2.1
          have Ml : oLenK 2 vn' g2 = .ok (.int .i64 ((r'.now.length + 1 : Nat) : Int)) g2 := by
            have := a2.n.sl.length (h' := g2)
            rw [List.length_append] at this
            exact this
          have nt : ∀ (hf : feedsM most r' [d] = ({ r' with now := r'.now ++ [d] }, [])), ∃ f' : FeedS most i h S0 c r bs g2 v' vo tl { r' with now := r'.now ++ [d] } gs vt vl vn' vq cs, True := fun hf =>
            ⟨f.go hm hc a2 p2 (sl' p2) cap' hid (pre := [d]) rfl hf, trivial⟩
          have hfl : feedsM most r' [d] = (if r'.long + (r'.now.length + 1) > 4096 ∧ (d ≠ 13 ∨ r'.long + (r'.now.length + 1) > 4097) then ({ line := true }, [⟨3, .nil⟩]) else ({ r' with now := r'.now ++ [d] }, [])) := by
            rw [feeds_one]; unfold feedM; rw [if_neg hs0, hlit, hline, if_neg (by simp), if_neg (by simp), if_neg h10]
          by_cases h96 : r'.long + (r'.now.length + 1) > 4096
          · have h96' : (r'.long : Int) + ((r'.now.length + 1 : Nat) : Int) > 4096 := by omega
            have over : ∀ (hcond : d ≠ 13 ∨ r'.long + (r'.now.length + 1) > 4097), ∃ (u : V) (g3 g4 g5 : Hp) (vo' : V), TryF22 [.ptr i 0] g2 = .ok u g3 ∧ oStore 1 (.ptr i 10) (.bool true) g3 = .ok V.undef g4 ∧ oAppend 2 32 vo (.slice g4.next 0 1 (.kn 1)) (g4.new (.cells true [.int .i64 3, .nils])) = .ok vo' g5 ∧
                FeedS most i h S0 c r bs g5 v' vo' tl { line := true } (gs ++ [⟨3, .nil⟩]) .nils .nils .nils .nils (cs ++ [.int .i64 3, .nils]) := fun hcond => by
              obtain ⟨u, g3, e22, a3, c3', n3⟩ := reset_ok a2.lt a2.get
              obtain ⟨g4, s4, a4, p4, -⟩ := a3.set_line true
              have p3 : Stp (RdF i vt vl vn vq) g (RdF i .nils .nils .nils .nils) g3 := (p2.step c3' fun j q => .inl q).less fun j q => by
                rcases q with q | q | q | q | q
                · exact .inl q
                · cases q
                · cases q
                · cases q
                · cases q
              have cc : Ch (fun _ => False) g4 (g4.new (.cells true [.int .i64 3, .nils])) := Ch.new _ _ _
              have p5 := (p3.trans p4).step cc fun j q => q.elim
              have sx := Sl.made (h := g4) [V.int .i64 3, V.nils]
              obtain ⟨vo', g5, e5, f'⟩ := f.told hm hc (by omega) (a4.ch cc fun _ _ q => q) p5 (sl' p5) cap' hid (pre := [d]) rfl (show feedsM most r' [d] = ({ line := true }, [⟨3, .nil⟩]) by rw [hfl, if_pos ⟨h96, hcond⟩]) (by simp)
                (by rw [new_next_nat]; exact sx) (GAt.one (WRow.nil _ _))
              exact ⟨u, g3, g4, g5, vo', e22, s4, e5, f'⟩
            by_cases h13 : d = 13
            · have h13' : (d : Int) = 13 := by omega
              by_cases h97 : r'.long + (r'.now.length + 1) > 4097
              · have h97' : (r'.long : Int) + ((r'.now.length + 1 : Nat) : Int) > 4097 := by omega
                obtain ⟨u, g3, g4, g5, vo', e22, e10, e5, f'⟩ := over (.inr h97)
                simp (disch := omega) only [seqO_eq, thenO_nor, gtO_some, bndO_ok, get_set_of, cndX_tmp, ifB_true, ifB_false, blkO_eq, blkX_nor, Nat.reduceEqDiff, Nat.zero_ne_one, reduceCtorEq, ↓reduceIte, oBin_add, oBin_eql, oBin_neq, oBin_gtr, oFieldAddr_eq, oBuildSlice_1, oBuildSlice_2, bumpH_zero, oNilCheck_ptr, Nat.zero_add, bumpH_zero, decide_true, decide_false, ne_eq, not_true, Tryb16_4, Tryr16_4, Tryr16_5, Tryr16_7, Tryr16_8, Tryr16_15, Tryr16_17, Tryr16_9, Tryr16_10, Tryr16_11, Tryr16_12, Tryr16_13, Tryr16_14, f0, f1, f5, f.s.length, hz, L9, L8, hsk', e1, e2', e3, L10, h10', L5, c1, e4, M3, M5, Ml, h96', eq_true h13', h97', e22, e10, oBuild_g0, oBuildSlice_2, e5]
                exact fin f' _ (by simp only [get_set_of, Nat.zero_ne_one, reduceCtorEq, ↓reduceIte, f0]) (by simp only [get_set_of, Nat.reduceEqDiff, ↓reduceIte]) (by simp only [get_set_of, ↓reduceIte])
              · have h97' : ¬ (r'.long : Int) + ((r'.now.length + 1 : Nat) : Int) > 4097 := by omega
                obtain ⟨f', -⟩ := nt (by rw [hfl, if_neg (by omega)])
                simp (disch := omega) only [seqO_eq, thenO_nor, gtO_some, bndO_ok, get_set_of, cndX_tmp, ifB_true, ifB_false, blkO_eq, blkX_nor, Nat.reduceEqDiff, Nat.zero_ne_one, reduceCtorEq, ↓reduceIte, oBin_add, oBin_eql, oBin_neq, oBin_gtr, oFieldAddr_eq, oBuildSlice_1, bumpH_zero, oNilCheck_ptr, Nat.zero_add, bumpH_zero, decide_true, decide_false, ne_eq, not_true, Tryb16_4, Tryr16_4, Tryr16_5, Tryr16_7, Tryr16_8, Tryr16_15, Tryr16_17, Tryr16_9, Tryr16_10, Tryr16_11, f0, f1, f.s.length, hz, L9, L8, hsk', e1, e2', e3, L10, h10', L5, c1, e4, M3, M5, Ml, h96', eq_true h13', h97']
                exact fin f' _ (by simp only [get_set_of, Nat.zero_ne_one, reduceCtorEq, ↓reduceIte, f0]) (by simp only [get_set_of, Nat.reduceEqDiff, ↓reduceIte]) (by simp only [get_set_of, Nat.reduceEqDiff, ↓reduceIte, f5])
            · have h13' : ¬ (d : Int) = 13 := by omega
              obtain ⟨u, g3, g4, g5, vo', e22, e10, e5, f'⟩ := over (.inl h13)
              simp (disch := omega) only [seqO_eq, thenO_nor, gtO_some, bndO_ok, get_set_of, cndX_tmp, ifB_true, ifB_false, blkO_eq, blkX_nor, Nat.reduceEqDiff, Nat.zero_ne_one, reduceCtorEq, ↓reduceIte, oBin_add, oBin_eql, oBin_neq, oBin_gtr, oFieldAddr_eq, oBuildSlice_1, oBuildSlice_2, bumpH_zero, oNilCheck_ptr, Nat.zero_add, bumpH_zero, decide_true, decide_false, ne_eq, not_false_eq_true, Tryb16_4, Tryr16_4, Tryr16_5, Tryr16_7, Tryr16_8, Tryr16_15, Tryr16_17, Tryr16_9, Tryr16_10, Tryr16_11, Tryr16_12, Tryr16_13, Tryr16_14, f0, f1, f5, f.s.length, hz, L9, L8, hsk', e1, e2', e3, L10, h10', L5, c1, e4, M3, M5, Ml, h96', h13', e22, e10, oBuild_g0, oBuildSlice_2, e5]
              exact fin f' _ (by simp only [get_set_of, Nat.zero_ne_one, reduceCtorEq, ↓reduceIte, f0]) (by simp only [get_set_of, Nat.reduceEqDiff, ↓reduceIte]) (by simp only [get_set_of, ↓reduceIte])
          · have h96' : ¬ (r'.long : Int) + ((r'.now.length + 1 : Nat) : Int) > 4096 := by omega
            obtain ⟨f', -⟩ := nt (by rw [hfl, if_neg (by omega)])
            simp (disch := omega) only [seqO_eq, thenO_nor, gtO_some, bndO_ok, get_set_of, cndX_tmp, ifB_true, ifB_false, blkO_eq, blkX_nor, Nat.reduceEqDiff, Nat.zero_ne_one, reduceCtorEq, ↓reduceIte, oBin_add, oBin_eql, oBin_neq, oBin_gtr, oFieldAddr_eq, oBuildSlice_1, bumpH_zero, oNilCheck_ptr, Nat.zero_add, bumpH_zero, decide_true, decide_false, ne_eq, Tryb16_4, Tryr16_4, Tryr16_5, Tryr16_7, Tryr16_8, Tryr16_15, Tryr16_17, Tryr16_9, Tryr16_10, Tryr16_11, f0, f1, f.s.length, hz, L9, L8, hsk', e1, e2', e3, L10, h10', L5, c1, e4, M3, M5, Ml, h96']
            exact fin f' _ (by simp only [get_set_of, Nat.zero_ne_one, reduceCtorEq, ↓reduceIte, f0]) (by simp only [get_set_of, Nat.reduceEqDiff, ↓reduceIte]) (by simp only [get_set_of, Nat.reduceEqDiff, ↓reduceIte, f5])
/-- what Feed tells -/
def FeedQ (most : Int) (i : Pos) (r : Rd) (bs : List Nat) (S0 : Pos → Prop) (h : Hp) (v : V) (g : Hp) : Prop :=
  ∃ vt vl vn vq cs, RdAt most g i (feedsM most r bs).1 vt vl vn vq ∧ Stp S0 h (RdF i vt vl vn vq) g ∧ Own 0 g 2 v (feedsM most r bs).2.length cs ∧ (∀ j, idOf v = some j → h.next.nat ≤ j.nat ∧ ¬ RdF i vt vl vn vq j) ∧
    GAt (fun j => h.next.nat ≤ j.nat ∧ ¬ RdF i vt vl vn vq j ∧ idOf v ≠ some j) g (feedsM most r bs).2 cs
theorem feed_ok {B : Nat} (hm : 0 ≤ most) (a : RdAt most h i r vt vl vn vq) (k : RdOk most B r) (hB : B + 2 * bs.length < 800000000) (s : Sl c h 1 vb bs.length (bys bs)) (cap : capOk 1 vb) (hb : ∀ j, idOf vb = some j → ¬ RdF i vt vl vn vq j) (hc : c ≤ h.next.nat) (h256 : ∀ x ∈ bs, x < 256) :
    ∃ v g, TryF16 [.ptr i 0, vb] h = .ok v g ∧ FeedQ most i r bs (RdF i vt vl vn vq) h v g := by
  rw [TryF16_eq]
  show Tells Try.prog _ (FeedQ most i r bs (RdF i vt vl vn vq) h) _
  have hnp : ∀ h, oBin .eql (.ptr 11) (.ptr i 0) .nilp h = .ok (.bool false) h := fun _ => rfl
  simp (disch := omega) only [seqO_eq, thenO_nor, gtO_some, bndO_ok, get_set_of, cndX_tmp, ifB_false, blkO_eq, Nat.zero_ne_one, reduceCtorEq, ↓reduceIte, Tryd16, Tryr16_0, Tryr16_1, Tryr16_3, hnp]
  refine Oc.then (loop_rule (n := bs.length) (FeedI most i h (RdF i vt vl vn vq) c r bs) (A := FeedA most i h (RdF i vt vl vn vq) r bs) (B := fun _ _ => False) (by rw [lf_eq]; omega) ?_ (fun m fr g I => feed_step hm hc (by omega) m fr g I)) ?_ ?_
  · exact ⟨vb, .nils, bs, r, [], vt, vl, vn, vq, [], by simp only [get_set_of, Nat.zero_ne_one, reduceCtorEq, ↓reduceIte], by simp only [get_set_of, Nat.reduceEqDiff, ↓reduceIte], by simp only [get_set_of, ↓reduceIte], rfl, s, cap, hb, a, ⟨B, k, by omega⟩, Stp.refl _ _, rfl, Own.nil _ _ _, fun j q => (by cases q), rfl, by simp, h256⟩
  · rintro fr g ⟨vo, vt', vl', vn', vq', cs, f5, a', p', o', oi', w'⟩
    simp (disch := omega) only [seqO_eq, thenO_nor, gtO_some, Tryr16_19, f5]
    exact Tells.ret (by simp only [resK, get_set_of, ↓reduceIte, tupR] <;> rfl) ⟨vt', vl', vn', vq', cs, a', p', o', oi', w'⟩
  · rintro fr g q
    exact q.elim
end Go.Proofs.Ytgnfkfmhjgbhhaa

noncomputable section
namespace Go.Ln
def Wds.get? : Wds → Nat → Option Wd
  | .nil, _ => none
  | .cons k t ks _, 0 => some ⟨k, t, ks⟩
  | .cons _ _ _ r, n + 1 => r.get? n
theorem Wds.get?_lt : ∀ {ws : Wds} {k : Nat} {w : Wd}, ws.get? k = some w → k < ws.len
  | .nil, _, _, h => by cases h
  | .cons _ _ _ _, 0, _, _ => by simp [Wds.len]
  | .cons _ _ _ r, n + 1, w, h => by have := Wds.get?_lt (ws := r) h; simp only [Wds.len]; omega
end Go.Ln
namespace Go.Proofs.Ytgnfkfmhjgbhhaa
open Go Go.Proofs Go.Vm Go.Ln
set_option linter.unusedVariables false
set_option maxRecDepth 100000
set_option linter.unusedSimpArgs false
/-- a row of what was told -/
def Told (P : Pos → Prop) (h : Hp) (v : V) (gs : List Ln.Got) : Prop := ∃ cs, Own 0 h 2 v gs.length cs ∧ (∀ j, idOf v = some j → P j) ∧ GAt P h gs cs
theorem Told.ch {P P' S : Pos → Prop} {h h' : Hp} {v : V} {gs : List Ln.Got} (t : Told P h v gs) (c : Ch S h h') (hs : ∀ j : Pos, j.nat < h.next.nat → P j → P' j ∧ ¬ S j) : Told P' h' v gs := by
  obtain ⟨cs, o, i, w⟩ := t
  exact ⟨cs, o.ch c fun j hj => (hs j (o.idlt hj).2 (i j hj)).2, fun j hj => (hs j (o.idlt hj).2 (i j hj)).1, w.ch c hs⟩
theorem Told.len {P : Pos → Prop} {h : Hp} {v : V} {gs : List Ln.Got} (t : Told P h v gs) (h' : Hp) : oLenK 2 v h' = .ok (.int .i64 (gs.length : Int)) h' := by
  obtain ⟨cs, o, i, w⟩ := t
  exact o.sl.length
theorem GAt.get {P : Pos → Prop} {h : Hp} : ∀ {gs : List Ln.Got} {cs : List V} {k : Nat} {g : Ln.Got}, GAt P h gs cs → gs[k]? = some g → cs[k * 2]? = some (.int .i64 g.kind) ∧ ∃ vw, cs[k * 2 + 1]? = some vw ∧ WRow P h vw g.words
  | [], _, k, g, _, e => by cases e
  | g0 :: l, _, 0, g, ⟨vw, cr, e1, w, r⟩, e => by
    cases e
    subst e1
    exact ⟨rfl, vw, rfl, w⟩
  | g0 :: l, _, k + 1, g, ⟨vw, cr, e1, w, r⟩, e => by
    subst e1
    have := GAt.get (k := k) r e
    rw [show (k + 1) * 2 = k * 2 + 2 by omega]
    exact this
theorem Told.at {P : Pos → Prop} {h : Hp} {v : V} {gs : List Ln.Got} (t : Told P h v gs) {k : Nat} {g : Ln.Got} (e : gs[k]? = some g) :
    ∃ j q vw, (∀ h', oIdxS 2 v (.int .i64 (k : Int)) h' = .ok (.ptr j q) h') ∧ oLoad1 (.ptr j q) h = .ok (.int .i64 g.kind) h ∧ oLoad1 (.ptr j (q + 1)) h = .ok vw h ∧ WRow P h vw g.words := by
  obtain ⟨cs, o, i, w⟩ := t
  have hk : k < gs.length := (List.getElem?_eq_some_iff.1 e).1
  obtain ⟨j, q, e1, -, e2⟩ := o.sl.at hk
  obtain ⟨c0, vw, c1, w1⟩ := w.get e
  exact ⟨j, q, vw, e1, e2 h rfl 0 _ (by omega) c0, e2 h rfl 1 _ (by omega) c1, w1⟩
theorem WAt.get {P : Pos → Prop} {h : Hp} : ∀ {ws : Wds} {cs : List V} {k : Nat} {w : Wd}, WAt P h ws cs → ws.get? k = some w → cs[k * 3]? = some (.int .i64 w.kind) ∧ cs[k * 3 + 1]? = some (.str w.text) ∧ ∃ vk, cs[k * 3 + 2]? = some vk ∧ WRow P h vk w.kids
  | .nil, _, k, w, _, e => by cases e
  | .cons _ _ _ _, _, 0, w, ⟨vk, ck, cr, e1, o, p, x, r⟩, e => by
    cases e
    subst e1
    exact ⟨rfl, rfl, vk, rfl, ck, o, p, x⟩
  | .cons _ _ _ l, _, k + 1, w, ⟨vk, ck, cr, e1, o, p, x, r⟩, e => by
    subst e1
    have := WAt.get (k := k) r e
    rw [show (k + 1) * 3 = k * 3 + 3 by omega]
    exact this
theorem WRow.len {P : Pos → Prop} {h : Hp} {v : V} {ws : Wds} (t : WRow P h v ws) (h' : Hp) : oLenK 2 v h' = .ok (.int .i64 (ws.len : Int)) h' := by
  obtain ⟨cs, o, i, w⟩ := t
  exact o.sl.length
theorem WRow.at {P : Pos → Prop} {h : Hp} {v : V} {ws : Wds} (t : WRow P h v ws) {k : Nat} {w : Wd} (e : ws.get? k = some w) :
    ∃ j q vk, (∀ h', oIdxS 3 v (.int .i64 (k : Int)) h' = .ok (.ptr j q) h') ∧ oLoad1 (.ptr j q) h = .ok (.int .i64 w.kind) h ∧ oLoad1 (.ptr j (q + 1)) h = .ok (.str w.text) h ∧ oLoad1 (.ptr j (q + 2)) h = .ok vk h ∧ WRow P h vk w.kids := by
  obtain ⟨cs, o, i, x⟩ := t
  have hk := Wds.get?_lt e
  obtain ⟨j, q, e1, -, e2⟩ := o.sl.at hk
  obtain ⟨c0, c1, vk, c2, w1⟩ := WAt.get x e
  exact ⟨j, q, vk, e1, e2 h rfl 0 _ (by omega) c0, e2 h rfl 1 _ (by omega) c1, e2 h rfl 2 _ (by omega) c2, w1⟩
/-- a new reader -/
theorem new_ok (most : Int) (h : Hp) : ∃ h', TryF13 [.int .i64 most] h = .ok (.ptr h.next 0) h' ∧ RdAt (max most 1) h' h.next {} .nils .nils .nils .nils ∧ Ch (fun _ => False) h h' ∧ h'.next.nat = h.next.nat + 1 := by
  rw [TryF13_eq]
  simp (disch := omega) only [seqO_eq, thenO_nor, gtO_some, bndO_ok, get_set_of, reduceCtorEq, ↓reduceIte, oMax_eq, Tryd13, Tryr13_0, Tryr13_1, oBuild_rd, oBox_agg, outR, resK, tupR]
  exact ⟨_, rfl, RdAt.fresh (by rw [new_next_nat]; omega) (new_self _ _), Ch.new _ _ _, new_next_nat _ _⟩
/-- bytes of a text are fed -/
theorem feed_s {most : Int} {B : Nat} {h : Hp} {i : Pos} {r : Rd} {vt vl vn vq : V} (hm : 0 ≤ most) (a : RdAt most h i r vt vl vn vq) (k : RdOk most B r) {s : List Nat} (hB : B + 2 * s.length < 800000000) (h256 : ∀ x ∈ s, x < 256) :
    ∃ v g vt' vl' vn' vq', TryF16 [.ptr i 0, .slice h.next 0 s.length (.un 1)] (h.new (.bytes (bys s))) = .ok v g ∧ RdAt most g i (feedsM most r s).1 vt' vl' vn' vq' ∧ Stp (RdF i vt vl vn vq) h (RdF i vt' vl' vn' vq') g ∧
      Told (fun j => h.next.nat ≤ j.nat ∧ ¬ RdF i vt' vl' vn' vq' j) g v (feedsM most r s).2 := by
  have c : Ch (fun _ => False) h (h.new (.bytes (bys s))) := Ch.new _ _ _
  have sl : Sl (h.next.nat + 1) (h.new (.bytes (bys s))) 1 (.slice h.next 0 s.length (.un 1)) s.length (bys s) := ⟨by rw [bys_length, Nat.mul_one], .inr ⟨h.next, 0, _, false, bys s, rfl, by omega, by rw [new_self]; rfl, fun k _ => by rw [Nat.zero_add]⟩⟩
  have a' := a.ch c fun _ _ q => q
  obtain ⟨v, g, e, vt', vl', vn', vq', cs, b, p, o, oi, w⟩ := feed_ok hm a' k hB sl (fun i o n c e => by cases e; rfl) (fun j hj q => by cases hj; have := a.idlt q; omega) (by rw [new_next_nat]; omega) h256
  have p' : Stp (RdF i vt vl vn vq) h (RdF i vt' vl' vn' vq') g := (Stp.refl (RdF i vt vl vn vq) h |>.step c fun _ q => q.elim).trans p
  have hn := c.next
  exact ⟨v, g, vt', vl', vn', vq', e, b, p', cs, o, fun j hj => ⟨Nat.le_trans hn (oi j hj).1, (oi j hj).2⟩, w.ch (Ch.refl (fun _ => False) _) fun j hj q => ⟨⟨Nat.le_trans hn q.1, q.2.1⟩, fun q => q⟩⟩
end Go.Proofs.Ytgnfkfmhjgbhhaa

namespace Go.Ln
open Go Go.Vm
set_option linter.unusedVariables false
theorem feeds_one' (most : Int) (r : Rd) (c : Nat) : feedsM most r [c] = feedM most r c := by
  rw [feedsM, feedsM, List.append_nil]
/-- bytes of a line -/
theorem feeds_now (most : Int) : ∀ (b : List Nat) (r : Rd), r.skip = 0 → r.literal = false → r.line = false → (∀ c ∈ b, c ≠ 10) → r.long + r.now.length + b.length ≤ 4096 → feedsM most r b = ({ r with now := r.now ++ b }, [])
  | [], r, _, _, _, _, _ => by simp [feedsM]
  | c :: b, r, h1, h2, h3, h4, h5 => by
    simp only [List.length_cons] at h5
    have e : feedM most r c = ({ r with now := r.now ++ [c] }, []) := by
      unfold feedM; rw [if_neg (by omega), h2, h3, if_neg (by simp), if_neg (by simp), if_neg (h4 c (by simp)), if_neg (by omega)]
    rw [feedsM, e]
    simp only []
    rw [feeds_now most b { r with now := r.now ++ [c] } h1 h2 h3 (fun d hd => h4 d (by simp [hd])) (by simp only [List.length_append, List.length_cons, List.length_nil]; omega)]
    simp
/-- a line that is passed over -/
theorem feeds_line (most : Int) : ∀ (b : List Nat) (r : Rd), r.skip = 0 → r.literal = false → r.line = true → (∀ c ∈ b, c ≠ 10) → feedsM most r b = (r, [])
  | [], r, _, _, _, _ => rfl
  | c :: b, r, h1, h2, h3, h4 => by
    have e : feedM most r c = (r, []) := by
      unfold feedM; rw [if_neg (by omega), h2, h3, if_neg (by simp), if_pos rfl]
      have : decide (c ≠ 10) = true := decide_eq_true (h4 c (by simp))
      rw [this, ← h3, ← h2]
    rw [feedsM, e]
    simp only []
    rw [feeds_line most b r h1 h2 h3 (fun d hd => h4 d (by simp [hd]))]
    rfl
theorem feed_line_nl (most : Int) (r : Rd) (h1 : r.skip = 0) (h2 : r.literal = false) (h3 : r.line = true) : feedsM most r [10] = ({ r with line := false }, []) := by
  rw [feeds_one']; unfold feedM; rw [if_neg (by omega), h2, h3, if_neg (by simp), if_pos rfl]; rfl
theorem feed_nl (most : Int) (r : Rd) (h1 : r.skip = 0) (h2 : r.literal = false) (h3 : r.line = false) : feedsM most r [10] = endM most r := by
  rw [feeds_one']; unfold feedM; rw [if_neg (by omega), h2, h3, if_neg (by simp), if_neg (by simp), if_pos rfl]
theorem feed_cr (most : Int) (r : Rd) (h1 : r.skip = 0) (h2 : r.literal = false) (h3 : r.line = false) (h4 : r.long + (r.now.length + 1) ≤ 4097) : feedsM most r [13] = ({ r with now := r.now ++ [13] }, []) := by
  rw [feeds_one']; unfold feedM; rw [if_neg (by omega), h2, h3, if_neg (by simp), if_neg (by simp), if_neg (by omega), if_neg (by omega)]
theorem feed_over (most : Int) (r : Rd) (c : Nat) (h1 : r.skip = 0) (h2 : r.literal = false) (h3 : r.line = false) (hc : c ≠ 10) (hd : c ≠ 13) (h4 : r.long + (r.now.length + 1) > 4096) : feedsM most r [c] = ({ line := true }, [⟨3, .nil⟩]) := by
  rw [feeds_one']; unfold feedM; rw [if_neg (by omega), h2, h3, if_neg (by simp), if_neg (by simp), if_neg hc, if_pos ⟨h4, .inl hd⟩]
theorem cutCR_cr (t : List Nat) : cutCR (t ++ [13]) = t := by
  unfold cutCR; rw [if_pos (by simp)]; simp
theorem cutCR_no {t : List Nat} (h : ∀ c ∈ t, c ≠ 13) : cutCR t = t := by
  unfold cutCR; rw [if_neg]
  intro e
  exact h 13 (List.mem_of_getLast? e) rfl
/-- the end of a line, with or without a carriage return -/
def eol (cr : Bool) : List Nat := if cr then [13, 10] else [10]
/-- a line as a whole: what its end tells of its text -/
theorem feeds_text (most : Int) (r : Rd) (b : List Nat) (cr : Bool) (h1 : r.skip = 0) (h2 : r.literal = false) (h3 : r.line = false) (h10 : ∀ c ∈ b, c ≠ 10) (h13 : ∀ c ∈ r.now ++ b, c ≠ 13) (h5 : r.long + r.now.length + b.length ≤ 4096) :
    ∃ x, cutCR x = r.now ++ b ∧ feedsM most r (b ++ eol cr) = endM most { r with now := x } := by
  cases cr with
  | false =>
    refine ⟨r.now ++ b, cutCR_no h13, ?_⟩
    rw [show eol false = [10] from rfl, feedsM_append, feeds_now most b r h1 h2 h3 h10 h5]
    simp only [List.nil_append]
    rw [feed_nl most { r with now := r.now ++ b } h1 h2 h3]
  | true =>
    refine ⟨r.now ++ b ++ [13], cutCR_cr _, ?_⟩
    rw [show eol true = [13] ++ [10] from rfl, ← List.append_assoc, feedsM_append, feedsM_append, feeds_now most b r h1 h2 h3 h10 h5]
    simp only [List.nil_append]
    rw [feed_cr most { r with now := r.now ++ b } h1 h2 h3 (by simp only [List.length_append]; omega)]
    simp only [List.nil_append]
    rw [feed_nl most { r with now := r.now ++ b ++ [13] } h1 h2 h3]
/-- a text that is no marker, and the whole command -/
theorem endM_words {most : Int} {r : Rd} {ws : Wds} (hm : markerM (cutCR r.now) = none) (hp : parseM (r.texts ++ [cutCR r.now]) r.lits = some ws) : endM most r = ({}, [⟨1, ws⟩]) := by
  unfold endM; rw [hm]; simp only []; rw [hp]
theorem markerM_no {t : List Nat} (h : t.getLast? ≠ some 125) : markerM t = none := by unfold markerM; rw [if_neg h]
theorem endM_want {most : Int} {r : Rd} {a : List Nat} {n : Nat} {p : Bool} (hm : markerM (cutCR r.now) = some (a, n, p)) (hn : (n : Int) ≤ most - r.wide) : endM most r =
    ({ texts := r.texts ++ [a], lits := if n = 0 then r.lits ++ [[]] else r.lits, long := r.long + (cutCR r.now).length, wide := r.wide + n, now := [], want := n, lit := r.lit, literal := decide (0 < n), skip := r.skip, line := r.line }, if p then [] else [⟨2, .nil⟩]) := by
  unfold endM; rw [hm]; simp only []; rw [if_neg (by omega)]
theorem endM_great {most : Int} {r : Rd} {a : List Nat} {n : Nat} {p : Bool} (hm : markerM (cutCR r.now) = some (a, n, p)) (hn : (n : Int) > most - r.wide) : endM most r = (if p then ({ skip := n, line := true }, [⟨3, .nil⟩]) else ({}, [⟨3, .nil⟩])) := by
  unfold endM; rw [hm]; simp only []; rw [if_pos hn]
/-! words -/
theorem atomC_no {c : Nat} (h : atomC c = true) : c ≠ 34 ∧ c ≠ 40 ∧ c ≠ 32 ∧ c ≠ 10 ∧ c ≠ 13 := by
  unfold atomC at h
  have := of_decide_eq_true h
  omega
theorem span_atom : ∀ {a t : List Nat}, (∀ c ∈ a, atomC c = true) → (∀ d l, t = d :: l → atomC d = false) → (a ++ t).takeWhile atomC = a ∧ (a ++ t).dropWhile atomC = t
  | [], [], _, _ => ⟨rfl, rfl⟩
  | [], d :: l, _, h => by
    have := h d l rfl
    simp [List.takeWhile, List.dropWhile, this]
  | c :: a, t, h1, h2 => by
    have ih := span_atom (a := a) (t := t) (fun d hd => h1 d (by simp [hd])) h2
    have hc := h1 c (by simp)
    simp [List.takeWhile, List.dropWhile, hc, ih.1, ih.2]
theorem wordM_atom {n : Nat} {a t : List Nat} {r : List (List Nat × List Nat)} (h0 : a ≠ []) (h1 : ∀ c ∈ a, atomC c = true) (h2 : ∀ d l, t = d :: l → atomC d = false) : wordM n ⟨a ++ t, r⟩ = some (⟨1, a, .nil⟩, ⟨t, r⟩) := by
  have hs := span_atom h1 h2
  cases a with
  | nil => exact absurd rfl h0
  | cons c a =>
    have hc := h1 c (by simp)
    have hn := atomC_no hc
    rw [List.cons_append] at hs ⊢
    rw [wordM.eq_def]
    simp only []
    rw [if_neg (by omega), if_neg (by omega), if_pos hc, hs.1, hs.2]
def escM : List Nat → List Nat
  | [] => []
  | c :: t => if c = 34 ∨ c = 92 then 92 :: c :: escM t else c :: escM t
theorem quotedM_esc : ∀ {t s : List Nat}, (∀ c ∈ t, c ≠ 13) → quotedM (escM t ++ 34 :: s) = some (t, s)
  | [], s, _ => by rw [escM, List.nil_append, quotedM.eq_def]; rfl
  | c :: t, s, h => by
    have ih := quotedM_esc (t := t) (s := s) fun d hd => h d (by simp [hd])
    have hc := h c (by simp)
    rw [escM]
    by_cases h1 : c = 34 ∨ c = 92
    · rw [if_pos h1, List.cons_append, List.cons_append, quotedM.eq_def]
      simp only []
      rw [if_neg (by omega), if_neg (by omega), if_pos trivial, if_pos h1, ih]
    · rw [if_neg h1, List.cons_append, quotedM.eq_def]
      simp only []
      rw [if_neg (by omega), if_neg hc, if_neg (by omega), ih]
theorem wordM_quoted {n : Nat} {t s : List Nat} {r : List (List Nat × List Nat)} (h : ∀ c ∈ t, c ≠ 13) : wordM n ⟨34 :: (escM t ++ 34 :: s), r⟩ = some (⟨2, t, .nil⟩, ⟨s, r⟩) := by
  rw [wordM.eq_def]
  simp only []
  rw [if_pos trivial, quotedM_esc h]
theorem wordM_lit {n : Nat} {l t : List Nat} {r : List (List Nat × List Nat)} : wordM n ⟨[], (l, t) :: r⟩ = some (⟨2, l, .nil⟩, ⟨t, r⟩) := by rw [wordM.eq_def]
def Parses (n : Nat) (st : St) (ws : Wds) (st' : St) : Prop := ∀ f, St.size st < f → loopW (wordM n) f st = some (ws, st')
theorem Parses.one {n : Nat} {st st1 : St} {w : Wd} (h1 : wordM n st = some (w, st1)) (h2 : nextM 32 st1 = none) : Parses n st (.cons w.kind w.text w.kids .nil) st1 := by
  intro f hf
  cases f with
  | zero => omega
  | succ f => rw [loopW, h1]; simp only []; rw [h2]
theorem Parses.cons {n : Nat} {st st1 st2 st' : St} {w : Wd} {ws : Wds} (h1 : wordM n st = some (w, st1)) (h2 : nextM 32 st1 = some st2) (h3 : Parses n st2 ws st') : Parses n st (.cons w.kind w.text w.kids ws) st' := by
  intro f hf
  have s1 := wordM_size h1
  have s2 := nextM_size h2
  cases f with
  | zero => omega
  | succ f => rw [loopW, h1]; simp only []; rw [h2]; simp only []; rw [h3 f (by omega)]
theorem wordM_list {n : Nat} {s : List Nat} {r : List (List Nat × List Nat)} {ws : Wds} {st st' : St} (h1 : nextM 41 ⟨s, r⟩ = none) (h2 : Parses n ⟨s, r⟩ ws st) (h3 : nextM 41 st = some st') : wordM (n + 1) ⟨40 :: s, r⟩ = some (⟨3, [], ws⟩, st') := by
  rw [wordM.eq_def]
  simp only []
  rw [if_neg (by omega), if_pos trivial, h1]
  simp only []
  rw [h2 _ (Nat.lt_succ_self _)]
  simp only []
  rw [h3]
theorem wordM_list0 {n : Nat} {s : List Nat} {r : List (List Nat × List Nat)} : wordM (n + 1) ⟨40 :: 41 :: s, r⟩ = some (⟨3, [], .nil⟩, ⟨s, r⟩) := by
  rw [wordM.eq_def]
  simp only []
  rw [if_neg (by omega), if_pos trivial]
  rfl
theorem parseM_of {t : List Nat} {ts lits : List (List Nat)} {ws : Wds} (h1 : placesM true (t :: ts) lits = true) (h2 : Parses 8 ⟨t, lits.zip ts⟩ ws ⟨[], []⟩) : parseM (t :: ts) lits = some ws := by
  unfold parseM
  simp only []
  rw [if_pos h1, h2 _ (Nat.lt_succ_self _)]
  simp
end Go.Ln

noncomputable section
namespace Go.Proofs.Ytgnfkfmhjgbhhaa
open Go Go.Proofs Go.Vm
set_option linter.unusedVariables false
set_option maxRecDepth 100000
/-! 19: pillarbox/pillarboxlaw22.digits -/
def Tryk19 : Nat → Bool := fun t => memN t [0, 2, 4]
def Tryr19_0 (V19 : Fun) (fr : F) (h : Hp) : Out :=
  Out.nor (T.set (some (.str [])) (Pos.of 2) fr) h
def Tryr19_1 (V19 : Fun) (fr : F) (h : Hp) : Out :=
  gtO (T.get fr (Pos.of 0)) fun v0 => bndO (oBin .lss .none v0 (.int .i64 10) h) fun v4 h1 =>
  Out.nor (T.set (some v4) (Pos.of 4) fr) h1
def Tryr19_2 (V19 : Fun) (fr : F) (h : Hp) : Out :=
  gtO (T.get fr (Pos.of 0)) fun v0 => bndO (oBin .add .none (.int .i64 48) v0 h) fun v6 h1 =>
  bndO (oConvInt .u8 v6 h1) fun v7 h2 =>
  bndO (oBuildSlice [(.int .u8 0)] 1 [(0, 1, v7)] h2) fun v8 h3 =>
  bndO (oBytesStr v8 h3) fun v9 h4 =>
  Out.nor (T.set (some v9) (Pos.of 2) fr) h4
def Tryr19_3 (V19 : Fun) (fr : F) (h : Hp) : Out :=
  gtO (T.get fr (Pos.of 0)) fun w0_0 => bndO (oBin .quo .none w0_0 (.int .i64 10) (bumpH 1 h)) fun v11 _ =>
  bndO (V19 [v11] (bumpH 1 h)) fun v12 h2 =>
  gtO (T.get fr (Pos.of 0)) fun w3_0 => bndO (oBin .rem .none w3_0 (.int .i64 10) h2) fun v14 _ =>
  bndO (oBin .add .none (.int .i64 48) v14 h2) fun v15 _ =>
  bndO (oConvInt .u8 v15 h2) fun v16 _ =>
  alcO (aBuildSlice [(.int .u8 0)] 1 [(0, 1, v16)]) fun ob7 mk7 =>
  ownO (mk7 (Hp.next h)) (Pos.succ (Hp.next h)) (bndO (oBytesStr (mk7 (Hp.next h)) (Hp.put h2 (Hp.next h) (some ob7))) fun v18 _ =>
  bndO (oBin .add .none v12 v18 h2) fun v19 _ =>
  Out.nor (T.set (some v19) (Pos.of 2) fr) (Hp.put h2 (Hp.next h) (some ob7)))
def Tryd19 (V19 : Fun) : F → Hp → Out := (seqO (Tryr19_0 V19) (seqO (seqO (Tryr19_1 V19) (cndX (.tmp 4) (seqO (Tryr19_2 V19) Out.ret) Out.nor)) (seqO (Tryr19_3 V19) Out.ret)))
def Trye19 (V19 : Fun) : FuncId → Option Fun := fun f => match Nat.beq f 19 with | true => some V19 | false => none
def Tryp19 : Plans := fun id => match Nat.beq id 3 with | true => some ([0, 1, 3, 0, 8, 24, 56, 120, 248, 511, 1023], [(0, .pure), (1, .pure), (2, .heavy), (3, .pure), (4, .pure), (5, .pure), (6, .pure), (7, .alloc), (8, .own 7), (9, .pure), (10, .pure)]) | false => none
def TryF19 (V19 : Fun) : Fun := funX Try.prog 0 Tryk19 (Trye19 V19) Tryp19 lf Try.f19
theorem TryD19 (V19 : Fun) : denX Try.prog 0 Try.f19.ntmps Tryk19 (Trye19 V19) Tryp19 lf (codeOf Try.f19) = (Tryd19 V19) := by kernel_rfl
theorem TryF19_eq (V19 : Fun) (x0 : V) (h : Hp) : (TryF19 V19) [x0] h = outR Try.prog [.tmp 2] ((Tryd19 V19) (T.set (some x0) (Pos.of 0) T.nil) h) := funX_eq (by kernel_rfl) (TryD19 V19) (by kernel_rfl) h
theorem Tryc19 (V19 : Fun) (H19 : CallOk Try.prog 0 19 V19) : CallOk Try.prog 0 19 (TryF19 V19) := funX_ok Trymix (callsOk_cons H19 callsOk_0) Try.func19 (by kernel_rfl)

/-! 18: pillarbox/pillarboxref22.Words -/
def Tryk18 : Nat → Bool := fun t => memN t [0, 1, 4, 5, 10, 14, 54]
def Tryr18_0 (V18 : Fun) (fr : F) (h : Hp) : Out :=
  Out.nor (T.set (some (.bool false)) (Pos.of 4) fr) h
def Tryr18_1 (V18 : Fun) (fr : F) (h : Hp) : Out :=
  gtO (T.get fr (Pos.of 0)) fun v0 => bndO (oLenK 2 v0 h) fun v7 h1 =>
  gtO (T.get fr (Pos.of 1)) fun v1 => bndO (oLenK 2 v1 h1) fun v9 h3 =>
  bndO (oBin .neq .none v7 v9 h3) fun v10 h4 =>
  Out.nor (T.set (some v10) (Pos.of 10) fr) h4
def Tryr18_2 (V18 : Fun) (fr : F) (h : Hp) : Out :=
  Out.nor (T.set (some (.bool false)) (Pos.of 4) fr) h
def Tryr18_3 (V18 : Fun) (fr : F) (h : Hp) : Out :=
  Out.nor (T.set (some (.int .i64 0)) (Pos.of 5) fr) h
def Tryr18_4 (V18 : Fun) (fr : F) (h : Hp) : Out :=
  gtO (T.get fr (Pos.of 5)) fun v5 => gtO (T.get fr (Pos.of 0)) fun v0 => bndO (oLenK 2 v0 h) fun v13 h2 =>
  bndO (oBin .lss .none v5 v13 h2) fun v14 h3 =>
  Out.nor (T.set (some v14) (Pos.of 14) fr) h3
def Tryr18_6 (V18 : Fun) (fr : F) (h : Hp) : Out :=
  gtO (T.get fr (Pos.of 0)) fun w0_0 => gtO (T.get fr (Pos.of 5)) fun w1_5 => bndO (oIdxS 3 w0_0 w1_5 (bumpH 0 h)) fun v19 _ =>
  bndO (oFieldAddr 0 v19 (bumpH 0 h)) fun v20 _ =>
  bndO (oLoad1 v20 (bumpH 0 h)) fun v21 _ =>
  gtO (T.get fr (Pos.of 1)) fun w5_1 => gtO (T.get fr (Pos.of 5)) fun w6_5 => bndO (oIdxS 3 w5_1 w6_5 (bumpH 0 h)) fun v24 _ =>
  bndO (oFieldAddr 0 v24 (bumpH 0 h)) fun v25 _ =>
  bndO (oLoad1 v25 (bumpH 0 h)) fun v26 _ =>
  bndO (oBin .neq .none v21 v26 (bumpH 0 h)) fun v27 _ =>
  ifB v27 (Out.nor (T.set (some (.bool true)) (Pos.of 54) fr) (bumpH 0 h)) (gtO (T.get fr (Pos.of 0)) fun w12_0 => gtO (T.get fr (Pos.of 5)) fun w13_5 => bndO (oIdxS 3 w12_0 w13_5 (bumpH 0 h)) fun v31 _ =>
  bndO (oFieldAddr 1 v31 (bumpH 0 h)) fun v32 _ =>
  bndO (oLoad1 v32 (bumpH 0 h)) fun v33 _ =>
  gtO (T.get fr (Pos.of 1)) fun w17_1 => gtO (T.get fr (Pos.of 5)) fun w18_5 => bndO (oIdxS 3 w17_1 w18_5 (bumpH 0 h)) fun v36 _ =>
  bndO (oFieldAddr 1 v36 (bumpH 0 h)) fun v37 _ =>
  bndO (oLoad1 v37 (bumpH 0 h)) fun v38 _ =>
  bndO (oBin .neq .none v33 v38 (bumpH 0 h)) fun v39 _ =>
  ifB v39 (Out.nor (T.set (some (.bool true)) (Pos.of 54) fr) (bumpH 0 h)) (gtO (T.get fr (Pos.of 0)) fun w25_0 => gtO (T.get fr (Pos.of 5)) fun w26_5 => bndO (oIdxS 3 w25_0 w26_5 (bumpH 0 h)) fun v44 _ =>
  bndO (oFieldAddr 2 v44 (bumpH 0 h)) fun v45 _ =>
  bndO (oLoad1 v45 (bumpH 0 h)) fun v46 _ =>
  gtO (T.get fr (Pos.of 1)) fun w30_1 => gtO (T.get fr (Pos.of 5)) fun w31_5 => bndO (oIdxS 3 w30_1 w31_5 (bumpH 0 h)) fun v49 _ =>
  bndO (oFieldAddr 2 v49 (bumpH 0 h)) fun v50 _ =>
  bndO (oLoad1 v50 (bumpH 0 h)) fun v51 _ =>
  bndO (V18 [v46, v51] (bumpH 0 h)) fun v52 h35 =>
  bndO (oUn .not v52 h35) fun v53 _ =>
  Out.nor (T.set (some v53) (Pos.of 54) fr) h35))
def Tryr18_7 (V18 : Fun) (fr : F) (h : Hp) : Out :=
  Out.nor (T.set (some (.bool false)) (Pos.of 4) fr) h
def Tryr18_5 (V18 : Fun) (fr : F) (h : Hp) : Out :=
  gtO (T.get fr (Pos.of 5)) fun v5 => bndO (oBin .add .none v5 (.int .i64 1) h) fun v16 h1 =>
  Out.nor (T.set (some v16) (Pos.of 5) fr) h1
def Tryr18_8 (V18 : Fun) (fr : F) (h : Hp) : Out :=
  Out.nor (T.set (some (.bool true)) (Pos.of 4) fr) h
def Tryb18_4 (V18 : Fun) : F → Hp → Out := (seqO (seqO (Tryr18_4 V18) (cndX (.tmp 14) Out.nor (Out.ex 0))) (seqO (blkO 1 (seqO (Tryr18_6 V18) (cndX (.tmp 54) (seqO (Tryr18_7 V18) Out.ret) Out.nor))) (Tryr18_5 V18)))
def Tryd18 (V18 : Fun) : F → Hp → Out := (seqO (Tryr18_0 V18) (seqO (seqO (Tryr18_1 V18) (cndX (.tmp 10) (seqO (Tryr18_2 V18) Out.ret) Out.nor)) (seqO (seqO (Tryr18_3 V18) (blkO 0 (loopO (Tryb18_4 V18) lf))) (seqO (Tryr18_8 V18) Out.ret))))
def Trye18 (V18 : Fun) : FuncId → Option Fun := fun f => match Nat.beq f 18 with | true => some V18 | false => none
def Tryp18 : Plans := fun id => match Nat.beq id 6 with | true => some ([0, 0, 3, 7, 15, 0, 0, 96, 224, 480, 1023, 2047, 4095, 4095, 16383, 32767, 65535, 4095, 4095, 397311, 921599, 1970175, 4194303, 8388607, 16777215, 33554431, 33554431, 134217727, 268435455, 536870911, 33554431, 33554431, 3254779903, 7549747199, 16139681791, 34359738367, 68719476735, 137438953471], [(0, .pure), (1, .pure), (2, .pure), (3, .pure), (4, .read 0), (5, .pure), (6, .pure), (7, .pure), (8, .pure), (9, .read 0), (10, .pure), (11, .pure), (12, .pure), (13, .pure), (14, .pure), (15, .pure), (16, .read 0), (17, .pure), (18, .pure), (19, .pure), (20, .pure), (21, .read 0), (22, .pure), (23, .pure), (24, .pure), (25, .pure), (26, .pure), (27, .pure), (28, .pure), (29, .read 0), (30, .pure), (31, .pure), (32, .pure), (33, .pure), (34, .read 0), (35, .heavy), (36, .pure), (37, .pure)]) | false => none
def TryF18 (V18 : Fun) : Fun := funX Try.prog 0 Tryk18 (Trye18 V18) Tryp18 lf Try.f18
theorem TryD18 (V18 : Fun) : denX Try.prog 0 Try.f18.ntmps Tryk18 (Trye18 V18) Tryp18 lf (codeOf Try.f18) = (Tryd18 V18) := by kernel_rfl
theorem TryF18_eq (V18 : Fun) (x0 x1 : V) (h : Hp) : (TryF18 V18) [x0, x1] h = outR Try.prog [.tmp 4] ((Tryd18 V18) (T.set (some x1) (Pos.of 1) (T.set (some x0) (Pos.of 0) T.nil)) h) := funX_eq (by kernel_rfl) (TryD18 V18) (by kernel_rfl) h
theorem Tryc18 (V18 : Fun) (H18 : CallOk Try.prog 0 18 V18) : CallOk Try.prog 0 18 (TryF18 V18) := funX_ok Trymix (callsOk_cons H18 callsOk_0) Try.func18 (by kernel_rfl)

/-- digits, with so many calls in one another -/
def TryG : Nat → Fun
  | 0 => fun _ _ => .bad
  | n + 1 => TryF19 (TryG n)
theorem TryG_ok : ∀ n, CallOk Try.prog 0 19 (TryG n)
  | 0 => fun _ _ _ _ _ _ _ e => by cases e
  | n + 1 => Tryc19 _ (TryG_ok n)
def TryF19r : Fun := TryG 5
theorem Tryc19r : CallOk Try.prog 0 19 TryF19r := TryG_ok 5
/-- are two lists of words one -/
def TryH : Nat → Fun
  | 0 => fun _ _ => .bad
  | n + 1 => TryF18 (TryH n)
theorem TryH_ok : ∀ n, CallOk Try.prog 0 18 (TryH n)
  | 0 => fun _ _ _ _ _ _ _ e => by cases e
  | n + 1 => Tryc18 _ (TryH_ok n)
def TryF18r : Fun := TryH 20
theorem Tryc18r : CallOk Try.prog 0 18 TryF18r := TryH_ok 20
end Go.Proofs.Ytgnfkfmhjgbhhaa

noncomputable section
namespace Go.Vm
variable {h h' : Hp} {c : EqC} {a b : Int}
theorem oBin_quo (h0 : b ≠ 0) (h1 : -9223372036854775808 ≤ Int.tdiv a b) (h2 : Int.tdiv a b < 9223372036854775808) : oBin .quo c (.int .i64 a) (.int .i64 b) h = .ok (.int .i64 (Int.tdiv a b)) h := by
  show (match intEq b 0 with | true => R.bad | false => okInt .i64 (wrap64 (Int.tdiv a b)) h) = _
  rw [intEq_dec, decide_eq_false h0]
  simp only []
  rw [wrap64_in h1 h2, okInt_eq]
theorem oConvInt_u8 {k : IntKind} {n : Nat} (hn : n < 256) : oConvInt .u8 (.int k (n : Int)) h = .ok (.int .u8 (n : Int)) h := by
  show okInt .u8 (IntKind.u8.wrap (n : Int)) h = _
  have : IntKind.u8.wrap (n : Int) = (n : Int) := by
    unfold IntKind.wrap
    simp [IntKind.signed, IntKind.bits]
    omega
  rw [this, okInt_eq]
theorem ownO_ok {p q : Pos} {o n : Nat} {c : Cap} {k : Out} (hp : p.nat < q.nat) : ownO (.slice p o n c) q k = k := by
  unfold ownO
  simp only [slId]
  rw [show Nat.blt p.nat q.nat = true by rw [Nat.blt_eq]; exact hp]
theorem natsOf_one {c : Nat} (hc : c < 256) : natsOf [V.int .u8 (c : Int)] = some [c] := natsOf_bys (s := [c]) (by simpa using hc)
theorem bytesStr_one {p : Pos} {c : Nat} (hc : c < 256) (hg : h.get p = some (.cells true [V.int .u8 (c : Int)])) : oBytesStr (.slice p 0 1 (.kn 1)) h = .ok (.str [c]) h := by
  show hCells h p (fun _ cs => (match takeV 1 (dropV 0 cs) with
      | some l => (match natsOf l with | some s => R.ok (V.str s) h | none => .bad)
      | none => .bad)) = _
  rw [hCells_row (wr := true) (all := [V.int .u8 (c : Int)]) (by rw [hg]; rfl)]
  show (match natsOf [V.int .u8 (c : Int)] with | some s => R.ok (V.str s) h | none => .bad) = _
  rw [natsOf_one hc]
/-- a row of bytes of a text -/
def Byt (h : Hp) (v : V) (s : List Nat) : Prop := ∃ i, v = .slice i 0 s.length (.un 1) ∧ i.nat < h.next.nat ∧ h.get i = some (.bytes (bys s))
theorem Byt.sl {v : V} {s : List Nat} (t : Byt h v s) : Sl h.next.nat h 1 v s.length (bys s) := by
  obtain ⟨i, rfl, hi, hg⟩ := t
  exact ⟨by rw [bys_length, Nat.mul_one], .inr ⟨i, 0, _, false, bys s, rfl, hi, by rw [hg]; rfl, fun k _ => by rw [Nat.zero_add]⟩⟩
theorem Byt.cap {v : V} {s : List Nat} (t : Byt h v s) : capOk 1 v := by
  obtain ⟨i, rfl, hi, hg⟩ := t
  intro j o n c e
  cases e; rfl
theorem Byt.ch {v : V} {s : List Nat} {S : Pos → Prop} (t : Byt h v s) (x : Ch S h h') (hs : ∀ j, idOf v = some j → ¬ S j) : Byt h' v s := by
  obtain ⟨i, rfl, hi, hg⟩ := t
  exact ⟨i, rfl, Nat.lt_of_lt_of_le hi x.next, by rw [x.get i hi (hs i rfl)]; exact hg⟩
theorem Byt.new (s : List Nat) (h : Hp) : Byt (h.new (.bytes (bys s))) (.slice h.next 0 s.length (.un 1)) s := ⟨h.next, rfl, by rw [new_next_nat]; omega, new_self _ _⟩
theorem app_row {v x : V} {s t : List Nat} (r : Byt h v s) (hx : ∀ f : Nat → List V → R V, srcCells 1 x h f = f t.length (bys t)) (hl : s.length + t.length ≤ 140737488355328) :
    ∃ v' h', oAppend 1 1 v x h = .ok v' h' ∧ Byt h' v' (s ++ t) ∧ Ch (fun j => idOf v = some j) h h' ∧ ∀ j, idOf v' = some j → idOf v = some j ∨ h.next.nat ≤ j.nat := by
  obtain ⟨i, rfl, hi, hg⟩ := r
  unfold oAppend
  rw [hx]
  cases t with
  | nil =>
    refine ⟨_, _, rfl, ⟨i, by simp, hi, by simpa using hg⟩, Ch.refl _ _, fun j hj => .inl hj⟩
  | cons c t =>
    simp only [List.length_cons] at hl ⊢
    rw [hCells_row (wr := false) (all := bys s) (by rw [hg]; rfl)]
    simp only [forceNat_eq]
    unfold appB
    rw [hg]
    have h1 : takeV (s.length * 1) (dropV 0 (bys s)) = some (bys s) := by rw [dropV_eq, List.drop_zero, Nat.mul_one, ← bys_length s, takeV_all]
    have h2 : dropV (s.length * 1) (dropV 0 (bys s)) = [] := by rw [dropV_eq, dropV_eq, List.drop_zero, Nat.mul_one, ← bys_length s, List.drop_length]
    simp only [h1, h2]
    rw [show Nat.ble (Nat.mul (s.length + (t.length + 1)) 1) 140737488355328 = true from Nat.ble_eq_true_of_le (by show (s.length + (t.length + 1)) * 1 ≤ _; omega)]
    refine ⟨_, _, rfl, ⟨h.next, by simp, by rw [new_next_nat, put_next]; omega, ?_⟩, ?_, fun j hj => by cases hj; exact .inr (Nat.le_refl _)⟩
    · rw [bys_append]
      exact new_self (h.put i none) _
    · exact (Ch.put (S := fun j => idOf (.slice i 0 s.length (.un 1)) = some j) h none rfl).trans (Ch.new (fun _ => False) _ _) fun _ _ q => q.elim
theorem app_str {v : V} {s t : List Nat} (r : Byt h v s) (hl : s.length + t.length ≤ 140737488355328) :
    ∃ v' h', oAppend 1 1 v (.str t) h = .ok v' h' ∧ Byt h' v' (s ++ t) ∧ Ch (fun j => idOf v = some j) h h' ∧ ∀ j, idOf v' = some j → idOf v = some j ∨ h.next.nat ≤ j.nat :=
  app_row r (fun f => by show (match Nat.beq 1 1 with | true => f t.length (u8s t) | false => .bad) = _; rw [u8s_bys]) hl
theorem app_sl {v x : V} {s t : List Nat} {b : Nat} (r : Byt h v s) (hx : Sl b h 1 x t.length (bys t)) (hl : s.length + t.length ≤ 140737488355328) :
    ∃ v' h', oAppend 1 1 v x h = .ok v' h' ∧ Byt h' v' (s ++ t) ∧ Ch (fun j => idOf v = some j) h h' ∧ ∀ j, idOf v' = some j → idOf v = some j ∨ h.next.nat ≤ j.nat :=
  app_row r hx.src hl
end Go.Vm
namespace Go.Ln
/-- a number's digits -/
def digF : Nat → Nat → List Nat
  | 0, _ => []
  | f + 1, n => if n < 10 then [48 + n] else digF f (n / 10) ++ [48 + n % 10]
def digM (n : Nat) : List Nat := digF 5 n
theorem digF_digit : ∀ (f n : Nat), ∀ c ∈ digF f n, 48 ≤ c ∧ c ≤ 57
  | 0, n, c, h => by cases h
  | f + 1, n, c, h => by
    rw [digF] at h
    split at h
    · rw [List.mem_singleton.1 h]; omega
    · rcases List.mem_append.1 h with h | h
      · exact digF_digit f _ c h
      · rw [List.mem_singleton.1 h]; omega
theorem digF_len : ∀ (f n : Nat), (digF f n).length ≤ f
  | 0, n => Nat.le_refl _
  | f + 1, n => by
    rw [digF]
    split
    · simp
    · have := digF_len f (n / 10); rw [List.length_append]; simp only [List.length_cons, List.length_nil]; omega
end Go.Ln
namespace Go.Proofs.Ytgnfkfmhjgbhhaa
open Go Go.Proofs Go.Vm Go.Ln
set_option linter.unusedVariables false
set_option maxRecDepth 100000
set_option linter.unusedSimpArgs false
theorem dig_ok : ∀ (f n : Nat) (h : Hp), 0 < f → f < 10 → n < 10 ^ f → n < 1000000 → ∃ h', TryG f [.int .i64 (n : Int)] h = .ok (.str (digF f n)) h' ∧ Ch (fun _ => False) h h'
  | 0, n, h, h0, _, _, _ => absurd h0 (Nat.lt_irrefl 0)
  | f + 1, n, h, _, hf, hn, hm => by
    rw [TryG, TryF19_eq]
    by_cases h10 : n < 10
    · have h10' : (n : Int) < 10 := by omega
      have e1 : ∀ h, oConvInt .u8 (.int .i64 (48 + (n : Int))) h = .ok (.int .u8 ((48 + n : Nat) : Int)) h := fun h => oConvInt_u8 (n := 48 + n) (by omega)
      have e2 := bytesStr_one (h := h.new (.cells true [.int .u8 ((48 + n : Nat) : Int)])) (p := h.next) (c := 48 + n) (by omega) (new_self _ _)
      simp (disch := omega) only [seqO_eq, thenO_nor, thenO_ret, gtO_some, bndO_ok, get_set_of, cndX_tmp, ifB_true, reduceCtorEq, ↓reduceIte, oBin_add, oBin_lss, oBuildSlice_1, decide_true, Tryd19, Tryr19_0, Tryr19_1, Tryr19_2, h10', e1, e2, outR, resK, tupR]
      exact ⟨_, by rw [digF, if_pos h10], Ch.new _ _ _⟩
    · have h10' : ¬ (n : Int) < 10 := by omega
      have q1 : ∀ h, oBin .quo .none (.int .i64 (n : Int)) (.int .i64 10) h = .ok (.int .i64 ((n / 10 : Nat) : Int)) h := fun h => by
        have : Int.tdiv (n : Int) 10 = ((n / 10 : Nat) : Int) := by rw [Int.tdiv_eq_ediv_of_nonneg (by omega)]; rfl
        rw [oBin_quo (by omega) (by omega) (by omega), this]
      have q2 : ∀ h, oBin .rem .none (.int .i64 (n : Int)) (.int .i64 10) h = .ok (.int .i64 ((n % 10 : Nat) : Int)) h := fun h => by
        have : Int.tmod (n : Int) 10 = ((n % 10 : Nat) : Int) := by rw [Int.tmod_eq_emod_of_nonneg (by omega)]; rfl
        rw [oBin_rem (by omega), this]
      obtain ⟨h2, e2, c2⟩ := dig_ok f (n / 10) (bumpH 1 h) (by cases f with | zero => simp at hn; omega | succ f => omega) (by omega) (by rw [Nat.pow_succ] at hn; omega) (by omega)
      have hd : n % 10 < 10 := Nat.mod_lt _ (by omega)
      have e1 : ∀ h, oConvInt .u8 (.int .i64 (48 + ((n % 10 : Nat) : Int))) h = .ok (.int .u8 ((48 + n % 10 : Nat) : Int)) h := fun h => oConvInt_u8 (n := 48 + n % 10) (by omega)
      have e3 := bytesStr_one (h := h2.put h.next (some (.cells true [.int .u8 ((48 + n % 10 : Nat) : Int)]))) (p := h.next) (c := 48 + n % 10) (by omega) (put_self _ _ _)
      have hlen := digF_len f (n / 10)
      have e4 : ∀ h, oBin .add .none (.str (digF f (n / 10))) (.str [48 + n % 10]) h = .ok (.str (digF f (n / 10) ++ [48 + n % 10])) h := fun h => oBin_str_add (by simp only [List.length_cons, List.length_nil]; omega)
      have e5 : ∀ k : Out, ownO (.slice h.next 0 1 (.kn 1)) h.next.succ k = k := fun k => ownO_ok (by rw [Pos.nat_succ]; omega)
      simp (disch := omega) only [seqO_eq, thenO_nor, gtO_some, bndO_ok, get_set_of, cndX_tmp, ifB_false, reduceCtorEq, ↓reduceIte, oBin_add, oBin_lss, aBuildSlice_1, alcO_some, decide_false, Tryd19, Tryr19_0, Tryr19_1, Tryr19_3, h10', q1, e2, q2, e1, e3, e4, e5, outR, resK, tupR]
      refine ⟨_, by rw [digF, if_neg h10], ?_⟩
      have cb : Ch (fun _ => False) h (bumpH 1 h) := Ch.bumpH _ _ _
      refine ⟨Nat.le_trans cb.next c2.next, fun j hj hn => ?_⟩
      rw [show (h2.put h.next (some (Ob.cells true [V.int .u8 ((48 + n % 10 : Nat) : Int)]))).get j = h2.get j from put_ne h2 (by omega) _]
      rw [c2.get j (Nat.lt_of_lt_of_le hj cb.next) hn]
      exact cb.get j hj hn
/-- bytes of a row are fed -/
theorem feed_b {most : Int} {B : Nat} {h : Hp} {i : Pos} {r : Rd} {vt vl vn vq vb : V} (hm : 0 ≤ most) (a : RdAt most h i r vt vl vn vq) (k : RdOk most B r) {s : List Nat} {b : Nat} (sl : Sl b h 1 vb s.length (bys s)) (hb : b ≤ h.next.nat) (cap : capOk 1 vb) (hid : ∀ j, idOf vb = some j → ¬ RdF i vt vl vn vq j) (hB : B + 2 * s.length < 800000000) (h256 : ∀ x ∈ s, x < 256) :
    ∃ v g vt' vl' vn' vq', TryF16 [.ptr i 0, vb] h = .ok v g ∧ RdAt most g i (feedsM most r s).1 vt' vl' vn' vq' ∧ Stp (RdF i vt vl vn vq) h (RdF i vt' vl' vn' vq') g ∧
      Told (fun j => h.next.nat ≤ j.nat ∧ ¬ RdF i vt' vl' vn' vq' j) g v (feedsM most r s).2 := by
  obtain ⟨v, g, e, vt', vl', vn', vq', cs, b, p, o, oi, w⟩ := feed_ok hm a k hB sl cap hid hb h256
  exact ⟨v, g, vt', vl', vn', vq', e, b, p, cs, o, oi, w.ch (Ch.refl (fun _ => False) _) fun j hj q => ⟨⟨q.1, q.2.1⟩, fun q => q⟩⟩
end Go.Proofs.Ytgnfkfmhjgbhhaa
