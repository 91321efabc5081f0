/- Part of the value machine, or of a walk by it: lemmas that the claim's last text uses. No conditions. -/
import Derived.Test.YtnlbcbjgejpanaaGreatDoorSeVmO
import Derived.Test.YtnlbcbjgejpanaaGreatDoorChecked
import Derived.KernelRfl
import Derived.Test.YtnlbcbjgejpanaaGreatDoorSeFeG
set_option linter.unusedVariables false
set_option linter.unusedSimpArgs false
set_option linter.unnecessarySimpa false
noncomputable section
namespace Go.Proofs.Im
open Go Go.Proofs Go.Vm Go.Ln
set_option linter.unusedVariables false
set_option maxRecDepth 100000
set_option linter.unusedSimpArgs false
structure FeedS (most : Int) (i : Pos) (h : Hp) (S0 : Pos → Prop) (c : Nat) (r : Rd) (bs : List Nat) (g : Hp) (vb vo : V) (rest : List Nat) (r' : Rd) (gs : List Ln.Got) (vt vl vn vq : V) (cs : List V) : Prop where
  s : Sl c g 1 vb rest.length (bys rest)
  cap : capOk 1 vb
  b : ∀ j, idOf vb = some j → ¬ RdF i vt vl vn vq j
  a : RdAt most g i r' vt vl vn vq
  ok : ∃ B, RdOk most B r' ∧ B + 2 * rest.length < 900000000
  p : Stp S0 h (RdF i vt vl vn vq) g
  e : feedsM most r bs = ((feedsM most r' rest).1, gs ++ (feedsM most r' rest).2)
  o : Ow 0 g tG 2 vo gs.length cs
  oi : ∀ j, idOf vo = some j → h.next.nat ≤ j.nat ∧ ¬ RdF i vt vl vn vq j
  w : GAt (fun j => h.next.nat ≤ j.nat ∧ ¬ RdF i vt vl vn vq j ∧ idOf vo ≠ some j) g gs cs
  n : gs.length + rest.length ≤ bs.length
  by256 : ∀ x ∈ rest, x < 256
variable {most : Int} {i : Pos} {h g g' : Hp} {S0 : Pos → Prop} {c : Nat} {r r' r2 : Rd} {bs rest pre rest' : List Nat} {vb vo v' x : V} {gs gs2 : List Ln.Got} {vt vl vn vq vt' vl' vn' vq' : V} {cs cs2 : List V}
theorem RdAt.idlt (a : RdAt most h i r vt vl vn vq) {j : Pos} (q : RdF i vt vl vn vq j) : j.nat < h.next.nat := by
  rcases q with q | q | q | q | q
  · rw [q]; exact a.lt
  · exact (a.t.idlt q).2
  · exact (a.l.idlt q).2
  · exact (a.n.idlt q).2
  · exact (a.q.idlt q).2
theorem FeedS.go (f : FeedS most i h S0 c r bs g vb vo rest r' gs vt vl vn vq cs) (hm : 0 ≤ most) (hc : c ≤ h.next.nat) (a : RdAt most g' i r2 vt' vl' vn' vq') (p : Stp (RdF i vt vl vn vq) g (RdF i vt' vl' vn' vq') g')
    (s : Sl c g' 1 v' rest'.length (bys rest')) (cap : capOk 1 v') (hid : ∀ j, idOf v' = some j → idOf vb = some j) (hr : rest = pre ++ rest') (hf : feedsM most r' pre = (r2, [])) :
    FeedS most i h S0 c r bs g' v' vo rest' r2 gs vt' vl' vn' vq' cs := by
  have nR : ∀ j, ¬ RdF i vt vl vn vq j → j.nat < g.next.nat → ¬ RdF i vt' vl' vn' vq' j := fun j hn hj q => by
    rcases p.sub j q with q | q
    · exact hn q
    · omega
  have hng := f.p.ch.next
  have ok' : ∃ B, RdOk most B r2 ∧ B + 2 * rest'.length < 900000000 := by
    obtain ⟨B, k, hB⟩ := f.ok
    have := k.feedsM hm (b := pre) (fun y hy => f.by256 y (by rw [hr]; exact List.mem_append_left _ hy))
    rw [hf] at this
    exact ⟨_, this, by rw [hr, List.length_append] at hB; omega⟩
  have w1 : GAt (fun j => h.next.nat ≤ j.nat ∧ ¬ RdF i vt' vl' vn' vq' j ∧ idOf vo ≠ some j) g' gs cs := f.w.ch p.ch fun j hj q => ⟨⟨q.1, nR j q.2.1 hj, q.2.2⟩, q.2.1⟩
  exact ⟨s, cap, fun j hj => nR j (f.b j (hid j hj)) (by have := s.idlt hj; omega), a, ok', f.p.trans p, by rw [f.e, hr, feedsM_append, hf]; rfl, f.o.ch p.ch fun j hj q => (f.oi j hj).2 q,
    fun j hj => ⟨(f.oi j hj).1, nR j (f.oi j hj).2 (f.o.idlt hj).2⟩, w1, by have := f.n; rw [hr, List.length_append] at this; omega, fun y hy => f.by256 y (by rw [hr]; exact List.mem_append_right _ hy)⟩
theorem FeedS.told (f : FeedS most i h S0 c r bs g vb vo rest r' gs vt vl vn vq cs) (hm : 0 ≤ most) (hc : c ≤ h.next.nat) (hbs : bs.length < 1000000000) (a : RdAt most g' i r2 vt' vl' vn' vq') (p : Stp (RdF i vt vl vn vq) g (RdF i vt' vl' vn' vq') g')
    (s : Sl c g' 1 v' rest'.length (bys rest')) (cap : capOk 1 v') (hid : ∀ j, idOf v' = some j → idOf vb = some j) (hr : rest = pre ++ rest') (hf : feedsM most r' pre = (r2, gs2)) (hpre : gs2.length ≤ pre.length)
    (sx : Sl g'.next.nat g' 2 x gs2.length cs2) (wx : GAt (fun j => g.next.nat ≤ j.nat ∧ ¬ RdF i vt' vl' vn' vq' j) g' gs2 cs2) :
    ∃ vo' g2, oAppend tG 2 32 vo x g' = .ok vo' g2 ∧ FeedS most i h S0 c r bs g2 v' vo' rest' r2 (gs ++ gs2) vt' vl' vn' vq' (cs ++ cs2) := by
  have o1 : Ow 0 g' tG 2 vo gs.length cs := f.o.ch p.ch fun j hj q => (f.oi j hj).2 q
  have nR : ∀ j, ¬ RdF i vt vl vn vq j → j.nat < g.next.nat → ¬ RdF i vt' vl' vn' vq' j := fun j hn hj q => by
    rcases p.sub j q with q | q
    · exact hn q
    · omega
  have oi1 : ∀ j, idOf vo = some j → h.next.nat ≤ j.nat ∧ ¬ RdF i vt' vl' vn' vq' j := fun j hj => ⟨(f.oi j hj).1, nR j (f.oi j hj).2 (f.o.idlt hj).2⟩
  have w1 : GAt (fun j => h.next.nat ≤ j.nat ∧ ¬ RdF i vt' vl' vn' vq' j ∧ idOf vo ≠ some j) g' gs cs := f.w.ch p.ch fun j hj q => ⟨⟨q.1, nR j q.2.1 hj, q.2.2⟩, q.2.1⟩
  have hng := f.p.ch.next
  have w2 : GAt (fun j => h.next.nat ≤ j.nat ∧ ¬ RdF i vt' vl' vn' vq' j ∧ idOf vo ≠ some j) g' gs2 cs2 := wx.ch (Ch.refl (fun _ => False) _) fun j hj q => by
    have q1 : g.next.nat ≤ j.nat := q.1
    exact ⟨⟨by omega, q.2, fun q' => by have := (f.o.idlt q').2; omega⟩, fun q => q⟩
  have hb : ∀ j, idOf v' = some j → ¬ RdF i vt' vl' vn' vq' j := fun j hj q => by
    rcases p.sub j q with q | q
    · exact f.b j (hid j hj) q
    · have := s.idlt hj; have := f.p.ch.next; omega
  have ok' : ∃ B, RdOk most B r2 ∧ B + 2 * rest'.length < 900000000 := by
    obtain ⟨B, k, hB⟩ := f.ok
    have := k.feedsM hm (b := pre) (fun y hy => f.by256 y (by rw [hr]; exact List.mem_append_left _ hy))
    rw [hf] at this
    exact ⟨_, this, by rw [hr, List.length_append] at hB; omega⟩
  have e' : feedsM most r bs = ((feedsM most r2 rest').1, gs ++ gs2 ++ (feedsM most r2 rest').2) := by rw [f.e, hr, feedsM_append, hf, List.append_assoc]
  have n' : (gs ++ gs2).length + rest'.length ≤ bs.length := by have := f.n; rw [hr, List.length_append] at this; rw [List.length_append]; omega
  have by' : ∀ y ∈ rest', y < 256 := fun y hy => f.by256 y (by rw [hr]; exact List.mem_append_right _ hy)
  by_cases h0 : gs2.length = 0
  · have hg : gs2 = [] := List.length_eq_zero_iff.1 h0
    subst hg
    have hcs : cs2 = [] := wx
    subst hcs
    have e0 := app0_ok (bt := 32) o1 sx
    rw [List.append_nil] at e' n'
    exact ⟨vo, g', e0, s, cap, hb, a, ok', f.p.trans p, by rw [List.append_nil]; exact e', by rw [List.append_nil, List.append_nil]; exact o1, oi1, by rw [List.append_nil, List.append_nil]; exact w1, by rw [List.append_nil]; exact n', by'⟩
  · obtain ⟨vo', g2, e1, e2, e3, o2, c2⟩ := app_ok (bt := 32) o1 sx (by omega) (by rw [List.length_append] at n'; omega)
    have hvo' : ∀ j, idOf vo' = some j → j = g'.next := fun j hj => by rw [e2] at hj; cases hj; rfl
    have hn1 := f.p.ch.next
    have hn2 := p.ch.next
    refine ⟨vo', g2, e1, s.ch c2 (by omega) (fun j hj q => by have := s.idlt hj; have := (oi1 j q).1; omega), cap, hb, a.ch c2 (fun j hj q => (oi1 j q).2 hj), ok', ?_, e', by rw [List.length_append]; exact o2, ?_, GAt.app ?_ ?_, n', by'⟩
    · exact ⟨⟨Nat.le_trans (f.p.trans p).ch.next c2.next, fun j hj hn => (c2.get j (by omega) (fun q => by have := (oi1 j q).1; omega)).trans ((f.p.trans p).ch.get j hj hn)⟩, (f.p.trans p).sub⟩
    · intro j hj
      rw [hvo' j hj]
      exact ⟨by omega, fun q => by have := a.idlt q; omega⟩
    · exact w2.ch c2 fun j hj q => ⟨⟨q.1, q.2.1, fun q' => by rw [hvo' j q'] at hj; omega⟩, q.2.2⟩
    · exact w1.ch c2 fun j hj q => ⟨⟨q.1, q.2.1, fun q' => by rw [hvo' j q'] at hj; omega⟩, q.2.2⟩
def FeedI (most : Int) (i : Pos) (h : Hp) (S0 : Pos → Prop) (c : Nat) (r : Rd) (bs : List Nat) (m : Nat) (fr : F) (g : Hp) : Prop :=
  ∃ vb vo rest r' gs vt vl vn vq cs, fr.get (Pos.of 0) = some (.ptr i 0) ∧ fr.get (Pos.of 1) = some vb ∧ fr.get (Pos.of 5) = some vo ∧ rest.length = m ∧ FeedS most i h S0 c r bs g vb vo rest r' gs vt vl vn vq cs
def FeedA (most : Int) (i : Pos) (h : Hp) (S0 : Pos → Prop) (r : Rd) (bs : List Nat) (fr : F) (g : Hp) : Prop :=
  ∃ vo vt vl vn vq cs, fr.get (Pos.of 5) = some vo ∧ RdAt most g i (feedsM most r bs).1 vt vl vn vq ∧ Stp S0 h (RdF i vt vl vn vq) g ∧ Ow 0 g tG 2 vo (feedsM most r bs).2.length cs ∧ (∀ j, idOf vo = some j → h.next.nat ≤ j.nat ∧ ¬ RdF i vt vl vn vq j) ∧
    GAt (fun j => h.next.nat ≤ j.nat ∧ ¬ RdF i vt vl vn vq j ∧ idOf vo ≠ some j) g (feedsM most r bs).2 cs
theorem feeds_one (most : Int) (r : Rd) (c : Nat) : feedsM most r [c] = feedM most r c := by
  rw [feedsM, feedsM, List.append_nil]
theorem oBuildSlice_1u {tB : TypeId} (c : Nat) {h : Hp} : oBuildSlice tB [.int .u8 0] 1 [(0, 1, .int .u8 (c : Int))] h = .ok (.slice h.next 0 1 (.kn 1)) (h.new (.cells (.rw tB true) [.int .u8 (c : Int)])) := (rfl)
theorem feed_step (hm : 0 ≤ most) (hc : c ≤ h.next.nat) (hbs : bs.length < 400000000) (m : Nat) (fr : F) (g : Hp) (I : FeedI most i h S0 c r bs m fr g) :
    LS 0 (fun fr g => ∃ m', m' < m ∧ FeedI most i h S0 c r bs m' fr g) (FeedA most i h S0 r bs) (fun _ _ => False) (Tryb16_4 fr g) := by
  obtain ⟨vb, vo, rest, r', gs, vt, vl, vn, vq, cs, f0, f1, f5, hlen, f⟩ := I
  cases rest with
  | nil =>
    have hz : ¬ (([] : List Nat).length : Int) > 0 := by simp
    simp (disch := omega) only [vmL, Nat.reduceEqDiff, reduceCtorEq, ↓reduceIte, vpL, vsL, vqL, Tryb16_4, Tryr16_4, f1, f.s.length, hz]
    refine ⟨rfl, vo, vt, vl, vn, vq, cs, by simp only [vmL, Nat.reduceEqDiff, reduceCtorEq, ↓reduceIte, vpL, vsL, vqL, f5], ?_, f.p, ?_, f.oi, ?_⟩
    · rw [f.e]; exact f.a
    · rw [f.e]; show Ow 0 g tG 2 vo (gs ++ []).length cs; rw [List.append_nil]; exact f.o
    · rw [f.e]; show GAt _ g (gs ++ []) cs; rw [List.append_nil]; exact f.w
  | cons d tl =>
    have hz : (((d :: tl).length : Nat) : Int) > 0 := by simp only [List.length_cons]; omega
    obtain ⟨B, k, hB⟩ := f.ok
    have hmu := k.mu
    unfold Rd.mu at hmu
    have hll := bytesL_len r'.lits
    have L9 := f.a.fld.2.2.2.2.2.2.2.2.2.1
    have L8 := f.a.fld.2.2.2.2.2.2.2.2.1
    have hn := f.n
    simp only [List.length_cons] at hlen hn
    by_cases ho : 0 < r'.skip ∨ r'.literal = true
    · have hwm := k.wmax
      have hsm := k.smax
      obtain ⟨v', g', n, vl', vq', e20, hn0, hn1, ht, a', p', s', cap', hid⟩ := take_ok f.a f.s f.cap f.b (by have := f.p.ch.next; omega) (by simp) ho k.want (by omega) (by omega) (by simp only [List.length_cons]; omega) (by omega) (by omega) k.qb f.by256
      have f' := f.go hm hc a' p' s' cap' hid (pre := (d :: tl).take n) (List.take_append_drop n _).symm (Prod.ext rfl ht)
      have fin : ∀ fr' : F, fr'.get (Pos.of 0) = some (.ptr i 0) → fr'.get (Pos.of 1) = some v' → fr'.get (Pos.of 5) = some vo → ∃ m', m' < m ∧ FeedI most i h S0 c r bs m' fr' g' := fun fr' a0 a1 a5 =>
        ⟨((d :: tl).drop n).length, by rw [List.length_drop]; simp only [List.length_cons] at hn1 ⊢; omega, v', vo, _, _, gs, vt, vl', vn, vq', cs, a0, a1, a5, rfl, f'⟩
      by_cases hsk : 0 < r'.skip
      · have hsk' : (r'.skip : Int) > 0 := by omega
        simp (disch := omega) only [vmL, Nat.reduceEqDiff, reduceCtorEq, ↓reduceIte, vpL, vsL, vqL, Tryb16_4, Tryr16_4, Tryr16_5, Tryr16_6, f0, f1, f.s.length, hz, L9, hsk', e20]
        exact fin _ (by simp only [vmL, Nat.reduceEqDiff, reduceCtorEq, ↓reduceIte, vpL, vsL, vqL, f0]) (by simp only [vmL, Nat.reduceEqDiff, reduceCtorEq, ↓reduceIte, vpL, vsL, vqL]) (by simp only [vmL, Nat.reduceEqDiff, reduceCtorEq, ↓reduceIte, vpL, vsL, vqL, f5])
      · have hsk' : ¬ (r'.skip : Int) > 0 := by omega
        have hlit : r'.literal = true := ho.resolve_left hsk
        rw [hlit] at L8
        simp (disch := omega) only [vmL, Nat.reduceEqDiff, reduceCtorEq, ↓reduceIte, vpL, vsL, vqL, Tryb16_4, Tryr16_4, Tryr16_5, Tryr16_6, f0, f1, f.s.length, hz, L9, L8, hsk', e20]
        exact fin _ (by simp only [vmL, Nat.reduceEqDiff, reduceCtorEq, ↓reduceIte, vpL, vsL, vqL, f0]) (by simp only [vmL, Nat.reduceEqDiff, reduceCtorEq, ↓reduceIte, vpL, vsL, vqL]) (by simp only [vmL, Nat.reduceEqDiff, reduceCtorEq, ↓reduceIte, vpL, vsL, vqL, f5])
    · have hs0 : ¬ r'.skip > 0 := fun q => ho (.inl q)
      have hlit : r'.literal = false := by cases q : r'.literal with | false => rfl | true => exact absurd (.inr q) ho
      have hsk' : ¬ (r'.skip : Int) > 0 := by omega
      rw [hlit] at L8
      have hd256 := f.by256 d (by simp)
      obtain ⟨j, q, x, hx, e1, -, e2⟩ := f.s.at1 (m := 0) (by simp)
      cases (show some (V.int .u8 (d : Int)) = some x from hx)
      replace e1 : ∀ h', oIdxS 1 vb (.int .i64 0) h' = .ok (.ptr j q) h' := e1
      have e2' := e2 g rfl
      obtain ⟨v', e3, s1, cap', hid⟩ := f.s.from f.cap (by omega) (lo := 1) (by simp)
      replace e3 : ∀ h', oSlice 1 vb (some (.int .i64 1)) none none h' = .ok v' h' := e3
      replace s1 : Sl c g 1 v' tl.length (bys tl) := s1
      have hc' : c ≤ g.next.nat := by have := f.p.ch.next; omega
      have sl' : ∀ {g' : Hp} {vt' vl' vn' vq' : V}, Stp (RdF i vt vl vn vq) g (RdF i vt' vl' vn' vq') g' → Sl c g' 1 v' tl.length (bys tl) := fun p => s1.ch p.ch hc' fun j hj => f.b j (hid j hj)
      have fin : ∀ {g' : Hp} {vo' : V} {r2 : Rd} {gs' : List Ln.Got} {vt' vl' vn' vq' : V} {cs' : List V}, FeedS most i h S0 c r bs g' v' vo' tl r2 gs' vt' vl' vn' vq' cs' → ∀ fr' : F, fr'.get (Pos.of 0) = some (.ptr i 0) → fr'.get (Pos.of 1) = some v' → fr'.get (Pos.of 5) = some vo' → ∃ m', m' < m ∧ FeedI most i h S0 c r bs m' fr' g' := fun f' fr' a0 a1 a5 =>
        ⟨tl.length, by omega, v', _, tl, _, _, _, _, _, _, _, a0, a1, a5, rfl, f'⟩
      have L10 := f.a.fld.2.2.2.2.2.2.2.2.2.2
      cases hline : r'.line with
      | true =>
        rw [hline] at L10
        obtain ⟨g', e4, a', p', -⟩ := f.a.set_line (decide (d ≠ 10))
        have hf : feedsM most r' [d] = ({ r' with line := decide (d ≠ 10) }, []) := by
          rw [feeds_one]; unfold feedM; rw [if_neg hs0, hlit, hline]; rfl
        have f' := f.go hm hc a' p' (sl' p') cap' hid (pre := [d]) rfl hf
        by_cases h10 : d = 10
        · have h10' : (d : Int) = 10 := by omega
          rw [decide_eq_false (fun q => q h10)] at e4
          simp (disch := omega) only [vmL, Nat.reduceEqDiff, reduceCtorEq, ↓reduceIte, vpL, vsL, vqL, Tryb16_4, Tryr16_4, Tryr16_5, Tryr16_7, Tryr16_8, Tryr16_15, Tryr16_16, f0, f1, f.s.length, hz, L9, L8, hsk', e1, e2', e3, L10, eq_true h10', e4]
          exact fin f' _ (by simp only [vmL, Nat.reduceEqDiff, reduceCtorEq, ↓reduceIte, vpL, vsL, vqL, f0]) (by simp only [vmL, Nat.reduceEqDiff, reduceCtorEq, ↓reduceIte, vpL, vsL, vqL]) (by simp only [vmL, Nat.reduceEqDiff, reduceCtorEq, ↓reduceIte, vpL, vsL, vqL, f5])
        · have h10' : ¬ (d : Int) = 10 := by omega
          rw [decide_eq_true h10] at e4
          simp (disch := omega) only [vmL, Nat.reduceEqDiff, reduceCtorEq, ↓reduceIte, vpL, vsL, vqL, Tryb16_4, Tryr16_4, Tryr16_5, Tryr16_7, Tryr16_8, Tryr16_15, Tryr16_16, f0, f1, f.s.length, hz, L9, L8, hsk', e1, e2', e3, L10, h10', e4]
          exact fin f' _ (by simp only [vmL, Nat.reduceEqDiff, reduceCtorEq, ↓reduceIte, vpL, vsL, vqL, f0]) (by simp only [vmL, Nat.reduceEqDiff, reduceCtorEq, ↓reduceIte, vpL, vsL, vqL]) (by simp only [vmL, Nat.reduceEqDiff, reduceCtorEq, ↓reduceIte, vpL, vsL, vqL, f5])
      | false =>
        rw [hline] at L10
        by_cases h10 : d = 10
        · have h10' : (d : Int) = 10 := by omega
          obtain ⟨x, g', e21, vt', vl', vn', vq', cs2, a', p', sx, wx⟩ := end_ok f.a k (by omega) hlit
          have hf : feedsM most r' [d] = endM most r' := by
            rw [feeds_one]; unfold feedM; rw [if_neg hs0, hlit, hline, if_neg (by simp), if_neg (by simp), if_pos h10]
          have hle : (endM most r').2.length ≤ 1 := by
            unfold endM
            split
            · split <;> simp
            · split
              · split <;> simp
              · simp only []
                split <;> simp
          obtain ⟨vo', g2, e22, f'⟩ := f.told hm hc (by omega) a' p' (sl' p') cap' hid (pre := [d]) rfl (show feedsM most r' [d] = ((endM most r').1, (endM most r').2) from hf) hle sx wx
          simp (disch := omega) only [vmL, Nat.reduceEqDiff, reduceCtorEq, ↓reduceIte, vpL, vsL, vqL, Tryb16_4, Tryr16_4, Tryr16_5, Tryr16_7, Tryr16_8, Tryr16_15, Tryr16_17, Tryr16_18, f0, f1, f5, f.s.length, hz, L9, L8, hsk', e1, e2', e3, L10, eq_true h10', e21, e22]
          exact fin f' _ (by simp only [vmL, Nat.reduceEqDiff, reduceCtorEq, ↓reduceIte, vpL, vsL, vqL, f0]) (by simp only [vmL, Nat.reduceEqDiff, reduceCtorEq, ↓reduceIte, vpL, vsL, vqL]) (by simp only [vmL, Nat.reduceEqDiff, reduceCtorEq, ↓reduceIte, vpL, vsL, vqL])
        · have h10' : ¬ (d : Int) = 10 := by omega
          have L5 := f.a.fld.2.2.2.2.2.1
          obtain ⟨vn', g1, c1, c2, c3, c4, c5⟩ := app1_ok (bt := 1) (new := [V.int .u8 (d : Int)]) f.a.n rfl (by omega)
          obtain ⟨g2, e4, a2, p2, -⟩ := f.a.set_now (l := r'.now ++ [d]) c4 (by rw [List.length_append, bys_append]; exact c3) (fun j hj => by rw [c2] at hj; cases hj; rw [Pos.nat_succ]; omega)
          have M3 : oLoad1 (.ptr i 3) g2 = .ok (.int .i64 (r'.long : Int)) g2 := a2.fld.2.2.2.1
          have M5 : oLoad1 (.ptr i 5) g2 = .ok vn' g2 := a2.fld.2.2.2.2.2.1
          have Ml : oLenK 2 vn' g2 = .ok (.int .i64 ((r'.now.length + 1 : Nat) : Int)) g2 := by
            have := a2.n.sl.length (h' := g2)
            rw [List.length_append] at this
            exact this
          have nt : ∀ (hf : feedsM most r' [d] = ({ r' with now := r'.now ++ [d] }, [])), ∃ f' : FeedS most i h S0 c r bs g2 v' vo tl { r' with now := r'.now ++ [d] } gs vt vl vn' vq cs, True := fun hf =>
            ⟨f.go hm hc a2 p2 (sl' p2) cap' hid (pre := [d]) rfl hf, trivial⟩
          have hfl : feedsM most r' [d] = (if r'.long + (r'.now.length + 1) > 4096 ∧ (d ≠ 13 ∨ r'.long + (r'.now.length + 1) > 4097) then ({ line := true }, [⟨3, .nil⟩]) else ({ r' with now := r'.now ++ [d] }, [])) := by
            rw [feeds_one]; unfold feedM; rw [if_neg hs0, hlit, hline, if_neg (by simp), if_neg (by simp), if_neg h10]
          by_cases h96 : r'.long + (r'.now.length + 1) > 4096
          · have h96' : (r'.long : Int) + ((r'.now.length + 1 : Nat) : Int) > 4096 := by omega
            have over : ∀ (hcond : d ≠ 13 ∨ r'.long + (r'.now.length + 1) > 4097), ∃ (u : V) (g3 g4 g5 : Hp) (vo' : V), TryF22 [.ptr i 0] g2 = .ok u g3 ∧ oStore 1 (.ptr i 10) (.bool true) g3 = .ok V.undef g4 ∧ oAppend tG 2 32 vo (.slice g4.next 0 1 (.kn 1)) (g4.new (.cells (.rw tG true) [.int .i64 3, .nils])) = .ok vo' g5 ∧
                FeedS most i h S0 c r bs g5 v' vo' tl { line := true } (gs ++ [⟨3, .nil⟩]) .nils .nils .nils .nils (cs ++ [.int .i64 3, .nils]) := fun hcond => by
              obtain ⟨u, g3, e22, a3, c3', n3⟩ := reset_ok a2.lt a2.get
              obtain ⟨g4, s4, a4, p4, -⟩ := a3.set_line true
              have p3 : Stp (RdF i vt vl vn vq) g (RdF i .nils .nils .nils .nils) g3 := (p2.step c3' fun j q => .inl q).less fun j q => by
                rcases q with q | q | q | q | q
                · exact .inl q
                · cases q
                · cases q
                · cases q
                · cases q
              have cc : Ch (fun _ => False) g4 (g4.new (.cells (.rw tG true) [.int .i64 3, .nils])) := Ch.new _ _ _
              have p5 := (p3.trans p4).step cc fun j q => q.elim
              have sx := Sl.made (el := tG) (h := g4) [V.int .i64 3, V.nils]
              obtain ⟨vo', g5, e5, f'⟩ := f.told hm hc (by omega) (a4.ch cc fun _ _ q => q) p5 (sl' p5) cap' hid (pre := [d]) rfl (show feedsM most r' [d] = ({ line := true }, [⟨3, .nil⟩]) by rw [hfl, if_pos ⟨h96, hcond⟩]) (by simp)
                (by rw [new_next_nat]; exact sx) (GAt.one (WRow.nil _ _))
              exact ⟨u, g3, g4, g5, vo', e22, s4, e5, f'⟩
            by_cases h13 : d = 13
            · have h13' : (d : Int) = 13 := by omega
              by_cases h97 : r'.long + (r'.now.length + 1) > 4097
              · have h97' : (r'.long : Int) + ((r'.now.length + 1 : Nat) : Int) > 4097 := by omega
                obtain ⟨u, g3, g4, g5, vo', e22, e10, e5, f'⟩ := over (.inr h97)
                simp (disch := omega) only [vmL, Nat.reduceEqDiff, reduceCtorEq, ↓reduceIte, vpL, vsL, vqL, Tryb16_4, Tryr16_4, Tryr16_5, Tryr16_7, Tryr16_8, Tryr16_15, Tryr16_17, Tryr16_9, Tryr16_10, Tryr16_11, Tryr16_12, Tryr16_13, Tryr16_14, f0, f1, f5, f.s.length, hz, L9, L8, hsk', e1, e2', e3, L10, h10', L5, oBuildSlice_1u, c1, e4, M3, M5, Ml, h96', eq_true h13', h97', e22, e10, oBuild_g0, oBuildSlice_2, e5]
                exact fin f' _ (by simp only [vmL, Nat.reduceEqDiff, reduceCtorEq, ↓reduceIte, vpL, vsL, vqL, f0]) (by simp only [vmL, Nat.reduceEqDiff, reduceCtorEq, ↓reduceIte, vpL, vsL, vqL]) (by simp only [vmL, Nat.reduceEqDiff, reduceCtorEq, ↓reduceIte, vpL, vsL, vqL])
              · have h97' : ¬ (r'.long : Int) + ((r'.now.length + 1 : Nat) : Int) > 4097 := by omega
                obtain ⟨f', -⟩ := nt (by rw [hfl, if_neg (by omega)])
                simp (disch := omega) only [vmL, Nat.reduceEqDiff, reduceCtorEq, ↓reduceIte, vpL, vsL, vqL, Tryb16_4, Tryr16_4, Tryr16_5, Tryr16_7, Tryr16_8, Tryr16_15, Tryr16_17, Tryr16_9, Tryr16_10, Tryr16_11, f0, f1, f5, f.s.length, hz, L9, L8, hsk', e1, e2', e3, L10, h10', L5, oBuildSlice_1u, c1, e4, M3, M5, Ml, h96', eq_true h13', h97']
                exact fin f' _ (by simp only [vmL, Nat.reduceEqDiff, reduceCtorEq, ↓reduceIte, vpL, vsL, vqL, f0]) (by simp only [vmL, Nat.reduceEqDiff, reduceCtorEq, ↓reduceIte, vpL, vsL, vqL]) (by simp only [vmL, Nat.reduceEqDiff, reduceCtorEq, ↓reduceIte, vpL, vsL, vqL, f5])
            · have h13' : ¬ (d : Int) = 13 := by omega
              obtain ⟨u, g3, g4, g5, vo', e22, e10, e5, f'⟩ := over (.inl h13)
              simp (disch := omega) only [vmL, Nat.reduceEqDiff, reduceCtorEq, ↓reduceIte, vpL, vsL, vqL, Tryb16_4, Tryr16_4, Tryr16_5, Tryr16_7, Tryr16_8, Tryr16_15, Tryr16_17, Tryr16_9, Tryr16_10, Tryr16_11, Tryr16_12, Tryr16_13, Tryr16_14, f0, f1, f5, f.s.length, hz, L9, L8, hsk', e1, e2', e3, L10, h10', L5, oBuildSlice_1u, c1, e4, M3, M5, Ml, h96', h13', e22, e10, oBuild_g0, oBuildSlice_2, e5]
              exact fin f' _ (by simp only [vmL, Nat.reduceEqDiff, reduceCtorEq, ↓reduceIte, vpL, vsL, vqL, f0]) (by simp only [vmL, Nat.reduceEqDiff, reduceCtorEq, ↓reduceIte, vpL, vsL, vqL]) (by simp only [vmL, Nat.reduceEqDiff, reduceCtorEq, ↓reduceIte, vpL, vsL, vqL])
          · have h96' : ¬ (r'.long : Int) + ((r'.now.length + 1 : Nat) : Int) > 4096 := by omega
            obtain ⟨f', -⟩ := nt (by rw [hfl, if_neg (by omega)])
            simp (disch := omega) only [vmL, Nat.reduceEqDiff, reduceCtorEq, ↓reduceIte, vpL, vsL, vqL, Tryb16_4, Tryr16_4, Tryr16_5, Tryr16_7, Tryr16_8, Tryr16_15, Tryr16_17, Tryr16_9, Tryr16_10, Tryr16_11, f0, f1, f5, f.s.length, hz, L9, L8, hsk', e1, e2', e3, L10, h10', L5, oBuildSlice_1u, c1, e4, M3, M5, Ml, h96']
            exact fin f' _ (by simp only [vmL, Nat.reduceEqDiff, reduceCtorEq, ↓reduceIte, vpL, vsL, vqL, f0]) (by simp only [vmL, Nat.reduceEqDiff, reduceCtorEq, ↓reduceIte, vpL, vsL, vqL]) (by simp only [vmL, Nat.reduceEqDiff, reduceCtorEq, ↓reduceIte, vpL, vsL, vqL, f5])
def FeedQ (most : Int) (i : Pos) (r : Rd) (bs : List Nat) (S0 : Pos → Prop) (h : Hp) (v : V) (g : Hp) : Prop :=
  ∃ vt vl vn vq cs, RdAt most g i (feedsM most r bs).1 vt vl vn vq ∧ Stp S0 h (RdF i vt vl vn vq) g ∧ Ow 0 g tG 2 v (feedsM most r bs).2.length cs ∧ (∀ j, idOf v = some j → h.next.nat ≤ j.nat ∧ ¬ RdF i vt vl vn vq j) ∧
    GAt (fun j => h.next.nat ≤ j.nat ∧ ¬ RdF i vt vl vn vq j ∧ idOf v ≠ some j) g (feedsM most r bs).2 cs
theorem feed_ok {B : Nat} (hm : 0 ≤ most) (a : RdAt most h i r vt vl vn vq) (k : RdOk most B r) (hB : B + 2 * bs.length < 800000000) (s : Sl c h 1 vb bs.length (bys bs)) (cap : capOk 1 vb) (hb : ∀ j, idOf vb = some j → ¬ RdF i vt vl vn vq j) (hc : c ≤ h.next.nat) (h256 : ∀ x ∈ bs, x < 256) :
    ∃ v g, TryF16 [.ptr i 0, vb] h = .ok v g ∧ FeedQ most i r bs (RdF i vt vl vn vq) h v g := by
  rw [TryF16_eq]
  show Tells Tryz.prog _ (FeedQ most i r bs (RdF i vt vl vn vq) h) _
  have hnp : ∀ h, oBin .eql (.ptr 11) (.ptr i 0) .nilp h = .ok (.bool false) h := fun _ => rfl
  simp (disch := omega) only [vmL, Nat.reduceEqDiff, reduceCtorEq, ↓reduceIte, vpL, vsL, vqL, Tryd16, Tryr16_0, Tryr16_1, Tryr16_3, hnp]
  refine Oc.then (loop_rule (n := bs.length) (FeedI most i h (RdF i vt vl vn vq) c r bs) (A := FeedA most i h (RdF i vt vl vn vq) r bs) (B := fun _ _ => False) (by rw [lf_eq]; omega) ?_ (fun m fr g I => feed_step hm hc (by omega) m fr g I)) ?_ ?_
  · exact ⟨vb, .nils, bs, r, [], vt, vl, vn, vq, [], by simp only [vmL, Nat.reduceEqDiff, reduceCtorEq, ↓reduceIte, vpL, vsL, vqL], by simp only [vmL, Nat.reduceEqDiff, reduceCtorEq, ↓reduceIte, vpL, vsL, vqL], by simp only [vmL, Nat.reduceEqDiff, reduceCtorEq, ↓reduceIte, vpL, vsL, vqL], rfl, s, cap, hb, a, ⟨B, k, by omega⟩, Stp.refl _ _, rfl, Ow.nil _ _ _ _, fun j q => (by cases q), rfl, by simp, h256⟩
  · rintro fr g ⟨vo, vt', vl', vn', vq', cs, f5, a', p', o', oi', w'⟩
    simp (disch := omega) only [vmL, Nat.reduceEqDiff, reduceCtorEq, ↓reduceIte, vpL, vsL, vqL, Tryr16_19, f5]
    exact Tells.ret (by simp only [resK, vmL, Nat.reduceEqDiff, reduceCtorEq, ↓reduceIte, vpL, vsL, vqL, tupR] <;> rfl) ⟨vt', vl', vn', vq', cs, a', p', o', oi', w'⟩
  · rintro fr g q
    exact q.elim
end Go.Proofs.Im

noncomputable section
namespace Go.Ln
def Wds.get? : Wds → Nat → Option Wd
  | .nil, _ => none
  | .cons k t ks _, 0 => some ⟨k, t, ks⟩
  | .cons _ _ _ r, n + 1 => r.get? n
theorem Wds.get?_lt : ∀ {ws : Wds} {k : Nat} {w : Wd}, ws.get? k = some w → k < ws.len
  | .nil, _, _, h => by cases h
  | .cons _ _ _ _, 0, _, _ => by simp [Wds.len]
  | .cons _ _ _ r, n + 1, w, h => by have := Wds.get?_lt (ws := r) h; simp only [Wds.len]; omega
end Go.Ln
namespace Go.Proofs.Im
open Go Go.Proofs Go.Vm Go.Ln
set_option linter.unusedVariables false
set_option maxRecDepth 100000
set_option linter.unusedSimpArgs false
def Told (P : Pos → Prop) (h : Hp) (v : V) (gs : List Ln.Got) : Prop := ∃ cs, Ow 0 h tG 2 v gs.length cs ∧ (∀ j, idOf v = some j → P j) ∧ GAt P h gs cs
theorem Told.ch {P P' S : Pos → Prop} {h h' : Hp} {v : V} {gs : List Ln.Got} (t : Told P h v gs) (c : Ch S h h') (hs : ∀ j : Pos, j.nat < h.next.nat → P j → P' j ∧ ¬ S j) : Told P' h' v gs := by
  obtain ⟨cs, o, i, w⟩ := t
  exact ⟨cs, o.ch c fun j hj => (hs j (o.idlt hj).2 (i j hj)).2, fun j hj => (hs j (o.idlt hj).2 (i j hj)).1, w.ch c hs⟩
theorem Told.len {P : Pos → Prop} {h : Hp} {v : V} {gs : List Ln.Got} (t : Told P h v gs) (h' : Hp) : oLenK 2 v h' = .ok (.int .i64 (gs.length : Int)) h' := by
  obtain ⟨cs, o, i, w⟩ := t
  exact o.sl.length
theorem GAt.get {P : Pos → Prop} {h : Hp} : ∀ {gs : List Ln.Got} {cs : List V} {k : Nat} {g : Ln.Got}, GAt P h gs cs → gs[k]? = some g → cs[k * 2]? = some (.int .i64 g.kind) ∧ ∃ vw, cs[k * 2 + 1]? = some vw ∧ WRow P h vw g.words
  | [], _, k, g, _, e => by cases e
  | g0 :: l, _, 0, g, ⟨vw, cr, e1, w, r⟩, e => by
    cases e
    subst e1
    exact ⟨rfl, vw, rfl, w⟩
  | g0 :: l, _, k + 1, g, ⟨vw, cr, e1, w, r⟩, e => by
    subst e1
    have := GAt.get (k := k) r e
    rw [show (k + 1) * 2 = k * 2 + 2 by omega]
    exact this
theorem Told.at {P : Pos → Prop} {h : Hp} {v : V} {gs : List Ln.Got} (t : Told P h v gs) {k : Nat} {g : Ln.Got} (e : gs[k]? = some g) :
    ∃ j q vw, (∀ h', oIdxS 2 v (.int .i64 (k : Int)) h' = .ok (.ptr j q) h') ∧ oLoad1 (.ptr j q) h = .ok (.int .i64 g.kind) h ∧ oLoad1 (.ptr j (q + 1)) h = .ok vw h ∧ WRow P h vw g.words := by
  obtain ⟨cs, o, i, w⟩ := t
  have hk : k < gs.length := (List.getElem?_eq_some_iff.1 e).1
  obtain ⟨j, q, e1, -, e2⟩ := o.sl.at hk
  obtain ⟨c0, vw, c1, w1⟩ := w.get e
  exact ⟨j, q, vw, e1, e2 h rfl 0 _ (by omega) c0, e2 h rfl 1 _ (by omega) c1, w1⟩
theorem WAt.get {P : Pos → Prop} {h : Hp} : ∀ {ws : Wds} {cs : List V} {k : Nat} {w : Wd}, WAt P h ws cs → ws.get? k = some w → cs[k * 3]? = some (.int .i64 w.kind) ∧ cs[k * 3 + 1]? = some (.str w.text) ∧ ∃ vk, cs[k * 3 + 2]? = some vk ∧ WRow P h vk w.kids
  | .nil, _, k, w, _, e => by cases e
  | .cons _ _ _ _, _, 0, w, ⟨vk, ck, cr, e1, o, p, x, r⟩, e => by
    cases e
    subst e1
    exact ⟨rfl, rfl, vk, rfl, ck, o, p, x⟩
  | .cons _ _ _ l, _, k + 1, w, ⟨vk, ck, cr, e1, o, p, x, r⟩, e => by
    subst e1
    have := WAt.get (k := k) r e
    rw [show (k + 1) * 3 = k * 3 + 3 by omega]
    exact this
theorem WRow.len {P : Pos → Prop} {h : Hp} {v : V} {ws : Wds} (t : WRow P h v ws) (h' : Hp) : oLenK 2 v h' = .ok (.int .i64 (ws.len : Int)) h' := by
  obtain ⟨cs, o, i, w⟩ := t
  exact o.sl.length
theorem WRow.at {P : Pos → Prop} {h : Hp} {v : V} {ws : Wds} (t : WRow P h v ws) {k : Nat} {w : Wd} (e : ws.get? k = some w) :
    ∃ j q vk, (∀ h', oIdxS 3 v (.int .i64 (k : Int)) h' = .ok (.ptr j q) h') ∧ oLoad1 (.ptr j q) h = .ok (.int .i64 w.kind) h ∧ oLoad1 (.ptr j (q + 1)) h = .ok (.str w.text) h ∧ oLoad1 (.ptr j (q + 2)) h = .ok vk h ∧ WRow P h vk w.kids := by
  obtain ⟨cs, o, i, x⟩ := t
  have hk := Wds.get?_lt e
  obtain ⟨j, q, e1, -, e2⟩ := o.sl.at hk
  obtain ⟨c0, c1, vk, c2, w1⟩ := WAt.get x e
  exact ⟨j, q, vk, e1, e2 h rfl 0 _ (by omega) c0, e2 h rfl 1 _ (by omega) c1, e2 h rfl 2 _ (by omega) c2, w1⟩
end Go.Proofs.Im
