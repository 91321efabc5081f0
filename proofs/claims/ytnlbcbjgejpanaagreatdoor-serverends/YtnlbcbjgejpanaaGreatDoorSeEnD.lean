/- Part of the value machine, or of a walk by it: lemmas that the claim's last text uses. No conditions. -/
import Derived.Test.YtnlbcbjgejpanaaGreatDoorSeVmO
import Derived.Test.YtnlbcbjgejpanaaGreatDoorSeEnC
set_option linter.unusedVariables false
set_option linter.unusedSimpArgs false
set_option linter.unnecessarySimpa false
noncomputable section
namespace Go.Ln
open Go Go.Vm Go.Proofs.Im
theorem feedM_one (most : Int) (r : Rd) (c : Nat) : (feedM most r c).2.length ≤ 1 := by
  have he : ∀ r, (endM most r).2.length ≤ 1 := fun r => by
    unfold endM
    repeat' (first | split | simp)
  unfold feedM
  repeat' (first | exact he _ | split | simp)
theorem feedsM_len (most : Int) : ∀ (b : List Nat) (r : Rd), (feedsM most r b).2.length ≤ b.length
  | [], r => by simp [feedsM]
  | c :: b, r => by
    unfold feedsM
    have := feedM_one most r c
    have := feedsM_len most b (feedM most r c).1
    simp only [List.length_append, List.length_cons]
    omega
theorem tellM_len {an : V} {tag t u : List Nat} {on : Bool} (h : AnOk an) (ht : t.length ≤ 100) (e : tellM tag t an = (u, on)) : u.length ≤ tag.length + 300 := by
  rcases h with ⟨k, tx, hk, hl, rfl⟩ | ⟨x, rfl⟩
  · rcases hk with rfl | rfl
    · have : u = tag ++ [32, 78, 79, 32] ++ tx ++ [13, 10] := (congrArg Prod.fst e).symm
      rw [this]; simp <;> omega
    · have : u = tag ++ [32, 66, 65, 68, 32] ++ tx ++ [13, 10] := (congrArg Prod.fst e).symm
      rw [this]; simp <;> omega
  · have : u = t ++ (tag ++ [32, 79, 75, 32, 100, 111, 110, 101, 13, 10]) := (congrArg Prod.fst e).symm
    rw [this]; simp <;> omega
theorem doM_len {inn : Bool} {g : Ln.Got} {t : List Nat} {on : Bool} {s : List Nat} (hw : WsOk s g.words) (e : doM inn g = some (t, on)) : t.length ≤ s.length + 300 := by
  unfold doM at e
  split at e
  · cases e; simp <;> omega
  · split at e
    · split at e
      · rename_i a b ha hb
        split at e
        · split at e
          · rename_i an tt hr
            obtain ⟨h1, h2, -⟩ := runM_ok hr
            have h3 := (hw 0 a ha).2.length_le
            have := tellM_len h1 h2 (Option.some.inj e)
            omega
          · cases e
        · cases e; simp <;> omega
      · cases e; simp <;> omega
    · cases e; simp <;> omega
end Go.Ln
namespace Go.Proofs.Im
open Go Go.Proofs Go.Vm Go.Ln
set_option linter.unusedVariables false
set_option maxRecDepth 100000
set_option linter.unusedSimpArgs false
theorem Told.atN {P : Pos → Prop} {h : Hp} {v : V} {gs : List Ln.Got} (t : Told P h v gs) {k : Nat} {g : Ln.Got} (e : gs[k]? = some g) :
    ∃ j q vw, (∀ h', oIdxS 2 v (.int .i64 (k : Int)) h' = .ok (.ptr j q) h') ∧ oLoadN 2 (.ptr j q) h = .ok (.agg (.cons (.int .i64 g.kind) (.cons vw .nil))) h ∧ WRow P h vw g.words := by
  obtain ⟨cs, o, i, w⟩ := t
  have hk : k < gs.length := (List.getElem?_eq_some_iff.1 e).1
  obtain ⟨c0, vw, c1, w1⟩ := w.get e
  obtain ⟨j, q, e1, -, -, e2⟩ := o.sl.atN hk
  refine ⟨j, q, vw, e1, ?_, w1⟩
  rw [e2 h rfl]
  obtain ⟨l0, x0⟩ := List.getElem?_eq_some_iff.1 c0
  obtain ⟨l1, x1⟩ := List.getElem?_eq_some_iff.1 c1
  rw [List.drop_eq_getElem_cons l0, List.drop_eq_getElem_cons l1, x0, x1]
  rfl
end Go.Proofs.Im

noncomputable section
namespace Go.Ln
open Go Go.Vm Go.Proofs.Im
def endsM (inn : Bool) : List Ln.Got → Option (List Nat × Bool)
  | [] => some ([], true)
  | g :: gs => (match doM inn g with
    | none => none
    | some (t, on) => (match on with
      | true => (match endsM inn gs with | some (u, b) => some (t ++ u, b) | none => none)
      | false => some (t, false)))
end Go.Ln
namespace Go.Proofs.Im
open Go Go.Proofs Go.Vm Go.Ln
set_option linter.unusedVariables false
set_option maxRecDepth 100000
set_option linter.unusedSimpArgs false
theorem once_ok {h : Hp} {i : Pos} {q : Nat} {w : Wr} {l : List V} (hg : h.get i = some (.cells w l)) (hq : l[q]? = some (.int .u32 1)) (f : V) : ∃ r, ImF510 [.ptr i q, f] h = .ok r h := by
  have e0 : ImF538 [.ptr i q] h = .ok (.int .u32 1) h := by
    show hCells h i _ = _
    rw [hCells_rowA (wr := w) (all := l) (by rw [hg]; rfl), nthV_eq, hq]
    rfl
  have e1 : ImF527 [.ptr i q] h = .ok (.bool true) h := by
    rw [ImF527_eq]
    simp (disch := omega) only [vmL, Nat.reduceEqDiff, reduceCtorEq, ↓reduceIte, vpL, vsL, vqL, Imd527, Imr527_0, Imr527_1, Nat.add_zero, e0, show decide ((1 : Int) ≠ 0) = true from rfl, show decide (¬ (1 : Int) = 0) = true from rfl]
    simp only [outR, resK, vmL, Nat.reduceEqDiff, reduceCtorEq, ↓reduceIte, vpL, vsL, vqL, tupR]
  refine ⟨.tuple .nil, ?_⟩
  rw [ImF510_eq]
  simp (disch := omega) only [vmL, Nat.reduceEqDiff, reduceCtorEq, ↓reduceIte, vpL, vsL, vqL, Imd510, Imr510_0, Imr510_1, Nat.add_zero, e1]
  rfl
theorem oBox_ptr (t : TypeId) (i : Pos) (q : Nat) (h : Hp) : oBox t (.ptr i q) h = .ok (.ptr h.next 0) (h.new (.cells (.rw t true) [.ptr i q])) := (rfl)
theorem oFunc_cap (f : FuncId) (x : V) (h : Hp) : oFunc (.func f) [] [x] h = .ok (.func (.func f) (V.ofList []) (V.ofList [x])) h := (rfl)
structure Srv (h : Hp) (pv ps pcs : Pos) (L : List V) : Prop where
  ex : ∃ t b pj d1 d2 now n c, h.get pv = some (.cells (.rw t b) [.ptr ps 0, pj, .int .u32 1, d1, d2, .slice pcs 0 L.length c, .int .i64 now, .int .i64 n])
  row : ∃ t b, h.get pcs = some (.cells (.rw t b) L)
  ne : pv ≠ pcs
  lt : pv.nat < h.next.nat
  lc : pcs.nat < h.next.nat
theorem Srv.ch {S : Pos → Prop} {h h' : Hp} {pv ps pcs : Pos} {L : List V} (s : Srv h pv ps pcs L) (c : Ch S h h') (h1 : ¬ S pv) (h2 : ¬ S pcs) : Srv h' pv ps pcs L := by
  obtain ⟨t, b, pj, d1, d2, now, n, cc, e⟩ := s.ex
  obtain ⟨t', b', e'⟩ := s.row
  exact ⟨⟨t, b, pj, d1, d2, now, n, cc, (c.get _ s.lt h1).trans e⟩, ⟨t', b', (c.get _ s.lc h2).trans e'⟩, s.ne, Nat.lt_of_lt_of_le s.lt c.next, Nat.lt_of_lt_of_le s.lc c.next⟩
theorem at_ok {h : Hp} {pv ps pcs : Pos} {L : List V} {k : Nat} (s : Srv h pv ps pcs L) (hk : k < L.length) : ∃ h', ImF703 [.ptr pv 0, .int .i64 (k : Int)] h = .ok (.tuple (.cons (.ptr pcs k) (.cons (.bool true) .nil))) h' ∧ Ch (fun _ => False) h h' := by
  obtain ⟨t, b, pj, d1, d2, now, n, c, e⟩ := s.ex
  obtain ⟨g, hg⟩ : ∃ g, g = h.new (.cells (.rw tSv true) [.ptr pv 0]) := ⟨_, rfl⟩
  have c1 : Ch (fun _ => False) h g := by rw [hg]; exact Ch.new _ _ _
  have e1 : g.get pv = _ := (c1.get pv s.lt fun q => q).trans e
  have b1 : oBox tSv (.ptr pv 0) h = .ok (.ptr h.next 0) g := by rw [hg]; exact oBox_ptr _ _ _ _
  have l0 : oLoad1 (.ptr h.next 0) g = .ok (.ptr pv 0) g := by rw [hg]; exact ld_at (new_self _ _) rfl
  have l5 : oLoad1 (.ptr pv 5) g = .ok (.slice pcs 0 L.length c) g := ld_at e1 rfl
  obtain ⟨r, ro⟩ := once_ok (q := 2) e1 rfl (.func (.func 49) (V.ofList []) (V.ofList [.ptr h.next 0]))
  have k1 : ∀ g, oLenK 2 (.slice pcs 0 L.length c) g = .ok (.int .i64 (L.length : Int)) g := fun _ => rfl
  have k2 : ∀ g, oIdxS 1 (.slice pcs 0 L.length c) (.int .i64 (k : Int)) g = .ok (.ptr pcs (0 + k * 1)) g := fun _ => oIdxS_slice hk
  refine ⟨g, ?_, c1⟩
  rw [ImF703_eq]
  simp (disch := omega) only [vmL, Nat.reduceEqDiff, reduceCtorEq, ↓reduceIte, vpL, vsL, vqL, Imd703, Imr703_0, Imr703_1, Imr703_2, Imr703_3, Imr703_4, b1, l0, l5, oFunc_cap, ro, k1, k2, Nat.mul_one]
  simp only [outR, resK, vmL, Nat.reduceEqDiff, reduceCtorEq, ↓reduceIte, vpL, vsL, vqL, tupR]
  rfl
theorem bytes_ok {h : Hp} {pv ps pcs px pc im pr : Pos} {L : List V} {k : Nat} {most : Int} {inn on : Bool} {vb : V} {bs t : List Nat} {c : Nat} (s : Srv h pv ps pcs L) (hk : L[k]? = some (.ptr px 0))
    (hx : ∃ w, h.get px = some (.cells w [.ptr pc 0, .ptr pr 0])) (hxl : px.nat < h.next.nat) (cn : Cn h pc im inn) (hm : 0 ≤ most ∧ most < 9223372036854775808) (rd : RdAt most h pr {} .nils .nils .nils .nils)
    (dv : pv ≠ pc ∧ pv ≠ pr) (dc : pcs ≠ pc ∧ pcs ≠ pr) (dx : px ≠ pc ∧ px ≠ pr ∧ px ≠ pcs) (dp : pc ≠ pr) (di : im ≠ pr ∧ im ≠ pcs)
    (sl : Sl c h 1 vb bs.length (bys bs)) (cap : capOk 1 vb) (hb : ∀ j, idOf vb = some j → j ≠ pr) (hc : c ≤ h.next.nat) (hl : bs.length ≤ 2000) (h256 : ∀ x ∈ bs, x < 256) (e : endsM inn (feedsM most {} bs).2 = some (t, on)) :
    ∃ h', ImF704 [.ptr pv 0, .ptr pcs k, vb] h = .ok (.str t) h' ∧ Srv h' pv ps pcs (if on then L else L.set k .nilp) ∧ Ch (fun j => j = pc ∨ j = pr ∨ j = pcs) h h' := by
  have hcl : pc.nat < h.next.nat := by obtain ⟨-, -, -, -, -, a, -⟩ := cn; exact a
  have him : im.nat < h.next.nat := by obtain ⟨-, -, -, -, -, -, a⟩ := cn; exact a
  have hkl : k < L.length := (List.getElem?_eq_some_iff.1 hk).1
  obtain ⟨wx, hx⟩ := hx
  have R0 : ∀ j, RdF pr .nils .nils .nils .nils j → j = pr := fun j o => by
    rcases o with rfl | o | o | o | o
    · rfl
    all_goals cases o
  obtain ⟨v, h2, e2, vt, vl, vn, vq, cs, a2, p2, o2, oi2, w2⟩ := feed_ok (B := 0) hm.1 rd (RdOk.fresh hm.1 hm.2 (Nat.zero_le _)) (by omega) sl cap (fun j hj q => hb j hj (R0 j q)) hc h256
  have c2 : Ch (fun j => j = pr) h h2 := p2.ch.mono fun j _ q => R0 j q
  have told : Told (fun j => h.next.nat ≤ j.nat) h2 v (feedsM most {} bs).2 := ⟨cs, o2, fun j hj => (oi2 j hj).1, w2.ch (Ch.refl (fun _ => False) h2) fun j _ q => ⟨q.1, fun q => q⟩⟩
  have hg := told_of most bs
  have hgl : (feedsM most {} bs).2.length ≤ bs.length := feedsM_len _ _ _
  generalize (feedsM most {} bs).2 = gs at *
  have told2 : Told (fun j => h.next.nat ≤ j.nat ∧ j.nat < h2.next.nat) h2 v gs := told.ch (Ch.refl (fun _ => False) h2) fun j hj q => ⟨⟨q, hj⟩, fun q => q⟩
  have s2 : Srv h2 pv ps pcs L := s.ch c2 (fun q => dv.2 q) fun q => dc.2 q
  have cn2 : Cn h2 pc im inn := cn.ch c2 (fun q => dp q) fun q => di.1 q
  obtain ⟨tr, br, er⟩ := s.row
  have l1 : oLoad1 (.ptr pcs k) h = .ok (.ptr px 0) h := ld_at er hk
  have l2 : oLoad1 (.ptr px 1) h = .ok (.ptr pr 0) h := ld_at hx rfl
  rw [ImF704_eq]
  suffices hT : Tells Tryz.prog [.tmp 6] (fun r h' => r = .str t ∧ Srv h' pv ps pcs (if on then L else L.set k .nilp) ∧ Ch (fun j => j = pc ∨ j = pr ∨ j = pcs) h h') (Imd704 (T.set (some vb) (Pos.of 2) (T.set (some (.ptr pcs k)) (Pos.of 1) (T.set (some (.ptr pv 0)) (Pos.of 0) T.nil))) h) by
    obtain ⟨r, h', e, rfl, q1, q2⟩ := hT
    exact ⟨h', e, q1, q2⟩
  simp (disch := omega) only [vmL, Nat.reduceEqDiff, reduceCtorEq, ↓reduceIte, vpL, vsL, vqL, Imd704, Imr704_0, Imr704_1, Imr704_2, Nat.add_zero, l1, l2, e2, Told.len told2]
  refine Oc.then (loop_rule (n := gs.length) (fun m fr g => ∃ (i : Nat) (acc u : List Nat), fr.get (Pos.of 0) = some (.ptr pv 0) ∧ fr.get (Pos.of 1) = some (.ptr pcs k) ∧ fr.get (Pos.of 19) = some v ∧ fr.get (Pos.of 20) = some (.int .i64 (gs.length : Int)) ∧ fr.get (Pos.of 7) = some (.str acc) ∧ fr.get (Pos.of 21) = some (.int .i64 (i : Int)) ∧
      i + m = gs.length ∧ endsM inn (gs.drop i) = some (u, on) ∧ acc ++ u = t ∧ acc.length ≤ i * 1000300 ∧ Told (fun j => h.next.nat ≤ j.nat ∧ j.nat < h2.next.nat) g v gs ∧ Cn g pc im inn ∧ Srv g pv ps pcs L ∧ Ch (fun j => j = pc ∨ j = pr ∨ j = pcs) h g ∧ h2.next.nat ≤ g.next.nat ∧ g.get px = some (.cells wx [.ptr pc 0, .ptr pr 0]))
    (A := fun fr g => fr.get (Pos.of 7) = some (.str t) ∧ Srv g pv ps pcs (if on then L else L.set k .nilp) ∧ Ch (fun j => j = pc ∨ j = pr ∨ j = pcs) h g) (B := fun _ _ => False) (by rw [lf_eq]; omega) ?_ ?_) ?_ ?_
  · exact ⟨0, [], t, by simp only [vmL, Nat.reduceEqDiff, reduceCtorEq, ↓reduceIte, vpL, vsL, vqL], by simp only [vmL, Nat.reduceEqDiff, reduceCtorEq, ↓reduceIte, vpL, vsL, vqL], by simp only [vmL, Nat.reduceEqDiff, reduceCtorEq, ↓reduceIte, vpL, vsL, vqL], by simp only [vmL, Nat.reduceEqDiff, reduceCtorEq, ↓reduceIte, vpL, vsL, vqL], by simp only [vmL, Nat.reduceEqDiff, reduceCtorEq, ↓reduceIte, vpL, vsL, vqL], by simp only [vmL, Nat.reduceEqDiff, reduceCtorEq, ↓reduceIte, vpL, vsL, vqL]; rfl, by omega, e, rfl, by simp, told2, cn2, s2, c2.mono (fun _ _ q => .inr (.inl q)), Nat.le_refl _, (c2.get px hxl fun q => dx.2.1 q).trans hx⟩
  · rintro m fr g ⟨i, acc, u, f0, f1, f19, f20, f7, f21, hi, eu, hu, ha, tg, cg, sg, chg, hng, hxg⟩
    by_cases hz : m = 0
    · have hii : gs.length ≤ i := by omega
      rw [List.drop_eq_nil_of_le hii] at eu
      cases eu
      rw [List.append_nil] at hu
      subst hu
      simp (disch := omega) only [vmL, Nat.reduceEqDiff, reduceCtorEq, ↓reduceIte, vpL, vsL, vqL, Imb704_3, Imr704_3, f20, f21]
      exact ⟨rfl, by simp only [vmL, Nat.reduceEqDiff, reduceCtorEq, ↓reduceIte, vpL, vsL, vqL, f7], sg, chg⟩
    · have hlt : i < gs.length := by omega
      have hge : gs[i]? = some gs[i] := List.getElem?_eq_getElem hlt
      have hmem : gs[i] ∈ gs := List.getElem_mem _
      rw [List.drop_eq_getElem_cons hlt] at eu
      generalize gs[i] = gk at hge hmem eu
      obtain ⟨j, q, vw, i1, i2, w⟩ := tg.atN hge
      unfold endsM at eu
      cases hd : doM inn gk with
      | none => rw [hd] at eu; cases eu
      | some p =>
        obtain ⟨t1, on1⟩ := p
        rw [hd] at eu
        have hwk := hg gk hmem
        have ht1 := doM_len hwk hd
        -- the row of the got
        obtain ⟨g1, hg1⟩ : ∃ g1, g1 = g.new (.cells (.rw tGot true) [.int .i64 0, .nils]) := ⟨_, rfl⟩
        obtain ⟨g3, hg3⟩ : ∃ g3, g3 = g1.put g.next (some (.cells (.rw tGot true) [.int .i64 gk.kind, vw])) := ⟨_, rfl⟩
        have N1 : oNew tGot [.int .i64 0, .nils] g = .ok (.ptr g.next 0) g1 := by rw [hg1]; rfl
        have S1 : oStore 2 (.ptr g.next 0) (.agg (.cons (.int .i64 gk.kind) (.cons vw .nil))) g1 = .ok V.undef g3 := by
          rw [hg3, oStore_row (by rw [hg1]; exact new_self _ _) rfl rfl]
          rfl
        have c3 : Ch (fun _ => False) g g3 := by
          rw [hg3, hg1]
          exact (Ch.new (fun _ => False) g _).trans (Ch.put (S := fun j => j = g.next) _ _ rfl) fun j hj q => by rw [q] at hj; omega
        have G3 : g3.get g.next = some (.cells (.rw tGot true) [.int .i64 gk.kind, vw]) := by rw [hg3]; exact put_self _ _ _
        have L3 : oLoadN 2 (.ptr g.next 0) g3 = .ok (.agg (.cons (.int .i64 gk.kind) (.cons vw .nil))) g3 := by
          show hCells g3 g.next (fun _ cs => match takeV 2 (dropV 0 cs) with | some l => R.ok (V.agg (V.ofList l)) g3 | none => .bad) = _
          rw [hCells_rowA (wr := .rw 155 true) (all := [.int .i64 gk.kind, vw]) (by rw [G3]; rfl)]
          rfl
        have s3 := sg.ch c3 (fun q => q) fun q => q
        have hx3 : g3.get px = _ := (c3.get px (by have := chg.next; omega) fun q => q).trans hxg
        obtain ⟨t3, b3, pj3, d13, d23, nw3, n3, cc3, e3⟩ := s3.ex
        obtain ⟨tr3, br3, er3⟩ := s3.row
        have A1 : oLoad1 (.ptr pcs k) g3 = .ok (.ptr px 0) g3 := ld_at er3 hk
        have A2 : oLoad1 (.ptr px 0) g3 = .ok (.ptr pc 0) g3 := ld_at hx3 rfl
        have A3 : oLoad1 (.ptr pv 0) g3 = .ok (.ptr ps 0) g3 := ld_at e3 rfl
        have A4 : oLoad1 (.ptr pv 6) g3 = .ok (.int .i64 nw3) g3 := ld_at e3 rfl
        have cn3 := cg.ch c3 (fun q => q) fun q => q
        have w3 : WRow (fun j => h.next.nat ≤ j.nat ∧ j.nat < h2.next.nat) g3 vw gk.words := w.ch c3 fun j _ q => ⟨q, fun q => q⟩
        have n3' := c3.next
        obtain ⟨r4, h4, e4, rfl, cn4, c4⟩ := do_ok (ps := ps) (qs := 0) (now := nw3) cn3 w3 (fun j q => ⟨by omega, fun e => by have := q.1; rw [e] at this; omega⟩) (fun m x hx => ⟨fun c hc => h256 c ((hwk m x hx).2.subset hc), by have := (hwk m x hx).2.length_le; omega⟩) hd
        have n4 := c4.next
        have tg4 : Told (fun j => h.next.nat ≤ j.nat ∧ j.nat < h2.next.nat) h4 v gs := (tg.ch c3 fun j _ q => ⟨q, fun q => q⟩).ch c4 fun j _ q => ⟨q, fun e => by have := q.1; rw [e] at this; omega⟩
        have s4 : Srv h4 pv ps pcs L := s3.ch c4 (fun q => dv.1 q) fun q => dc.1 q
        have hx4 : h4.get px = _ := (c4.get px (by have := chg.next; omega) fun q => dx.1 q).trans hx3
        have ch4 : Ch (fun j => j = pc ∨ j = pr ∨ j = pcs) h h4 := (chg.trans c3 fun _ _ q => q.elim).trans c4 fun _ _ q => .inl q
        have hb : i * 1000300 ≤ 1000000 * 1000300 := Nat.mul_le_mul_right _ (by omega)
        have P1 : ∀ h, oBin .add .none (.str acc) (.str t1) h = .ok (.str (acc ++ t1)) h := fun h => oBin_str_add (by omega)
        cases on1 with
        | true =>
          simp only [] at eu
          cases hr : endsM inn (gs.drop (i + 1)) with
          | none => rw [hr] at eu; cases eu
          | some u' =>
            obtain ⟨u', bo⟩ := u'
            rw [hr] at eu
            cases eu
            simp (disch := omega) only [vmL, Nat.reduceEqDiff, reduceCtorEq, ↓reduceIte, vpL, vsL, vqL, Imb704_3, Imr704_3, Imr704_4, Imr704_5, Imr704_6, Imr704_7, Imr704_9, Nat.add_zero, f0, f1, f7, f19, f20, f21, i1, i2, N1, S1, L3, A1, A2, A3, A4, e4, P1]
            exact ⟨m - 1, by omega, i + 1, acc ++ t1, u', by simp only [vmL, Nat.reduceEqDiff, reduceCtorEq, ↓reduceIte, vpL, vsL, vqL, f0], by simp only [vmL, Nat.reduceEqDiff, reduceCtorEq, ↓reduceIte, vpL, vsL, vqL, f1], by simp only [vmL, Nat.reduceEqDiff, reduceCtorEq, ↓reduceIte, vpL, vsL, vqL, f19], by simp only [vmL, Nat.reduceEqDiff, reduceCtorEq, ↓reduceIte, vpL, vsL, vqL, f20], by simp only [vmL, Nat.reduceEqDiff, reduceCtorEq, ↓reduceIte, vpL, vsL, vqL], by simp only [vmL, Nat.reduceEqDiff, reduceCtorEq, ↓reduceIte, vpL, vsL, vqL]; rfl, by omega, hr, by rw [List.append_assoc]; exact hu, by rw [List.length_append]; omega, tg4, cn4, s4, ch4, by omega, hx4⟩
        | false =>
          cases eu
          obtain ⟨tr4, br4, er4⟩ := s4.row
          have St : oStore 1 (.ptr pcs k) .nilp h4 = .ok V.undef (h4.put pcs (some (.cells (.rw tr4 br4) (L.set k .nilp)))) := st_get er4 ⟨rfl, rfl⟩ hkl
          simp (disch := omega) only [vmL, Nat.reduceEqDiff, reduceCtorEq, ↓reduceIte, vpL, vsL, vqL, Imb704_3, Imr704_3, Imr704_4, Imr704_5, Imr704_6, Imr704_7, Imr704_8, Nat.add_zero, f0, f1, f7, f19, f20, f21, i1, i2, N1, S1, L3, A1, A2, A3, A4, e4, P1, St]
          obtain ⟨t4, b4, pj4, d14, d24, nw4, m4, cc4, e4'⟩ := s4.ex
          refine ⟨rfl, by simp only [vmL, Nat.reduceEqDiff, reduceCtorEq, ↓reduceIte, vpL, vsL, vqL, hu], ⟨⟨t4, b4, pj4, d14, d24, nw4, m4, cc4, ?_⟩, ⟨tr4, br4, put_self _ _ _⟩, s4.ne, s4.lt, s4.lc⟩, ch4.trans (Ch.put (S := fun j => j = pcs) _ _ rfl) fun _ _ q => .inr (.inr q)⟩
          simp only [Bool.false_eq_true, ↓reduceIte, List.length_set]
          rw [put_ne _ (fun q => s4.ne (Pos.nat_inj q))]
          exact e4'
  · rintro fr g ⟨f7, sg, chg⟩
    simp (disch := omega) only [vmL, Nat.reduceEqDiff, reduceCtorEq, ↓reduceIte, vpL, vsL, vqL, Imr704_10, f7]
    exact Tells.ret (by simp only [resK, vmL, Nat.reduceEqDiff, reduceCtorEq, ↓reduceIte, vpL, vsL, vqL, tupR]) ⟨rfl, sg, chg⟩
  · intro fr g q; exact q.elim
end Go.Proofs.Im
