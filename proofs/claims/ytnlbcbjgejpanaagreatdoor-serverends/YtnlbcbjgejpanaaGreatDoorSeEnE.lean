/- Part of the value machine, or of a walk by it: lemmas that the claim's last text uses. No conditions. -/
import Derived.Test.YtnlbcbjgejpanaaGreatDoorSeVmO
import Derived.Test.YtnlbcbjgejpanaaGreatDoorSeEnD
import Derived.KernelRfl
set_option linter.unusedVariables false
set_option linter.unusedSimpArgs false
set_option linter.unnecessarySimpa false
noncomputable section
namespace Go.Proofs.Im
open Go Go.Proofs Go.Vm Go.Ln
set_option linter.unusedVariables false
set_option maxRecDepth 100000
set_option linter.unusedSimpArgs false
structure CnAt (h : Hp) (pv pcs px pc im pr : Pos) (most : Int) (inn : Bool) : Prop where
  hx : ∃ w, h.get px = some (.cells w [.ptr pc 0, .ptr pr 0])
  hxl : px.nat < h.next.nat
  cn : Cn h pc im inn
  hm : 0 ≤ most ∧ most < 9223372036854775808
  rd : RdAt most h pr {} .nils .nils .nils .nils
  dv : pv ≠ pc ∧ pv ≠ pr
  dc : pcs ≠ pc ∧ pcs ≠ pr
  dx : px ≠ pc ∧ px ≠ pr ∧ px ≠ pcs
  dp : pc ≠ pr
  di : im ≠ pr ∧ im ≠ pcs
theorem CnAt.ch {S : Pos → Prop} {h h' : Hp} {pv pcs px pc im pr : Pos} {most : Int} {inn : Bool} (a : CnAt h pv pcs px pc im pr most inn) (c : Ch S h h') (h1 : ¬ S px) (h2 : ¬ S pc) (h3 : ¬ S im) (h4 : ¬ S pr) : CnAt h' pv pcs px pc im pr most inn := by
  obtain ⟨w, e⟩ := a.hx
  exact ⟨⟨w, (c.get px a.hxl h1).trans e⟩, Nat.lt_of_lt_of_le a.hxl c.next, a.cn.ch c h2 h3, a.hm, a.rd.ch c fun j o => (by
    rcases o with rfl | o | o | o | o
    · exact h4
    all_goals cases o), a.dv, a.dc, a.dx, a.dp, a.di⟩
structure Giv (h : Hp) (pr : Pos) (vb : V) (bs : List Nat) : Prop where
  sl : ∃ c, Sl c h 1 vb bs.length (bys bs) ∧ c ≤ h.next.nat
  cap : capOk 1 vb
  hb : ∀ j, idOf vb = some j → j ≠ pr
  hl : bs.length ≤ 2000
  h256 : ∀ x ∈ bs, x < 256
theorem Giv.ch {S : Pos → Prop} {h h' : Hp} {pr : Pos} {vb : V} {bs : List Nat} (a : Giv h pr vb bs) (c : Ch S h h') (hs : ∀ j, idOf vb = some j → ¬ S j) : Giv h' pr vb bs := by
  obtain ⟨c0, s, hc⟩ := a.sl
  exact ⟨⟨c0, s.ch c hc hs, Nat.le_trans hc c.next⟩, a.cap, a.hb, a.hl, a.h256⟩
def evV (kind k : Int) (d : V) : V := .agg (.cons (.int .i64 kind) (.cons (.int .i64 k) (.cons (.int .i64 0) (.cons d .nil))))
theorem oBox_ev (t : TypeId) (kind k : Int) (d : V) (h : Hp) : oBox t (evV kind k d) h = .ok (.ptr h.next 0) (h.new (.cells (.rw t true) [.int .i64 kind, .int .i64 k, .int .i64 0, d])) := (rfl)
theorem ldN_ev {h : Hp} {i : Pos} {w : Wr} {kind k : Int} {d : V} (hg : h.get i = some (.cells w [.int .i64 kind, .int .i64 k, .int .i64 0, d])) : oLoadN 4 (.ptr i 0) h = .ok (evV kind k d) h := by
  show hCells h i (fun _ cs => match takeV 4 (dropV 0 cs) with | some l => R.ok (V.agg (V.ofList l)) h | none => .bad) = _
  rw [hCells_rowA (wr := w) (all := [.int .i64 kind, .int .i64 k, .int .i64 0, d]) (by rw [hg]; rfl)]
  rfl
theorem three : decide ((3 : Int) = 1) = false ∧ decide ((3 : Int) = 2) = false ∧ decide ((3 : Int) = 3) = true := by decide
theorem wire_ok {h : Hp} {pv ps pcs px pc im pr : Pos} {L : List V} {k : Nat} {most : Int} {inn on : Bool} {vb : V} {bs t : List Nat} (s : Srv h pv ps pcs L) (hk : L[k]? = some (.ptr px 0)) (a : CnAt h pv pcs px pc im pr most inn) (gv : Giv h pr vb bs)
    (e : endsM inn (feedsM most {} bs).2 = some (t, on)) :
    ∃ h', ImF702 [.ptr pv 0, evV 3 k vb] h = .ok (.str t) h' ∧ Srv h' pv ps pcs (if on then L else L.set k .nilp) ∧ Ch (fun j => j = pc ∨ j = pr ∨ j = pcs) h h' := by
  have hkl : k < L.length := (List.getElem?_eq_some_iff.1 hk).1
  obtain ⟨g, hg⟩ : ∃ g, g = h.new (.cells (.rw tEv true) [.int .i64 3, .int .i64 (k : Int), .int .i64 0, vb]) := ⟨_, rfl⟩
  have b1 : oBox tEv (evV 3 k vb) h = .ok (.ptr h.next 0) g := by rw [hg]; exact oBox_ev _ _ _ _ _
  have c1 : Ch (fun _ => False) h g := by rw [hg]; exact Ch.new _ _ _
  have n1 : g.next.nat = h.next.nat + 1 := by rw [hg, new_next_nat]
  have E1 : g.get h.next = some (.cells (.rw tEv true) [.int .i64 3, .int .i64 (k : Int), .int .i64 0, vb]) := by rw [hg]; exact new_self _ _
  obtain ⟨g2, e2, c2⟩ := at_ok (s.ch c1 (fun q => q) fun q => q) hkl
  have c12 : Ch (fun _ => False) h g2 := c1.trans c2 fun _ _ q => q
  have E2 : g2.get h.next = _ := (c2.get h.next (by omega) fun q => q).trans E1
  have s2 := s.ch c12 (fun q => q) fun q => q
  have a2 := a.ch c12 (fun q => q) (fun q => q) (fun q => q) fun q => q
  have gv2 := gv.ch c12 fun _ _ q => q
  obtain ⟨c0, sl2, hc2⟩ := gv2.sl
  obtain ⟨h', e4, s4, c4⟩ := bytes_ok s2 hk a2.hx a2.hxl a2.cn a2.hm a2.rd a2.dv a2.dc a2.dx a2.dp a2.di sl2 gv2.cap gv2.hb hc2 gv2.hl gv2.h256 e
  have F1 : oLoad1 (.ptr h.next 1) g = .ok (.int .i64 (k : Int)) g := ld_at E1 rfl
  have F0 : oLoad1 (.ptr h.next 0) g2 = .ok (.int .i64 3) g2 := ld_at E2 rfl
  have F3 : oLoad1 (.ptr h.next 3) g2 = .ok vb g2 := ld_at E2 rfl
  obtain ⟨tr, br, er⟩ := s2.row
  have A1 : oLoad1 (.ptr pcs k) g2 = .ok (.ptr px 0) g2 := ld_at er hk
  refine ⟨h', ?_, s4, (c12.mono fun _ _ q => q.elim).trans c4 fun _ _ q => q⟩
  rw [ImF702_eq]
  simp (disch := omega) only [vmL, Nat.reduceEqDiff, reduceCtorEq, ↓reduceIte, vpL, vsL, vqL, Imd702, Imr702_0, Imr702_1, Imr702_2, Imr702_3, Imr702_6, Imr702_8, Imr702_9, Nat.add_zero, b1, F1, e2, F0, F3, A1, e4, three.1, three.2.1, three.2.2, ptr_neq_nil, ptr_eql_nil]
  simp only [outR, resK, vmL, Nat.reduceEqDiff, reduceCtorEq, ↓reduceIte, vpL, vsL, vqL, tupR]
theorem wire_nil {h : Hp} {pv ps pcs : Pos} {L : List V} {k : Nat} {vb : V} (s : Srv h pv ps pcs L) (hk : L[k]? = some .nilp) :
    ∃ h', ImF702 [.ptr pv 0, evV 3 k vb] h = .ok (.str []) h' ∧ Ch (fun _ => False) h h' := by
  have hkl : k < L.length := (List.getElem?_eq_some_iff.1 hk).1
  obtain ⟨g, hg⟩ : ∃ g, g = h.new (.cells (.rw tEv true) [.int .i64 3, .int .i64 (k : Int), .int .i64 0, vb]) := ⟨_, rfl⟩
  have b1 : oBox tEv (evV 3 k vb) h = .ok (.ptr h.next 0) g := by rw [hg]; exact oBox_ev _ _ _ _ _
  have c1 : Ch (fun _ => False) h g := by rw [hg]; exact Ch.new _ _ _
  have n1 : g.next.nat = h.next.nat + 1 := by rw [hg, new_next_nat]
  have E1 : g.get h.next = some (.cells (.rw tEv true) [.int .i64 3, .int .i64 (k : Int), .int .i64 0, vb]) := by rw [hg]; exact new_self _ _
  obtain ⟨g2, e2, c2⟩ := at_ok (s.ch c1 (fun q => q) fun q => q) hkl
  have c12 : Ch (fun _ => False) h g2 := c1.trans c2 fun _ _ q => q
  have E2 : g2.get h.next = _ := (c2.get h.next (by omega) fun q => q).trans E1
  have s2 := s.ch c12 (fun q => q) fun q => q
  have F1 : oLoad1 (.ptr h.next 1) g = .ok (.int .i64 (k : Int)) g := ld_at E1 rfl
  have F0 : oLoad1 (.ptr h.next 0) g2 = .ok (.int .i64 3) g2 := ld_at E2 rfl
  obtain ⟨tr, br, er⟩ := s2.row
  have A1 : oLoad1 (.ptr pcs k) g2 = .ok .nilp g2 := ld_at er hk
  have Q : ∀ g, oBin .neq (.ptr 2) .nilp .nilp g = .ok (.bool false) g := fun _ => rfl
  refine ⟨g2, ?_, c12⟩
  rw [ImF702_eq]
  simp (disch := omega) only [vmL, Nat.reduceEqDiff, reduceCtorEq, ↓reduceIte, vpL, vsL, vqL, Imd702, Imr702_0, Imr702_1, Imr702_2, Imr702_3, Imr702_6, Imr702_8, Imr702_10, Nat.add_zero, b1, F1, e2, F0, A1, Q, three.1, three.2.1, three.2.2]
  simp only [outR, resK, vmL, Nat.reduceEqDiff, reduceCtorEq, ↓reduceIte, vpL, vsL, vqL, tupR]
theorem oBuild_out (k : Int) (t : List Nat) (h : Hp) : oBuild [.int .i64 0, .str []] [(0, 1, .int .i64 k), (1, 1, .str t)] h = .ok (.agg (.cons (.int .i64 k) (.cons (.str t) .nil))) h := (rfl)
theorem tell_nil (k : Int) (h : Hp) : ImF701 [.int .i64 k, .str []] h = .ok .nils h := by
  rw [ImF701_eq]
  simp (disch := omega) only [vmL, Nat.reduceEqDiff, reduceCtorEq, ↓reduceIte, vpL, vsL, vqL, Imd701, Imr701_0, Imr701_1, Imr701_2, decide_true]
  simp only [outR, resK, vmL, Nat.reduceEqDiff, reduceCtorEq, ↓reduceIte, vpL, vsL, vqL, tupR]
theorem tell_ok (k : Int) {t : List Nat} (ht : t ≠ []) (h : Hp) : ImF701 [.int .i64 k, .str t] h = .ok (.slice h.next 0 1 (.kn 1)) (h.new (.cells (.rw tOut true) [.int .i64 k, .str t])) := by
  have D : decide (t = []) = false := decide_eq_false ht
  rw [ImF701_eq]
  simp (disch := omega) only [vmL, Nat.reduceEqDiff, reduceCtorEq, ↓reduceIte, vpL, vsL, vqL, Imd701, Imr701_0, Imr701_1, Imr701_3, D, oBuild_out]
  simp only [outR, resK, vmL, Nat.reduceEqDiff, reduceCtorEq, ↓reduceIte, vpL, vsL, vqL, tupR]
theorem do_bytes {h : Hp} {pv ps pcs px pc im pr : Pos} {L : List V} {k : Nat} {most : Int} {inn on : Bool} {vb : V} {bs t : List Nat} (s : Srv h pv ps pcs L) (hk : L[k]? = some (.ptr px 0)) (a : CnAt h pv pcs px pc im pr most inn) (gv : Giv h pr vb bs)
    (dq : px ≠ pv ∧ im ≠ pv) (hbv : ∀ j, idOf vb = some j → j ≠ pv) (ht : t ≠ []) (e : endsM inn (feedsM most {} bs).2 = some (t, on)) :
    ∃ i h', ImF700 [.ptr pv 0, evV 3 k vb] h = .ok (.slice i 0 1 (.kn 1)) h' ∧ h'.get i = some (.cells (.rw tOut true) [.int .i64 (k : Int), .str t]) ∧ h.next.nat ≤ i.nat ∧ i.nat < h'.next.nat ∧ Srv h' pv ps pcs (if on then L else L.set k .nilp) ∧ Ch (fun j => j = pv ∨ j = pc ∨ j = pr ∨ j = pcs) h h' := by
  obtain ⟨g, hg⟩ : ∃ g, g = h.new (.cells (.rw tEv true) [.int .i64 3, .int .i64 (k : Int), .int .i64 0, vb]) := ⟨_, rfl⟩
  have b1 : oBox tEv (evV 3 k vb) h = .ok (.ptr h.next 0) g := by rw [hg]; exact oBox_ev _ _ _ _ _
  have c1 : Ch (fun _ => False) h g := by rw [hg]; exact Ch.new _ _ _
  have n1 : g.next.nat = h.next.nat + 1 := by rw [hg, new_next_nat]
  have E1 : g.get h.next = some (.cells (.rw tEv true) [.int .i64 3, .int .i64 (k : Int), .int .i64 0, vb]) := by rw [hg]; exact new_self _ _
  have s1 := s.ch c1 (fun q => q) fun q => q
  obtain ⟨tv, bv, pj, d1, d2, now, n, c, ev⟩ := s1.ex
  obtain ⟨m, add⟩ := add_ok (q := 7) ev rfl
  obtain ⟨g2, hg2⟩ : ∃ g2, g2 = g.put pv (some (.cells (.rw tv bv) ([.ptr ps 0, pj, .int .u32 1, d1, d2, .slice pcs 0 L.length c, .int .i64 now, .int .i64 n].set 7 (.int .i64 m)))) := ⟨_, rfl⟩
  rw [← hg2] at add
  have c2 : Ch (fun j => j = pv) g g2 := by rw [hg2]; exact Ch.put (S := fun j => j = pv) _ _ rfl
  have c12 : Ch (fun j => j = pv) h g2 := (c1.mono fun _ _ q => q.elim).trans c2 fun _ _ q => q
  have n2 : g2.next = g.next := by rw [hg2, put_next]
  have s2 : Srv g2 pv ps pcs L := by
    obtain ⟨t', b', e'⟩ := s1.row
    refine ⟨⟨tv, bv, pj, d1, d2, now, m, c, by rw [hg2]; exact put_self _ _ _⟩, ⟨t', b', (c2.get pcs s1.lc fun q => s.ne q.symm).trans e'⟩, s.ne, by rw [n2]; exact s1.lt, by rw [n2]; exact s1.lc⟩
  have hlt := s.lt
  have a2 := a.ch c12 (fun q => dq.1 q) (fun q => a.dv.1 q.symm) (fun q => dq.2 q) fun q => a.dv.2 q.symm
  have gv2 := gv.ch c12 fun j hj q => hbv j hj q
  have E2 : g2.get h.next = _ := (c2.get h.next (by omega) fun q => by have := congrArg Pos.nat q; omega).trans E1
  obtain ⟨h4, e4, s4, c4⟩ := wire_ok s2 hk a2 gv2 e
  have hpc : pc.nat < h.next.nat := by obtain ⟨-, -, -, -, -, q, -⟩ := a.cn; exact q
  have hpr := a.rd.lt
  have hpcs := s.lc
  have E4 : h4.get h.next = _ := (c4.get h.next (by rw [n2]; omega) fun q => by rcases q with q | q | q <;> (have := congrArg Pos.nat q; omega)).trans E2
  have T4 := tell_ok (k : Int) ht h4
  have F0 : oLoad1 (.ptr h.next 0) g2 = .ok (.int .i64 3) g2 := ld_at E2 rfl
  have F1 : oLoad1 (.ptr h.next 1) g2 = .ok (.int .i64 (k : Int)) g2 := ld_at E2 rfl
  have F4 : oLoad1 (.ptr h.next 1) h4 = .ok (.int .i64 (k : Int)) h4 := ld_at E4 rfl
  have FN := ldN_ev E2
  have n4 := c4.next
  have c5 := Ch.new (fun _ => False) h4 (.cells (.rw tOut true) [.int .i64 (k : Int), .str t])
  refine ⟨h4.next, _, ?_, new_self _ _, by rw [n2] at n4; omega, by rw [new_next_nat]; omega, s4.ch c5 (fun q => q) fun q => q, (c12.mono fun _ _ q => .inl q).trans (c4.trans c5 fun _ _ q => q.elim) fun _ _ q => .inr q⟩
  rw [ImF700_eq]
  simp (disch := omega) only [vmL, Nat.reduceEqDiff, reduceCtorEq, ↓reduceIte, vpL, vsL, vqL, Imd700, Imr700_0, Imr700_1, Imr700_3, Imr700_4, Imr700_5, Imr700_6, Imr700_7, Imr700_8, Nat.add_zero, b1, add, F0, F1, FN, F4, e4, T4, three.1, three.2.1, three.2.2, ptr_eql_nil, chk_one F1 (eqV_int _ _)]
  simp only [outR, resK, vmL, Nat.reduceEqDiff, reduceCtorEq, ↓reduceIte, vpL, vsL, vqL, tupR]
theorem do_nil {h : Hp} {pv ps pcs : Pos} {L : List V} {k : Nat} {vb : V} (s : Srv h pv ps pcs L) (hk : L[k]? = some .nilp) :
    ∃ h', ImF700 [.ptr pv 0, evV 3 k vb] h = .ok .nils h' ∧ Srv h' pv ps pcs L ∧ Ch (fun j => j = pv) h h' := by
  obtain ⟨g, hg⟩ : ∃ g, g = h.new (.cells (.rw tEv true) [.int .i64 3, .int .i64 (k : Int), .int .i64 0, vb]) := ⟨_, rfl⟩
  have b1 : oBox tEv (evV 3 k vb) h = .ok (.ptr h.next 0) g := by rw [hg]; exact oBox_ev _ _ _ _ _
  have c1 : Ch (fun _ => False) h g := by rw [hg]; exact Ch.new _ _ _
  have n1 : g.next.nat = h.next.nat + 1 := by rw [hg, new_next_nat]
  have E1 : g.get h.next = some (.cells (.rw tEv true) [.int .i64 3, .int .i64 (k : Int), .int .i64 0, vb]) := by rw [hg]; exact new_self _ _
  have s1 := s.ch c1 (fun q => q) fun q => q
  obtain ⟨tv, bv, pj, d1, d2, now, n, c, ev⟩ := s1.ex
  obtain ⟨m, add⟩ := add_ok (q := 7) ev rfl
  obtain ⟨g2, hg2⟩ : ∃ g2, g2 = g.put pv (some (.cells (.rw tv bv) ([.ptr ps 0, pj, .int .u32 1, d1, d2, .slice pcs 0 L.length c, .int .i64 now, .int .i64 n].set 7 (.int .i64 m)))) := ⟨_, rfl⟩
  rw [← hg2] at add
  have c2 : Ch (fun j => j = pv) g g2 := by rw [hg2]; exact Ch.put (S := fun j => j = pv) _ _ rfl
  have c12 : Ch (fun j => j = pv) h g2 := (c1.mono fun _ _ q => q.elim).trans c2 fun _ _ q => q
  have n2 : g2.next = g.next := by rw [hg2, put_next]
  have s2 : Srv g2 pv ps pcs L := by
    obtain ⟨t', b', e'⟩ := s1.row
    refine ⟨⟨tv, bv, pj, d1, d2, now, m, c, by rw [hg2]; exact put_self _ _ _⟩, ⟨t', b', (c2.get pcs s1.lc fun q => s.ne q.symm).trans e'⟩, s.ne, by rw [n2]; exact s1.lt, by rw [n2]; exact s1.lc⟩
  have hlt := s.lt
  have E2 : g2.get h.next = _ := (c2.get h.next (by omega) fun q => by have := congrArg Pos.nat q; omega).trans E1
  obtain ⟨h4, e4, c4⟩ := wire_nil (vb := vb) s2 hk
  have E4 : h4.get h.next = _ := (c4.get h.next (by rw [n2]; omega) fun q => q).trans E2
  have F0 : oLoad1 (.ptr h.next 0) g2 = .ok (.int .i64 3) g2 := ld_at E2 rfl
  have F1 : oLoad1 (.ptr h.next 1) g2 = .ok (.int .i64 (k : Int)) g2 := ld_at E2 rfl
  have F4 : oLoad1 (.ptr h.next 1) h4 = .ok (.int .i64 (k : Int)) h4 := ld_at E4 rfl
  have FN := ldN_ev E2
  have T4 := tell_nil (k : Int) h4
  refine ⟨h4, ?_, s2.ch c4 (fun q => q) fun q => q, c12.trans c4 fun _ _ q => q.elim⟩
  rw [ImF700_eq]
  simp (disch := omega) only [vmL, Nat.reduceEqDiff, reduceCtorEq, ↓reduceIte, vpL, vsL, vqL, Imd700, Imr700_0, Imr700_1, Imr700_3, Imr700_4, Imr700_5, Imr700_6, Imr700_7, Imr700_8, Nat.add_zero, b1, add, F0, F1, FN, F4, e4, T4, three.1, three.2.1, three.2.2, ptr_eql_nil, chk_one F1 (eqV_int _ _)]
  simp only [outR, resK, vmL, Nat.reduceEqDiff, reduceCtorEq, ↓reduceIte, vpL, vsL, vqL, tupR]
end Go.Proofs.Im

noncomputable section
namespace Go.Ln
open Go Go.Vm Go.Proofs.Im
set_option maxRecDepth 100000
def lgo : List Nat := [97, 32, 76, 79, 71, 79, 85, 84, 13, 10]
def noo : List Nat := [98, 32, 78, 79, 79, 80, 13, 10]
def byeT : List Nat := [42, 32, 66, 89, 69, 13, 10, 97, 32, 79, 75, 32, 100, 111, 110, 101, 13, 10]
def nooT : List Nat := [98, 32, 79, 75, 32, 100, 111, 110, 101, 13, 10]
def bEq : List Nat → List Nat → Bool
  | [], [] => true
  | a :: l, b :: m => Nat.beq a b && bEq l m
  | [], _ :: _ => false
  | _ :: _, [] => false
theorem bEq_ok : ∀ {l m : List Nat}, bEq l m = true → l = m
  | [], [], _ => rfl
  | a :: l, b :: m, h => by
    simp only [bEq, Bool.and_eq_true] at h
    rw [Nat.eq_of_beq_eq_true h.1, bEq_ok h.2]
  | [], _ :: _, h => by cases h
  | _ :: _, [], h => by cases h
def oneB (r : Rd × List Ln.Got) (t : List Nat) (on : Bool) : Bool := match r.2 with
  | [] => false
  | g :: l => (match l with
    | [] => (match doM false g with
      | some p => bEq p.1 t && (match on, p.2 with | true, true => true | false, false => true | true, false => false | false, true => false)
      | none => false)
    | _ :: _ => false)
theorem oneB_ok {r : Rd × List Ln.Got} {t : List Nat} {on : Bool} (h : oneB r t on = true) : ∃ g, r.2 = [g] ∧ doM false g = some (t, on) := by
  unfold oneB at h
  split at h
  · cases h
  · rename_i g l e
    split at h
    · split at h
      · rename_i p hd
        simp only [Bool.and_eq_true] at h
        refine ⟨g, e, ?_⟩
        rw [hd]
        obtain ⟨p1, p2⟩ := p
        have h1 : p1 = t := bEq_ok h.1
        have h2 := h.2
        subst h1
        cases on <;> cases p2 <;> simp at h2 ⊢
      · cases h
    · cases h
theorem lgo_one : oneB (feedsM 1048576 {} lgo) byeT false = true := by kernel_rfl
theorem noo_one : oneB (feedsM 1048576 {} noo) nooT true = true := by kernel_rfl
theorem ends_lgo (b : List Nat) : endsM false (feedsM 1048576 {} (lgo ++ b)).2 = some (byeT, false) := by
  obtain ⟨g, e, hd⟩ := oneB_ok lgo_one
  rw [feedsM_append, e]
  show endsM false (g :: _) = _
  unfold endsM
  rw [hd]
theorem ends_noo : endsM false (feedsM 1048576 {} noo).2 = some (nooT, true) := by
  obtain ⟨g, e, hd⟩ := oneB_ok noo_one
  rw [e]
  unfold endsM
  rw [hd]
  unfold endsM
  simp only [List.append_nil]
theorem lgo_256 : ∀ x ∈ lgo, x < 256 := by decide
theorem noo_256 : ∀ x ∈ noo, x < 256 := by decide
end Go.Ln
namespace Go.Proofs.Im
open Go Go.Proofs Go.Vm Go.Ln
set_option linter.unusedVariables false
set_option maxRecDepth 100000
set_option linter.unusedSimpArgs false
def valR (r : R V) : V := match r with | .ok v _ => v | .bad => .nil
def hpE (r : R V) : Hp := match r with | .ok _ h => h | .bad => h0 0
def fstV (v : V) : V := match v with | .tuple l => (match l with | .cons a _ => a | _ => .nil) | _ => .nil
def ptrE (o : Option V) : Pos := match o with | some v => (match v with | .ptr i _ => i | .slice i _ _ _ => i | .map i => i | _ => Pos.of 0) | none => Pos.of 0
def cellsE (o : Option Ob) : List V := match o with | some b => (match b with | .cells _ l => l | _ => []) | none => []
def tyE (o : Option Ob) : TypeId := match o with | some b => (match b with | .cells w _ => (match w with | .rw t _ => t | .ro => 0) | _ => 0) | none => 0
def wE (h : Hp) : R V := ImF14 [] h
def nE (h : Hp) : R V := ImF711 [valR (wE h)] (hpE (wE h))
def pvE (h : Hp) : Pos := ptrE (some (fstV (valR (nE h))))
def oE (h : Hp) : R V := ImF700 [.ptr (pvE h) 0, evV 1 1 .nils] (hpE (nE h))
structure StartE (h : Hp) : Prop where
  a : wE h = .ok (valR (wE h)) (hpE (wE h))
  b : nE h = .ok (.tuple (.cons (.ptr (pvE h) 0) (.cons (.int .i64 0) .nil))) (hpE (nE h))
  c : ImF15 [.int .i64 0] (hpE (nE h)) = .ok (.int .i64 0) (hpE (nE h))
  d : oE h = .ok (valR (oE h)) (hpE (oE h))
theorem startE_0 : StartE (h0 TryG) := ⟨by kernel_rfl, by kernel_rfl, by kernel_rfl, by kernel_rfl⟩
theorem startE_1 (l : List V) : StartE ((h0 TryG).new (.cells .ro l)) := ⟨by kernel_rfl, by kernel_rfl, by kernel_rfl, by kernel_rfl⟩
def gM (h : Hp) : Hp := ((hpE (oE h)).new (.cells (.rw tB true) (bys lgo))).put (hpE (oE h)).next (some (.cells .ro (bys lgo)))
def vM (h : Hp) : V := .slice (hpE (oE h)).next 0 10 (.kn 10)
def tE (g : Hp) (pv : Pos) : R V := ImF700 [.ptr pv 0, evV 1 0 .nils] g
def gE (g : Hp) (pv : Pos) : Hp := hpE (tE g pv)
def svE (g : Hp) (pv : Pos) : List V := cellsE ((gE g pv).get pv)
def pcsE (g : Hp) (pv : Pos) : Pos := ptrE (nthV 5 (svE g pv))
def rowE (g : Hp) (pv : Pos) : List V := cellsE ((gE g pv).get (pcsE g pv))
def pxE (g : Hp) (pv : Pos) (k : Nat) : Pos := ptrE (nthV k (rowE g pv))
def pcE (g : Hp) (pv : Pos) (k : Nat) : Pos := ptrE (nthV 0 (cellsE ((gE g pv).get (pxE g pv k))))
def prE (g : Hp) (pv : Pos) (k : Nat) : Pos := ptrE (nthV 1 (cellsE ((gE g pv).get (pxE g pv k))))
def imE (g : Hp) (pv : Pos) (k : Nat) : Pos := ptrE (nthV 4 (cellsE ((gE g pv).get (pcE g pv k))))
structure FinC (g : Hp) (pv : Pos) (k : Nat) : Prop where
  x : (gE g pv).get (pxE g pv k) = some (.cells (.rw (tyE ((gE g pv).get (pxE g pv k))) true) [.ptr (pcE g pv k) 0, .ptr (prE g pv k) 0])
  c : (gE g pv).get (pcE g pv k) = some (.cells (.rw tCn true) [.bool false, .nilp, .bool false, .int .i64 0, .map (imE g pv k)])
  d : (gE g pv).get (imE g pv k) = some (.map (cmdM (pcE g pv k)))
  r : (gE g pv).get (prE g pv k) = some (.cells (.rw tR true) [.int .i64 1048576, .nils, .nils, .int .i64 0, .int .i64 0, .nils, .int .i64 0, .nils, .bool false, .int .i64 0, .bool false])
  l1 : Nat.blt (pxE g pv k).nat (gE g pv).next.nat = true
  l2 : Nat.blt (pcE g pv k).nat (gE g pv).next.nat = true
  l3 : Nat.blt (imE g pv k).nat (gE g pv).next.nat = true
  l4 : Nat.blt (prE g pv k).nat (gE g pv).next.nat = true
  n1 : Nat.beq pv.nat (pcE g pv k).nat = false
  n2 : Nat.beq pv.nat (prE g pv k).nat = false
  n3 : Nat.beq (pcsE g pv).nat (pcE g pv k).nat = false
  n4 : Nat.beq (pcsE g pv).nat (prE g pv k).nat = false
  n5 : Nat.beq (pxE g pv k).nat (pcE g pv k).nat = false
  n6 : Nat.beq (pxE g pv k).nat (prE g pv k).nat = false
  n7 : Nat.beq (pxE g pv k).nat (pcsE g pv).nat = false
  n8 : Nat.beq (pcE g pv k).nat (prE g pv k).nat = false
  n9 : Nat.beq (imE g pv k).nat (prE g pv k).nat = false
  n10 : Nat.beq (imE g pv k).nat (pcsE g pv).nat = false
  n11 : Nat.beq (pcE g pv k).nat (imE g pv k).nat = false
  n12 : Nat.beq (pxE g pv k).nat pv.nat = false
  n13 : Nat.beq (imE g pv k).nat pv.nat = false
theorem bne_pos {a b : Pos} (h : Nat.beq a.nat b.nat = false) : a ≠ b := fun e => by rw [e] at h; rw [Nat.beq_refl] at h; cases h
theorem blt_nat {a b : Nat} (h : Nat.blt a b = true) : a < b := by rw [Nat.blt_eq] at h; exact h
theorem FinC.at {g : Hp} {pv : Pos} {k : Nat} (f : FinC g pv k) : CnAt (gE g pv) pv (pcsE g pv) (pxE g pv k) (pcE g pv k) (imE g pv k) (prE g pv k) 1048576 false :=
  ⟨⟨_, f.x⟩, blt_nat f.l1, ⟨false, 0, f.c, f.d, bne_pos f.n11, blt_nat f.l2, blt_nat f.l3⟩, by omega, RdAt.fresh (blt_nat f.l4) f.r, ⟨bne_pos f.n1, bne_pos f.n2⟩, ⟨bne_pos f.n3, bne_pos f.n4⟩, ⟨bne_pos f.n5, bne_pos f.n6, bne_pos f.n7⟩, bne_pos f.n8, bne_pos f.n9, bne_pos f.n10⟩
structure FinE (g : Hp) (pv : Pos) (j : Pos) (ob : Ob) : Prop where
  o : tE g pv = .ok (valR (tE g pv)) (gE g pv)
  s : (gE g pv).get pv = some (.cells (.rw (tyE ((gE g pv).get pv)) true) [.ptr (ptrE (nthV 0 (svE g pv))) 0, .ptr (ptrE (nthV 1 (svE g pv))) 0, .int .u32 1, .int .i32 0, .int .u32 0, .slice (pcsE g pv) 0 8 (.kn 8), .int .i64 0, .int .i64 2])
  w : (gE g pv).get (pcsE g pv) = some (.cells (.rw (tyE ((gE g pv).get (pcsE g pv))) true) [.ptr (pxE g pv 0) 0, .ptr (pxE g pv 1) 0, .nilp, .nilp, .nilp, .nilp, .nilp, .nilp])
  c0 : FinC g pv 0
  c1 : FinC g pv 1
  -- the bytes that are sent
  b : (gE g pv).get j = some ob
  bl : Nat.blt j.nat (gE g pv).next.nat = true
  b0 : Nat.beq j.nat (prE g pv 0).nat = false
  b1 : Nat.beq j.nat pv.nat = false
  -- the two connections are apart
  m1 : Nat.beq (pxE g pv 1).nat (pcE g pv 0).nat = false
  m2 : Nat.beq (pxE g pv 1).nat (prE g pv 0).nat = false
  m3 : Nat.beq (pcE g pv 1).nat (pcE g pv 0).nat = false
  m4 : Nat.beq (pcE g pv 1).nat (prE g pv 0).nat = false
  m5 : Nat.beq (imE g pv 1).nat (pcE g pv 0).nat = false
  m6 : Nat.beq (imE g pv 1).nat (prE g pv 0).nat = false
  m7 : Nat.beq (prE g pv 1).nat (pcE g pv 0).nat = false
  m8 : Nat.beq (prE g pv 1).nat (prE g pv 0).nat = false
  lv : Nat.blt pv.nat (gE g pv).next.nat = true
  lc : Nat.blt (pcsE g pv).nat (gE g pv).next.nat = true
  nv : Nat.beq pv.nat (pcsE g pv).nat = false
theorem finE_0 : FinE (gM (h0 TryG)) (pvE (h0 TryG)) (hpE (oE (h0 TryG))).next (.cells .ro (bys lgo)) :=
  ⟨by kernel_rfl, by kernel_rfl, by kernel_rfl, ⟨by kernel_rfl, by kernel_rfl, by kernel_rfl, by kernel_rfl, by kernel_rfl, by kernel_rfl, by kernel_rfl, by kernel_rfl, by kernel_rfl, by kernel_rfl, by kernel_rfl, by kernel_rfl, by kernel_rfl, by kernel_rfl, by kernel_rfl, by kernel_rfl, by kernel_rfl, by kernel_rfl, by kernel_rfl, by kernel_rfl, by kernel_rfl⟩, ⟨by kernel_rfl, by kernel_rfl, by kernel_rfl, by kernel_rfl, by kernel_rfl, by kernel_rfl, by kernel_rfl, by kernel_rfl, by kernel_rfl, by kernel_rfl, by kernel_rfl, by kernel_rfl, by kernel_rfl, by kernel_rfl, by kernel_rfl, by kernel_rfl, by kernel_rfl, by kernel_rfl, by kernel_rfl, by kernel_rfl, by kernel_rfl⟩, by kernel_rfl, by kernel_rfl, by kernel_rfl, by kernel_rfl, by kernel_rfl, by kernel_rfl, by kernel_rfl, by kernel_rfl, by kernel_rfl, by kernel_rfl, by kernel_rfl, by kernel_rfl, by kernel_rfl, by kernel_rfl, by kernel_rfl⟩
abbrev hR (l : List V) : Hp := (h0 TryG).new (.cells .ro l)
abbrev gN (l C : List V) : Hp := (gM (hR l)).new (.cells (.rw tB false) C)
theorem finE_2 (l C : List V) : FinE (gN l C) (pvE (hR l)) (gM (hR l)).next (.cells (.rw tB false) C) :=
  ⟨by kernel_rfl, by kernel_rfl, by kernel_rfl, ⟨by kernel_rfl, by kernel_rfl, by kernel_rfl, by kernel_rfl, by kernel_rfl, by kernel_rfl, by kernel_rfl, by kernel_rfl, by kernel_rfl, by kernel_rfl, by kernel_rfl, by kernel_rfl, by kernel_rfl, by kernel_rfl, by kernel_rfl, by kernel_rfl, by kernel_rfl, by kernel_rfl, by kernel_rfl, by kernel_rfl, by kernel_rfl⟩, ⟨by kernel_rfl, by kernel_rfl, by kernel_rfl, by kernel_rfl, by kernel_rfl, by kernel_rfl, by kernel_rfl, by kernel_rfl, by kernel_rfl, by kernel_rfl, by kernel_rfl, by kernel_rfl, by kernel_rfl, by kernel_rfl, by kernel_rfl, by kernel_rfl, by kernel_rfl, by kernel_rfl, by kernel_rfl, by kernel_rfl, by kernel_rfl⟩, by kernel_rfl, by kernel_rfl, by kernel_rfl, by kernel_rfl, by kernel_rfl, by kernel_rfl, by kernel_rfl, by kernel_rfl, by kernel_rfl, by kernel_rfl, by kernel_rfl, by kernel_rfl, by kernel_rfl, by kernel_rfl, by kernel_rfl⟩
theorem FinE.srv {g : Hp} {pv j : Pos} {o : Ob} (f : FinE g pv j o) : Srv (gE g pv) pv (ptrE (nthV 0 (svE g pv))) (pcsE g pv) [.ptr (pxE g pv 0) 0, .ptr (pxE g pv 1) 0, .nilp, .nilp, .nilp, .nilp, .nilp, .nilp] :=
  ⟨⟨_, _, _, _, _, _, _, _, f.s⟩, ⟨_, _, f.w⟩, bne_pos f.nv, blt_nat f.lv, blt_nat f.lc⟩
end Go.Proofs.Im
