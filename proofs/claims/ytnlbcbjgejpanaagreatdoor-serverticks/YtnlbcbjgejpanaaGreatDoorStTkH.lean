/- Part of the value machine, or of a walk by it: lemmas that the claim's last text uses. No conditions. -/
import Derived.Test.YtnlbcbjgejpanaaGreatDoorStVmO
import Derived.Test.YtnlbcbjgejpanaaGreatDoorStVmS
import Derived.Test.YtnlbcbjgejpanaaGreatDoorStTkF
import Derived.Test.YtnlbcbjgejpanaaGreatDoorStTkG
set_option linter.unusedVariables false
set_option linter.unusedSimpArgs false
set_option linter.unnecessarySimpa false
noncomputable section
namespace Go.Proofs.ImT
open Go Go.Proofs Go.Vm
open Go.ChangeShapes Go.WideShapes Go.ChangeAt Go.RowKit
set_option linter.unusedVariables false
set_option linter.unusedSimpArgs false
set_option maxRecDepth 100000
set_option maxHeartbeats 4000000
def evT (N : Int) : V := .agg (.cons (.int .i64 4) (.cons (.int .i64 0) (.cons (.int .i64 N) (.cons .nils .nil))))
def tickOf (args : List V) : Option (Pos × Int) := match args with
  | [.ptr pv 0, .agg (.cons (.int .i64 k) (.cons (.int .i64 z) (.cons (.int .i64 N) (.cons .nils .nil))))] => if k = 4 ∧ z = 0 then some (pv, N) else none
  | _ => none
theorem tickOf_ok {args : List V} {pv : Pos} {N : Int} (h : tickOf args = some (pv, N)) : args = [.ptr pv 0, evT N] := by
  unfold tickOf at h
  split at h
  · split at h
    · rename_i hk
      obtain ⟨rfl, rfl⟩ := hk
      cases h
      rfl
    · cases h
  · cases h
def nowT (a N : Int) : Int := if N > 253402300799 - a then 253402300799 else a + max N 0
def tickR (o : Option Ob) (N : Int) : Option Ob := match o with
  | some (.cells (.rw t b) [s, j, d0, d1, d2, cs, .int .i64 a, .int .i64 c]) =>
    if 0 ≤ a ∧ a ≤ 253402300799 ∧ -9223372036854775808 ≤ N ∧ N < 9223372036854775808 then some (.cells (.rw t b) [s, j, d0, d1, d2, cs, .int .i64 (nowT a N), .int .i64 (wrapK .i64 (c + 1))]) else none
  | _ => none
theorem tickR_ok {o : Option Ob} {N : Int} {o' : Ob} (h : tickR o N = some o') : ∃ t b s j d0 d1 d2 cs a c, o = some (.cells (.rw t b) [s, j, d0, d1, d2, cs, .int .i64 a, .int .i64 c]) ∧ (0 ≤ a ∧ a ≤ 253402300799 ∧ -9223372036854775808 ≤ N ∧ N < 9223372036854775808) ∧
    o' = .cells (.rw t b) [s, j, d0, d1, d2, cs, .int .i64 (nowT a N), .int .i64 (wrapK .i64 (c + 1))] := by
  unfold tickR at h
  split at h
  · split at h
    · rename_i hr
      cases h
      exact ⟨_, _, _, _, _, _, _, _, _, _, rfl, hr, rfl⟩
    · cases h
  · cases h
theorem ldT {i : Pos} {wr : Wr} {l : List V} {h : Hp} {q : Nat} {v : V} (hg : h.get i = some (.cells wr l)) (hq : l[q]? = some v) : oLoad1 (.ptr i q) h = .ok v h := by rw [ld_get hg, hq]
theorem four : decide ((4 : Int) = 1) = false ∧ decide ((4 : Int) = 2) = false ∧ decide ((4 : Int) = 3) = false ∧ decide ((4 : Int) = 4) = true := by decide
theorem oBox_evT (t : TypeId) (N : Int) (h : Hp) : oBox t (evT N) h = .ok (.ptr h.next 0) (h.new (.cells (.rw t true) [.int .i64 4, .int .i64 0, .int .i64 N, .nils])) := (rfl)
theorem ptrNil (n : Nat) (i : Pos) (q : Nat) (h : Hp) : oBin .eql (.ptr n) (.ptr i q) .nilp h = .ok (.bool false) h := (rfl)
theorem tick_ok {h : Hp} {pv : Pos} {t : TypeId} {b : Bool} {s j d0 d1 d2 cs : V} {a c N : Int} (hg : h.get pv = some (.cells (.rw t b) [s, j, d0, d1, d2, cs, .int .i64 a, .int .i64 c])) (hl : pv.nat < h.next.nat)
    (h0 : 0 ≤ a) (h1 : a ≤ 253402300799) (h2 : -9223372036854775808 ≤ N) (h3 : N < 9223372036854775808) :
    ∃ g, TryF9p [.ptr pv 0, evT N] h = .ok .nils g ∧ g.get pv = some (.cells (.rw t b) [s, j, d0, d1, d2, cs, .int .i64 (nowT a N), .int .i64 (wrapK .i64 (c + 1))]) ∧ ∀ i : Pos, i.nat < h.next.nat → i ≠ pv → g.get i = h.get i := by
  obtain ⟨g1, hg1⟩ : ∃ g, g = h.new (.cells (.rw 36 true) [.int .i64 4, .int .i64 0, .int .i64 N, .nils]) := ⟨_, rfl⟩
  have b1 : oBox 36 (evT N) h = .ok (.ptr h.next 0) g1 := by rw [hg1]; exact oBox_evT _ _ _
  have p1 : g1.get pv = some (.cells (.rw t b) [s, j, d0, d1, d2, cs, .int .i64 a, .int .i64 c]) := by rw [hg1, new_ne h (by omega)]; exact hg
  have x1 : g1.get h.next = some (.cells (.rw 36 true) [.int .i64 4, .int .i64 0, .int .i64 N, .nils]) := by rw [hg1]; exact new_self _ _
  have add := addW_ok (q := 7) p1 rfl
  obtain ⟨g2, hg2⟩ : ∃ g, g = g1.put pv (some (.cells (.rw t b) ([s, j, d0, d1, d2, cs, .int .i64 a, .int .i64 c].set 7 (.int .i64 (wrapK .i64 (c + 1)))))) := ⟨_, rfl⟩
  rw [← hg2] at add
  have p2 : g2.get pv = some (.cells (.rw t b) [s, j, d0, d1, d2, cs, .int .i64 a, .int .i64 (wrapK .i64 (c + 1))]) := by rw [hg2]; exact put_self _ _ _
  have hnp : h.next.nat ≠ pv.nat := by omega
  have x2 : g2.get h.next = some (.cells (.rw 36 true) [.int .i64 4, .int .i64 0, .int .i64 N, .nils]) := by rw [hg2, put_ne _ hnp]; exact x1
  have F0 : oLoad1 (.ptr h.next 0) g2 = .ok (.int .i64 4) g2 := ldT x2 rfl
  have F2 : oLoad1 (.ptr h.next 2) g2 = .ok (.int .i64 N) g2 := ldT x2 rfl
  have F6 : oLoad1 (.ptr pv 6) g2 = .ok (.int .i64 a) g2 := ldT p2 rfl
  have St : ∀ v : Int, oStore 1 (.ptr pv 6) (.int .i64 v) g2 = .ok V.undef (g2.put pv (some (.cells (.rw t b) ([s, j, d0, d1, d2, cs, .int .i64 a, .int .i64 (wrapK .i64 (c + 1))].set 6 (.int .i64 v))))) := fun v => st_get p2 ⟨rfl, rfl⟩ (by simp)
  have oth : ∀ (o : Option Ob) (i : Pos), i.nat < h.next.nat → i ≠ pv → (g2.put pv o).get i = h.get i := fun o i hi hn => by
    have hne : i.nat ≠ pv.nat := fun q => hn (Pos.nat_inj q)
    rw [put_ne _ hne, hg2, put_ne _ hne, hg1, new_ne h (by omega)]
  rw [TryF9p_eq]
  unfold nowT
  by_cases hN : N > 253402300799 - a
  · rw [if_pos hN]
    refine ⟨_, ?_, put_self _ _ _, oth _⟩
    · simp (disch := omega) only [vmL, Nat.reduceEqDiff, reduceCtorEq, ↓reduceIte, vpL, vsL, vqL, Tryd9p, Tryr9p_0, Tryr9p_1, Tryr9p_3, Tryr9p_4, Tryr9p_5, Tryr9p_6, Tryr9p_7, Tryr9p_9, Tryr9p_10, Tryr9p_11, Tryr9p_15, Nat.add_zero, b1, ptrNil, add, F0, F2, F6, four.1, four.2.1, four.2.2.1, four.2.2.2, St, decide_eq_true hN]
      simp only [outR, resK, vmL, Nat.reduceEqDiff, reduceCtorEq, ↓reduceIte, vpL, vsL, vqL, tupR]
      rfl
  · have hm : 0 ≤ max N 0 ∧ max N 0 ≤ 253402300799 - a := by
      rcases Int.le_total N 0 with q | q
      · rw [Int.max_eq_right q]; omega
      · rw [Int.max_eq_left q]; omega
    rw [if_neg hN]
    refine ⟨_, ?_, put_self _ _ _, oth _⟩
    · simp (disch := omega) only [vmL, Nat.reduceEqDiff, reduceCtorEq, ↓reduceIte, vpL, vsL, vqL, Tryd9p, Tryr9p_0, Tryr9p_1, Tryr9p_3, Tryr9p_4, Tryr9p_5, Tryr9p_6, Tryr9p_7, Tryr9p_9, Tryr9p_10, Tryr9p_12, Tryr9p_15, Nat.add_zero, b1, ptrNil, add, F0, F2, F6, four.1, four.2.1, four.2.2.1, four.2.2.2, St, decide_eq_false hN]
      simp only [outR, resK, vmL, Nat.reduceEqDiff, reduceCtorEq, ↓reduceIte, vpL, vsL, vqL, tupR]
      rfl
def tickS (args : List V) (h : Hp) : Option (V × Hp) := match tickOf args with
  | some p => (match tickR (h.get p.1) p.2 with
    | some o => some (.nils, h.put p.1 (some o))
    | none => none)
  | none => none
def TryF9u : Fun := fastF tickS TryF9p
theorem Tryc9u : CallOk Tryz.prog TryG 9 TryF9u := fast_ok Tryc9p fun args h r h2 ok hia e => by
  unfold tickS at e
  split at e
  · rename_i p ht
    obtain ⟨pv, N⟩ := p
    split at e
    · rename_i o ho
      obtain ⟨t, b, s, j, d0, d1, d2, cs, a, c, hg, ⟨r0, r1, r2, r3⟩, rfl⟩ := tickR_ok ho
      have hl := (ok _ _ hg).1
      obtain ⟨g, e1, e2, e3⟩ := tick_ok hg hl r0 r1 r2 r3
      cases e
      refine ⟨g, id, by rw [tickOf_ok ht]; exact e1, ⟨Nat.le_refl _, fun _ _ => rfl, fun _ _ _ _ e => e, fun i o' ho' => ?_⟩, rfl⟩
      rw [Ob.ren_same (ρ := id) fun _ => rfl]
      by_cases hip : i = pv
      · subst hip
        rw [put_self] at ho'
        cases ho'
        exact ⟨hl, ⟨_, e2, .inl rfl⟩, (ok _ _ hg).2⟩
      · have hne : i.nat ≠ pv.nat := fun q => hip (Pos.nat_inj q)
        rw [put_ne _ hne] at ho'
        have hl' := (ok _ _ ho').1
        exact ⟨hl', ⟨_, (e3 i hl' hip).trans ho', .inl rfl⟩, (ok _ _ ho').2⟩
    · cases e
  · cases e
def Tryk3p : Nat → Bool := fun t => memN t [0, 2, 3, 4, 5, 6, 7, 8, 11, 24, 28]
def Tryr3p_0 (fr : F) (h : Hp) : Out :=
  Out.nor (T.set (some (.bool false)) (Pos.of 2) fr) h
def Tryr3p_1 (fr : F) (h : Hp) : Out :=
  gtO (T.get fr (Pos.of 0)) fun v0 => bndO (oLenK 2 v0 h) fun v10 h1 =>
  bndO (oBin .gtr .none v10 (.int .i64 60) h1) fun v11 h2 =>
  Out.nor (T.set (some v11) (Pos.of 11) fr) h2
def Tryr3p_2 (fr : F) (h : Hp) : Out :=
  bndO (TryF5c [] h) fun v12 h0 =>
  Out.nor (T.set (some v12) (Pos.of 2) fr) h0
def Tryr3p_3 (fr : F) (h : Hp) : Out :=
  bndO (TryF7 [] h) fun v14 h0 =>
  bndO (TryF6 [v14] h0) fun v15 h1 =>
  bndO (oExtract 0 v15 h1) fun v16 h3 =>
  bndO (oExtract 1 v15 h3) fun v17 h4 =>
  Out.nor (T.set (some v17) (Pos.of 4) (T.set (some v16) (Pos.of 3) fr)) h4
def Tryr3p_4 (fr : F) (h : Hp) : Out :=
  gtO (T.get fr (Pos.of 4)) fun v4 => bndO (TryF8 [v4] h) fun v19 h1 =>
  bndO (oBin .neq .none v19 (.int .i64 0) h1) fun v20 h2 =>
  ifB v20 (Out.nor (T.set (some (.bool true)) (Pos.of 24) fr) h2) (gtO (T.get fr (Pos.of 3)) fun v3 => bndO (oBin .eql (.ptr 8) v3 .nilp h2) fun v23 h5 =>
  Out.nor (T.set (some v23) (Pos.of 24) fr) h5)
def Tryr3p_5 (fr : F) (h : Hp) : Out :=
  Out.nor (T.set (some (.bool false)) (Pos.of 2) fr) h
def Tryr3p_6 (fr : F) (h : Hp) : Out :=
  Out.nor (T.set (some (.int .i64 0)) (Pos.of 5) fr) h
def Tryr3p_7 (fr : F) (h : Hp) : Out :=
  Out.nor (T.set (some (.int .i64 0)) (Pos.of 6) fr) h
def Tryr3p_8 (fr : F) (h : Hp) : Out :=
  gtO (T.get fr (Pos.of 6)) fun v6 => gtO (T.get fr (Pos.of 0)) fun v0 => bndO (oLenK 2 v0 h) fun v27 h2 =>
  bndO (oBin .lss .none v6 v27 h2) fun v28 h3 =>
  Out.nor (T.set (some v28) (Pos.of 28) fr) h3
def Tryr3p_10 (fr : F) (h : Hp) : Out :=
  gtO (T.get fr (Pos.of 3)) fun v3 => gtO (T.get fr (Pos.of 0)) fun v0 => gtO (T.get fr (Pos.of 6)) fun v6 => bndO (oIdxS 1 v0 v6 h) fun v34 h3 =>
  bndO (oLoad1 v34 h3) fun v35 h4 =>
  bndO (oConvInt .i64 v35 h4) fun v36 h5 =>
  bndO (oBuild [(.int .i64 0), (.int .i64 0), (.int .i64 0), .nils] [(0, 1, (.int .i64 4)), (2, 1, v36)] h5) fun v37 h6 =>
  bndO (TryF9u [v3, v37] h6) fun v38 h7 =>
  Out.nor fr h7
def Tryr3p_11 (fr : F) (h : Hp) : Out :=
  gtO (T.get fr (Pos.of 5)) fun v5 => gtO (T.get fr (Pos.of 0)) fun v0 => gtO (T.get fr (Pos.of 6)) fun v6 => bndO (oIdxS 1 v0 v6 h) fun v42 h3 =>
  bndO (oLoad1 v42 h3) fun v43 h4 =>
  bndO (oConvInt .i64 v43 h4) fun v44 h5 =>
  bndO (oMax (.int .i64 0) v44 h5) fun v45 h6 =>
  bndO (oBin .add .none v5 v45 h6) fun v46 h7 =>
  Out.nor (T.set (some v46) (Pos.of 5) fr) h7
def Tryr3p_9 (fr : F) (h : Hp) : Out :=
  gtO (T.get fr (Pos.of 6)) fun v6 => bndO (oBin .add .none v6 (.int .i64 1) h) fun v30 h1 =>
  Out.nor (T.set (some v30) (Pos.of 6) fr) h1
def Tryr3p_12 (fr : F) (h : Hp) : Out :=
  gtO (T.get fr (Pos.of 3)) fun v3 => bndO (oBuild [(.int .i64 0), (.int .i64 0), (.int .i64 0), .nils] [(0, 1, (.int .i64 4)), (2, 1, (.int .i64 (-9223372036854775808)))] h) fun v48 h1 =>
  bndO (TryF9u [v3, v48] h1) fun v49 h2 =>
  Out.nor fr h2
def Tryr3p_13 (fr : F) (h : Hp) : Out :=
  gtO (T.get fr (Pos.of 3)) fun v3 => bndO (oBuildSlice 5 [(.int .u8 0), (.int .u8 0), (.int .u8 0), (.int .u8 0), (.int .u8 0), (.int .u8 0), (.int .u8 0), (.int .u8 0), (.int .u8 0), (.int .u8 0), (.int .u8 0), (.int .u8 0), (.int .u8 0), (.int .u8 0), (.int .u8 0), (.int .u8 0), (.int .u8 0), (.int .u8 0), (.int .u8 0), (.int .u8 0), (.int .u8 0), (.int .u8 0), (.int .u8 0), (.int .u8 0), (.int .u8 0), (.int .u8 0), (.int .u8 0), (.int .u8 0), (.int .u8 0), (.int .u8 0), (.int .u8 0)] 31 [(0, 1, (.int .u8 97)), (1, 1, (.int .u8 32)), (2, 1, (.int .u8 76)), (3, 1, (.int .u8 79)), (4, 1, (.int .u8 71)), (5, 1, (.int .u8 73)), (6, 1, (.int .u8 78)), (7, 1, (.int .u8 32)), (8, 1, (.int .u8 117)), (9, 1, (.int .u8 32)), (10, 1, (.int .u8 112)), (11, 1, (.int .u8 13)), (12, 1, (.int .u8 10)), (13, 1, (.int .u8 98)), (14, 1, (.int .u8 32)), (15, 1, (.int .u8 65)), (16, 1, (.int .u8 80)), (17, 1, (.int .u8 80)), (18, 1, (.int .u8 69)), (19, 1, (.int .u8 78)), (20, 1, (.int .u8 68)), (21, 1, (.int .u8 32)), (22, 1, (.int .u8 73)), (23, 1, (.int .u8 78)), (24, 1, (.int .u8 66)), (25, 1, (.int .u8 79)), (26, 1, (.int .u8 88)), (27, 1, (.int .u8 32)), (28, 1, (.int .u8 120)), (29, 1, (.int .u8 13)), (30, 1, (.int .u8 10))] h) fun v51 h1 =>
  bndO (oMarkB v51 h1) fun v52 h2 =>
  bndO (TryF10p [v3, v52] h2) fun v53 h3 =>
  Out.nor fr h3
def Tryr3p_14 (fr : F) (h : Hp) : Out :=
  gtO (T.get fr (Pos.of 3)) fun v3 => bndO (oBuild [(.int .i64 0), (.int .i64 0), (.int .i64 0), .nils] [(0, 1, (.int .i64 4)), (2, 1, (.int .i64 9223372036854775807))] h) fun v55 h1 =>
  bndO (TryF9u [v3, v55] h1) fun v56 h2 =>
  Out.nor fr h2
def Tryr3p_15 (fr : F) (h : Hp) : Out :=
  gtO (T.get fr (Pos.of 3)) fun v3 => bndO (oBuildSlice 5 [(.int .u8 0), (.int .u8 0), (.int .u8 0), (.int .u8 0), (.int .u8 0), (.int .u8 0), (.int .u8 0), (.int .u8 0), (.int .u8 0), (.int .u8 0), (.int .u8 0), (.int .u8 0), (.int .u8 0), (.int .u8 0), (.int .u8 0), (.int .u8 0), (.int .u8 0), (.int .u8 0)] 18 [(0, 1, (.int .u8 99)), (1, 1, (.int .u8 32)), (2, 1, (.int .u8 65)), (3, 1, (.int .u8 80)), (4, 1, (.int .u8 80)), (5, 1, (.int .u8 69)), (6, 1, (.int .u8 78)), (7, 1, (.int .u8 68)), (8, 1, (.int .u8 32)), (9, 1, (.int .u8 73)), (10, 1, (.int .u8 78)), (11, 1, (.int .u8 66)), (12, 1, (.int .u8 79)), (13, 1, (.int .u8 88)), (14, 1, (.int .u8 32)), (15, 1, (.int .u8 121)), (16, 1, (.int .u8 13)), (17, 1, (.int .u8 10))] h) fun v58 h1 =>
  bndO (oMarkB v58 h1) fun v59 h2 =>
  bndO (oBuild [(.int .i64 0), (.int .i64 0), (.int .i64 0), .nils] [(0, 1, (.int .i64 3)), (3, 1, v59)] h2) fun v60 h3 =>
  bndO (TryF9u [v3, v60] h3) fun v61 h4 =>
  Out.nor (T.set (some v61) (Pos.of 7) fr) h4
def Tryr3p_16 (fr : F) (h : Hp) : Out :=
  gtO (T.get fr (Pos.of 3)) fun v3 => bndO (TryF11 [v3] h) fun v63 h1 =>
  bndO (TryF12 [v63] h1) fun v64 h2 =>
  Out.nor (T.set (some v64) (Pos.of 8) fr) h2
def Tryr3p_17 (fr : F) (h : Hp) : Out :=
  gtO (T.get fr (Pos.of 7)) fun v7 => bndO (oLenK 2 v7 h) fun v66 h1 =>
  bndO (oBin .eql .none v66 (.int .i64 1) h1) fun v67 h2 =>
  ifB v67 (gtO (T.get fr (Pos.of 8)) fun v8 => bndO (oLenK 2 v8 h2) fun v70 h5 =>
  bndO (oBin .eql .none v70 (.int .i64 2) h5) fun v71 h6 =>
  ifB v71 (bndO (oIdxS 8 v8 (.int .i64 0) h6) fun v75 h10 =>
  bndO (oFieldAddr 3 v75 h10) fun v76 h11 =>
  bndO (oLoad1 v76 h11) fun v77 h12 =>
  gtO (T.get fr (Pos.of 5)) fun v5 => bndO (oBin .eql .none v77 v5 h12) fun v79 h14 =>
  ifB v79 (bndO (oIdxS 8 v8 (.int .i64 1) h14) fun v83 h18 =>
  bndO (oFieldAddr 3 v83 h18) fun v84 h19 =>
  bndO (oLoad1 v84 h19) fun v85 h20 =>
  bndO (TryF13 [v85] h20) fun v86 h21 =>
  bndO (oBin .eql .none v86 (.str [57, 57, 57, 57, 45, 49, 50, 45, 51, 49, 84, 50, 51, 58, 53, 57, 58, 53, 57, 90]) h21) fun v87 h22 =>
  ifB v87 (bndO (TryF5c [] h22) fun v90 h25 =>
  Out.nor (T.set (some v90) (Pos.of 2) fr) h25) (Out.nor (T.set (some (.bool false)) (Pos.of 2) fr) h22)) (Out.nor (T.set (some (.bool false)) (Pos.of 2) fr) h14)) (Out.nor (T.set (some (.bool false)) (Pos.of 2) fr) h6)) (Out.nor (T.set (some (.bool false)) (Pos.of 2) fr) h2)
def Tryb3p_8 : F → Hp → Out := (seqO (seqO Tryr3p_8 (cndX (.tmp 28) Out.nor (Out.ex 0))) (seqO (blkO 1 (seqO Tryr3p_10 Tryr3p_11)) Tryr3p_9))
def Tryd3p : F → Hp → Out := (seqO Tryr3p_0 (seqO (seqO Tryr3p_1 (cndX (.tmp 11) (seqO Tryr3p_2 Out.ret) Out.nor)) (seqO Tryr3p_3 (seqO (seqO Tryr3p_4 (cndX (.tmp 24) (seqO Tryr3p_5 Out.ret) Out.nor)) (seqO Tryr3p_6 (seqO (seqO Tryr3p_7 (blkO 0 (loopO Tryb3p_8 lf))) (seqO Tryr3p_12 (seqO Tryr3p_13 (seqO Tryr3p_14 (seqO Tryr3p_15 (seqO Tryr3p_16 (seqO Tryr3p_17 Out.ret))))))))))))
def Trye3p : FuncId → Option Fun := fun f => match Nat.beq f 5 with | true => some TryF5c | false => match Nat.beq f 7 with | true => some TryF7 | false => match Nat.beq f 6 with | true => some TryF6 | false => match Nat.beq f 8 with | true => some TryF8 | false => match Nat.beq f 9 with | true => some TryF9u | false => match Nat.beq f 10 with | true => some TryF10p | false => match Nat.beq f 11 with | true => some TryF11 | false => match Nat.beq f 12 with | true => some TryF12 | false => match Nat.beq f 13 with | true => some TryF13 | false => none
def Tryp3p : Plans := fun id => none
def TryF3p : Fun := funX Tryz.prog TryG Tryk3p Trye3p Tryp3p lf Tryz.f3
theorem TryD3p : denX Tryz.prog TryG Tryz.f3.ntmps Tryk3p Trye3p Tryp3p lf (codeOf Tryz.f3) = Tryd3p := by kernel_rfl
theorem TryF3p_eq (x0 : V) (h : Hp) : TryF3p [x0] h = outR Tryz.prog [.tmp 2] (Tryd3p (T.set (some x0) (Pos.of 0) T.nil) h) := funX_eq (by kernel_rfl) TryD3p (by kernel_rfl) h
theorem Tryc3p : CallOk Tryz.prog TryG 3 TryF3p := funX_ok Trymix (callsOk_cons Tryc5c (callsOk_cons Tryc7 (callsOk_cons Tryc6 (callsOk_cons Tryc8 (callsOk_cons Tryc9u (callsOk_cons Tryc10p (callsOk_cons Tryc11 (callsOk_cons Tryc12 (callsOk_cons Tryc13 callsOk_0))))))))) Tryz.func3 (by kernel_rfl)
end Go.Proofs.ImT
