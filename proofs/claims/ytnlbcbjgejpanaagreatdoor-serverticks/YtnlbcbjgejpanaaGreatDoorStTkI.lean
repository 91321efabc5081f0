/- Part of the value machine, or of a walk by it: lemmas that the claim's last text uses. No conditions. -/
import Derived.Test.YtnlbcbjgejpanaaGreatDoorStVmO
import Derived.Test.YtnlbcbjgejpanaaGreatDoorStTkH
set_option linter.unusedVariables false
set_option linter.unusedSimpArgs false
set_option linter.unnecessarySimpa false
noncomputable section
namespace Go.Proofs.ImT
open Go Go.Proofs Go.Vm
open Go.ChangeShapes Go.WideShapes Go.ChangeAt Go.RowKit
set_option linter.unusedVariables false
set_option linter.unusedSimpArgs false
set_option maxRecDepth 100000
set_option maxHeartbeats 4000000
def evB (v : V) : V := .agg (.cons (.int .i64 3) (.cons (.int .i64 0) (.cons (.int .i64 0) (.cons v .nil))))
def rowC : List Nat := [99, 32, 65, 80, 80, 69, 78, 68, 32, 73, 78, 66, 79, 88, 32, 121, 13, 10]
def xT (hi : Hp) (a c : Int) (k : Nat) : V := nthE k (cellsT ((lvG10 hi a c).get (pvT hi)))
def cT (hi : Hp) (a c : Int) : Int := match xT hi a c 7 with | .int _ n => n | _ => 0
def wM (hi : Hp) (a c : Int) : TypeId := tyT ((lvG10 hi a c).get (pvT hi))
def hM (hi : Hp) (a c c3 : Int) : Hp := (lvG10 hi a c).put (pvT hi) (some (.cells (.rw (wM hi a c) true) [xT hi a c 0, xT hi a c 1, xT hi a c 2, xT hi a c 3, xT hi a c 4, xT hi a c 5, .int .i64 253402300799, .int .i64 c3]))
def hC (hi : Hp) (a c c3 : Int) : Hp := ((hM hi a c c3).new (.cells (.rw 5 true) (bys rowC))).put (hM hi a c c3).next (some (.cells .ro (bys rowC)))
def rC (hi : Hp) (a c c3 : Int) : R V := TryF9p [.ptr (pvT hi) 0, evB (.slice (hM hi a c c3).next 0 18 (.kn 18))] (hC hi a c c3)
def rS (hi : Hp) (a c c3 : Int) : R V := TryF11 [.ptr (pvT hi) 0] (hpT (rC hi a c c3))
def rM (hi : Hp) (a c c3 : Int) : R V := TryF12 [valE (rS hi a c c3)] (hpT (rS hi a c c3))
def mM (hi : Hp) (a c c3 : Int) : Pos := ptrT (some (valE (rM hi a c c3)))
def kM (hi : Hp) (a c c3 : Int) : Cap := match valE (rM hi a c c3) with | .slice _ _ _ k => k | _ => .kn 0
def rR (hi : Hp) (a c c3 : Int) : R V := TryF13 [.int .i64 253402300799] (hpT (rM hi a c c3))
def rfcT : List Nat := [57, 57, 57, 57, 45, 49, 50, 45, 51, 49, 84, 50, 51, 58, 53, 57, 58, 53, 57, 90]
structure TkF (hi : Hp) : Prop where
  a : wT hi = .ok (valE (wT hi)) (hpT (wT hi))
  b : nT hi = .ok (.tuple (.cons (.ptr (pvT hi) 0) (.cons (.int .i64 0) .nil))) (hpT (nT hi))
  c : TryF8 [.int .i64 0] (hpT (nT hi)) = .ok (.int .i64 0) (hpT (nT hi))
  d : (hpT (nT hi)).get (pvT hi) = some (obT hi 0 0)
  d0 : (hpT (nT hi)).put (pvT hi) (some (obT hi 0 0)) = hpT (nT hi)
  lv : ∀ a c, 0 ≤ a → a ≤ 253402300799 → TryF10p (lvE10 hi a c) (lvH10 hi a c) = .ok (lvV10 hi a c) (lvG10 hi a c)
  m : ∀ a c, (lvG10 hi a c).get (pvT hi) = some (.cells (.rw (wM hi a c) true) [xT hi a c 0, xT hi a c 1, xT hi a c 2, xT hi a c 3, xT hi a c 4, xT hi a c 5, .int .i64 a, .int .i64 (cT hi a c)])
  o : ∀ a c c3, rC hi a c c3 = .ok (.slice (ptrT (some (valE (rC hi a c c3)))) 0 1 (.kn 1)) (hpT (rC hi a c c3))
  p : ∀ a c c3, rS hi a c c3 = .ok (valE (rS hi a c c3)) (hpT (rS hi a c c3))
  q : ∀ a c c3, rM hi a c c3 = .ok (.slice (mM hi a c c3) 0 2 (kM hi a c c3)) (hpT (rM hi a c c3))
  r0 : ∀ a c c3, oLoad1 (.ptr (mM hi a c c3) 3) (hpT (rM hi a c c3)) = .ok (.int .i64 a) (hpT (rM hi a c c3))
  r1 : ∀ a c c3, oLoad1 (.ptr (mM hi a c c3) 11) (hpT (rM hi a c c3)) = .ok (.int .i64 253402300799) (hpT (rM hi a c c3))
  s : ∀ a c c3, rR hi a c c3 = .ok (.str rfcT) (hpT (rR hi a c c3))
theorem bldT (x : Int) (h : Hp) : oBuild [.int .i64 0, .int .i64 0, .int .i64 0, .nils] [(0, 1, .int .i64 4), (2, 1, .int .i64 x)] h = .ok (evT x) h := rfl
theorem bldB (i : Pos) (o n : Nat) (c : Cap) (h : Hp) : oBuild [.int .i64 0, .int .i64 0, .int .i64 0, .nils] [(0, 1, .int .i64 3), (3, 1, .slice i o n c)] h = .ok (evB (.slice i o n c)) h := rfl
theorem markT (h : Hp) (t : TypeId) (b : Bool) (l : List V) (n : Nat) (c : Cap) : oMarkB (.slice h.next 0 n c) (h.new (.cells (.rw t b) l)) = .ok (.slice h.next 0 n c) ((h.new (.cells (.rw t b) l)).put h.next (some (.cells .ro l))) := by
  unfold oMarkB
  simp only [new_self]
theorem row31 (h : Hp) : oBuildSlice 5 [(.int .u8 0), (.int .u8 0), (.int .u8 0), (.int .u8 0), (.int .u8 0), (.int .u8 0), (.int .u8 0), (.int .u8 0), (.int .u8 0), (.int .u8 0), (.int .u8 0), (.int .u8 0), (.int .u8 0), (.int .u8 0), (.int .u8 0), (.int .u8 0), (.int .u8 0), (.int .u8 0), (.int .u8 0), (.int .u8 0), (.int .u8 0), (.int .u8 0), (.int .u8 0), (.int .u8 0), (.int .u8 0), (.int .u8 0), (.int .u8 0), (.int .u8 0), (.int .u8 0), (.int .u8 0), (.int .u8 0)] 31 [(0, 1, (.int .u8 97)), (1, 1, (.int .u8 32)), (2, 1, (.int .u8 76)), (3, 1, (.int .u8 79)), (4, 1, (.int .u8 71)), (5, 1, (.int .u8 73)), (6, 1, (.int .u8 78)), (7, 1, (.int .u8 32)), (8, 1, (.int .u8 117)), (9, 1, (.int .u8 32)), (10, 1, (.int .u8 112)), (11, 1, (.int .u8 13)), (12, 1, (.int .u8 10)), (13, 1, (.int .u8 98)), (14, 1, (.int .u8 32)), (15, 1, (.int .u8 65)), (16, 1, (.int .u8 80)), (17, 1, (.int .u8 80)), (18, 1, (.int .u8 69)), (19, 1, (.int .u8 78)), (20, 1, (.int .u8 68)), (21, 1, (.int .u8 32)), (22, 1, (.int .u8 73)), (23, 1, (.int .u8 78)), (24, 1, (.int .u8 66)), (25, 1, (.int .u8 79)), (26, 1, (.int .u8 88)), (27, 1, (.int .u8 32)), (28, 1, (.int .u8 120)), (29, 1, (.int .u8 13)), (30, 1, (.int .u8 10))] h = .ok (.slice h.next 0 31 (.kn 31)) (h.new (.cells (.rw 5 true) (bys rowT))) := rfl
theorem row18 (h : Hp) : oBuildSlice 5 [(.int .u8 0), (.int .u8 0), (.int .u8 0), (.int .u8 0), (.int .u8 0), (.int .u8 0), (.int .u8 0), (.int .u8 0), (.int .u8 0), (.int .u8 0), (.int .u8 0), (.int .u8 0), (.int .u8 0), (.int .u8 0), (.int .u8 0), (.int .u8 0), (.int .u8 0), (.int .u8 0)] 18 [(0, 1, (.int .u8 99)), (1, 1, (.int .u8 32)), (2, 1, (.int .u8 65)), (3, 1, (.int .u8 80)), (4, 1, (.int .u8 80)), (5, 1, (.int .u8 69)), (6, 1, (.int .u8 78)), (7, 1, (.int .u8 68)), (8, 1, (.int .u8 32)), (9, 1, (.int .u8 73)), (10, 1, (.int .u8 78)), (11, 1, (.int .u8 66)), (12, 1, (.int .u8 79)), (13, 1, (.int .u8 88)), (14, 1, (.int .u8 32)), (15, 1, (.int .u8 121)), (16, 1, (.int .u8 13)), (17, 1, (.int .u8 10))] h = .ok (.slice h.next 0 18 (.kn 18)) (h.new (.cells (.rw 5 true) (bys rowC))) := rfl
theorem tickU {h : Hp} {pv : Pos} {t : TypeId} {b : Bool} {s j d0 d1 d2 cs : V} {a c N : Int} (hg : h.get pv = some (.cells (.rw t b) [s, j, d0, d1, d2, cs, .int .i64 a, .int .i64 c])) (h0 : 0 ≤ a) (h1 : a ≤ 253402300799) (h2 : -9223372036854775808 ≤ N) (h3 : N < 9223372036854775808) :
    TryF9u [.ptr pv 0, evT N] h = .ok .nils (h.put pv (some (.cells (.rw t b) [s, j, d0, d1, d2, cs, .int .i64 (nowT a N), .int .i64 (wrapK .i64 (c + 1))]))) := by
  have e1 : tickOf [.ptr pv 0, evT N] = some (pv, N) := rfl
  have e2 : tickR (h.get pv) N = some (.cells (.rw t b) [s, j, d0, d1, d2, cs, .int .i64 (nowT a N), .int .i64 (wrapK .i64 (c + 1))]) := by
    rw [hg]
    exact if_pos ⟨h0, h1, h2, h3⟩
  have e3 : tickS [.ptr pv 0, evT N] h = some (.nils, h.put pv (some (.cells (.rw t b) [s, j, d0, d1, d2, cs, .int .i64 (nowT a N), .int .i64 (wrapK .i64 (c + 1))]))) := by
    unfold tickS
    rw [e1]
    simp only [e2]
  unfold TryF9u fastF
  rw [e3]
theorem tickO {hi : Hp} (f : TkF hi) {a c N : Int} (h0 : 0 ≤ a) (h1 : a ≤ 253402300799) (h2 : -9223372036854775808 ≤ N) (h3 : N < 9223372036854775808) : TryF9u [.ptr (pvT hi) 0, evT N] (oT hi a c) = .ok .nils (oT hi (nowT a N) (wrapK .i64 (c + 1))) := by
  have hg : (oT hi a c).get (pvT hi) = some (obT hi a c) := put_self _ _ _
  have e := tickU (N := N) hg h0 h1 h2 h3
  rw [e]
  show R.ok V.nils (((hpT (nT hi)).put (pvT hi) (some (obT hi a c))).put (pvT hi) _) = _
  rw [put_put]
  rfl
theorem tickOf_B (pv : Pos) (i : Pos) (o n : Nat) (c : Cap) : tickOf [.ptr pv 0, evB (.slice i o n c)] = none := rfl
theorem doB (pv : Pos) (i : Pos) (o n : Nat) (c : Cap) (h : Hp) : TryF9u [.ptr pv 0, evB (.slice i o n c)] h = TryF9p [.ptr pv 0, evB (.slice i o n c)] h := by
  unfold TryF9u fastF tickS
  rw [tickOf_B]
theorem idx8 (i : Pos) (c : Cap) (h : Hp) : oIdxS 8 (.slice i 0 2 c) (.int .i64 0) h = .ok (.ptr i 0) h ∧ oIdxS 8 (.slice i 0 2 c) (.int .i64 1) h = .ok (.ptr i 8) h := by
  have e0 := oIdxS_slice (h := h) (sz := 8) (i := i) (o := 0) (n := 2) (c := c) (j := .i64) (m := 0) (by omega)
  have e1 := oIdxS_slice (h := h) (sz := 8) (i := i) (o := 0) (n := 2) (c := c) (j := .i64) (m := 1) (by omega)
  exact ⟨by simpa using e0, by simpa using e1⟩
theorem ints_get {l : List Int} {k : Nat} {x : Int} (h : l[k]? = some x) : (l.map (V.int .i32))[k]? = some (.int .i32 x) := by rw [List.getElem?_map, h]; rfl
theorem ticks_core {hi : Hp} (f : TkF hi) {v0 : V} {l : List Int} (hv : ∀ h', oLenK 2 v0 h' = .ok (.int .i64 (l.length : Int)) h') (hl : l.length ≤ 60) (hr : ∀ x ∈ l, -2147483648 ≤ x ∧ x < 2147483648) {cc : Nat} (sl : ∀ a c, Sl cc (oT hi a c) 1 v0 l.length (l.map (V.int .i32))) :
    ∃ h', TryF3p [v0] hi = .ok (.bool true) h' := by
  rw [TryF3p_eq]
  suffices hT : Tells Tryz.prog [.tmp 2] (fun r _ => r = .bool true) (Tryd3p (T.set (some v0) (Pos.of 0) T.nil) hi) by
    obtain ⟨r, h', e, rfl⟩ := hT
    exact ⟨h', e⟩
  have eW : TryF7 [] hi = _ := f.a
  have eN : TryF6 [valE (wT hi)] (hpT (wT hi)) = _ := f.b
  have eC := f.c
  have d1 : decide (¬ (0 : Int) = 0) = false := by decide
  have eA : ∀ h, TryF5c [] h = .ok (.bool true) h := fun _ => rfl
  have hstart : hpT (nT hi) = oT hi 0 0 := f.d0.symm
  rw [hstart] at eN eC
  unfold Tryd3p
  simp (disch := omega) only [vmL, Nat.reduceEqDiff, reduceCtorEq, ↓reduceIte, vpL, vsL, vqL, Tryr3p_0, Tryr3p_1, Tryr3p_3, Tryr3p_4, Tryr3p_6, Tryr3p_7, hv, eW, eN, eC, d1, ptrNil]
  refine Oc.then (loop_rule (n := l.length) (fun m fr g => ∃ (k : Nat) (a c : Int), fr.get (Pos.of 0) = some v0 ∧ fr.get (Pos.of 3) = some (.ptr (pvT hi) 0) ∧ fr.get (Pos.of 5) = some (.int .i64 a) ∧ fr.get (Pos.of 6) = some (.int .i64 (k : Int)) ∧ k + m = l.length ∧ 0 ≤ a ∧ a ≤ k * 2147483647 ∧ g = oT hi a c)
    (A := fun fr g => ∃ a c, fr.get (Pos.of 3) = some (.ptr (pvT hi) 0) ∧ fr.get (Pos.of 5) = some (.int .i64 a) ∧ 0 ≤ a ∧ a ≤ 128849018820 ∧ g = oT hi a c) (B := fun _ _ => False) (by rw [lf_eq]; omega) ?_ ?_) ?_ ?_
  · exact ⟨0, 0, 0, by simp only [vmL, Nat.reduceEqDiff, reduceCtorEq, ↓reduceIte, vpL, vsL, vqL], by simp only [vmL, Nat.reduceEqDiff, reduceCtorEq, ↓reduceIte, vpL, vsL, vqL], by simp only [vmL, Nat.reduceEqDiff, reduceCtorEq, ↓reduceIte, vpL, vsL, vqL], by simp only [vmL, Nat.reduceEqDiff, reduceCtorEq, ↓reduceIte, vpL, vsL, vqL]; rfl, by omega, by omega, by omega, rfl⟩
  · rintro m fr g ⟨k, a, c, f0, f3, f5, f6, hk, ha, hb, rfl⟩
    by_cases hz : m = 0
    · simp (disch := omega) only [vmL, Nat.reduceEqDiff, reduceCtorEq, ↓reduceIte, vpL, vsL, vqL, Tryb3p_8, Tryr3p_8, f0, f6, hv]
      exact ⟨rfl, a, c, by simp only [vmL, Nat.reduceEqDiff, reduceCtorEq, ↓reduceIte, vpL, vsL, vqL, f3], by simp only [vmL, Nat.reduceEqDiff, reduceCtorEq, ↓reduceIte, vpL, vsL, vqL, f5], ha, by omega, rfl⟩
    · have hlt : k < l.length := by omega
      obtain ⟨i, q, x, hx, e1, -, e2⟩ := (sl a c).at1 hlt
      obtain ⟨x0, hx0⟩ : ∃ x0, l[k]? = some x0 := ⟨_, List.getElem?_eq_getElem hlt⟩
      rw [ints_get hx0] at hx
      cases hx
      obtain ⟨r0, r1⟩ := hr x0 (List.mem_of_getElem? hx0)
      have L1 := e2 (oT hi a c) rfl
      have T1 := tickO f (a := a) (c := c) (N := x0) ha (by omega) (by omega) (by omega)
      obtain ⟨i', q', x', hx', e1', -, e2'⟩ := (sl (nowT a x0) (wrapK .i64 (c + 1))).at1 hlt
      rw [ints_get hx0] at hx'
      cases hx'
      have L2 := e2' (oT hi (nowT a x0) (wrapK .i64 (c + 1))) rfl
      have hn : nowT a x0 = a + max 0 x0 := by
        unfold nowT
        rw [if_neg (by omega), Int.max_comm]
      have hm : 0 ≤ max 0 x0 ∧ max 0 x0 ≤ 2147483647 := by
        rcases Int.le_total x0 0 with q | q
        · rw [Int.max_eq_left q]; omega
        · rw [Int.max_eq_right q]; omega
      have hii : i = i' ∧ q = q' := by have := e1 (oT hi a c); rw [e1' (oT hi a c)] at this; cases this; exact ⟨rfl, rfl⟩
      obtain ⟨rfl, rfl⟩ := hii
      rw [hn] at T1 L2
      simp (disch := omega) only [vmL, Nat.reduceEqDiff, reduceCtorEq, ↓reduceIte, vpL, vsL, vqL, Tryb3p_8, Tryr3p_8, Tryr3p_9, Tryr3p_10, Tryr3p_11, f0, f3, f5, f6, hv, e1, L1, L2, bldT, T1]
      exact ⟨m - 1, by omega, k + 1, a + max 0 x0, wrapK .i64 (c + 1), by simp only [vmL, Nat.reduceEqDiff, reduceCtorEq, ↓reduceIte, vpL, vsL, vqL, f0], by simp only [vmL, Nat.reduceEqDiff, reduceCtorEq, ↓reduceIte, vpL, vsL, vqL, f3], by simp only [vmL, Nat.reduceEqDiff, reduceCtorEq, ↓reduceIte, vpL, vsL, vqL], by simp only [vmL, Nat.reduceEqDiff, reduceCtorEq, ↓reduceIte, vpL, vsL, vqL]; rfl, by omega, by omega, by omega, rfl⟩
  · rintro fr g ⟨a, c, f3, f5, ha, hb, rfl⟩
    have T1 := tickO f (a := a) (c := c) (N := -9223372036854775808) ha (by omega) (by omega) (by omega)
    have n1 : nowT a (-9223372036854775808) = a := by
      unfold nowT
      rw [if_neg (by omega), Int.max_eq_right (by omega)]
      omega
    rw [n1] at T1
    have T2 : TryF10p [.ptr (pvT hi) 0, .slice (oT hi a (wrapK .i64 (c + 1))).next 0 31 (.kn 31)] (((oT hi a (wrapK .i64 (c + 1))).new (.cells (.rw 5 true) (bys rowT))).put (oT hi a (wrapK .i64 (c + 1))).next (some (.cells .ro (bys rowT)))) = _ := f.lv a (wrapK .i64 (c + 1)) ha (by omega)
    have T3 := tickU (N := 9223372036854775807) (f.m a (wrapK .i64 (c + 1))) ha (by omega) (by omega) (by omega)
    have n3 : nowT a 9223372036854775807 = 253402300799 := by
      unfold nowT
      rw [if_pos (by omega)]
    rw [n3] at T3
    generalize wrapK .i64 (cT hi a (wrapK .i64 (c + 1)) + 1) = c3 at T3
    generalize wrapK .i64 (c + 1) = c1 at T1 T2 T3
    have T3' : TryF9u [.ptr (pvT hi) 0, evT 9223372036854775807] (lvG10 hi a c1) = .ok .nils (hM hi a c1 c3) := T3
    have T4 : TryF9p [.ptr (pvT hi) 0, evB (.slice (hM hi a c1 c3).next 0 18 (.kn 18))] (((hM hi a c1 c3).new (.cells (.rw 5 true) (bys rowC))).put (hM hi a c1 c3).next (some (.cells .ro (bys rowC)))) = _ := f.o a c1 c3
    have T5 : TryF11 [.ptr (pvT hi) 0] (hpT (rC hi a c1 c3)) = _ := f.p a c1 c3
    have T6 : TryF12 [valE (rS hi a c1 c3)] (hpT (rS hi a c1 c3)) = _ := f.q a c1 c3
    have T7 : TryF13 [.int .i64 253402300799] (hpT (rM hi a c1 c3)) = _ := f.s a c1 c3
    have L0 := f.r0 a c1 c3
    have L1 := f.r1 a c1 c3
    have D1 : decide (rfcT = [57, 57, 57, 57, 45, 49, 50, 45, 51, 49, 84, 50, 51, 58, 53, 57, 58, 53, 57, 90]) = true := by decide
    have dd : decide ((1 : Int) = 1) = true ∧ decide ((2 : Int) = 2) = true := by decide
    have k1 : ∀ (i : Pos) (c : Cap) (h : Hp), oLenK 2 (.slice i 0 1 c) h = .ok (.int .i64 1) h := fun _ _ _ => rfl
    have k2 : ∀ (i : Pos) (c : Cap) (h : Hp), oLenK 2 (.slice i 0 2 c) h = .ok (.int .i64 2) h := fun _ _ _ => rfl
    have i0 := fun i c h => (idx8 i c h).1
    have i1 := fun i c h => (idx8 i c h).2
    have da : decide (a = a) = true := decide_eq_true rfl
    simp (disch := omega) only [vmL, Nat.reduceEqDiff, reduceCtorEq, ↓reduceIte, vpL, vsL, vqL, Tryr3p_12, Tryr3p_13, Tryr3p_14, Tryr3p_15, Tryr3p_16, Tryr3p_17, Nat.reduceAdd, f3, f5, bldT, T1, row31, row18, markT, T2, T3', bldB, doB, T4, T5, T6, T7, k1, k2, dd.1, dd.2, i0, i1, L0, L1, da, D1, eA]
    exact Tells.ret (by simp only [resK, vmL, Nat.reduceEqDiff, reduceCtorEq, ↓reduceIte, vpL, vsL, vqL, tupR]; rfl) rfl
  · intro fr g q; exact q.elim
theorem ticks_long {h : Hp} {v0 : V} {n : Nat} (hv : ∀ h', oLenK 2 v0 h' = .ok (.int .i64 (n : Int)) h') (hn : 60 < n) : ∃ h', TryF3p [v0] h = .ok (.bool true) h' := by
  have eA : ∀ h, TryF5c [] h = .ok (.bool true) h := fun _ => rfl
  refine ⟨h, ?_⟩
  rw [TryF3p_eq]
  simp (disch := omega) only [vmL, Nat.reduceEqDiff, reduceCtorEq, ↓reduceIte, vpL, vsL, vqL, Tryd3p, Tryr3p_0, Tryr3p_1, Tryr3p_2, hv, eA]
  simp only [outR, resK, vmL, Nat.reduceEqDiff, reduceCtorEq, ↓reduceIte, vpL, vsL, vqL, tupR]
end Go.Proofs.ImT
