/- Part of the value machine, or of a walk by it: lemmas that the claim's last text uses. No conditions. -/
import Derived.Test.YtghbifaaedobfaaGreatDoorVmL
import Derived.Test.YtghbifaaedobfaaGreatDoorVmI
import Derived.Lib.SmallJoins
set_option linter.unusedVariables false
set_option linter.unusedSimpArgs false
set_option linter.unnecessarySimpa false
noncomputable section
namespace Go.Proofs.YtghbifaaedobfaaGreatDoor
open Go Go.Proofs Go.Vm
open Go.ChangeShapes Go.WideShapes Go.ChangeAt Go.RowKit
set_option linter.unusedVariables false
set_option maxRecDepth 100000
set_option maxHeartbeats 4000000
def ev (k c n : Int) (x : V) : V := .agg (V.ofList [.int .i64 k, .int .i64 c, .int .i64 n, x])
theorem nil_run0 (k c n : Int) : isT (TryzF3 [ev k c n .nils] (h0 TryzG)) = true := by kernel_rfl
theorem o0_all (k c n : Int) : isT (oth false (iv k) (iv c) (iv n) .nils (h0 TryzG)) = true := match k, c, n with
  | .ofNat 0, c, n => o0_k0 c n 
  | .ofNat 1, c, n => o0_k1 c n 
  | .ofNat 2, .ofNat 0, n => o0_k2_0 n 
  | .ofNat 2, .ofNat 1, n => o0_k2_1 n 
  | .ofNat 2, .ofNat 2, n => o0_k2_2 n 
  | .ofNat 2, .ofNat 3, n => o0_k2_3 n 
  | .ofNat 2, .ofNat 4, n => o0_k2_4 n 
  | .ofNat 2, .ofNat 5, n => o0_k2_5 n 
  | .ofNat 2, .ofNat 6, n => o0_k2_6 n 
  | .ofNat 2, .ofNat 7, n => o0_k2_7 n 
  | .ofNat 2, .ofNat (m + 8), n => o0_k2a m n 
  | .ofNat 2, .negSucc m, n => o0_k2b m n 
  | .ofNat 3, c, n => o0_k3 c n 
  | .ofNat 4, c, .ofNat m => o0_k4 m c 
  | .ofNat 4, c, .negSucc m => o0_k4n m c 
  | .ofNat 5, c, n => o0_k5 c n 
  | .ofNat (m + 6), c, n => o0_k6 m c n 
  | .negSucc m, c, n => o0_kn m c n 
theorem l0 (k c n : Int) : Tryzr4_1 (oF0 (iv k) (iv c) (iv n) .nils) (h0 TryzG) = .nor (oF false (iv k) (iv c) (iv n) .nils) (h0 TryzG) := by kernel_rfl
theorem others0 (k c n : Int) : isT (TryzF4 [iv k, iv c, iv n, .nils] (h0 TryzG)) = true := by
  rw [oth_len false _ _ _ _ _ (l0 k c n)]
  exact o0_all k c n
theorem nil_run1 (k c n : Int) : isT (TryzF3 [ev k c n .emp] (h0 TryzG)) = true := by kernel_rfl
theorem o1_all (k c n : Int) : isT (oth false (iv k) (iv c) (iv n) .emp (h0 TryzG)) = true := match k, c, n with
  | .ofNat 0, c, n => o1_k0 c n 
  | .ofNat 1, c, n => o1_k1 c n 
  | .ofNat 2, .ofNat 0, n => o1_k2_0 n 
  | .ofNat 2, .ofNat 1, n => o1_k2_1 n 
  | .ofNat 2, .ofNat 2, n => o1_k2_2 n 
  | .ofNat 2, .ofNat 3, n => o1_k2_3 n 
  | .ofNat 2, .ofNat 4, n => o1_k2_4 n 
  | .ofNat 2, .ofNat 5, n => o1_k2_5 n 
  | .ofNat 2, .ofNat 6, n => o1_k2_6 n 
  | .ofNat 2, .ofNat 7, n => o1_k2_7 n 
  | .ofNat 2, .ofNat (m + 8), n => o1_k2a m n 
  | .ofNat 2, .negSucc m, n => o1_k2b m n 
  | .ofNat 3, c, n => o1_k3 c n 
  | .ofNat 4, c, .ofNat m => o1_k4 m c 
  | .ofNat 4, c, .negSucc m => o1_k4n m c 
  | .ofNat 5, c, n => o1_k5 c n 
  | .ofNat (m + 6), c, n => o1_k6 m c n 
  | .negSucc m, c, n => o1_kn m c n 
theorem l1 (k c n : Int) : Tryzr4_1 (oF0 (iv k) (iv c) (iv n) .emp) (h0 TryzG) = .nor (oF false (iv k) (iv c) (iv n) .emp) (h0 TryzG) := by kernel_rfl
theorem others1 (k c n : Int) : isT (TryzF4 [iv k, iv c, iv n, .emp] (h0 TryzG)) = true := by
  rw [oth_len false _ _ _ _ _ (l1 k c n)]
  exact o1_all k c n
theorem nil_run2 (k c n : Int) (len cap : Nat) (l : List V) : isT (TryzF3 [ev k c n (.slice (h0 TryzG).next 0 len (.kn cap))] ((h0 TryzG).new (.cells .ro l))) = true := by kernel_rfl
theorem o2_all (k c n : Int) (len cap : Nat) (l : List V) : isT (oth false (iv k) (iv c) (iv n) (.slice (h0 TryzG).next 0 len (.kn cap)) ((h0 TryzG).new (.cells .ro l))) = true := match k, c, n with
  | .ofNat 0, c, n => o2_k0 c n len cap l 
  | .ofNat 1, c, n => o2_k1 c n len cap l 
  | .ofNat 2, .ofNat 0, n => o2_k2_0 n len cap l 
  | .ofNat 2, .ofNat 1, n => o2_k2_1 n len cap l 
  | .ofNat 2, .ofNat 2, n => o2_k2_2 n len cap l 
  | .ofNat 2, .ofNat 3, n => o2_k2_3 n len cap l 
  | .ofNat 2, .ofNat 4, n => o2_k2_4 n len cap l 
  | .ofNat 2, .ofNat 5, n => o2_k2_5 n len cap l 
  | .ofNat 2, .ofNat 6, n => o2_k2_6 n len cap l 
  | .ofNat 2, .ofNat 7, n => o2_k2_7 n len cap l 
  | .ofNat 2, .ofNat (m + 8), n => o2_k2a m n len cap l 
  | .ofNat 2, .negSucc m, n => o2_k2b m n len cap l 
  | .ofNat 3, c, n => o2_k3 c n len cap l 
  | .ofNat 4, c, .ofNat m => o2_k4 m c len cap l 
  | .ofNat 4, c, .negSucc m => o2_k4n m c len cap l 
  | .ofNat 5, c, n => o2_k5 c n len cap l 
  | .ofNat (m + 6), c, n => o2_k6 m c n len cap l 
  | .negSucc m, c, n => o2_kn m c n len cap l 
theorem l2 (k c n : Int) (len cap : Nat) (l : List V) : Tryzr4_1 (oF0 (iv k) (iv c) (iv n) (.slice (h0 TryzG).next 0 len (.kn cap))) ((h0 TryzG).new (.cells .ro l)) = bndO (oBin .gtr .none (.int .i64 (.ofNat len)) (.int .i64 (.ofNat 1000)) ((h0 TryzG).new (.cells .ro l))) fun v14 h2 => Out.nor (T.set (some v14) (Pos.of 14) (oF0 (iv k) (iv c) (iv n) (.slice (h0 TryzG).next 0 len (.kn cap)))) h2 := by kernel_rfl
theorem others2 (k c n : Int) (len cap : Nat) (l : List V) : isT (TryzF4 [iv k, iv c, iv n, (.slice (h0 TryzG).next 0 len (.kn cap))] ((h0 TryzG).new (.cells .ro l))) = true := by
  obtain ⟨q, hq⟩ := gtrB (.ofNat len) (.ofNat 1000) ((h0 TryzG).new (.cells .ro l))
  have e : Tryzr4_1 (oF0 (iv k) (iv c) (iv n) (.slice (h0 TryzG).next 0 len (.kn cap))) ((h0 TryzG).new (.cells .ro l)) = .nor (oF q (iv k) (iv c) (iv n) (.slice (h0 TryzG).next 0 len (.kn cap))) ((h0 TryzG).new (.cells .ro l)) := by rw [l2 k c n len cap l , hq]; rfl
  rw [oth_len q _ _ _ _ _ e]
  cases q
  · exact o2_all k c n len cap l 
  · exact oth_long _ _ _ _ _
section
variable {H : Type} {enc : TypeId × Value → H} {base : Nat} {spare : Nat → Bool} {held : Bool} {W : World}
/-- a slice of bytes that came in -/
theorem bytes_in {fuel : Nat} {x : DataW H × List MemPlace} {cs : List Value} (hd : DataW.trod enc Tryz.prog W base spare held fuel 22 cs = some x) :
    ∃ (c : Value) (v : V) (M : Mp) (h : Hp), cs = [c] ∧ Rp M v c ∧ scalar c = true ∧ Seen TryzG M h W ∧ (∀ k c n, isT (TryzF3 [ev k c n v] h) = true) ∧ ∀ k c n, isT (TryzF4 [iv k, iv c, iv n, v] h) = true := by
  obtain ⟨c, v, M', h', els, h1, h2, h3, -, -, -, h4⟩ := open_rowK Tryz.underlying22 (n := 1) (by kernel_rfl) (by omega) (rd_int Tryz.underlying5) hd (Seen.empty TryzG W)
  refine ⟨c, v, M', h', h1, h2, ?_, h3, ?_⟩
  · rcases h4 with ⟨rfl, -, -⟩ | ⟨rfl, -, -⟩ | ⟨cap, rfl, -, -, -⟩
    · cases h2.nils; rfl
    · obtain ⟨_, _, rfl⟩ := h2.emp; rfl
    · obtain ⟨_, _, _, _, rfl⟩ := h2.slice; rfl
  · rcases h4 with ⟨rfl, rfl, -⟩ | ⟨rfl, rfl, -⟩ | ⟨cap, rfl, rfl, -, -⟩
    · exact ⟨nil_run0, others0⟩
    · exact ⟨nil_run1, others1⟩
    · exact ⟨fun k c n => nil_run2 k c n _ cap _, fun k c n => others2 k c n _ cap _⟩
theorem int_in {fuel : Nat} {x : DataW H × List MemPlace} {c : Value} (hd : DataW.trod enc Tryz.prog W base spare held fuel 3 [c] = some x) : ∃ z : Int, c = .int .i64 z := by
  obtain ⟨z, e, -, -⟩ := DataW.trod_int Tryz.underlying3 hd
  exact ⟨z, by simpa using e⟩
end
theorem walkNil {H : Type} {enc : TypeId × Value → H} {spare : Nat → Bool} {held : Bool} (W : World) {r : Reach} {b0 base : Nat} {v0 : Value} {d : DataW H} {p : List MemPlace} (hv : Value.okWide Tryz.prog W r b0 24 v0) (hd : DataW.Trod enc Tryz.prog W base spare held 24 v0 d p) :
    Calls Tryz.prog 3 #[v0] W fun e W' => e = .returned (.bool true) ∧ Below W.heap.size W W' := by
  obtain ⟨c0, c1, c2, c3, y0, y1, y2, y3, n, rfl, -, -, t0, t1, t2, t3⟩ := Go.Joins.open_agg4 Tryz.underlying24 (by kernel_rfl) (by kernel_rfl) hv hd
  obtain ⟨z0, rfl⟩ := int_in t0
  obtain ⟨z1, rfl⟩ := int_in t1
  obtain ⟨z2, rfl⟩ := int_in t2
  obtain ⟨c, v, M, h, e3, h3, hs, S, hn, -⟩ := bytes_in t3
  obtain rfl : c3 = c := by simpa using e3
  obtain ⟨h', e⟩ := isT_ok (hn z0 z1 z2)
  have hl : RepL M [.int .i64 z0, .int .i64 z1, .int .i64 z2, v] [.int .i64 z0, .int .i64 z1, .int .i64 z2, c3] := ⟨_, _, rp_int M .i64 z0, ⟨_, _, rp_int M .i64 z1, ⟨_, _, rp_int M .i64 z2, ⟨_, _, h3, rfl, rfl⟩, rfl⟩, rfl⟩, rfl⟩
  have hr : Rp M (ev z0 z1 z2 v) (.agg #[.int .i64 z0, .int .i64 z1, .int .i64 z2, c3]) := rp_agg hl (fun y hy => by
    simp at hy
    rcases hy with rfl | rfl | rfl | rfl <;> first | rfl | exact hs)
  exact calls_of_vm (cargs := [_]) (args := [_]) Tryzc3 Tryz.func3 (by kernel_rfl) (c := codeOf Tryz.f3) (by kernel_rfl) S ⟨_, [], hr, rfl, rfl⟩ e
theorem walkOthers {H : Type} {enc : TypeId × Value → H} {spare : Nat → Bool} {held : Bool} (W : World) {base : Nat} {fuel : Nat} (z0 z1 z2 : Int) {c3 : Value} {x : DataW H × List MemPlace} (t3 : DataW.trod enc Tryz.prog W base spare held fuel 22 [c3] = some x) :
    Calls Tryz.prog 4 #[.int .i64 z0, .int .i64 z1, .int .i64 z2, c3] W fun e W' => e = .returned (.bool true) ∧ Below W.heap.size W W' := by
  obtain ⟨c, v, M, h, e3, h3, hs, S, -, hn⟩ := bytes_in t3
  obtain rfl : c3 = c := by simpa using e3
  obtain ⟨h', e⟩ := isT_ok (hn z0 z1 z2)
  have hl : RepL M [.int .i64 z0, .int .i64 z1, .int .i64 z2, v] [.int .i64 z0, .int .i64 z1, .int .i64 z2, c3] := ⟨_, _, rp_int M .i64 z0, ⟨_, _, rp_int M .i64 z1, ⟨_, _, rp_int M .i64 z2, ⟨_, _, h3, rfl, rfl⟩, rfl⟩, rfl⟩, rfl⟩
  exact calls_of_vm (cargs := [_, _, _, _]) (args := [_, _, _, _]) Tryzc4 Tryz.func4 (by kernel_rfl) (c := codeOf Tryz.f4) (by kernel_rfl) S hl e
theorem walkOfServerNil {H : Type} {enc : TypeId × Value → H} {spare : Nat → Bool} {held : Bool} (W : World) {r : Reach} {b0 base : Nat} {v0 : Value} {d : DataW H} {p : List MemPlace} (hv : Value.okWide Tryz.prog W r b0 24 v0) (hd : DataW.Trod enc Tryz.prog W base spare held 24 v0 d p) :
    Calls Tryz.prog 3 #[v0] W fun e W' => e = .returned (.bool true) ∧ Below W.heap.size W W' := walkNil W hv hd
theorem walkOfServerOthers {H : Type} {enc : TypeId × Value → H} {spare : Nat → Bool} {held : Bool} (W : World) {r : Reach} {b0 base : Nat} {v0 v1 v2 v3 : Value} {d0 d1 d2 d3 : DataW H} {p0 p1 p2 p3 : List MemPlace}
    (h0 : Value.okWide Tryz.prog W r b0 3 v0) (k0 : DataW.Trod enc Tryz.prog W base spare held 3 v0 d0 p0) (h1 : Value.okWide Tryz.prog W r b0 3 v1) (k1 : DataW.Trod enc Tryz.prog W base spare held 3 v1 d1 p1)
    (h2 : Value.okWide Tryz.prog W r b0 3 v2) (k2 : DataW.Trod enc Tryz.prog W base spare held 3 v2 d2 p2) (h3 : Value.okWide Tryz.prog W r b0 22 v3) (k3 : DataW.Trod enc Tryz.prog W base spare held 22 v3 d3 p3) :
    Calls Tryz.prog 4 #[v0, v1, v2, v3] W fun e W' => e = .returned (.bool true) ∧ Below W.heap.size W W' := by
  obtain ⟨z0, rfl, -⟩ := open_int Tryz.underlying3 h0 k0
  obtain ⟨z1, rfl, -⟩ := open_int Tryz.underlying3 h1 k1
  obtain ⟨z2, rfl, -⟩ := open_int Tryz.underlying3 h2 k2
  obtain ⟨a, len, cap, rfl⟩ := okWide_slice Tryz.underlying22 h3
  obtain ⟨m, hm⟩ := k3
  exact walkOthers W z0 z1 z2 (by simpa [Value.cells] using hm)
end Go.Proofs.YtghbifaaedobfaaGreatDoor
