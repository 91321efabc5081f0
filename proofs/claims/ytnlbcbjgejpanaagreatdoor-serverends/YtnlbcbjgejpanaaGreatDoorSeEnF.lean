/- Part of the value machine, or of a walk by it: lemmas that the claim's last text uses. No conditions. -/
import Derived.Test.YtnlbcbjgejpanaaGreatDoorSeVmO
import Derived.Test.YtnlbcbjgejpanaaGreatDoorSeEnE
import Derived.Test.YtnlbcbjgejpanaaGreatDoorSeVmI
set_option linter.unusedVariables false
set_option linter.unusedSimpArgs false
set_option linter.unnecessarySimpa false
noncomputable section
namespace Go.Proofs.Im
open Go Go.Proofs Go.Vm Go.Ln
open Go.ChangeShapes Go.WideShapes Go.ChangeAt Go.RowKit
set_option linter.unusedVariables false
set_option maxRecDepth 100000
set_option linter.unusedSimpArgs false
theorem row_lgo (h : Hp) : oBuildSlice 5 [(.int .u8 0), (.int .u8 0), (.int .u8 0), (.int .u8 0), (.int .u8 0), (.int .u8 0), (.int .u8 0), (.int .u8 0), (.int .u8 0), (.int .u8 0)] 10 [(0, 1, (.int .u8 97)), (1, 1, (.int .u8 32)), (2, 1, (.int .u8 76)), (3, 1, (.int .u8 79)), (4, 1, (.int .u8 71)), (5, 1, (.int .u8 79)), (6, 1, (.int .u8 85)), (7, 1, (.int .u8 84)), (8, 1, (.int .u8 13)), (9, 1, (.int .u8 10))] h = .ok (.slice h.next 0 10 (.kn 10)) (h.new (.cells (.rw tB true) (bys lgo))) := rfl
theorem row_noo (h : Hp) : oBuildSlice 5 [(.int .u8 0), (.int .u8 0), (.int .u8 0), (.int .u8 0), (.int .u8 0), (.int .u8 0), (.int .u8 0), (.int .u8 0)] 8 [(0, 1, (.int .u8 98)), (1, 1, (.int .u8 32)), (2, 1, (.int .u8 78)), (3, 1, (.int .u8 79)), (4, 1, (.int .u8 79)), (5, 1, (.int .u8 80)), (6, 1, (.int .u8 13)), (7, 1, (.int .u8 10))] h = .ok (.slice h.next 0 8 (.kn 8)) (h.new (.cells (.rw tB true) (bys noo))) := rfl
theorem mark_new (h : Hp) (t : TypeId) (b : Bool) (l : List V) (n : Nat) (c : Cap) : oMarkB (.slice h.next 0 n c) (h.new (.cells (.rw t b) l)) = .ok (.slice h.next 0 n c) ((h.new (.cells (.rw t b) l)).put h.next (some (.cells .ro l))) := by
  unfold oMarkB
  simp only [new_self]
theorem bld_3 (i : Pos) (o n : Nat) (c : Cap) (h : Hp) : oBuild [.int .i64 0, .int .i64 0, .int .i64 0, .nils] [(0, 1, .int .i64 3), (3, 1, .slice i o n c)] h = .ok (evV 3 0 (.slice i o n c)) h := rfl
theorem bld_31 (i : Pos) (o n : Nat) (c : Cap) (h : Hp) : oBuild [.int .i64 0, .int .i64 0, .int .i64 0, .nils] [(0, 1, .int .i64 3), (1, 1, .int .i64 1), (3, 1, .slice i o n c)] h = .ok (evV 3 1 (.slice i o n c)) h := rfl
theorem bld_1 (h : Hp) : oBuild [.int .i64 0, .int .i64 0, .int .i64 0, .nils] [(0, 1, .int .i64 1)] h = .ok (evV 1 0 .nils) h := rfl
theorem bld_11 (h : Hp) : oBuild [.int .i64 0, .int .i64 0, .int .i64 0, .nils] [(0, 1, .int .i64 1), (1, 1, .int .i64 1)] h = .ok (evV 1 1 .nils) h := rfl
def gP (h : Hp) : Hp := (h.new (.cells (.rw tB true) (bys noo))).put h.next (some (.cells .ro (bys noo)))
theorem gP_ch (h : Hp) : Ch (fun _ => False) h (gP h) := (Ch.new (fun _ => False) h _).trans (Ch.put (S := fun j => j = h.next) _ _ rfl) fun j hj q => by rw [q] at hj; omega
theorem gP_next (h : Hp) : (gP h).next.nat = h.next.nat + 1 := by unfold gP; rw [put_next, new_next_nat]
theorem giv_row {h : Hp} {pr j : Pos} {w : Wr} {s : List Nat} {c : Cap} (hg : h.get j = some (.cells w (bys s))) (hl : j.nat < h.next.nat) (hp : j ≠ pr) (hc : match c with | .kn k => s.length ≤ k | .un u => u = 1) (hs : s.length ≤ 2000) (h256 : ∀ x ∈ s, x < 256) : Giv h pr (.slice j 0 s.length c) s :=
  ⟨⟨h.next.nat, ⟨by rw [bys_length, Nat.mul_one], .inr ⟨j, 0, c, w, bys s, rfl, hl, by rw [hg]; rfl, fun k _ => by rw [Nat.zero_add]⟩⟩, Nat.le_refl _⟩, fun i o n c' e => by cases e; exact hc, fun i e => by cases e; exact hp, hs, h256⟩
theorem K0 (i : Pos) (n : Nat) (c : Cap) (h : Hp) : oIdxS 2 (.slice i 0 (n + 1) c) (.int .i64 0) h = .ok (.ptr i 0) h := by
  have := oIdxS_slice (h := h) (sz := 2) (i := i) (o := 0) (n := n + 1) (c := c) (j := .i64) (m := 0) (by omega)
  simpa using this
theorem len1 (i : Pos) (c : Cap) (h : Hp) : oLenK 2 (.slice i 0 1 c) h = .ok (.int .i64 1) h := rfl
theorem len0 (h : Hp) : oLenK 2 .nils h = .ok (.int .i64 0) h := rfl
theorem dec1 : decide (¬ (1 : Int) = 1) = false ∧ decide ((1 : Int) = 1) = true ∧ decide ((0 : Int) = 0) = true ∧ decide (¬ (0 : Int) = 0) = false := by decide
theorem text_ok {g : Hp} {pv j : Pos} {ob : Ob} (f : FinE g pv j ob) {i : Pos} {n : Nat} {c : Cap} {bs : List Nat} (gv : Giv (gE g pv) (prE g pv 0) (.slice i 0 n c) (lgo ++ bs)) (hi : i ≠ pv) :
    ∃ h', ImF705 [.ptr pv 0, .slice i 0 n c] g = .ok (.str byeT) h' ∧ Srv h' pv (ptrE (nthV 0 (svE g pv))) (pcsE g pv) [.nilp, .ptr (pxE g pv 1) 0, .nilp, .nilp, .nilp, .nilp, .nilp, .nilp] ∧ Ch (fun j => j = pv ∨ j = pcE g pv 0 ∨ j = prE g pv 0 ∨ j = pcsE g pv) (gE g pv) h' := by
  obtain ⟨q, h', e, hq, q1, q2, s, c⟩ := do_bytes (k := 0) f.srv rfl f.c0.at gv ⟨bne_pos f.c0.n12, bne_pos f.c0.n13⟩ (fun j e => by cases e; exact hi) (by decide) (ends_lgo bs)
  have e' : ImF700 [.ptr pv 0, evV 3 0 (.slice i 0 n _)] (gE g pv) = _ := e
  have eo : ImF700 [.ptr pv 0, evV 1 0 .nils] g = _ := f.o
  have L1 : oLoad1 (.ptr q 1) h' = .ok (.str byeT) h' := ld_at hq rfl
  refine ⟨h', ?_, s, c⟩
  rw [ImF705_eq]
  simp (disch := omega) only [vmL, Nat.reduceEqDiff, reduceCtorEq, ↓reduceIte, vpL, vsL, vqL, Imd705, Imr705_0, Imr705_1, Imr705_2, Imr705_3, Imr705_5, Nat.add_zero, bld_1, eo, bld_3, e', len1, dec1.1, dec1.2.1, K0, L1]
  simp only [outR, resK, vmL, Nat.reduceEqDiff, reduceCtorEq, ↓reduceIte, vpL, vsL, vqL, tupR]
theorem ends_core {h : Hp} {v0 : V} {bs : List Nat} (st : StartE h) {g : Hp} {j i : Pos} {ob : Ob} {n : Nat} {c : Cap} (f : FinE g (pvE h) j ob) (hv : ∀ h', oLenK 2 v0 h' = .ok (.int .i64 (bs.length : Int)) h') (hb : bs.length ≤ 1000)
    (ap : oAppend 5 1 1 (vM h) v0 (gM h) = .ok (.slice i 0 n c) g) (gv : Giv (gE g (pvE h)) (prE g (pvE h) 0) (.slice i 0 n c) (lgo ++ bs)) (hi : i ≠ pvE h) : ∃ h', ImF706 [v0] h = .ok (.bool true) h' := by
  obtain ⟨h5, e5, s5, c5⟩ := text_ok f gv hi
  -- connection 0 is closed
  have c6 := gP_ch h5
  have s6 := s5.ch c6 (fun q => q) fun q => q
  obtain ⟨h7, e7, s7, c7⟩ := do_nil (k := 0) (vb := .slice h5.next 0 8 (.kn 8)) s6 rfl
  have e7' : ImF700 [.ptr (pvE h) 0, evV 3 0 (.slice h5.next 0 8 (.kn 8))] (gP h5) = _ := e7
  -- connection 1 goes on
  have c8 := gP_ch h7
  have s8 := s7.ch c8 (fun q => q) fun q => q
  have a0 := f.c1.at
  have a5 := a0.ch c5 (by rintro (q | q | q | q) <;> revert q <;> first | exact bne_pos f.c1.n12 | exact bne_pos f.m1 | exact bne_pos f.m2 | exact bne_pos f.c1.n7) (by rintro (q | q | q | q) <;> revert q <;> first | exact (bne_pos f.c1.n1).symm | exact bne_pos f.m3 | exact bne_pos f.m4 | exact (bne_pos f.c1.n3).symm)
    (by rintro (q | q | q | q) <;> revert q <;> first | exact bne_pos f.c1.n13 | exact bne_pos f.m5 | exact bne_pos f.m6 | exact bne_pos f.c1.n10) (by rintro (q | q | q | q) <;> revert q <;> first | exact (bne_pos f.c1.n2).symm | exact bne_pos f.m7 | exact bne_pos f.m8 | exact (bne_pos f.c1.n4).symm)
  have a6 := a5.ch c6 (fun q => q) (fun q => q) (fun q => q) fun q => q
  have a7 := a6.ch c7 (bne_pos f.c1.n12) (bne_pos f.c1.n1).symm (bne_pos f.c1.n13) (bne_pos f.c1.n2).symm
  have a8 := a7.ch c8 (fun q => q) (fun q => q) (fun q => q) fun q => q
  have hpr := a7.rd.lt
  have hpv := s7.lt
  have gv8 : Giv (gP h7) (prE g (pvE h) 1) (.slice h7.next 0 8 (.kn 8)) noo := giv_row (s := noo) (w := .ro) (c := .kn 8) (by unfold gP; exact put_self _ _ _) (by rw [gP_next]; omega) (fun q => by rw [q] at hpr; omega) (by decide) (by decide) noo_256
  obtain ⟨q, h9, e9, hq, -, -, s9, c9⟩ := do_bytes (k := 1) s8 rfl a8 gv8 ⟨bne_pos f.c1.n12, bne_pos f.c1.n13⟩ (fun j e => by cases e; intro q; rw [← q] at hpv; omega) (by decide) ends_noo
  have e9' : ImF700 [.ptr (pvE h) 0, evV 3 1 (.slice h7.next 0 8 (.kn 8))] (gP h7) = _ := e9
  have L1 : oLoad1 (.ptr q 1) h9 = .ok (.str nooT) h9 := ld_at hq rfl
  have eW : ImF14 [] h = _ := st.a
  have eN : ImF711 [valR (wE h)] (hpE (wE h)) = _ := st.b
  have eC := st.c
  have eO : ImF700 [.ptr (pvE h) 0, evV 1 1 .nils] (hpE (nE h)) = _ := st.d
  have D1 : decide (byeT = [42, 32, 66, 89, 69, 13, 10, 97, 32, 79, 75, 32, 100, 111, 110, 101, 13, 10]) = true := by decide
  have D2 : decide (nooT = [98, 32, 79, 75, 32, 100, 111, 110, 101, 13, 10]) = true := by decide
  have eA : ∀ h, ImF714 [] h = .ok (.bool true) h := fun _ => rfl
  have ap' : oAppend 5 1 1 (.slice (hpE (oE h)).next 0 10 (.kn 10)) v0 (((hpE (oE h)).new (.cells (.rw tB true) (bys lgo))).put (hpE (oE h)).next (some (.cells .ro (bys lgo)))) = .ok (.slice i 0 n c) g := ap
  have P8 : ∀ h : Hp, (h.new (.cells (.rw tB true) (bys noo))).put h.next (some (.cells .ro (bys noo))) = gP h := fun _ => rfl
  refine ⟨h9, ?_⟩
  rw [ImF706_eq]
  simp (disch := omega) only [vmL, Nat.reduceEqDiff, reduceCtorEq, ↓reduceIte, vpL, vsL, vqL, Imd706, Imr706_0, Imr706_1, Imr706_3, Imr706_4, Imr706_6, Imr706_7, Imr706_8, Imr706_9, Imr706_10, Imr706_11, Nat.add_zero, hv, eW, eN, eC, eO, row_lgo, row_noo, mark_new, ap', e5, bld_11, bld_3, bld_31, P8, e7', e9', len0, len1, dec1.1, dec1.2.1, dec1.2.2.1, dec1.2.2.2, K0, L1, D1, D2, eA, ptr_eql_nil]
  simp only [outR, resK, vmL, Nat.reduceEqDiff, reduceCtorEq, ↓reduceIte, vpL, vsL, vqL, tupR]
theorem ends_long {h : Hp} {v0 : V} {n : Nat} (hv : ∀ h', oLenK 2 v0 h' = .ok (.int .i64 (n : Int)) h') (hn : 1000 < n) : ∃ h', ImF706 [v0] h = .ok (.bool true) h' := by
  have eA : ∀ h, ImF714 [] h = .ok (.bool true) h := fun _ => rfl
  refine ⟨h, ?_⟩
  rw [ImF706_eq]
  simp (disch := omega) only [vmL, Nat.reduceEqDiff, reduceCtorEq, ↓reduceIte, vpL, vsL, vqL, Imd706, Imr706_0, Imr706_1, Imr706_2, hv, eA]
  simp only [outR, resK, vmL, Nat.reduceEqDiff, reduceCtorEq, ↓reduceIte, vpL, vsL, vqL, tupR]
theorem app_nils (h : Hp) : oAppend 5 1 1 (vM h) .nils (gM h) = .ok (vM h) (gM h) := rfl
theorem app_emp (h : Hp) : oAppend 5 1 1 (vM h) .emp (gM h) = .ok (vM h) (gM h) := rfl
theorem gM_get (h : Hp) : (gM h).get (hpE (oE h)).next = some (.cells .ro (bys lgo)) := by unfold gM; exact put_self _ _ _
theorem app_many {h : Hp} {x : V} {m b : Nat} {new : List V} (t : Sl b (gM h) 1 x m new) (hm : 0 < m) (hs : m ≤ 1000) : oAppend 5 1 1 (vM h) x (gM h) = .ok (.slice (gM h).next 0 (10 + m) (.un 1)) ((gM h).new (.cells (.rw tB false) (bys lgo ++ new))) := by
  unfold oAppend vM
  rw [t.src]
  obtain ⟨m, rfl⟩ : ∃ k, m = k + 1 := ⟨m - 1, by omega⟩
  simp only []
  rw [hCells_rowA (wr := .ro) (all := bys lgo) (by rw [gM_get]; rfl)]
  simp only [forceNat_eq]
  rw [show Nat.ble (10 + (m + 1)) 10 = false from Bool.eq_false_iff.2 fun q => by have := Nat.le_of_ble_eq_true q; omega]
  simp only []
  rw [show takeV (10 * 1) (dropV 0 (bys lgo)) = some (bys lgo) from rfl]
  simp only []
  rw [freshRow_eq (by omega)]
theorem u8_nat {z : Int} (h : (Lit.int .u8 z).wf = true) : ∃ a : Nat, z = (a : Int) ∧ a < 256 := by
  have h2 : 0 ≤ z ∧ z ≤ 255 := by
    unfold Lit.wf at h
    simp only [Bool.and_eq_true, decide_eq_true_eq] at h
    exact h
  exact ⟨z.toNat, by omega, by omega⟩
theorem els_u8 : ∀ {els : List (List V)}, (∀ vs ∈ els, (∃ z, vs = [V.int .u8 z] ∧ (Lit.int .u8 z).wf = true) ∧ vs.length = 1) → ∃ l : List Nat, els.flatten = bys l ∧ l.length = els.length ∧ ∀ x ∈ l, x < 256
  | [], _ => ⟨[], rfl, rfl, by simp⟩
  | vs :: els, h => by
    obtain ⟨⟨z, rfl, hw⟩, -⟩ := h vs (by simp)
    obtain ⟨a, rfl, ha⟩ := u8_nat hw
    obtain ⟨l, e, n, hb⟩ := els_u8 (els := els) fun vs hv => h vs (List.mem_cons_of_mem _ hv)
    refine ⟨a :: l, ?_, by rw [List.length_cons, n, List.length_cons], fun x hx => ?_⟩
    · rw [List.flatten_cons, e]; rfl
    · rcases List.mem_cons.1 hx with rfl | hx
      · exact ha
      · exact hb x hx
theorem giv_fin {g : Hp} {pv j : Pos} {w : Wr} {s : List Nat} {c : Cap} (f : FinE g pv j (.cells w (bys s))) (hc : match c with | .kn k => s.length ≤ k | .un u => u = 1) (hs : s.length ≤ 2000) (h256 : ∀ x ∈ s, x < 256) : Giv (gE g pv) (prE g pv 0) (.slice j 0 s.length c) s :=
  giv_row f.b (blt_nat f.bl) (bne_pos f.b0) hc hs h256
theorem walkOfServerEnds {H : Type} {enc : TypeId × Value → H} {spare : Nat → Bool} {held : Bool} (W : World) {r : Reach} {b0 base : Nat} {v0 : Value} {d : DataW H} {p : List MemPlace} (hv : Value.okWide Tryz.prog W r b0 34 v0) (hd : DataW.Trod enc Tryz.prog W base spare held 34 v0 d p) :
    Calls Tryz.prog 4 #[v0] W fun e W' => e = .returned (.bool true) ∧ Below W.heap.size W W' := by
  obtain ⟨a, len, cap, rfl⟩ := okWide_slice Tryz.underlying34 hv
  obtain ⟨m, hm⟩ := hd
  obtain ⟨c, v, M', h', els, h1, h2, h3, -, hels, -, h4⟩ := open_rowK Tryz.underlying34 (n := 1) (by kernel_rfl) (by omega) (rd_int Tryz.underlying5) hm (Seen.empty TryG W)
  obtain rfl : Value.slice a len cap = c := by simpa [Value.cells] using h1
  obtain ⟨l, el, nl, hb⟩ := els_u8 hels
  have hT : ∃ h'', ImF706 [v] h' = .ok (.bool true) h'' := by
    rcases h4 with ⟨rfl, rfl, rfl⟩ | ⟨rfl, rfl, rfl⟩ | ⟨cap, rfl, rfl, hpos, hcap⟩
    · have gv := giv_fin (s := lgo) (c := .kn 10) finE_0 (by decide) (by decide) lgo_256
      exact ends_core (bs := []) startE_0 finE_0 (fun _ => rfl) (by simp) (app_nils _) gv (bne_pos finE_0.b1)
    · have gv := giv_fin (s := lgo) (c := .kn 10) finE_0 (by decide) (by decide) lgo_256
      exact ends_core (bs := []) startE_0 finE_0 (fun _ => rfl) (by simp) (app_emp _) gv (bne_pos finE_0.b1)
    · rw [← nl] at hpos ⊢
      rcases Nat.lt_or_ge 1000 l.length with hlong | hshort
      · exact ends_long (n := l.length) (fun _ => rfl) hlong
      · rw [el]
        have fin := finE_2 (bys l) (bys lgo ++ bys l)
        have eq : bys lgo ++ bys l = bys (lgo ++ l) := by unfold bys; rw [List.map_append]
        have hR1 : (gM (hR (bys l))).get (h0 TryG).next = some (.cells .ro (bys l)) := by kernel_rfl
        have t : Sl (gM (hR (bys l))).next.nat (gM (hR (bys l))) 1 (.slice (h0 TryG).next 0 l.length (.kn cap)) l.length (bys l) := ⟨by rw [bys_length, Nat.mul_one], .inr ⟨_, 0, _, .ro, bys l, rfl, blt_nat (by kernel_rfl), by rw [hR1]; rfl, fun k _ => by rw [Nat.zero_add]⟩⟩
        have ap := app_many t hpos hshort
        rw [eq] at ap fin
        have hlen : (lgo ++ l).length = 10 + l.length := by rw [List.length_append]; rfl
        have gv := giv_fin (s := lgo ++ l) (c := .un 1) fin rfl (by rw [hlen]; omega) (fun x hx => (List.mem_append.1 hx).elim (lgo_256 x) (hb x))
        rw [hlen] at gv
        exact ends_core (bs := l) (startE_1 _) fin (fun _ => rfl) hshort ap gv (bne_pos fin.b1)
  obtain ⟨h'', e⟩ := hT
  exact calls_of_vm (cargs := [_]) (args := [_]) Imc706 Tryz.func4 (by kernel_rfl) (c := codeOf Tryz.f4) (by kernel_rfl) h3 ⟨_, [], h2, rfl, rfl⟩ e
end Go.Proofs.Im
