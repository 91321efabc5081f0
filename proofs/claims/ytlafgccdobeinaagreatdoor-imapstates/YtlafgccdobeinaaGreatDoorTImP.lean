/- Part of the value machine, or of a walk by it: lemmas that the claim's last text uses. No conditions. -/
import Derived.Test.YtlafgccdobeinaaGreatDoorTVmO
import Derived.Test.YtlafgccdobeinaaGreatDoorTImO
set_option linter.unusedVariables false
set_option linter.unusedSimpArgs false
set_option linter.unnecessarySimpa false
noncomputable section
namespace Go.Ln
open Go Go.Vm Go.Proofs.Im
def loginM (user pass : List Nat) (w : Wds) : V × Bool :=
  if listW w = true ∨ w.len ≠ 2 then (ansV 2 [119, 111, 114, 100, 115] false false, false)
  else if textsW w = [user, pass] then (ansV 0 [] false false, true) else (ansV 1 [108, 111, 103, 105, 110] false false, false)
end Go.Ln
namespace Go.Proofs.Im
open Go Go.Proofs Go.Vm Go.Ln
set_option linter.unusedVariables false
set_option maxRecDepth 100000
set_option linter.unusedSimpArgs false
theorem login_ok {P : Pos → Prop} {b : Nat} {h : Hp} {pc im ps i : Pos} {inn : Bool} {t : TypeId} {L rest r : List V} {s user pass : List Nat} {vw : V} {w : Wds} {wr : Wr} (d : Bd b h i 5 t L s) (h3 : L[3]? = some vw) (h1s : L[1]? = some (.ptr ps 0)) (tw : WS P h vw w) (hl : w.len ≤ 1000000)
    (cn : Cn h pc im inn) (hg : h.get ps = some (.cells wr ((.str user :: .str pass :: rest) ++ r))) (hr : rest.length = 7) (hpn : ps.nat < h.next.nat) (hip : i ≠ pc) :
    ∃ rr h', ImF21 [.ptr pc 0, .ptr i 0] h = .ok rr h' ∧ rr = (loginM user pass w).1 ∧ Cn h' pc im ((loginM user pass w).2 || inn) ∧ Ch (fun j => j = pc) h h' := by
  obtain ⟨h1, hh1⟩ : ∃ h1, h1 = h.new (.cells (.rw tA true) [.int .i64 0, .str [], .bool false, .bool false, .bool false]) := ⟨_, rfl⟩
  have c1 : Ch (fun _ => False) h h1 := by rw [hh1]; exact Ch.new _ _ _
  have g1 : h1.get h.next = some (.cells (.rw tA true) [.int .i64 0, .str [], .bool false, .bool false, .bool false]) := by rw [hh1]; exact new_self _ _
  have n1 : h1.next.nat = h.next.nat + 1 := by rw [hh1, new_next_nat]
  have d1 := d.ch c1 fun _ _ _ q => q
  have tw1 : WS P h1 vw w := tw.ch c1 fun j _ q => ⟨q, fun q => q⟩
  obtain ⟨r2, h2, e2, c2, hN⟩ := names_ok (n := 2) d1 h3 tw1 hl
  have e2' : ImF58 [.ptr i 0, .int .i64 2] h1 = .ok r2 h2 := e2
  have c12 : Ch (fun _ => False) h h2 := c1.trans c2 fun _ _ q => q
  have n2 := c2.next
  have g2 := (c2.get h.next (by omega) fun q => q).trans g1
  have fin : ∀ {hx : Hp}, Ch (fun _ => False) h hx → ∀ o, Ch (fun _ => False) h (hx.put h.next o) := fun c o => c.trans (Ch.put (S := fun j => j = h.next) _ _ rfl) fun j hj q => by rw [q] at hj; omega
  rw [ImF21_eq]
  show Tells Tryz.prog _ (fun rr h' => rr = (loginM user pass w).1 ∧ Cn h' pc im ((loginM user pass w).2 || inn) ∧ Ch (fun j => j = pc) h h') _
  by_cases hbad : listW w = true ∨ w.len ≠ 2
  · obtain ⟨h3', e3, c3⟩ := wrong_ok h2
    have g3 := (c3.get h.next (by omega) fun q => q).trans g2
    have hM : loginM user pass w = (ansV 2 [119, 111, 114, 100, 115] false false, false) := by unfold loginM; rw [if_pos hbad]
    have cf := fin (c12.trans c3 fun _ _ q => q) (some (.cells (.rw tA true) (ansL 2 [119, 111, 114, 100, 115] false false)))
    rw [hM]
    obtain ⟨v, hr2⟩ : ∃ v, r2 = .tuple (.cons v (.cons (.bool false) .nil)) := by
      rcases hN with ⟨hL, rfl⟩ | ⟨hL, v, rfl, -, -⟩
      · exact ⟨_, rfl⟩
      · refine ⟨v, ?_⟩
        rcases hbad with hb | hb
        · rw [hb] at hL; cases hL
        · rw [decide_eq_false hb]
    rw [hr2] at e2'
    simp (disch := omega) only [vmL, Nat.reduceEqDiff, ↓reduceIte, Imd21, Imr21_0, Imr21_1, Imr21_2, Imr21_3, oNew_an, ← hh1, e2', e3, stAn g3]
    exact Tells.ret (by simp only [resK, vmL, Nat.reduceEqDiff, ↓reduceIte, dLoadAn, ldAn (put_self _ _ _), tupR]) ⟨rfl, cn.ch cf (fun q => q) (fun q => q), cf.mono fun _ _ q => q.elim⟩
  · have hno : listW w = false := by cases hq : listW w with | false => rfl | true => exact absurd (.inl hq) hbad
    have h2w : w.len = 2 := by rcases Nat.decEq w.len 2 with q | q; exact absurd (.inr q) hbad; exact q
    rcases hN with ⟨hL, -⟩ | ⟨-, v, rfl, ov, hid⟩
    · rw [hno] at hL; cases hL
    rw [decide_eq_true h2w] at e2'
    obtain ⟨ta, tb, hT⟩ : ∃ ta tb, textsW w = [ta, tb] := by
      have := textsW_len w
      rw [h2w] at this
      match hq : textsW w, this with
      | [x, y], _ => exact ⟨x, y, rfl⟩
    rw [hT, h2w] at ov
    have d2 := d1.ch c2 fun _ _ _ q => q
    have R1 : oLoad1 (.ptr i 1) h2 = .ok (.ptr ps 0) h2 := ld_at d2.get h1s
    obtain ⟨h3', e3, c3⟩ := config_ok (l := .str user :: .str pass :: rest) ((c12.get ps hpn fun q => q).trans hg) (by simp [hr]) (by omega)
    have n3 := c3.next
    obtain ⟨h4, hh4⟩ : ∃ h4, h4 = (h3'.new (.cells (.rw tCfg true) [(.str []), (.str []), (.int .i64 0), (.int .i64 0), (.int .i64 0), (.int .i64 0), (.int .i64 0), (.int .i64 0), (.int .i64 0)])).put h3'.next (some (.cells (.rw tCfg true) (.str user :: .str pass :: rest))) := ⟨_, rfl⟩
    have S4 : oStore 9 (.ptr h3'.next 0) (.agg (V.ofList (.str user :: .str pass :: rest))) (h3'.new (.cells (.rw tCfg true) [(.str []), (.str []), (.int .i64 0), (.int .i64 0), (.int .i64 0), (.int .i64 0), (.int .i64 0), (.int .i64 0), (.int .i64 0)])) = .ok V.undef h4 := by
      rw [hh4]; exact stL (new_self _ _) (by simp [hr]) (by simp [hr])
    have c4 : Ch (fun _ => False) h3' h4 := by rw [hh4]; exact fill_ch _ _ _
    have w4 : h4.get h3'.next = some (.cells (.rw tCfg true) (.str user :: .str pass :: rest)) := by rw [hh4]; exact put_self _ _ _
    have n4 := c4.next
    have c24 : Ch (fun _ => False) h2 h4 := c3.trans c4 fun _ _ q => q
    have c14 : Ch (fun _ => False) h h4 := c12.trans c24 fun _ _ q => q
    have g4 := (c24.get h.next (by omega) fun q => q).trans g2
    have U0 : oLoad1 (.ptr h3'.next 0) h4 = .ok (.str user) h4 := ld_at w4 rfl
    have U1 : oLoad1 (.ptr h3'.next 1) h4 = .ok (.str pass) h4 := ld_at w4 rfl
    have ov4 := ov.ch c24 fun _ _ q => q
    obtain ⟨i0, q0, x0, hx0, a0, -, b0⟩ := ov4.sl.at1 (m := 0) (by omega)
    obtain ⟨i1, q1, x1, hx1, a1, -, b1⟩ := ov4.sl.at1 (m := 1) (by omega)
    simp at hx0 hx1
    subst hx0
    subst hx1
    have a0' : ∀ h', oIdxS 1 v (.int .i64 0) h' = .ok (.ptr i0 q0) h' := a0
    have a1' : ∀ h', oIdxS 1 v (.int .i64 1) h' = .ok (.ptr i1 q1) h' := a1
    have b0' := b0 h4 rfl
    have b1' := b1 h4 rfl
    by_cases hm : ta = user ∧ tb = pass
    · obtain ⟨rfl, rfl⟩ := hm
      have hM : loginM ta tb w = (ansV 0 [] false false, true) := by unfold loginM; rw [if_neg hbad, if_pos hT]
      rw [hM]
      obtain ⟨only, cnt, gp, gi, hne, hpl, hil⟩ := cn.ch c14 (fun q => q) fun q => q
      obtain ⟨h5, hh5⟩ : ∃ h5, h5 = h4.put pc (some (.cells (.rw tCn true) [.bool true, .nilp, .bool only, .int .i64 cnt, .map im])) := ⟨_, rfl⟩
      have S5 : oStore 1 (.ptr pc 0) (.bool true) h4 = .ok V.undef h5 := by rw [hh5]; exact st_get gp (q := 0) (y := .bool true) ⟨rfl, rfl⟩ (by simp)
      have hpo : pc.nat < h.next.nat := by obtain ⟨-, -, -, -, -, q, -⟩ := cn; exact q
      have hio : im.nat < h.next.nat := by obtain ⟨-, -, -, -, -, -, q⟩ := cn; exact q
      have c45 : Ch (fun j => j = pc) h4 h5 := by rw [hh5]; exact Ch.put _ _ rfl
      have g5 := (c45.get h.next (by omega) fun q => by rw [← q] at hpo; omega).trans g4
      have gp5 : h5.get pc = some (.cells (.rw tCn true) [.bool true, .nilp, .bool only, .int .i64 cnt, .map im]) := by rw [hh5]; exact put_self _ _ _
      have c56 : Ch (fun j => j = h.next) h5 (h5.put h.next (some (.cells (.rw tA true) (ansL 0 [] false false)))) := Ch.put _ _ rfl
      have n5 := c45.next
      have cnF : Cn (h5.put h.next (some (.cells (.rw tA true) (ansL 0 [] false false)))) pc im true :=
        ⟨only, cnt, (c56.get pc (by omega) fun q => by rw [q] at hpo; omega).trans gp5, (c56.get im (by omega) fun q => by rw [q] at hio; omega).trans ((c45.get im hil fun q => hne q.symm).trans gi), hne, by rw [put_next]; omega, by rw [put_next]; omega⟩
      have cF : Ch (fun j => j = pc) h (h5.put h.next (some (.cells (.rw tA true) (ansL 0 [] false false)))) :=
        ((c14.mono fun _ _ q => q.elim).trans c45 fun _ _ q => q).trans c56 fun j hj q => by rw [q] at hj; omega
      simp (disch := omega) only [vmL, Nat.reduceEqDiff, reduceCtorEq, ↓reduceIte, vsL, vqL, Imd21, Imr21_0, Imr21_1, Imr21_2, Imr21_4, Imr21_5, Imr21_7, Imr21_8, ← hh1, e2', R1, e3, oNew_eq, S4, a0', a1', b0', b1', U0, U1, S5, oBuild_an0, stAn g5, eq_self]
      exact Tells.ret (by simp only [resK, vmL, Nat.reduceEqDiff, ↓reduceIte, dLoadAn, ldAn (put_self _ _ _), tupR]) ⟨rfl, by simpa using cnF, cF⟩
    · have hM : loginM user pass w = (ansV 1 [108, 111, 103, 105, 110] false false, false) := by
        unfold loginM
        rw [if_neg hbad, if_neg]
        rw [hT]
        intro e
        simp at e
        exact hm e
      rw [hM]
      have cf := fin c14 (some (.cells (.rw tA true) (ansL 1 [108, 111, 103, 105, 110] false false)))
      by_cases hta : ta = user
      · have htb : ¬ tb = pass := fun e => hm ⟨hta, e⟩
        have D1 : decide (ta ≠ user) = false := decide_eq_false fun q => q hta
        have D2 : decide (tb ≠ pass) = true := decide_eq_true htb
        simp (disch := omega) only [vmL, Nat.reduceEqDiff, ↓reduceIte, vsL, vqL, Imd21, Imr21_0, Imr21_1, Imr21_2, Imr21_4, Imr21_5, Imr21_6, ← hh1, e2', R1, e3, oNew_eq, S4, a0', a1', b0', b1', U0, U1, stAn g4, oBuild_an2, hta, htb, eq_self]
        exact Tells.ret (by simp only [resK, vmL, Nat.reduceEqDiff, ↓reduceIte, dLoadAn, ldAn (put_self _ _ _), tupR]) ⟨rfl, cn.ch cf (fun q => q) (fun q => q), cf.mono fun _ _ q => q.elim⟩
      · simp (disch := omega) only [vmL, Nat.reduceEqDiff, ↓reduceIte, vsL, vqL, Imd21, Imr21_0, Imr21_1, Imr21_2, Imr21_4, Imr21_5, Imr21_6, ← hh1, e2', R1, e3, oNew_eq, S4, a0', a1', b0', b1', U0, U1, stAn g4, oBuild_an2, hta, eq_self]
        exact Tells.ret (by simp only [resK, vmL, Nat.reduceEqDiff, ↓reduceIte, dLoadAn, ldAn (put_self _ _ _), tupR]) ⟨rfl, cn.ch cf (fun q => q) (fun q => q), cf.mono fun _ _ q => q.elim⟩
end Go.Proofs.Im

noncomputable section
namespace Go.Proofs.Im
open Go Go.Proofs Go.Vm Go.Ln
set_option linter.unusedVariables false
set_option maxRecDepth 100000
set_option linter.unusedSimpArgs false
theorem call21 (pc : Pos) (x : V) (h : Hp) : oCallV Ime121 (.func (.func tF21) (.cons (.ptr pc 0) .nil) .nil) [x] h = ImF21 [.ptr pc 0, x] h := (rfl)
theorem loginM_ok {user pass : List Nat} {w : Wds} : AnOk (loginM user pass w).1 := by
  unfold loginM
  split
  · exact .inl ⟨2, _, .inr rfl, by simp, rfl⟩
  · split
    · exact .inr ⟨false, rfl⟩
    · exact .inl ⟨1, _, .inl rfl, by simp, rfl⟩
theorem loginM_an (user pass : List Nat) (w : Wds) : ∃ k t x y, (loginM user pass w).1 = ansV k t x y := by
  unfold loginM
  split
  · exact ⟨_, _, _, _, rfl⟩
  · split
    · exact ⟨_, _, _, _, rfl⟩
    · exact ⟨_, _, _, _, rfl⟩
theorem run_login {P : Pos → Prop} {b : Nat} {h : Hp} {pc im ps ir : Pos} {L rest r : List V} {s user pass : List Nat} {vw : V} {w : Wds} {wr : Wr} (d : Bd b h ir 5 tRq L s) (h1s : L[1]? = some (.ptr ps 0)) (h3 : L[3]? = some vw) (h4 : L[4]? = some (.bool false))
    (tw : WS P h vw w) (hl : w.len ≤ 1000000) (cn : Cn h pc im false) (hg : h.get ps = some (.cells wr ((.str user :: .str pass :: rest) ++ r))) (hr : rest.length = 7) (hpn : ps.nat < h.next.nat) (hc : pc.nat < b) {nm : List Nat} (hnm : nm = [108, 111, 103, 105, 110]) :
    ∃ rr h', ImF121 [.ptr pc 0, .ptr ir 0, .str nm] h = .ok rr h' ∧ rr = (loginM user pass w).1 ∧ Cn h' pc im (loginM user pass w).2 ∧ Ch (fun j => j = pc) h h' := by
  have hbi := d.hb
  have hbn := d.hi
  have eN : decide (nm = [117, 105, 100]) = false := by rw [hnm]; decide
  have hf : findIn nm cmdL = some (tF21, 3, 1, false) := by rw [hnm]; rfl
  obtain ⟨h1, hh1⟩ : ∃ h1, h1 = h.new (.cells (.rw tA true) [.int .i64 0, .str [], .bool false, .bool false, .bool false]) := ⟨_, rfl⟩
  have c1 : Ch (fun _ => False) h h1 := by rw [hh1]; exact Ch.new _ _ _
  have g1 : h1.get h.next = some (.cells (.rw tA true) [.int .i64 0, .str [], .bool false, .bool false, .bool false]) := by rw [hh1]; exact new_self _ _
  have n1 : h1.next.nat = h.next.nat + 1 := by rw [hh1, new_next_nat]
  obtain ⟨h2, hh2⟩ : ∃ h2, h2 = (h1.new (.cells (.rw tCmd true) [.nilf, .int .i64 0, .bool false])).put h1.next (some (.cells (.rw tCmd true) [.func (.func tF21) (.cons (.ptr pc 0) .nil) .nil, .int .i64 ((1 : Nat) : Int), .bool false])) := ⟨_, rfl⟩
  have c2 : Ch (fun _ => False) h1 h2 := by rw [hh2]; exact fill_ch _ _ _
  have g2 : h2.get h1.next = some (.cells (.rw tCmd true) [.func (.func tF21) (.cons (.ptr pc 0) .nil) .nil, .int .i64 ((1 : Nat) : Int), .bool false]) := by rw [hh2]; exact put_self _ _ _
  have n2 : h2.next.nat = h1.next.nat + 1 := by rw [hh2, put_next, new_next_nat]
  have c12 : Ch (fun _ => False) h h2 := c1.trans c2 fun _ _ q => q
  have d2 := d.ch c12 fun _ _ _ q => q
  have tw2 : WS P h2 vw w := tw.ch c12 fun j _ q => ⟨q, fun q => q⟩
  have cn1 := cn.ch c1 (fun q => q) fun q => q
  have cn2 := cn.ch c12 (fun q => q) fun q => q
  have hip : ir ≠ pc := fun e => by rw [e] at hbi; omega
  have hg2 := (c12.get ps hpn fun q => q).trans hg
  obtain ⟨rr, h3', e3, hrr, cn3, c3⟩ := login_ok d2 h3 h1s tw2 hl cn2 hg2 hr (by omega) hip
  rw [Bool.or_false] at cn3
  have hpl : pc.nat < h.next.nat := by omega
  have ga2 := (c2.get h.next (by omega) fun q => q).trans g1
  have ga3 := (c3.get h.next (by omega) fun q => by rw [← q] at hc; omega).trans ga2
  obtain ⟨only1, cnt1, gp1, gm1, -, -, -⟩ := cn1
  obtain ⟨only2, cnt2, gp2, gm2, -, -, -⟩ := cn2
  have P4 : oLoad1 (.ptr pc 4) h1 = .ok (.map im) h1 := ld_at gp1 rfl
  have lk := look_cmd gm1 (.agg (.cons .nilf (.cons (.int .i64 0) (.cons (.bool false) .nil)))) nm
  rw [hf] at lk
  simp only [Option.map_some, Option.getD_some, Option.isSome_some, cmdV] at lk
  have u1 : oLoad1 (.ptr ir 4) h2 = .ok (.bool false) h2 := ld_at d2.get h4
  have X1 : oLoad1 (.ptr h1.next 1) h2 = .ok (.int .i64 1) h2 := ld_at g2 rfl
  have X0 : oLoad1 (.ptr h1.next 0) h2 = .ok (.func (.func tF21) (.cons (.ptr pc 0) .nil) .nil) h2 := ld_at g2 rfl
  have C0 : oLoad1 (.ptr pc 0) h2 = .ok (.bool false) h2 := ld_at gp2 rfl
  obtain ⟨ka, ta, xa, ya, hans⟩ := loginM_an user pass w
  rw [hrr] at e3
  rw [hans] at e3 ⊢
  have c23 : Ch (fun j => j = pc) h (h3'.put h.next (some (.cells (.rw tA true) (ansL ka ta xa ya)))) :=
    ((c12.mono (fun _ _ q => q.elim)).trans c3 fun _ _ q => q).trans (Ch.put (S := fun j => j = h.next) _ _ rfl) fun j hj q => by rw [q] at hj; omega
  have cnF : Cn (h3'.put h.next (some (.cells (.rw tA true) (ansL ka ta xa ya)))) pc im (loginM user pass w).2 :=
    cn3.ch (S := fun j => j = h.next) (Ch.put _ _ rfl) (fun q => by rw [q] at hpl; omega) fun q => by
      obtain ⟨-, -, -, -, -, -, hm⟩ := cn
      rw [q] at hm; omega
  rw [ImF121_eq, Imd121_eq]
  show Tells Tryz.prog [.cell 6 tA] (fun r h' => r = ansV ka ta xa ya ∧ Cn h' pc im (loginM user pass w).2 ∧ Ch (fun j => j = pc) h h') _
  unfold runT runU
  simp (disch := omega) only [vmL, Nat.reduceEqDiff, reduceCtorEq, ↓reduceIte, vsL, vqL, eN, Imr121_0, Imr121_1, Imr121_6, Imr121_7, Imr121_9, Imr121_10, Imr121_11, Imr121_12, Imr121_17, Imr121_19, ← hh1, P4, lk, oNew_eq, st3g (new_self _ _), ← hh2, u1, X1, X0, C0, call21, e3, stAn ga3]
  exact Tells.ret (by simp only [resK, vmL, Nat.reduceEqDiff, ↓reduceIte, dLoadAn, ldAn (put_self _ _ _), tupR]) ⟨rfl, cnF, c23⟩
end Go.Proofs.Im

noncomputable section
namespace Go.Proofs.Im
open Go Go.Proofs Go.Vm Go.Ln
set_option linter.unusedVariables false
set_option maxRecDepth 100000
set_option linter.unusedSimpArgs false
def LogQ (h : Hp) (pc im : Pos) (inn : Bool) (p : List Nat × Bool) (r : V) (h' : Hp) : Prop := r = .tuple (.cons (.str p.1) (.cons (.bool p.2) .nil)) ∧ Cn h' pc im inn ∧ Ch (fun j => j = pc) h h'
theorem do_login {P : Pos → Prop} {h : Hp} {pc im ps : Pos} {rest r : List V} {user pass : List Nat} {wr : Wr} {now : Int} {g : Ln.Got} {vw : V} (cn : Cn h pc im false) (tw : WRow P h vw g.words) (hP : ∀ j, P j → j.nat < h.next.nat ∧ j ≠ pc)
    (hg : h.get ps = some (.cells wr ((.str user :: .str pass :: rest) ++ r))) (hr : rest.length = 7) (hpn : ps.nat < h.next.nat) (hpp : ps ≠ pc)
    (hw : ∀ k x, g.words.get? k = some x → (∀ c ∈ x.text, c < 256) ∧ x.text.length ≤ 10000000) (hl : g.words.len ≤ 1000000)
    (hk1 : g.kind = 1) {a b : Wd} (hx0 : g.words.get? 0 = some a) (hka : a.kind = 1) (hx1 : g.words.get? 1 = some b) (hkb : b.kind = 1) (hn : foldM b.text = [108, 111, 103, 105, 110]) :
    ∃ r h', ImF42 [.ptr pc 0, .ptr ps 0, .int .i64 now, .agg (.cons (.int .i64 g.kind) (.cons vw .nil))] h = .ok r h' ∧ LogQ h pc im (loginM user pass (g.words.drop 2)).2 (tellM a.text [] (loginM user pass (g.words.drop 2)).1) r h' := by
  obtain ⟨h1, hh1⟩ : ∃ h1, h1 = h.new (.cells (.rw tGot true) [.int .i64 g.kind, vw]) := ⟨_, rfl⟩
  have c1 : Ch (fun _ => False) h h1 := by rw [hh1]; exact Ch.new _ _ _
  have g1 : h1.get h.next = some (.cells (.rw tGot true) [.int .i64 g.kind, vw]) := by rw [hh1]; exact new_self _ _
  have n1 : h1.next.nat = h.next.nat + 1 := by rw [hh1, new_next_nat]
  have tw1 : WS P h1 vw g.words := tw.ws.ch c1 fun j _ q => ⟨q, fun q => q⟩
  have cn1 := cn.ch c1 (fun q => q) fun q => q
  have G1 : oLoad1 (.ptr h.next 1) h1 = .ok vw h1 := ld_at g1 rfl
  have A0 : ImF119 [vw, .int .i64 0] h1 = .ok (.bool (atomW g.words 0)) h1 := imAtom_ok tw1 0
  have A1 : ImF119 [vw, .int .i64 1] h1 = .ok (.bool (atomW g.words 1)) h1 := imAtom_ok tw1 1
  rw [ImF42_eq]
  show Tells Tryz.prog _ (LogQ h pc im (loginM user pass (g.words.drop 2)).2 (tellM a.text [] (loginM user pass (g.words.drop 2)).1)) _
  have G0' : oLoad1 (.ptr h.next 0) h1 = .ok (.int .i64 1) h1 := by rw [ld_at g1 rfl, hk1]
  have ha0 : atomW g.words 0 = true := by unfold atomW; rw [hx0]; exact decide_eq_true hka
  have ha1 : atomW g.words 1 = true := by unfold atomW; rw [hx1]; exact decide_eq_true hkb
  rw [ha0] at A0
  rw [ha1] at A1
  obtain ⟨hA1, hA2⟩ := hw 0 a hx0
  obtain ⟨hB1, hB2⟩ := hw 1 b hx1
  have ano : AnOk (loginM user pass (g.words.drop 2)).1 := loginM_ok
  have hlen : 2 ≤ g.words.len := by have := Wds.get?_lt hx1; omega
  have cn0 := cn
  obtain ⟨-, -, -, -, -, hcl0, hml0⟩ := cn0
  obtain ⟨only, cnt, gc, gm, hne, hcl, hml⟩ := cn1
  -- the count
  obtain ⟨m, eadd⟩ := add_ok gc (q := 3) rfl
  obtain ⟨h2, hh2⟩ : ∃ h2, h2 = h1.put pc (some (.cells (.rw tCn true) [.bool false, .nilp, .bool only, .int .i64 m, .map im])) := ⟨_, rfl⟩
  have eadd' : ImF120 [.ptr pc 3, .int .i64 1] h1 = .ok (.int .i64 m) h2 := by rw [hh2]; exact eadd
  have c2 : Ch (fun j => j = pc) h1 h2 := by rw [hh2]; exact Ch.put _ _ rfl
  have n2 : h2.next.nat = h.next.nat + 1 := by rw [hh2, put_next, n1]
  have gc2 : h2.get pc = some (.cells (.rw tCn true) [.bool false, .nilp, .bool only, .int .i64 m, .map im]) := by rw [hh2]; exact put_self _ _ _
  have gm2 := (c2.get im hml fun q => hne q.symm).trans gm
  have cn2 : Cn h2 pc im false := ⟨only, m, gc2, gm2, hne, by omega, by omega⟩
  have tw2 : WS P h2 vw g.words := tw1.ch c2 fun j _ q => ⟨q, (hP j q).2⟩
  have g2 := (c2.get h.next (by omega) fun q => by rw [← q] at hcl0; omega).trans g1
  have hg1 := (c1.get ps hpn fun q => q).trans hg
  have hg2 := (c2.get ps (by omega) hpp).trans hg1
  have G2 : oLoad1 (.ptr h.next 1) h2 = .ok vw h2 := ld_at g2 rfl
  obtain ⟨v', es, tw2'⟩ := tw2.from hlen
  have es' : ∀ h', oSlice 3 vw (some (.int .i64 2)) none none h' = .ok v' h' := es
  -- the request
  obtain ⟨h3, hh3⟩ : ∃ h3, h3 = h2.new (.cells (.rw tRq true) [.ptr pc 0, .ptr ps 0, .int .i64 now, v', .bool false, .nilp, .nils]) := ⟨_, rfl⟩
  have c3 : Ch (fun _ => False) h2 h3 := by rw [hh3]; exact Ch.new _ _ _
  have n3 : h3.next.nat = h2.next.nat + 1 := by rw [hh3, new_next_nat]
  have g3 : h3.get h2.next = some (.cells (.rw tRq true) [.ptr pc 0, .ptr ps 0, .int .i64 now, v', .bool false, .nilp, .nils]) := by rw [hh3]; exact new_self _ _
  have d3 : Bd h2.next.nat h3 h2.next 5 tRq [.ptr pc 0, .ptr ps 0, .int .i64 now, v', .bool false, .nilp, .nils] [] :=
    ⟨Nat.le_refl _, by omega, g3, .inl rfl, ⟨.nils, rfl, Ow.nil _ _ _ _, fun j hj => (by cases hj)⟩, lies_rq⟩
  have tw3 : WS P h3 v' (g.words.drop 2) := tw2'.ch c3 fun j _ q => ⟨q, fun q => q⟩
  have tw3w : WS P h3 vw g.words := tw2.ch c3 fun j _ q => ⟨q, fun q => q⟩
  have cn3 := cn2.ch c3 (fun q => q) fun q => q
  have G3 : oLoad1 (.ptr h.next 1) h3 = .ok vw h3 := ld_at ((c3.get h.next (by omega) fun q => q).trans g2) rfl
  have B0 := oBuild_rq (v := v') (c := .ptr pc 0) (s := .ptr ps 0) (n := now) tw3.cell ⟨rfl, rfl⟩ ⟨rfl, rfl⟩ h2
  -- its name
  obtain ⟨j, q, vk, i1, i2, i3, i4, -⟩ := WS.at tw3w hx1
  have i1' : ∀ h', oIdxS 3 vw (.int .i64 1) h' = .ok (.ptr j q) h' := i1
  have i3' : oLoad1 (.ptr j (q + 1)) h3 = .ok (.str b.text) h3 := i3
  obtain ⟨rf, h4, e4, rfl, c4⟩ := fold_okT (h := h3) (by omega) hB1
  have n4 := c4.next
  have d4 := d3.ch c4 fun _ _ _ q => q
  have tw4 : WS P h4 v' (g.words.drop 2) := tw3.ch c4 fun j _ q => ⟨q, fun q => q⟩
  have cn4 := cn3.ch c4 (fun q => q) fun q => q
  have c24 : Ch (fun _ => False) h2 h4 := c3.trans c4 fun _ _ q => q
  have hg4 := (c24.get ps (by omega) fun q => q).trans hg2
  have hwl : (g.words.drop 2).len ≤ 1000000 := by
    have : (g.words.drop 2).len ≤ g.words.len := by rw [Wds.len_drop]; omega
    omega
  obtain ⟨r5, h5, e5, hr5, cn5, c5⟩ := run_login d4 rfl rfl rfl tw4 hwl cn4 hg4 hr (by omega) (by omega) hn
  have d5 := d4.chO c5 fun j o e => by have := (o.from d4 _).1; rw [e] at this; omega
  have n5 := c5.next
  have c25 : Ch (fun j => j = pc) h2 h5 := (c24.mono fun _ _ q => q.elim).trans c5 fun _ _ q => q
  have c15 : Ch (fun j => j = pc) h1 h5 := c2.trans c25 fun _ _ q => q
  have tw5 : WS P h5 vw g.words := tw1.ch c15 fun j _ q => ⟨q, (hP j q).2⟩
  have g5 := (c15.get h.next (by omega) fun q => by rw [← q] at hcl0; omega).trans g1
  have c05 : Ch (fun j => j = pc) h h5 := (c1.mono fun _ _ q => q.elim).trans c15 fun _ _ q => q
  generalize hL5 : ([.ptr pc 0, .ptr ps 0, .int .i64 now, v', .bool false, .nilp, .nils] : List V) = L5 at d5
  have na5 : ¬ OfB h2.next 5 L5 h5.next := fun o => by have := (o.from d5 _).2; omega
  -- the answer
  have key : ∀ (k : Int) (tx : List Nat) (x y : Bool), ∃ h7, h7 = (h5.new (.cells (.rw tA true) [.int .i64 0, .str [], .bool false, .bool false, .bool false])).put h5.next (some (.cells (.rw tA true) (ansL k tx x y))) ∧
      h7.get h5.next = some (.cells (.rw tA true) (ansL k tx x y)) ∧ Ch (fun _ => False) h5 h7 ∧ h7.next.nat = h5.next.nat + 1 := fun k tx x y => ⟨_, rfl, put_self _ _ _, fill_ch _ _ _, by rw [put_next, new_next_nat]⟩
  have late : ∀ {h7 : Hp}, Ch (fun j => h2.next.nat ≤ j.nat) h5 h7 → Cn h7 pc im (loginM user pass (g.words.drop 2)).2 ∧ Ch (fun j => j = pc) h h7 := fun c57 =>
    ⟨cn5.ch c57 (by omega) (by omega), c05.trans c57 fun j hj q => by omega⟩
  have early : ∀ {h7 : Hp}, Ch (fun _ => False) h5 h7 → WS P h7 vw g.words ∧ oLoad1 (.ptr h.next 1) h7 = .ok vw h7 := fun c57 =>
    ⟨tw5.ch c57 fun j _ q => ⟨q, fun q => q⟩, ld_at ((c57.get h.next (by omega) fun q => q).trans g5) rfl⟩
  rcases ano with ⟨k, tx, hk, htx, han⟩ | ⟨x, han⟩
  · rw [hr5, han] at e5
    rw [han]
    obtain ⟨h7, hh7, g7, c7, n7⟩ := key k tx false false
    obtain ⟨cn7, ch7⟩ := late (c7.mono fun _ _ q => q.elim)
    obtain ⟨tw7, G7⟩ := early c7
    obtain ⟨jt, qt, vt, t1, t2, t3, t4, -⟩ := WS.at tw7 hx0
    have t1' : ∀ h', oIdxS 3 vw (.int .i64 0) h' = .ok (.ptr jt qt) h' := t1
    have K0 : oLoad1 (.ptr h5.next 0) h7 = .ok (.int .i64 k) h7 := ld_at g7 rfl
    have K1 : oLoad1 (.ptr h5.next 1) h7 = .ok (.str tx) h7 := ld_at g7 rfl
    have ad : ∀ (u w : List Nat) (h : Hp), u.length ≤ 100000000 → w.length ≤ 100000000 → oBin .add .none (.str u) (.str w) h = .ok (.str (u ++ w)) h := fun u w h hu hv => oBin_str_add (by omega)
    rw [Imd42_eq]
    rcases hk with rfl | rfl
    · have S1 := fun h => ad a.text [32, 78, 79, 32] h (by omega) (by simp)
      have S2 := fun h => ad (a.text ++ [32, 78, 79, 32]) tx h (by simp; omega) (by omega)
      have S3 := fun h => ad ((a.text ++ [32, 78, 79, 32]) ++ tx) [13, 10] h (by simp; omega) (by simp)
      simp (disch := omega) only [vmL, Nat.reduceEqDiff, reduceCtorEq, ↓reduceIte, vsL, vqL, Imr42_0, Imr42_1, Imr42_3, Imr42_5, Imr42_7, Imr42_8, Imr42_9, Imr42_10, Imr42_11, Imr42_12, oBox_g, ← hh1, ptr_eql_nil, G0', G1, A0, A1, eadd', G2, es', B0, oBox_rq, ← hh3, G3, i1', i3', e4, e5, oNew_an, stAn (new_self _ _), ← hh7, G7, t1', t3, K0, K1, S1, S2, S3, Nat.add_zero, Int.reduceEq]
      refine Tells.ret (by simp only [resK, vmL, Nat.reduceEqDiff, ↓reduceIte, tupR]; rfl) ⟨?_, cn7, ch7⟩
      simp [V.ofList, tellM, ansV]
    · have S1 := fun h => ad a.text [32, 66, 65, 68, 32] h (by omega) (by simp)
      have S2 := fun h => ad (a.text ++ [32, 66, 65, 68, 32]) tx h (by simp; omega) (by omega)
      have S3 := fun h => ad ((a.text ++ [32, 66, 65, 68, 32]) ++ tx) [13, 10] h (by simp; omega) (by simp)
      simp (disch := omega) only [vmL, Nat.reduceEqDiff, reduceCtorEq, ↓reduceIte, vsL, vqL, Imr42_0, Imr42_1, Imr42_3, Imr42_5, Imr42_7, Imr42_8, Imr42_9, Imr42_10, Imr42_11, Imr42_13, Imr42_14, oBox_g, ← hh1, ptr_eql_nil, G0', G1, A0, A1, eadd', G2, es', B0, oBox_rq, ← hh3, G3, i1', i3', e4, e5, oNew_an, stAn (new_self _ _), ← hh7, G7, t1', t3, K0, K1, S1, S2, S3, Nat.add_zero, Int.reduceEq]
      refine Tells.ret (by simp only [resK, vmL, Nat.reduceEqDiff, ↓reduceIte, tupR]; rfl) ⟨?_, cn7, ch7⟩
      simp [V.ofList, tellM, ansV]
  · have hxf : x = false := by
      have : (loginM user pass (g.words.drop 2)).1 = ansV 0 [] x x := han
      unfold loginM at this
      split at this
      · simp [ansV] at this
      · split at this
        · simp [ansV] at this; exact this
        · simp [ansV] at this
    subst hxf
    rw [hr5, han] at e5
    rw [han]
    obtain ⟨h7, hh7, g7, c7, n7⟩ := key 0 [] false false
    obtain ⟨cn7, ch7⟩ := late (c7.mono fun _ _ q => q.elim)
    obtain ⟨tw7, G7⟩ := early c7
    obtain ⟨jt, qt, vt, t1, t2, t3, t4, -⟩ := WS.at tw7 hx0
    have t1' : ∀ h', oIdxS 3 vw (.int .i64 0) h' = .ok (.ptr jt qt) h' := t1
    have K0 : oLoad1 (.ptr h5.next 0) h7 = .ok (.int .i64 0) h7 := ld_at g7 rfl
    have K3 : oLoad1 (.ptr h5.next 3) h7 = .ok (.bool false) h7 := ld_at g7 rfl
    have K4 : oLoad1 (.ptr h5.next 4) h7 = .ok (.bool false) h7 := ld_at g7 rfl
    have d7 := d5.ch c7 fun _ _ _ q => q
    have ha7 : h5.next.nat < h7.next.nat := by omega
    have K1 : oLoad1 (.ptr pc 1) h7 = .ok .nilp h7 := by
      obtain ⟨o, n, gx, -⟩ := cn7
      exact ld_at gx rfl
    rw [Imd42_eq]
    have wrap : ∀ {h8 : Hp} {o : Out}, Ch (fun j => h2.next.nat ≤ j.nat) h5 h8 → Tells Tryz.prog [.tmp 8, .tmp 9] (fun r h' => r = .tuple (.cons (.str ([] ++ (a.text ++ [32, 79, 75, 32, 100, 111, 110, 101, 13, 10]))) (.cons (.bool (!false)) .nil)) ∧ Ch (fun j => h2.next.nat ≤ j.nat) h8 h') o →
        Tells Tryz.prog [.tmp 8, .tmp 9] (LogQ h pc im (loginM user pass (g.words.drop 2)).2 (tellM a.text [] (ansV 0 [] false false))) o := fun c58 hT => by
      obtain ⟨r, h', er, hr, c8⟩ := hT
      obtain ⟨cn', ch'⟩ := late (c58.trans c8 fun _ _ q => q)
      exact ⟨r, h', er, hr, cn', ch'⟩
    obtain ⟨r8, h8, L8, e8, d8, p8, k8, l8⟩ := write_st d7 [] (by simp)
    rw [List.append_nil] at d8
    have na8 : ¬ OfB h2.next 5 L8 h5.next := fun o => (p8.sub _ o).elim na5 fun o => by omega
    have g8 := (p8.ch.get h5.next ha7 na5).trans g7
    have c58 : Ch (fun j => h2.next.nat ≤ j.nat) h5 h8 := (c7.mono fun _ _ q => q.elim).trans (p8.ch.mono fun j _ o => (o.from d7 j).1) fun _ _ q => q
    simp (disch := omega) only [vmL, Nat.reduceEqDiff, reduceCtorEq, ↓reduceIte, vsL, vqL, Imr42_0, Imr42_1, Imr42_3, Imr42_5, Imr42_7, Imr42_8, Imr42_9, Imr42_10, Imr42_11, Imr42_13, Imr42_15, Imr42_16, oBox_g, ← hh1, ptr_eql_nil, G0', G1, A0, A1, eadd', G2, es', B0, oBox_rq, ← hh3, G3, i1', i3', e4, e5, oNew_an, stAn (new_self _ _), ← hh7, G7, t1', t3, K0, K1, K3, K4, upd_nil, e8, Nat.add_zero, Int.reduceEq]
    refine wrap c58 (do_end d8 g8 na8 (by have := p8.ch.next; omega) (by simp) hA2 hA1 (by simp) ?_ ?_ ?_) <;> simp only [vmL, Nat.reduceEqDiff, ↓reduceIte]
end Go.Proofs.Im
