/- Part of the value machine, or of a walk by it: lemmas that the claim's last text uses. No conditions. -/
import Derived.Test.YtnlbcbjgejpanaaGreatDoorSeVmO
import Derived.Test.YtnlbcbjgejpanaaGreatDoorSeImF
set_option linter.unusedVariables false
set_option linter.unusedSimpArgs false
set_option linter.unnecessarySimpa false
noncomputable section
namespace Go.Proofs.Im
open Go Go.Proofs Go.Vm Go.Ln
set_option linter.unusedVariables false
set_option maxRecDepth 100000
set_option linter.unusedSimpArgs false
def Cn (h : Hp) (pc im : Pos) (inn : Bool) : Prop :=
  ∃ only cnt, h.get pc = some (.cells (.rw tCn true) [.bool inn, .nilp, .bool only, .int .i64 cnt, .map im]) ∧ h.get im = some (.map (cmdM pc)) ∧ pc ≠ im ∧ pc.nat < h.next.nat ∧ im.nat < h.next.nat
theorem Cn.ch {S : Pos → Prop} {h h' : Hp} {pc im : Pos} {inn : Bool} (k : Cn h pc im inn) (c : Ch S h h') (h1 : ¬ S pc) (h2 : ¬ S im) : Cn h' pc im inn := by
  obtain ⟨o, n, a, b, d, e, f⟩ := k
  exact ⟨o, n, (c.get pc e h1).trans a, (c.get im f h2).trans b, d, Nat.lt_of_lt_of_le e c.next, Nat.lt_of_lt_of_le f c.next⟩
theorem oBox_g (t : TypeId) (k : Int) (v : V) (h : Hp) : oBox t (.agg (.cons (.int .i64 k) (.cons v .nil))) h = .ok (.ptr h.next 0) (h.new (.cells (.rw t true) [.int .i64 k, v])) := (rfl)
theorem oBuild_rq {v c s : V} {n : Int} (hv : v.cells = [v] ∧ notTuple v = true) (hc : c.cells = [c] ∧ notTuple c = true) (hs : s.cells = [s] ∧ notTuple s = true) (h : Hp) :
    oBuild [.nilp, .nilp, .int .i64 0, .nils, .bool false, .nilp, .nils] [(0, 1, c), (1, 1, s), (2, 1, .int .i64 n), (3, 1, v)] h = .ok (.agg (.cons c (.cons s (.cons (.int .i64 n) (.cons v (.cons (.bool false) (.cons .nilp (.cons .nils .nil)))))))) h := by
  unfold oBuild
  simp only [fillP, hv.1, hv.2, hc.1, hc.2, hs.1, hs.2]
  rfl
theorem oBox_rq {v c s u : V} {n : Int} (h : Hp) (t : TypeId) : oBox t (.agg (.cons c (.cons s (.cons (.int .i64 n) (.cons v (.cons u (.cons .nilp (.cons .nils .nil)))))))) h = .ok (.ptr h.next 0) (h.new (.cells (.rw t true) [c, s, .int .i64 n, v, u, .nilp, .nils])) := (rfl)
theorem lies_rq : liesAt Tryz.prog Tryz.prog.depth tRq (7 / Tryz.prog.cellsOf tRq) 5 tBd 1 = true := by kernel_rfl
def doE : F → Hp → Out := seqO (seqO Imr42_17 (cndX (.tmp 104) Imr42_18 Imr42_19)) (seqO Imr42_20 Out.ret)
theorem Imd42_eq : Imd42 = (seqO Imr42_0 (seqO (blkO 0 (seqO Imr42_1 (cndX (.tmp 13) (seqO Imr42_2 Out.ret) (seqO Imr42_3 (cndX (.tmp 20) (seqO Imr42_4 Out.ret) (seqO Imr42_5 (cndX (.tmp 24) (seqO Imr42_6 Out.ret) Out.nor))))))) (seqO Imr42_7 (seqO Imr42_8 (seqO Imr42_9 (seqO Imr42_10 (seqO (blkO 1 (seqO Imr42_11 (cndX (.tmp 66) (seqO Imr42_12 Out.ret) (seqO Imr42_13 (cndX (.tmp 76) (seqO Imr42_14 Out.ret) Out.nor))))) (seqO (seqO Imr42_15 (cndX (.tmp 88) Imr42_16 Out.nor)) doE)))))))) := rfl
def DoQ (h : Hp) (pc im : Pos) (inn : Bool) (t : List Nat) (on : Bool) (r : V) (h' : Hp) : Prop := r = .tuple (.cons (.str t) (.cons (.bool on) .nil)) ∧ Cn h' pc im inn ∧ Ch (fun j => j = pc) h h'
theorem eqV_bool (b : Bool) : eqV (.bool b) (.bool b) = true := by cases b <;> rfl
theorem do_end {b : Nat} {h : Hp} {ir a0 : Pos} {L : List V} {s tag : List Nat} {x : Bool} (d : Bd b h ir 5 tRq L s) (ga : h.get a0 = some (.cells (.rw tA true) (ansL 0 [] x x))) (na : ¬ OfB ir 5 L a0) (ha : a0.nat < h.next.nat)
    (hs : s.length ≤ 1000) (ht : tag.length ≤ 10000000) (h256 : ∀ c ∈ tag, c < 256) (hs256 : ∀ c ∈ s, c < 256) {fr : F} (f10 : fr.get (Pos.of 10) = some (.ptr ir 0)) (f11 : fr.get (Pos.of 11) = some (.ptr a0 0)) (f12 : fr.get (Pos.of 12) = some (.str tag)) :
    Tells Tryz.prog [.tmp 8, .tmp 9] (fun r h' => r = .tuple (.cons (.str (s ++ (tag ++ [32, 79, 75, 32, 100, 111, 110, 101, 13, 10]))) (.cons (.bool (!x)) .nil)) ∧ Ch (fun j => b ≤ j.nat) h h') (doE fr h) := by
  have A1 : oLoad1 (.ptr a0 1) h = .ok (.str []) h := ld_at ga rfl
  obtain ⟨r2, h2, L2, e2, d2, p2, k2, n2⟩ := say1_ok (el := 9) d [tag, [79, 75, 32, 100, 111, 110, 101]] (n := 2) rfl (by omega) (by simp [sizeL]; omega) (by simp; exact h256) (.inr (by simp [joinM])) (by simp [joinM]; omega)
  simp only [List.map_cons, List.map_nil] at e2
  have no2 : ¬ OfB ir 5 L2 a0 := fun o => (p2.sub _ o).elim na fun o => by omega
  have ga2 := (p2.ch.get a0 ha na).trans ga
  have hj : s ++ (joinM [32] [tag, [79, 75, 32, 100, 111, 110, 101]] ++ [13, 10]) = s ++ (tag ++ [32, 79, 75, 32, 100, 111, 110, 101, 13, 10]) := by simp [joinM]
  rw [hj] at d2
  obtain ⟨h3, e3, c3, n3⟩ := string_st d2 (by simp) (by
    intro c hc
    simp only [List.mem_append] at hc
    rcases hc with hc | hc | hc
    · exact hs256 c hc
    · exact h256 c hc
    · revert hc; revert c; decide) (by simp; omega)
  have ga3 := (c3.get a0 (by have := p2.ch.next; omega) fun o => no2 o.1).trans ga2
  have B2 : oLoad1 (.ptr a0 2) h2 = .ok (.bool x) h2 := ld_at ga2 rfl
  have B3 : oLoad1 (.ptr a0 2) h3 = .ok (.bool x) h3 := ld_at ga3 rfl
  unfold doE
  simp (disch := omega) only [vmL, Nat.reduceEqDiff, reduceCtorEq, ↓reduceIte, vpL, vsL, vqL, Imr42_17, Imr42_19, Imr42_20, f10, f11, f12, A1, oBuildSlice_s2, e2, e3, B3, chk_one (m := fun h => oLoad1 (.ptr a0 2) h) B2 (eqV_bool x)]
  exact Tells.ret (by simp only [resK, vmL, Nat.reduceEqDiff, reduceCtorEq, ↓reduceIte, vpL, vsL, vqL, tupR]; rfl) ⟨rfl, (p2.ch.mono fun j _ o => (o.from d j).1).trans (c3.mono fun j _ o => (o.1.from d2 j).1) fun _ _ q => q⟩
theorem do_ok {P : Pos → Prop} {h : Hp} {pc im ps : Pos} {qs : Nat} {inn : Bool} {now : Int} {g : Ln.Got} {vw : V} {t : List Nat} {on : Bool} (cn : Cn h pc im inn) (tw : WRow P h vw g.words) (hP : ∀ j, P j → j.nat < h.next.nat ∧ j ≠ pc)
    (hw : ∀ k x, g.words.get? k = some x → (∀ c ∈ x.text, c < 256) ∧ x.text.length ≤ 10000000) (e : doM inn g = some (t, on)) :
    ∃ r h', ImF42 [.ptr pc 0, .ptr ps qs, .int .i64 now, .agg (.cons (.int .i64 g.kind) (.cons vw .nil))] h = .ok r h' ∧ DoQ h pc im inn t on r h' := by
  obtain ⟨h1, hh1⟩ : ∃ h1, h1 = h.new (.cells (.rw tGot true) [.int .i64 g.kind, vw]) := ⟨_, rfl⟩
  have c1 : Ch (fun _ => False) h h1 := by rw [hh1]; exact Ch.new _ _ _
  have g1 : h1.get h.next = some (.cells (.rw tGot true) [.int .i64 g.kind, vw]) := by rw [hh1]; exact new_self _ _
  have n1 : h1.next.nat = h.next.nat + 1 := by rw [hh1, new_next_nat]
  have tw1 : WS P h1 vw g.words := tw.ws.ch c1 fun j _ q => ⟨q, fun q => q⟩
  have cn1 := cn.ch c1 (fun q => q) fun q => q
  have G0 : oLoad1 (.ptr h.next 0) h1 = .ok (.int .i64 g.kind) h1 := ld_at g1 rfl
  have G1 : oLoad1 (.ptr h.next 1) h1 = .ok vw h1 := ld_at g1 rfl
  have A0 : ImF119 [vw, .int .i64 0] h1 = .ok (.bool (atomW g.words 0)) h1 := imAtom_ok tw1 0
  have A1 : ImF119 [vw, .int .i64 1] h1 = .ok (.bool (atomW g.words 1)) h1 := imAtom_ok tw1 1
  rw [ImF42_eq]
  show Tells Tryz.prog _ (DoQ h pc im inn t on) _
  have stay : Cn h1 pc im inn ∧ Ch (fun j => j = pc) h h1 := ⟨cn1, c1.mono fun _ _ q => q.elim⟩
  unfold doM at e
  by_cases hk2 : g.kind = 2
  · rw [if_pos hk2] at e
    cases e
    have G0' : oLoad1 (.ptr h.next 0) h1 = .ok (.int .i64 2) h1 := by rw [G0, hk2]
    simp (disch := omega) only [vmL, Nat.reduceEqDiff, reduceCtorEq, ↓reduceIte, vpL, vsL, vqL, Imd42, Imr42_0, Imr42_1, Imr42_3, Imr42_4, oBox_g, ← hh1, ptr_eql_nil, G0', Int.reduceEq]
    exact Tells.ret (by simp only [resK, vmL, Nat.reduceEqDiff, reduceCtorEq, ↓reduceIte, vpL, vsL, vqL, tupR]; rfl) ⟨rfl, stay.1, stay.2⟩
  rw [if_neg hk2] at e
  by_cases hk1 : g.kind = 1
  · rw [if_pos hk1] at e
    have G0' : oLoad1 (.ptr h.next 0) h1 = .ok (.int .i64 1) h1 := by rw [G0, hk1]
    by_cases hat : atomW g.words 0 = true ∧ atomW g.words 1 = true
    · obtain ⟨ha0, ha1⟩ := hat
      rw [ha0] at A0
      rw [ha1] at A1
      obtain ⟨a, hx0, hka⟩ : ∃ a, g.words.get? 0 = some a ∧ a.kind = 1 := by
        unfold atomW at ha0
        cases hx : g.words.get? 0 with
        | none => rw [hx] at ha0; cases ha0
        | some x => rw [hx] at ha0; exact ⟨x, rfl, by simpa using ha0⟩
      obtain ⟨b, hx1, hkb⟩ : ∃ a, g.words.get? 1 = some a ∧ a.kind = 1 := by
        unfold atomW at ha1
        cases hx : g.words.get? 1 with
        | none => rw [hx] at ha1; cases ha1
        | some x => rw [hx] at ha1; exact ⟨x, rfl, by simpa using ha1⟩
      rw [hx0, hx1] at e
      simp only [] at e
      rw [if_pos ⟨hka, hkb⟩] at e
      obtain ⟨an, tt, er, et⟩ : ∃ an tt, runM inn (foldM b.text) (g.words.drop 2) = some (an, tt) ∧ some (tellM a.text tt an) = some (t, on) := by
        cases hr : runM inn (foldM b.text) (g.words.drop 2) with
        | none => rw [hr] at e; cases e
        | some p => rw [hr] at e; exact ⟨p.1, p.2, rfl, e⟩
      obtain ⟨hA1, hA2⟩ := hw 0 a hx0
      obtain ⟨hB1, hB2⟩ := hw 1 b hx1
      obtain ⟨ano, htl, ht256⟩ := runM_ok er
      have hlen : 2 ≤ g.words.len := by have := Wds.get?_lt hx1; omega
      have cn0 := cn
      obtain ⟨-, -, -, -, -, hcl0, hml0⟩ := cn0
      obtain ⟨only, cnt, gc, gm, hne, hcl, hml⟩ := cn1
      -- the count
      obtain ⟨m, eadd⟩ := add_ok gc (q := 3) rfl
      obtain ⟨h2, hh2⟩ : ∃ h2, h2 = h1.put pc (some (.cells (.rw tCn true) [.bool inn, .nilp, .bool only, .int .i64 m, .map im])) := ⟨_, rfl⟩
      have eadd' : ImF120 [.ptr pc 3, .int .i64 1] h1 = .ok (.int .i64 m) h2 := by rw [hh2]; exact eadd
      have c2 : Ch (fun j => j = pc) h1 h2 := by rw [hh2]; exact Ch.put _ _ rfl
      have n2 : h2.next.nat = h.next.nat + 1 := by rw [hh2, put_next, n1]
      have gc2 : h2.get pc = some (.cells (.rw tCn true) [.bool inn, .nilp, .bool only, .int .i64 m, .map im]) := by rw [hh2]; exact put_self _ _ _
      have gm2 := (c2.get im hml fun q => hne q.symm).trans gm
      have tw2 : WS P h2 vw g.words := tw1.ch c2 fun j _ q => ⟨q, (hP j q).2⟩
      have g2 := (c2.get h.next (by omega) fun q => by rw [← q] at hcl0; omega).trans g1
      have G2 : oLoad1 (.ptr h.next 1) h2 = .ok vw h2 := ld_at g2 rfl
      obtain ⟨v', es, tw2'⟩ := tw2.from hlen
      have es' : ∀ h', oSlice 3 vw (some (.int .i64 2)) none none h' = .ok v' h' := es
      -- the request
      obtain ⟨h3, hh3⟩ : ∃ h3, h3 = h2.new (.cells (.rw tRq true) [.ptr pc 0, .ptr ps qs, .int .i64 now, v', .bool false, .nilp, .nils]) := ⟨_, rfl⟩
      have c3 : Ch (fun _ => False) h2 h3 := by rw [hh3]; exact Ch.new _ _ _
      have n3 : h3.next.nat = h2.next.nat + 1 := by rw [hh3, new_next_nat]
      have g3 : h3.get h2.next = some (.cells (.rw tRq true) [.ptr pc 0, .ptr ps qs, .int .i64 now, v', .bool false, .nilp, .nils]) := by rw [hh3]; exact new_self _ _
      have d3 : Bd h2.next.nat h3 h2.next 5 tRq [.ptr pc 0, .ptr ps qs, .int .i64 now, v', .bool false, .nilp, .nils] [] :=
        ⟨Nat.le_refl _, by omega, g3, .inl rfl, ⟨.nils, rfl, Ow.nil _ _ _ _, fun j hj => (by cases hj)⟩, lies_rq⟩
      have tw3 : WS P h3 v' (g.words.drop 2) := tw2'.ch c3 fun j _ q => ⟨q, fun q => q⟩
      have tw3w : WS P h3 vw g.words := tw2.ch c3 fun j _ q => ⟨q, fun q => q⟩
      have gc3 := (c3.get pc (by omega) fun q => q).trans gc2
      have gm3 := (c3.get im (by omega) fun q => q).trans gm2
      have G3 : oLoad1 (.ptr h.next 1) h3 = .ok vw h3 := ld_at ((c3.get h.next (by omega) fun q => q).trans g2) rfl
      have B0 := oBuild_rq (v := v') (c := .ptr pc 0) (s := .ptr ps qs) (n := now) tw3.cell ⟨rfl, rfl⟩ ⟨rfl, rfl⟩ h2
      -- its name
      obtain ⟨j, q, vk, i1, i2, i3, i4, -⟩ := WS.at tw3w hx1
      have i1' : ∀ h', oIdxS 3 vw (.int .i64 1) h' = .ok (.ptr j q) h' := i1
      have i3' : oLoad1 (.ptr j (q + 1)) h3 = .ok (.str b.text) h3 := i3
      obtain ⟨rf, h4, e4, rfl, c4⟩ := fold_okT (h := h3) (by omega) hB1
      have d4 := d3.ch c4 fun _ _ _ q => q
      have tw4 : WS P h4 v' (g.words.drop 2) := tw3.ch c4 fun j _ q => ⟨q, fun q => q⟩
      have gc4 := (c4.get pc (by omega) fun q => q).trans gc3
      have gm4 := (c4.get im (by omega) fun q => q).trans gm3
      obtain ⟨r5, h5, L5, e5, rfl, d5, p5, k5, l5⟩ := run_ok d4 rfl rfl tw4 gc4 gm4 (fun j q => by have := (hP j q).1; omega) (by omega) (by omega) (by simp) (fun x hx => by
        rw [Wds.get?_drop] at hx
        have := hw 2 x hx
        exact ⟨this.1, by omega⟩) er
      rw [List.nil_append] at d5
      have c45 : Ch (fun j => h2.next.nat ≤ j.nat) h4 h5 := p5.ch.mono fun j _ o => (o.from d4 j).1
      have c35 : Ch (fun j => h2.next.nat ≤ j.nat) h3 h5 := (c4.mono fun _ _ q => q.elim).trans c45 fun _ _ q => q
      have n5 := c35.next
      have na5 : ¬ OfB h2.next 5 L5 h5.next := fun o => by have := (o.from d5 _).2; omega
      -- the answer
      have key : ∀ (k : Int) (tx : List Nat) (x y : Bool), ∃ h7, h7 = (h5.new (.cells (.rw tA true) [.int .i64 0, .str [], .bool false, .bool false, .bool false])).put h5.next (some (.cells (.rw tA true) (ansL k tx x y))) ∧
          h7.get h5.next = some (.cells (.rw tA true) (ansL k tx x y)) ∧ Ch (fun _ => False) h5 h7 ∧ h7.next.nat = h5.next.nat + 1 := fun k tx x y => ⟨_, rfl, put_self _ _ _, fill_ch _ _ _, by rw [put_next, new_next_nat]⟩
      have late : ∀ {h7 : Hp}, Ch (fun j => h2.next.nat ≤ j.nat) h5 h7 → Cn h7 pc im inn ∧ Ch (fun j => j = pc) h h7 ∧ WS P h7 vw g.words ∧ oLoad1 (.ptr h.next 1) h7 = .ok vw h7 := fun c57 => by
        have c37 := c35.trans c57 fun _ _ q => q
        have c27 : Ch (fun j => h2.next.nat ≤ j.nat) h2 _ := (c3.mono fun _ _ q => q.elim).trans c37 fun _ _ q => q
        refine ⟨⟨only, m, (c27.get pc (by omega) (by omega)).trans gc2, (c27.get im (by omega) (by omega)).trans gm2, hne, by have := c27.next; omega, by have := c27.next; omega⟩, ?_, tw2.ch c27 fun j _ q => ⟨q, by have := (hP j q).1; omega⟩, ld_at ((c27.get h.next (by omega) (by omega)).trans g2) rfl⟩
        exact ((c1.mono fun _ _ q => q.elim).trans c2 fun _ _ q => q).trans c27 fun j hj q => by omega
      rcases ano with ⟨k, tx, hk, htx, rfl⟩ | ⟨x, rfl⟩
      · obtain ⟨h7, hh7, g7, c7, n7⟩ := key k tx false false
        obtain ⟨cn7, ch7, tw7, G7⟩ := late (c7.mono fun _ _ q => q.elim)
        obtain ⟨jt, qt, vt, t1, t2, t3, t4, -⟩ := WS.at tw7 hx0
        have t1' : ∀ h', oIdxS 3 vw (.int .i64 0) h' = .ok (.ptr jt qt) h' := t1
        have K0 : oLoad1 (.ptr h5.next 0) h7 = .ok (.int .i64 k) h7 := ld_at g7 rfl
        have K1 : oLoad1 (.ptr h5.next 1) h7 = .ok (.str tx) h7 := ld_at g7 rfl
        have ad : ∀ (u w : List Nat) (h : Hp), u.length ≤ 100000000 → w.length ≤ 100000000 → oBin .add .none (.str u) (.str w) h = .ok (.str (u ++ w)) h := fun u w h hu hv => oBin_str_add (by omega)
        rw [Imd42_eq]
        rcases hk with rfl | rfl
        · simp [tellM, ansV] at et
          obtain ⟨rfl, rfl⟩ := et
          have S1 := fun h => ad a.text [32, 78, 79, 32] h (by omega) (by simp)
          have S2 := fun h => ad (a.text ++ [32, 78, 79, 32]) tx h (by simp; omega) (by omega)
          have S3 := fun h => ad ((a.text ++ [32, 78, 79, 32]) ++ tx) [13, 10] h (by simp; omega) (by simp)
          simp (disch := omega) only [vmL, Nat.reduceEqDiff, reduceCtorEq, ↓reduceIte, vpL, vsL, vqL, Imr42_0, Imr42_1, Imr42_3, Imr42_5, Imr42_7, Imr42_8, Imr42_9, Imr42_10, Imr42_11, Imr42_12, oBox_g, ← hh1, ptr_eql_nil, G0', G1, A0, A1, eadd', G2, es', B0, oBox_rq, ← hh3, G3, i1', i3', e4, e5, oNew_an, stAn (new_self _ _), ← hh7, G7, t1', t3, K0, K1, S1, S2, S3, Nat.add_zero, Int.reduceEq]
          refine Tells.ret (by simp only [resK, vmL, Nat.reduceEqDiff, reduceCtorEq, ↓reduceIte, vpL, vsL, vqL, tupR]; rfl) ⟨?_, cn7, ch7⟩
          simp [V.ofList]
        · simp [tellM, ansV] at et
          obtain ⟨rfl, rfl⟩ := et
          have S1 := fun h => ad a.text [32, 66, 65, 68, 32] h (by omega) (by simp)
          have S2 := fun h => ad (a.text ++ [32, 66, 65, 68, 32]) tx h (by simp; omega) (by omega)
          have S3 := fun h => ad ((a.text ++ [32, 66, 65, 68, 32]) ++ tx) [13, 10] h (by simp; omega) (by simp)
          simp (disch := omega) only [vmL, Nat.reduceEqDiff, reduceCtorEq, ↓reduceIte, vpL, vsL, vqL, Imr42_0, Imr42_1, Imr42_3, Imr42_5, Imr42_7, Imr42_8, Imr42_9, Imr42_10, Imr42_11, Imr42_13, Imr42_14, oBox_g, ← hh1, ptr_eql_nil, G0', G1, A0, A1, eadd', G2, es', B0, oBox_rq, ← hh3, G3, i1', i3', e4, e5, oNew_an, stAn (new_self _ _), ← hh7, G7, t1', t3, K0, K1, S1, S2, S3, Nat.add_zero, Int.reduceEq]
          refine Tells.ret (by simp only [resK, vmL, Nat.reduceEqDiff, reduceCtorEq, ↓reduceIte, vpL, vsL, vqL, tupR]; rfl) ⟨?_, cn7, ch7⟩
          simp [V.ofList]
      · obtain ⟨h7, hh7, g7, c7, n7⟩ := key 0 [] x x
        obtain ⟨cn7, ch7, tw7, G7⟩ := late (c7.mono fun _ _ q => q.elim)
        obtain ⟨jt, qt, vt, t1, t2, t3, t4, -⟩ := WS.at tw7 hx0
        have t1' : ∀ h', oIdxS 3 vw (.int .i64 0) h' = .ok (.ptr jt qt) h' := t1
        have K0 : oLoad1 (.ptr h5.next 0) h7 = .ok (.int .i64 0) h7 := ld_at g7 rfl
        have K3 : oLoad1 (.ptr h5.next 3) h7 = .ok (.bool x) h7 := ld_at g7 rfl
        have K4 : oLoad1 (.ptr h5.next 4) h7 = .ok (.bool false) h7 := ld_at g7 rfl
        have d7 := d5.ch c7 fun _ _ _ q => q
        have ha7 : h5.next.nat < h7.next.nat := by omega
        have eo : tt ++ (a.text ++ [32, 79, 75, 32, 100, 111, 110, 101, 13, 10]) = t ∧ (!x) = on := by
          have : tellM a.text tt (ansV 0 [] x x) = (t, on) := Option.some.inj et
          exact ⟨congrArg Prod.fst this, congrArg Prod.snd this⟩
        obtain ⟨e1, e2⟩ := eo
        subst e1
        subst e2
        rw [Imd42_eq]
        have wrap : ∀ {h8 : Hp} {o : Out} {L8 : List V}, Ch (fun j => h2.next.nat ≤ j.nat) h5 h8 → Tells Tryz.prog [.tmp 8, .tmp 9] (fun r h' => r = .tuple (.cons (.str (tt ++ (a.text ++ [32, 79, 75, 32, 100, 111, 110, 101, 13, 10]))) (.cons (.bool (!x)) .nil)) ∧ Ch (fun j => h2.next.nat ≤ j.nat) h8 h') o →
            Tells Tryz.prog [.tmp 8, .tmp 9] (DoQ h pc im inn (tt ++ (a.text ++ [32, 79, 75, 32, 100, 111, 110, 101, 13, 10])) (!x)) o := fun c58 hT => by
          obtain ⟨r, h', er, hr, c8⟩ := hT
          obtain ⟨cn', ch', -, -⟩ := late (c58.trans c8 fun _ _ q => q)
          exact ⟨r, h', er, hr, cn', ch'⟩
        cases x with
        | true =>
          simp (disch := omega) only [vmL, Nat.reduceEqDiff, reduceCtorEq, ↓reduceIte, vpL, vsL, vqL, Imr42_0, Imr42_1, Imr42_3, Imr42_5, Imr42_7, Imr42_8, Imr42_9, Imr42_10, Imr42_11, Imr42_13, Imr42_15, oBox_g, ← hh1, ptr_eql_nil, G0', G1, A0, A1, eadd', G2, es', B0, oBox_rq, ← hh3, G3, i1', i3', e4, e5, oNew_an, stAn (new_self _ _), ← hh7, G7, t1', t3, K0, K3, Nat.add_zero, Int.reduceEq]
          refine wrap (L8 := L5) (c7.mono fun _ _ q => q.elim) (do_end d7 g7 na5 ha7 (by omega) hA2 hA1 ht256 ?_ ?_ ?_) <;> simp only [vmL, Nat.reduceEqDiff, reduceCtorEq, ↓reduceIte, vpL, vsL, vqL]
        | false =>
          have K1 : oLoad1 (.ptr pc 1) h7 = .ok .nilp h7 := by
            obtain ⟨o, n, gx, -⟩ := cn7
            exact ld_at gx rfl
          obtain ⟨r8, h8, L8, e8, d8, p8, k8, l8⟩ := write_st d7 [] (by simp; omega)
          rw [List.append_nil] at d8
          have na8 : ¬ OfB h2.next 5 L8 h5.next := fun o => (p8.sub _ o).elim na5 fun o => by omega
          have g8 := (p8.ch.get h5.next ha7 na5).trans g7
          have c58 : Ch (fun j => h2.next.nat ≤ j.nat) h5 h8 := (c7.mono fun _ _ q => q.elim).trans (p8.ch.mono fun j _ o => (o.from d7 j).1) fun _ _ q => q
          simp (disch := omega) only [vmL, Nat.reduceEqDiff, reduceCtorEq, ↓reduceIte, vpL, vsL, vqL, Imr42_0, Imr42_1, Imr42_3, Imr42_5, Imr42_7, Imr42_8, Imr42_9, Imr42_10, Imr42_11, Imr42_13, Imr42_15, Imr42_16, oBox_g, ← hh1, ptr_eql_nil, G0', G1, A0, A1, eadd', G2, es', B0, oBox_rq, ← hh3, G3, i1', i3', e4, e5, oNew_an, stAn (new_self _ _), ← hh7, G7, t1', t3, K0, K1, K3, K4, upd_nil, e8, Nat.add_zero, Int.reduceEq]
          refine wrap (L8 := L8) c58 (do_end d8 g8 na8 (by have := p8.ch.next; omega) (by omega) hA2 hA1 ht256 ?_ ?_ ?_) <;> simp only [vmL, Nat.reduceEqDiff, reduceCtorEq, ↓reduceIte, vpL, vsL, vqL]
    · have e' : t = [42, 32, 66, 65, 68, 32, 108, 105, 110, 101, 13, 10] ∧ on = true := by
        unfold atomW at hat
        cases h0 : g.words.get? 0 with
        | none => rw [h0] at e; cases e; exact ⟨rfl, rfl⟩
        | some x =>
          cases h1 : g.words.get? 1 with
          | none => rw [h0, h1] at e; cases e; exact ⟨rfl, rfl⟩
          | some y =>
            rw [h0, h1] at e hat
            simp only [decide_eq_true_eq] at hat
            simp only [] at e
            rw [if_neg hat] at e
            cases e; exact ⟨rfl, rfl⟩
      obtain ⟨rfl, rfl⟩ := e'
      cases ha0 : atomW g.words 0 with
      | false =>
        rw [ha0] at A0
        simp (disch := omega) only [vmL, Nat.reduceEqDiff, reduceCtorEq, ↓reduceIte, vpL, vsL, vqL, Imd42, Imr42_0, Imr42_1, Imr42_3, Imr42_5, Imr42_6, oBox_g, ← hh1, ptr_eql_nil, G0', G1, A0, Nat.add_zero, Int.reduceEq]
        exact Tells.ret (by simp only [resK, vmL, Nat.reduceEqDiff, reduceCtorEq, ↓reduceIte, vpL, vsL, vqL, tupR]; rfl) ⟨rfl, stay.1, stay.2⟩
      | true =>
        have ha1 : atomW g.words 1 = false := by
          cases hb : atomW g.words 1 with
          | false => rfl
          | true => exact absurd ⟨ha0, hb⟩ hat
        rw [ha0] at A0
        rw [ha1] at A1
        simp (disch := omega) only [vmL, Nat.reduceEqDiff, reduceCtorEq, ↓reduceIte, vpL, vsL, vqL, Imd42, Imr42_0, Imr42_1, Imr42_3, Imr42_5, Imr42_6, oBox_g, ← hh1, ptr_eql_nil, G0', G1, A0, A1, Nat.add_zero, Int.reduceEq]
        exact Tells.ret (by simp only [resK, vmL, Nat.reduceEqDiff, reduceCtorEq, ↓reduceIte, vpL, vsL, vqL, tupR]; rfl) ⟨rfl, stay.1, stay.2⟩
  · rw [if_neg hk1] at e
    cases e
    simp (disch := omega) only [vmL, Nat.reduceEqDiff, reduceCtorEq, ↓reduceIte, vpL, vsL, vqL, Imd42, Imr42_0, Imr42_1, Imr42_3, Imr42_5, Imr42_6, oBox_g, ← hh1, ptr_eql_nil, G0, Nat.add_zero, hk1, hk2]
    exact Tells.ret (by simp only [resK, vmL, Nat.reduceEqDiff, reduceCtorEq, ↓reduceIte, vpL, vsL, vqL, tupR]; rfl) ⟨rfl, stay.1, stay.2⟩
end Go.Proofs.Im
