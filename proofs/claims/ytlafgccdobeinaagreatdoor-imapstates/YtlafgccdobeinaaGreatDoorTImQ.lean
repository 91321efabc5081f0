/- Part of the value machine, or of a walk by it: lemmas that the claim's last text uses. No conditions. -/
import Derived.Test.YtlafgccdobeinaaGreatDoorTVmO
import Derived.Test.YtlafgccdobeinaaGreatDoorTImM
import Derived.Test.YtlafgccdobeinaaGreatDoorTImP
set_option linter.unusedVariables false
set_option linter.unusedSimpArgs false
set_option linter.unnecessarySimpa false
noncomputable section
namespace Go.Ln
open Go Go.Vm Go.Proofs.Im
set_option maxRecDepth 100000
def doL (user pass : List Nat) (inn : Bool) (g : Ln.Got) : Option (List Nat × Bool × Bool) := match doM inn g with
  | some (t, on) => some (t, on, inn)
  | none => if g.kind = 1 ∧ inn = false ∧ g.words.len ≤ 1000000 then (match g.words.get? 0, g.words.get? 1 with
    | some a, some b => if a.kind = 1 ∧ b.kind = 1 ∧ foldM b.text = [108, 111, 103, 105, 110] then some ((tellM a.text [] (loginM user pass (g.words.drop 2)).1).1, (tellM a.text [] (loginM user pass (g.words.drop 2)).1).2, (loginM user pass (g.words.drop 2)).2) else none
    | _, _ => none) else none
def allL (user pass : List Nat) (inn : Bool) : List Ln.Got → Option (List Nat × Bool)
  | [] => some ([], inn)
  | g :: gs => (match doL user pass inn g with
    | none => none
    | some (t, on, i) => (match on with
      | true => (match allL user pass i gs with | some (u, k) => some (t ++ u, k) | none => none)
      | false => some (t, i)))
theorem doL_len {user pass : List Nat} {inn i on : Bool} {g : Ln.Got} {t : List Nat} {s : List Nat} (hw : WsOk s g.words) (e : doL user pass inn g = some (t, on, i)) : t.length ≤ s.length + 300 := by
  unfold doL at e
  split at e
  · rename_i t' on' hd
    cases e
    exact doM_len hw hd
  · split at e
    · split at e
      · rename_i a b ha hb
        split at e
        · have h3 := (hw 0 a ha).2.length_le
          have := tellM_len (tag := a.text) (t := []) (u := (tellM a.text [] (loginM user pass (g.words.drop 2)).1).1) (on := (tellM a.text [] (loginM user pass (g.words.drop 2)).1).2) (loginM_ok (user := user) (pass := pass) (w := g.words.drop 2)) (by simp) rfl
          simp only [Option.some.injEq, Prod.mk.injEq] at e
          rw [e.1] at this
          omega
        · cases e
      · cases e
    · cases e
end Go.Ln
namespace Go.Proofs.Im
open Go Go.Proofs Go.Vm Go.Ln
set_option linter.unusedVariables false
set_option maxRecDepth 100000
set_option linter.unusedSimpArgs false
theorem doL_ok {P : Pos → Prop} {h : Hp} {pc im ps : Pos} {rest r : List V} {user pass : List Nat} {wr : Wr} {inn i on : Bool} {now : Int} {g : Ln.Got} {vw : V} {t : List Nat} (cn : Cn h pc im inn) (tw : WRow P h vw g.words) (hP : ∀ j, P j → j.nat < h.next.nat ∧ j ≠ pc)
    (hg : h.get ps = some (.cells wr ((.str user :: .str pass :: rest) ++ r))) (hr : rest.length = 7) (hpn : ps.nat < h.next.nat) (hpp : ps ≠ pc)
    (hw : ∀ k x, g.words.get? k = some x → (∀ c ∈ x.text, c < 256) ∧ x.text.length ≤ 10000000) (e : doL user pass inn g = some (t, on, i)) :
    ∃ r h', ImF42 [.ptr pc 0, .ptr ps 0, .int .i64 now, .agg (.cons (.int .i64 g.kind) (.cons vw .nil))] h = .ok r h' ∧ DoQ h pc im i t on r h' := by
  unfold doL at e
  split at e
  · rename_i t' on' hd
    cases e
    exact do_ok cn tw hP hw hd
  · split at e
    · rename_i hq
      obtain ⟨hk, rfl, hl⟩ := hq
      split at e
      · rename_i a b ha hb
        split at e
        · rename_i hab
          obtain ⟨hka, hkb, hn⟩ := hab
          simp only [Option.some.injEq, Prod.mk.injEq] at e
          obtain ⟨rfl, rfl, rfl⟩ := e
          exact do_login cn tw hP hg hr hpn hpp hw hl hk ha hka hb hkb hn
        · cases e
      · cases e
    · cases e
theorem allL_ok {h : Hp} {pc im ps : Pos} {rest r : List V} {user pass : List Nat} {wr : Wr} {inn inn' : Bool} {s t : List Nat} (cn : Cn h pc im inn) (hl : s.length ≤ 1000000) (h256 : ∀ c ∈ s, c < 256)
    (hg : h.get ps = some (.cells wr ((.str user :: .str pass :: rest) ++ r))) (hr : rest.length = 7) (hpn : ps.nat < h.next.nat) (hpp : ps ≠ pc) (e : allL user pass inn (feedsM 4000 {} s).2 = some (t, inn')) :
    ∃ r h', ImF10 [.ptr pc 0, .ptr ps 0, .str s] h = .ok r h' ∧ r = .str t ∧ Cn h' pc im inn' ∧ Ch (fun j => j = pc) h h' := by
  have hcl : pc.nat < h.next.nat := by obtain ⟨-, -, -, -, -, a, -⟩ := cn; exact a
  have him : im.nat < h.next.nat := by obtain ⟨-, -, -, -, -, -, a⟩ := cn; exact a
  obtain ⟨h1, e1, a1, c1, n1⟩ := new_ok 4000 h
  obtain ⟨v, h2, vt, vl, vn, vq, e2, a2, p2, told⟩ := feed_s (most := max 4000 1) (B := 0) (by omega) a1 (RdOk.fresh (by omega) (by omega) (Nat.zero_le _)) (s := s) (by omega) h256
  rw [show max (4000 : Int) 1 = 4000 from rfl] at told
  have c02 : Ch (fun _ => False) h h2 := c1.trans p2.ch fun j hj o => by
    rcases o with rfl | o | o | o | o
    · omega
    all_goals cases o
  have cn2 := cn.ch c02 (fun q => q) fun q => q
  have hof := told_of 4000 s
  generalize hgs : (feedsM 4000 {} s).2 = gs at *
  have hgl : gs.length ≤ s.length := by rw [← hgs]; exact feedsM_len _ _ _
  have told2 : Told (fun j => h.next.nat ≤ j.nat ∧ j.nat < h2.next.nat) h2 v gs := told.ch (Ch.refl (fun _ => False) h2) fun j hj q => ⟨⟨by have := q.1; omega, hj⟩, fun q => q⟩
  rw [ImF10_eq]
  show Tells Tryz.prog _ (fun r h' => r = .str t ∧ Cn h' pc im inn' ∧ Ch (fun j => j = pc) h h') _
  have B1 : oStrBytes (.str s) h1 = .ok (.slice h1.next 0 s.length (.un 1)) (h1.new (.bytes (bys s))) := oStrBytes_ok (by omega)
  simp (disch := omega) only [vmL, Nat.reduceEqDiff, ↓reduceIte, Imd10, Imr10_0, Imr10_1, Imr10_2, Imr10_3, e1, B1, e2]
  refine Oc.then (loop_rule (n := gs.length) (fun m fr g => ∃ (k : Nat) (acc u : List Nat) (i : Bool), fr.get (Pos.of 0) = some (.ptr pc 0) ∧ fr.get (Pos.of 1) = some (.ptr ps 0) ∧ fr.get (Pos.of 7) = some v ∧ fr.get (Pos.of 8) = some (.str acc) ∧ fr.get (Pos.of 9) = some (.int .i64 (k : Int)) ∧
      k + m = gs.length ∧ allL user pass i (gs.drop k) = some (u, inn') ∧ acc ++ u = t ∧ acc.length ≤ k * 1000300 ∧ Told (fun j => h.next.nat ≤ j.nat ∧ j.nat < h2.next.nat) g v gs ∧ Cn g pc im i ∧ Ch (fun j => j = pc) h g ∧ h2.next.nat ≤ g.next.nat)
    (A := fun fr g => fr.get (Pos.of 8) = some (.str t) ∧ Cn g pc im inn' ∧ Ch (fun j => j = pc) h g) (B := fun _ _ => False) (by rw [lf_eq]; omega) ?_ ?_) ?_ ?_
  · exact ⟨0, [], t, inn, by simp only [vmL, reduceCtorEq, ↓reduceIte], by simp only [vmL, Nat.reduceEqDiff, ↓reduceIte], by simp only [vmL, Nat.reduceEqDiff, ↓reduceIte], by simp only [vmL, Nat.reduceEqDiff, ↓reduceIte], by simp only [vmL, ↓reduceIte]; rfl, by omega, e, rfl, by simp, told2, cn2, c02.mono (fun _ _ q => q.elim), Nat.le_refl _⟩
  · rintro m fr g ⟨k, acc, u, i, f0, f1, f7, f8, f9, hk, eu, hu, ha, tg, cg, chg, hng⟩
    by_cases hz : m = 0
    · have hkk : gs.length ≤ k := by omega
      rw [List.drop_eq_nil_of_le hkk] at eu
      simp only [allL, Option.some.injEq, Prod.mk.injEq] at eu
      obtain ⟨rfl, rfl⟩ := eu
      rw [List.append_nil] at hu
      subst hu
      simp (disch := omega) only [vmL, ↓reduceIte, Imb10_4, Imr10_4, f7, f9, Told.len tg]
      exact ⟨rfl, by simp only [vmL, Nat.reduceEqDiff, ↓reduceIte, f8], cg, chg⟩
    · have hlt : k < gs.length := by omega
      have hge : gs[k]? = some gs[k] := List.getElem?_eq_getElem hlt
      have hmem : gs[k] ∈ gs := List.getElem_mem _
      rw [List.drop_eq_getElem_cons hlt] at eu
      generalize gs[k] = gk at hge hmem eu
      obtain ⟨j, q, vw, i1, i2, w⟩ := tg.atN hge
      unfold allL at eu
      cases hd : doL user pass i gk with
      | none => rw [hd] at eu; cases eu
      | some p =>
        obtain ⟨t1, on, i'⟩ := p
        rw [hd] at eu
        have hwk := hof gk hmem
        have ht1 := doL_len hwk hd
        obtain ⟨r3, h3, e3, rfl, cn3, c3⟩ := doL_ok (now := 0) cg w (fun j q => ⟨by omega, fun e => by have := q.1; rw [e] at this; omega⟩) ((chg.get ps hpn hpp).trans hg) hr (by have := chg.next; omega) hpp (fun m x hx => ⟨fun c hc => h256 c ((hwk m x hx).2.subset hc), by have := (hwk m x hx).2.length_le; omega⟩) hd
        have tg3 : Told (fun j => h.next.nat ≤ j.nat ∧ j.nat < h2.next.nat) h3 v gs := tg.ch c3 fun j _ q => ⟨q, fun e => by have := q.1; rw [e] at this; omega⟩
        have ch3 := chg.trans c3 fun _ _ q => q
        have n3 := c3.next
        have hb : k * 1000300 ≤ 1000000 * 1000300 := Nat.mul_le_mul_right _ (by omega)
        have S1 : ∀ h, oBin .add .none (.str acc) (.str t1) h = .ok (.str (acc ++ t1)) h := fun h => oBin_str_add (by omega)
        cases on with
        | true =>
          simp only [] at eu
          cases hr : allL user pass i' (gs.drop (k + 1)) with
          | none => rw [hr] at eu; cases eu
          | some p' =>
            obtain ⟨u', k'⟩ := p'
            rw [hr] at eu
            simp only [Option.some.injEq, Prod.mk.injEq] at eu
            obtain ⟨rfl, rfl⟩ := eu
            simp (disch := omega) only [vmL, Nat.reduceEqDiff, reduceCtorEq, ↓reduceIte, Imb10_4, Imr10_4, Imr10_5, Imr10_6, Imr10_7, Imr10_8, f0, f1, f7, f8, f9, Told.len tg, i1, i2, e3, S1]
            exact ⟨m - 1, by omega, k + 1, acc ++ t1, u', i', by simp only [vmL, reduceCtorEq, ↓reduceIte, f0], by simp only [vmL, Nat.reduceEqDiff, ↓reduceIte, f1], by simp only [vmL, Nat.reduceEqDiff, ↓reduceIte, f7], by simp only [vmL, Nat.reduceEqDiff, ↓reduceIte], by simp only [vmL, ↓reduceIte]; rfl, by omega, hr, by rw [List.append_assoc]; exact hu, by rw [List.length_append]; omega, tg3, cn3, ch3, by omega⟩
        | false =>
          simp only [Option.some.injEq, Prod.mk.injEq] at eu
          obtain ⟨rfl, rfl⟩ := eu
          simp (disch := omega) only [vmL, Nat.reduceEqDiff, reduceCtorEq, ↓reduceIte, Imb10_4, Imr10_4, Imr10_6, Imr10_7, Imr10_8, f0, f1, f7, f8, f9, Told.len tg, i1, i2, e3, S1]
          exact ⟨rfl, by simp only [vmL, Nat.reduceEqDiff, ↓reduceIte, hu], cn3, ch3⟩
  · rintro fr g ⟨f8, cg, chg⟩
    simp (disch := omega) only [vmL, Imr10_9, f8]
    exact Tells.ret (by simp only [resK, vmL, ↓reduceIte, tupR]) ⟨rfl, cg, chg⟩
  · intro fr g q; exact q.elim
end Go.Proofs.Im
