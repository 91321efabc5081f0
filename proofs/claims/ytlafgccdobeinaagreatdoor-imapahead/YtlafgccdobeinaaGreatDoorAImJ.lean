/- Part of the value machine, or of a walk by it: lemmas that the claim's last text uses. No conditions. -/
import Derived.Test.YtlafgccdobeinaaGreatDoorAVmO
import Derived.Test.YtlafgccdobeinaaGreatDoorAImI
set_option linter.unusedVariables false
set_option linter.unusedSimpArgs false
set_option linter.unnecessarySimpa false
noncomputable section
namespace Go.Vm
variable {h h' : Hp}
theorem bys_get {s : List Nat} {k c : Nat} (e : s[k]? = some c) : (bys s)[k]? = some (V.int .u8 (c : Int)) := by simp [bys, e]
theorem bys_set (s : List Nat) (k c : Nat) : (bys s).set k (V.int .u8 (c : Int)) = bys (s.set k c) := by simp [bys, List.map_set]
theorem bytesStr_un {p : Pos} {s : List Nat} (hg : h.get p = some (.bytes (bys s))) (hs : ∀ b ∈ s, b < 256) : oBytesStr (.slice p 0 s.length (.un 1)) h = .ok (.str s) h := by
  show hCells h p (fun _ cs => match takeV s.length (dropV 0 cs) with
    | some l => (match natsOf l with | some s => R.ok (V.str s) h | none => .bad)
    | none => .bad) = _
  rw [hCells_rowA (wr := .ro) (all := bys s) (by rw [hg]; rfl)]
  rw [takeV_of (cs := bys s) (fun f _ => by rw [Nat.zero_add]) (bys_length s)]
  simp only [natsOf_bys hs]
def idxM (s sub : List Nat) : Nat → Nat → Option Nat
  | 0, _ => none
  | f + 1, i => if i + sub.length ≤ s.length then (if (s.drop i).take sub.length = sub then some i else idxM s sub f (i + 1)) else none
def inM (s sub : List Nat) : Bool := (idxM (foldM s) (foldM sub) (s.length + 1) 0).isSome
theorem idxM_none {s sub : List Nat} : ∀ {f i : Nat}, idxM s sub f i = none → s.length + 1 ≤ f + i → ∀ p q, s = p ++ sub ++ q → p.length < i
  | 0, i, _, hf, p, q, e => by rw [e] at hf; simp at hf; omega
  | f + 1, i, h, hf, p, q, e => by
    unfold idxM at h
    split at h
    · split at h
      · cases h
      · rename_i hne
        have := idxM_none h (by omega) p q e
        rcases Nat.lt_or_ge p.length i with hlt | hge
        · exact hlt
        · have : p.length = i := by omega
          exfalso
          apply hne
          rw [e, List.append_assoc, ← this]
          simp
    · rename_i hgt
      rw [e] at hgt
      simp at hgt
      omega
theorem inM_false {s sub : List Nat} (h : inM s sub = false) : ¬ (foldM sub <:+: foldM s) := by
  rintro ⟨p, q, e⟩
  unfold inM at h
  cases hi : idxM (foldM s) (foldM sub) (s.length + 1) 0 with
  | some k => rw [hi] at h; cases h
  | none =>
    have := idxM_none hi (by simp [foldM]) p q e.symm
    omega
theorem inM_true {s sub : List Nat} (h : inM s sub = true) : foldM sub <:+: foldM s := by
  have key : ∀ f i k, idxM (foldM s) (foldM sub) f i = some k → foldM sub <:+: foldM s := by
    intro f
    induction f with
    | zero => intro i k e; cases e
    | succ f ih =>
      intro i k e
      unfold idxM at e
      split at e
      · split at e
        · rename_i ht
          rw [← ht]
          exact (List.take_prefix _ _).isInfix.trans (List.drop_suffix _ _).isInfix
        · exact ih _ _ e
      · cases e
  unfold inM at h
  cases hi : idxM (foldM s) (foldM sub) (s.length + 1) 0 with
  | some k => exact key _ _ _ hi
  | none => rw [hi] at h; cases h
end Go.Vm
namespace Go.Proofs.Im
open Go Go.Proofs Go.Vm Go.Ln
set_option linter.unusedVariables false
set_option maxRecDepth 100000
set_option linter.unusedSimpArgs false
theorem rFold_ok {s : List Nat} {h : Hp} (hl : s.length < 1000000000) (hs : ∀ c ∈ s, c < 256) : ∃ r h', ImF39 [.str s] h = .ok r h' ∧ r = .str (foldM s) ∧ Ch (fun _ => False) h h' := by
  rw [ImF39_eq]
  show Tells Tryz.prog _ (fun r h' => r = .str (foldM s) ∧ Ch (fun _ => False) h h') _
  have B1 : oStrBytes (.str s) h = .ok (.slice h.next 0 s.length (.un 1)) (h.new (.bytes (bys s))) := oStrBytes_ok (by omega)
  have ix : ∀ {k : Nat} (h' : Hp), k < s.length → oIdxS 1 (.slice h.next 0 s.length (.un 1)) (.int .i64 (k : Int)) h' = .ok (.ptr h.next k) h' := fun h' hk => by
    have := oIdxS_slice (i := h.next) (o := 0) (sz := 1) (c := .un 1) (j := .i64) (h := h') hk
    rw [this]; simp
  simp (disch := omega) only [vmL, Nat.reduceEqDiff, reduceCtorEq, ↓reduceIte, vpL, vsL, vqL, Imd39, Imr39_0, Imr39_1, Imr39_2, B1]
  refine Oc.then (loop_rule (n := s.length) (fun m fr g => ∃ k : Nat, fr.get (Pos.of 3) = some (.slice h.next 0 s.length (.un 1)) ∧ fr.get (Pos.of 4) = some (.int .i64 (k : Int)) ∧ k + m = s.length ∧
      g.get h.next = some (.bytes (bys (foldM (s.take k) ++ s.drop k))) ∧ Ch (fun _ => False) h g)
    (A := fun fr g => fr.get (Pos.of 3) = some (.slice h.next 0 s.length (.un 1)) ∧ g.get h.next = some (.bytes (bys (foldM s))) ∧ Ch (fun _ => False) h g) (B := fun _ _ => False) (by rw [lf_eq]; omega) ?_ ?_) ?_ ?_
  · exact ⟨0, by simp only [vmL, Nat.reduceEqDiff, reduceCtorEq, ↓reduceIte, vpL, vsL, vqL], by simp only [vmL, Nat.reduceEqDiff, reduceCtorEq, ↓reduceIte, vpL, vsL, vqL]; rfl, by omega, by rw [new_self]; simp [foldM], Ch.new _ _ _⟩
  · rintro m fr g ⟨k, f3, f4, hk, hg, chg⟩
    by_cases hz : m = 0
    · have hks : s.length ≤ k := by omega
      rw [List.take_of_length_le hks, List.drop_eq_nil_of_le hks, List.append_nil] at hg
      have L0 : oLenK 2 (.slice h.next 0 s.length (.un 1)) g = .ok (.int .i64 (s.length : Int)) g := rfl
      simp (disch := omega) only [vmL, Nat.reduceEqDiff, reduceCtorEq, ↓reduceIte, vpL, vsL, vqL, Imb39_3, Imr39_3, f3, f4, L0]
      exact ⟨rfl, by simp only [vmL, Nat.reduceEqDiff, reduceCtorEq, ↓reduceIte, vpL, vsL, vqL, f3], hg, chg⟩
    · have hlt : k < s.length := by omega
      have L0 : oLenK 2 (.slice h.next 0 s.length (.un 1)) g = .ok (.int .i64 (s.length : Int)) g := rfl
      have hc := hs s[k] (List.getElem_mem _)
      have hge : s[k]? = some s[k] := List.getElem?_eq_getElem hlt
      have hdrop : s.drop k = s[k] :: s.drop (k + 1) := List.drop_eq_getElem_cons hlt
      have htake : s.take (k + 1) = s.take k ++ [s[k]] := by rw [List.take_add_one, hge]; rfl
      generalize s[k] = c at hc hge hdrop htake
      have hfl : (foldM (s.take k)).length = k := by simp [foldM]; omega
      have hat : (bys (foldM (s.take k) ++ s.drop k))[k]? = some (V.int .u8 (c : Int)) := by
        apply bys_get
        rw [List.getElem?_append_right (by omega), hfl, Nat.sub_self, hdrop]; rfl
      have L1 : oLoad1 (.ptr h.next k) g = .ok (.int .u8 (c : Int)) g := oLoad1_row (by rw [hg]; rfl) hat
      have nxt : ∀ {g' : Hp}, g'.get h.next = some (.bytes (bys (foldM (s.take k) ++ lowC c :: s.drop (k + 1)))) → g'.get h.next = some (.bytes (bys (foldM (s.take (k + 1)) ++ s.drop (k + 1)))) := fun e => by
        rw [e, htake]; simp [foldM]
      by_cases h1 : 65 ≤ c ∧ c ≤ 90
      · have hlow : lowC c = c + 32 := by unfold lowC; rw [if_pos h1]
        have ad : ∀ h, oBin .add .none (.int .u8 (c : Int)) (.int .u8 32) h = .ok (.int .u8 ((c + 32 : Nat) : Int)) h := fun h => oBin_add8 (b := 32) (by omega)
        have S1 := st_bytes hg (q := k) (y := .int .u8 ((c + 32 : Nat) : Int)) ⟨rfl, rfl⟩ (by rw [bys_length, List.length_append, hfl, List.length_drop]; omega)
        rw [bys_set, List.set_append_right _ _ (by omega), hfl, Nat.sub_self, hdrop, List.set_cons_zero] at S1
        obtain ⟨h1a, h1b⟩ := h1
        simp (disch := omega) only [vmL, Nat.reduceEqDiff, reduceCtorEq, ↓reduceIte, vpL, vsL, vqL, Imb39_3, Imr39_3, Imr39_4, Imr39_5, Imr39_6, f3, f4, L0, ix, L1, ad, S1]
        exact ⟨m - 1, by omega, k + 1, by simp only [vmL, Nat.reduceEqDiff, reduceCtorEq, ↓reduceIte, vpL, vsL, vqL, f3], by simp only [vmL, Nat.reduceEqDiff, reduceCtorEq, ↓reduceIte, vpL, vsL, vqL]; rfl, by omega, nxt (by rw [put_self, hlow]), chg.trans (Ch.put (S := fun j => j = h.next) _ _ rfl) fun j hj q => by rw [q] at hj; omega⟩
      · have hlow : lowC c = c := by unfold lowC; rw [if_neg h1]
        have hg' := nxt (g' := g) (by rw [hg, hdrop, hlow])
        by_cases h2 : 65 ≤ c
        · have h3 : ¬ c ≤ 90 := fun q => h1 ⟨h2, q⟩
          simp (disch := omega) only [vmL, Nat.reduceEqDiff, reduceCtorEq, ↓reduceIte, vpL, vsL, vqL, Imb39_3, Imr39_3, Imr39_4, Imr39_5, f3, f4, L0, ix, L1]
          exact ⟨m - 1, by omega, k + 1, by simp only [vmL, Nat.reduceEqDiff, reduceCtorEq, ↓reduceIte, vpL, vsL, vqL, f3], by simp only [vmL, Nat.reduceEqDiff, reduceCtorEq, ↓reduceIte, vpL, vsL, vqL]; rfl, by omega, hg', chg⟩
        · simp (disch := omega) only [vmL, Nat.reduceEqDiff, reduceCtorEq, ↓reduceIte, vpL, vsL, vqL, Imb39_3, Imr39_3, Imr39_4, Imr39_5, f3, f4, L0, ix, L1]
          exact ⟨m - 1, by omega, k + 1, by simp only [vmL, Nat.reduceEqDiff, reduceCtorEq, ↓reduceIte, vpL, vsL, vqL, f3], by simp only [vmL, Nat.reduceEqDiff, reduceCtorEq, ↓reduceIte, vpL, vsL, vqL]; rfl, by omega, hg', chg⟩
  · rintro fr g ⟨f3, hg, chg⟩
    have e1 := bytesStr_un (p := h.next) hg (foldM_lt hs)
    rw [show (foldM s).length = s.length by simp [foldM]] at e1
    simp (disch := omega) only [vmL, Nat.reduceEqDiff, reduceCtorEq, ↓reduceIte, vpL, vsL, vqL, Imr39_7, f3, e1]
    exact Tells.ret (by simp only [resK, vmL, Nat.reduceEqDiff, reduceCtorEq, ↓reduceIte, vpL, vsL, vqL, tupR]) ⟨rfl, chg⟩
  · intro fr g q; exact q.elim
end Go.Proofs.Im

noncomputable section
namespace Go.Ln
open Go Go.Vm Go.Proofs.Im
set_option linter.unusedVariables false
set_option linter.unusedSimpArgs false
def loginN : List Nat := [108, 111, 103, 105, 110]
theorem findIn_of {name : List Nat} {x : Nat × Nat × Nat × Bool} : ∀ {l : List (List Nat × Nat × Nat × Nat × Bool)}, findIn name l = some x → (name, x) ∈ l
  | [], e => by cases e
  | c :: l, e => by
    unfold findIn at e
    split at e
    · rename_i h; cases e; rw [h]; exact List.mem_cons_self
    · exact List.mem_cons_of_mem _ (findIn_of e)
theorem cmd_login : ∀ c ∈ cmdL, c.2.2.2.1 = 1 → c.1 = loginN ∧ c.2.2.2.2 = false := by decide
theorem comM_ahead {uid : Bool} {nm : List Nat} {n : Nat} (h : uid = true ∨ nm ≠ loginN) : ∃ p, comM false uid nm n = some p := by
  unfold comM
  cases hf : findIn nm cmdL with
  | none => exact ⟨_, rfl⟩
  | some x =>
    obtain ⟨g, k, st, u⟩ := x
    have hm := findIn_of hf
    have hk := cmd_kind _ hm
    have hl := cmd_login _ hm
    simp only [] at hk hl
    simp only []
    cases huu : (uid && !u) with
    | true => exact ⟨_, by rw [if_pos rfl]⟩
    | false =>
      rw [if_neg (by simp)]
      rcases hk with hk | hk | hk | hk | hk | hk
      · exact ⟨_, if_pos (by simp [hk])⟩
      · exact ⟨_, if_pos (by simp [hk])⟩
      · simp only [Prod.mk.injEq] at hk
        obtain ⟨rfl, rfl, rfl, rfl⟩ := hk
        exact ⟨_, by rw [if_neg (by simp), if_pos ⟨rfl, rfl⟩]⟩
      · simp only [Prod.mk.injEq] at hk
        obtain ⟨rfl, rfl, rfl, rfl⟩ := hk
        exact ⟨_, by rw [if_neg (by simp), if_neg (by simp), if_pos ⟨rfl, rfl⟩]⟩
      · simp only [Prod.mk.injEq] at hk
        obtain ⟨rfl, rfl, rfl, rfl⟩ := hk
        exact ⟨_, by rw [if_neg (by simp), if_neg (by simp), if_neg (by simp), if_pos ⟨rfl, rfl⟩]⟩
      · simp only [Prod.mk.injEq] at hk
        obtain ⟨rfl, rfl, rfl, rfl⟩ := hk
        obtain ⟨h1, -⟩ := hl rfl
        rcases h with rfl | h
        · simp at huu
        · exact absurd h1 h
theorem runM_ahead {nm : List Nat} {w : Wds} (h : nm ≠ loginN) : ∃ p, runM false nm w = some p := by
  unfold runM
  cases hu : uidM nm w with
  | none => exact ⟨_, rfl⟩
  | some x =>
    obtain ⟨uid, nm', r⟩ := x
    simp only []
    refine comM_ahead ?_
    unfold uidM at hu
    split at hu
    · split at hu
      · split at hu
        · cases hu; exact .inl rfl
        · cases hu
      · cases hu
    · cases hu; exact .inr h
theorem infix_line {t a : List Nat} (h : t <:+: a ++ [13, 10]) (h0 : t ≠ []) (hc : ∀ c ∈ t, c ≠ 13 ∧ c ≠ 10) : t <:+: a := by
  obtain ⟨p, q, e⟩ := h
  obtain ⟨t', x, rfl⟩ : ∃ t' x, t = t' ++ [x] := ⟨t.dropLast, t.getLast h0, (List.dropLast_concat_getLast h0).symm⟩
  have hx := hc x (by simp)
  match q, e with
  | [], e =>
    exfalso
    have : (p ++ (t' ++ [x]) ++ []).getLast? = (a ++ [13, 10]).getLast? := by rw [e]
    simp at this
    exact hx.2 this
  | [y], e =>
    exfalso
    have e2 : (p ++ t' ++ [x]) ++ [y] = (a ++ [13]) ++ [10] := by simpa using e
    have e3 := (List.append_inj' e2 rfl).1
    have e4 := (List.append_inj' e3 rfl).2
    simp at e4
    exact hx.1 e4
  | y :: z :: q', e =>
    refine ⟨p, (y :: z :: q').dropLast.dropLast, ?_⟩
    have := congrArg (fun l => l.dropLast.dropLast) e
    simp [List.dropLast_append_of_ne_nil] at this ⊢
    exact this
theorem atomC_line {c : Nat} (h : atomC c = true) : c ≠ 13 ∧ c ≠ 10 ∧ c ≠ 32 ∧ c < 256 := by
  unfold atomC at h
  have := of_decide_eq_true h
  omega
theorem allM_ahead {s a : List Nat} (hs : s = a ++ [13, 10]) (hno : ¬ (loginN <:+: foldM a)) : ∀ gs : List Ln.Got, (∀ g ∈ gs, WsOk s g.words) → ∃ t, allM false gs = some t
  | [], _ => ⟨[], rfl⟩
  | g :: gs, h => by
    have hg := h g (by simp)
    have hd : ∃ p, doM false g = some p := by
      unfold doM
      split
      · exact ⟨_, rfl⟩
      · split
        · split
          · rename_i x y hx hy
            split
            · rename_i hk
              have hy1 := (hg 1 y hy).1 hk.2
              have hn : foldM y.text ≠ loginN := fun e => by
                apply hno
                rw [← e]
                have : y.text <:+: a := infix_line (by rw [← hs]; exact hy1.1) hy1.2.1 fun c hc => ⟨(atomC_line (hy1.2.2 c hc)).1, (atomC_line (hy1.2.2 c hc)).2.1⟩
                obtain ⟨p, q, e⟩ := this
                exact ⟨foldM p, foldM q, by rw [← e]; simp [foldM]⟩
              obtain ⟨⟨an, tt⟩, hp⟩ := runM_ahead (w := g.words.drop 2) hn
              rw [hp]
              exact ⟨_, rfl⟩
            · exact ⟨_, rfl⟩
          · exact ⟨_, rfl⟩
        · exact ⟨_, rfl⟩
    obtain ⟨⟨t, on⟩, hp⟩ := hd
    unfold allM
    rw [hp]
    cases on with
    | false => exact ⟨t, rfl⟩
    | true =>
      obtain ⟨u, hu⟩ := allM_ahead hs hno gs fun g hg => h g (List.mem_cons_of_mem _ hg)
      simp only [hu]
      exact ⟨_, rfl⟩
def spc (p c : Nat) : Option Nat → Bool
  | some d => !(decide (c = 32) && (decide (lowC d = 101) || decide (lowC d = 102) || (decide (p = 42) && (decide (lowC d = 108) || decide (lowC d = 115)))))
  | none => true
theorem spc_ne {p c : Nat} (h : c ≠ 32) (o : Option Nat) : spc p c o = true := by
  cases o with
  | none => rfl
  | some d => simp [spc, h]
def scan (p : Nat) : List Nat → Bool
  | [] => true
  | c :: l => spc p c l.head? && scan c l
theorem scan_nl : ∀ (a b : List Nat) (p : Nat), scan p (a ++ [10]) = true → scan 10 b = true → scan p (a ++ 10 :: b) = true
  | [], b, p, h1, h => by
    simp only [List.nil_append, scan, Bool.and_eq_true] at h1 ⊢
    refine ⟨?_, h⟩
    cases b with
    | nil => rfl
    | cons d b => simp [spc]
  | [c], b, p, h1, h => by
    simp only [List.cons_append, List.nil_append, scan, Bool.and_eq_true] at h1 ⊢
    exact ⟨h1.1, spc_ne (by omega) _, h⟩
  | c :: d :: a, b, p, h1, h => by
    have ih := scan_nl (d :: a) b c
    simp only [List.cons_append, scan, Bool.and_eq_true] at h1 ih ⊢
    exact ⟨h1.1, ih h1.2 h⟩
theorem scan_tag {d : Nat} {r : List Nat} (hd : lowC d ≠ 101 ∧ lowC d ≠ 102 ∧ lowC d ≠ 108 ∧ lowC d ≠ 115) (h : scan 32 (d :: r) = true) : ∀ (t : List Nat) (p : Nat), (∀ c ∈ t, c ≠ 32) → scan p (t ++ 32 :: d :: r) = true
  | [], p, _ => by
    show (spc p 32 (some d) && scan 32 (d :: r)) = true
    rw [h]; simp [spc, hd.1, hd.2.1, hd.2.2.1, hd.2.2.2]
  | c :: t, p, ht => by
    have ih := scan_tag hd h t c fun x hx => ht x (by simp [hx])
    have hc : decide (c = 32) = false := decide_eq_false (ht c (by simp))
    simp only [List.cons_append, scan, ih, Bool.and_true]
    cases (t ++ 32 :: d :: r).head? with
    | none => rfl
    | some x => simp [spc, hc]
theorem scan_no : ∀ (t : List Nat) (p : Nat), scan p t = true → (∀ d, d = 101 ∨ d = 102 → ¬ ([32, d] <:+: foldM t)) ∧ (∀ d, d = 108 ∨ d = 115 → ¬ ([42, 32, d] <:+: foldM t) ∧ (p = 42 → ¬ ([32, d] <+: foldM t)))
  | [], p, _ => by
    refine ⟨fun d _ h => ?_, fun d _ => ⟨fun h => ?_, fun _ h => ?_⟩⟩
    · have := h.length_le; simp [foldM] at this
    · have := h.length_le; simp [foldM] at this
    · have := h.length_le; simp [foldM] at this
  | c :: l, p, h => by
    simp only [scan, Bool.and_eq_true] at h
    obtain ⟨i1, i2⟩ := scan_no l c h.2
    have lc : ∀ {x : Nat}, x < 65 → lowC c = x → c = x := fun {x} hx e => by unfold lowC at e; split at e <;> omega
    have cons : foldM (c :: l) = lowC c :: foldM l := rfl
    have hd : ∀ d, [32, d] <+: foldM (c :: l) → c = 32 ∧ ∃ e r, l = e :: r ∧ lowC e = d := fun d hp => by
      obtain ⟨q, hq⟩ := hp
      rw [cons] at hq
      cases l with
      | nil => simp [foldM] at hq
      | cons e r =>
        simp [foldM] at hq
        exact ⟨lc (by omega) hq.1.symm, e, r, rfl, hq.2.1.symm⟩
    refine ⟨fun d hdd hi => ?_, fun d hdd => ⟨fun hi => ?_, fun hp hi => ?_⟩⟩
    · rw [cons] at hi
      rcases List.infix_cons_iff.1 hi with hi | hi
      · obtain ⟨rfl, e, r, rfl, he⟩ := hd d (by rw [cons]; exact hi)
        have h1 := h.1
        rw [List.head?_cons] at h1
        unfold spc at h1
        simp only [] at h1
        rw [he] at h1
        rcases hdd with rfl | rfl
        · revert h1; simp
        · revert h1; simp
      · exact i1 d hdd hi
    · rw [cons] at hi
      rcases List.infix_cons_iff.1 hi with hi | hi
      · obtain ⟨q, hq⟩ := hi
        simp at hq
        have hc : c = 42 := lc (by omega) hq.1.symm
        exact (i2 d hdd).2 hc ⟨q, by simpa using hq.2⟩
      · exact (i2 d hdd).1 hi
    · obtain ⟨rfl, e, r, rfl, he⟩ := hd d hi
      have h1 := h.1
      rw [List.head?_cons] at h1
      unfold spc at h1
      simp only [] at h1
      rw [he, hp] at h1
      rcases hdd with rfl | rfl
      · revert h1; simp
      · revert h1; simp
def Lined (t : List Nat) : Prop := t = [] ∨ ∃ a, t = a ++ [10]
theorem Lined.app {t u : List Nat} (ht : Lined t) (hu : Lined u) : Lined (t ++ u) := by
  rcases hu with rfl | ⟨a, rfl⟩
  · rwa [List.append_nil]
  · exact .inr ⟨t ++ a, by simp⟩
theorem scan_app {t u : List Nat} (ht : Lined t) (h1 : scan 10 t = true) (h2 : scan 10 u = true) : scan 10 (t ++ u) = true := by
  rcases ht with rfl | ⟨a, rfl⟩
  · exact h2
  · rw [List.append_assoc]; exact scan_nl a u 10 h1 h2
theorem runM_shape {inn : Bool} {nm : List Nat} {w : Wds} {an : V} {t : List Nat} (e : runM inn nm w = some (an, t)) :
    (an = ansV 2 [99, 111, 109, 109, 97, 110, 100] false false ∨ an = ansV 2 [119, 111, 114, 100, 115] false false ∨ an = ansV 1 [115, 116, 97, 116, 101] false false ∨ ∃ x, an = ansV 0 [] x x) ∧ (Lined t ∧ scan 10 t = true) := by
  have key : ∀ {uid : Bool} {nm : List Nat} {n : Nat} {an : V} {t : List Nat}, comM inn uid nm n = some (an, t) →
      (an = ansV 2 [99, 111, 109, 109, 97, 110, 100] false false ∨ an = ansV 2 [119, 111, 114, 100, 115] false false ∨ an = ansV 1 [115, 116, 97, 116, 101] false false ∨ ∃ x, an = ansV 0 [] x x) ∧ (Lined t ∧ scan 10 t = true) := fun {uid nm n an t} e => by
    have aw : ∀ x, ansW n (ansV 0 [] x x) = ansV 2 [119, 111, 114, 100, 115] false false ∨ ∃ y, ansW n (ansV 0 [] x x) = ansV 0 [] y y := fun x => by
      unfold ansW
      split
      · exact .inr ⟨x, rfl⟩
      · exact .inl rfl
    unfold comM at e
    split at e
    · cases e; exact ⟨.inl rfl, .inl rfl, rfl⟩
    · split at e
      · cases e; exact ⟨.inl rfl, .inl rfl, rfl⟩
      · split at e
        · cases e; exact ⟨.inr (.inr (.inl rfl)), .inl rfl, rfl⟩
        · split at e
          · cases e
            refine ⟨(aw false).elim (fun q => .inr (.inl q)) fun q => .inr (.inr (.inr q)), ?_⟩
            unfold toldW; split
            · exact ⟨.inr ⟨_, (List.append_assoc _ [13] [10]).symm⟩, by decide⟩
            · exact ⟨.inl rfl, rfl⟩
          · split at e
            · cases e
              exact ⟨(aw false).elim (fun q => .inr (.inl q)) fun q => .inr (.inr (.inr q)), .inl rfl, rfl⟩
            · split at e
              · cases e
                refine ⟨(aw true).elim (fun q => .inr (.inl q)) fun q => .inr (.inr (.inr q)), ?_⟩
                unfold toldW; split
                · exact ⟨.inr ⟨_, (List.append_assoc _ [13] [10]).symm⟩, by decide⟩
                · exact ⟨.inl rfl, rfl⟩
              · cases e
  unfold runM at e
  split at e
  · cases e; exact ⟨.inl rfl, .inl rfl, rfl⟩
  · exact key e
theorem doM_shape {inn : Bool} {g : Ln.Got} {t s : List Nat} {on : Bool} (hw : WsOk s g.words) (e : doM inn g = some (t, on)) : Lined t ∧ scan 10 t = true := by
  have two : Lined [42, 32, 66, 65, 68, 32, 108, 105, 110, 101, 13, 10] ∧ scan 10 [42, 32, 66, 65, 68, 32, 108, 105, 110, 101, 13, 10] = true := ⟨.inr ⟨[42, 32, 66, 65, 68, 32, 108, 105, 110, 101, 13], rfl⟩, by decide⟩
  unfold doM at e
  split at e
  · cases e; exact ⟨.inr ⟨[43, 32, 103, 111, 32, 111, 110, 13], rfl⟩, by decide⟩
  · split at e
    · split at e
      · rename_i a b ha hb
        split at e
        · rename_i hk
          split at e
          · rename_i an tt hr
            obtain ⟨hs, hl, hsc⟩ := runM_shape hr
            have htag : ∀ c ∈ a.text, c ≠ 32 := fun c hc => (atomC_line (((hw 0 a ha).1 hk.1).2.2 c hc)).2.2.1
            have h := Option.some.inj e
            rcases hs with rfl | rfl | rfl | ⟨x, rfl⟩
            · have : t = a.text ++ 32 :: 66 :: [65, 68, 32, 99, 111, 109, 109, 97, 110, 100, 13, 10] := by have := (congrArg Prod.fst h).symm; simpa [tellM, ansV] using this
              rw [this]
              exact ⟨.inr ⟨a.text ++ [32, 66, 65, 68, 32, 99, 111, 109, 109, 97, 110, 100, 13], by simp⟩, scan_tag (by decide) (by decide) _ _ htag⟩
            · have : t = a.text ++ 32 :: 66 :: [65, 68, 32, 119, 111, 114, 100, 115, 13, 10] := by have := (congrArg Prod.fst h).symm; simpa [tellM, ansV] using this
              rw [this]
              exact ⟨.inr ⟨a.text ++ [32, 66, 65, 68, 32, 119, 111, 114, 100, 115, 13], by simp⟩, scan_tag (by decide) (by decide) _ _ htag⟩
            · have : t = a.text ++ 32 :: 78 :: [79, 32, 115, 116, 97, 116, 101, 13, 10] := by have := (congrArg Prod.fst h).symm; simpa [tellM, ansV] using this
              rw [this]
              exact ⟨.inr ⟨a.text ++ [32, 78, 79, 32, 115, 116, 97, 116, 101, 13], by simp⟩, scan_tag (by decide) (by decide) _ _ htag⟩
            · have : t = tt ++ (a.text ++ 32 :: 79 :: [75, 32, 100, 111, 110, 101, 13, 10]) := by have := (congrArg Prod.fst h).symm; simpa [tellM, ansV] using this
              rw [this]
              exact ⟨hl.app (.inr ⟨a.text ++ [32, 79, 75, 32, 100, 111, 110, 101, 13], by simp⟩), scan_app hl hsc (scan_tag (by decide) (by decide) _ _ htag)⟩
          · cases e
        · cases e; exact two
      · cases e; exact two
    · cases e; exact two
theorem allM_shape {inn : Bool} {s : List Nat} : ∀ {gs : List Ln.Got} {t : List Nat}, (∀ g ∈ gs, WsOk s g.words) → allM inn gs = some t → Lined t ∧ scan 10 t = true
  | [], t, _, e => by cases e; exact ⟨.inl rfl, rfl⟩
  | g :: gs, t, h, e => by
    unfold allM at e
    cases hd : doM inn g with
    | none => rw [hd] at e; cases e
    | some p =>
      obtain ⟨t1, on⟩ := p
      rw [hd] at e
      obtain ⟨a1, a2⟩ := doM_shape (h g (by simp)) hd
      cases on with
      | false => cases e; exact ⟨a1, a2⟩
      | true =>
        simp only [] at e
        cases hr : allM inn gs with
        | none => rw [hr] at e; cases e
        | some u =>
          rw [hr] at e
          cases e
          obtain ⟨b1, b2⟩ := allM_shape (fun g hg => h g (List.mem_cons_of_mem _ hg)) hr
          exact ⟨a1.app b1, scan_app a1 a2 b2⟩
theorem told_none {t : List Nat} (h : scan 10 t = true) : inM t [32, 69, 88, 73, 83, 84, 83] = false ∧ inM t [32, 70, 69, 84, 67, 72, 32] = false ∧ inM t [42, 32, 76, 73, 83, 84] = false ∧ inM t [42, 32, 83, 84, 65, 84, 85, 83] = false := by
  obtain ⟨h1, h2⟩ := scan_no t 10 h
  have no : ∀ {sub : List Nat}, ¬ (foldM sub <:+: foldM t) → inM t sub = false := fun {sub} hn => by
    cases hi : inM t sub with
    | false => rfl
    | true => exact absurd (inM_true hi) hn
  refine ⟨no fun hi => h1 101 (.inl rfl) ?_, no fun hi => h1 102 (.inr rfl) ?_, no fun hi => (h2 108 (.inl rfl)).1 ?_, no fun hi => (h2 115 (.inr rfl)).1 ?_⟩
  · exact List.IsInfix.trans ⟨[], [120, 105, 115, 116, 115], rfl⟩ hi
  · exact List.IsInfix.trans ⟨[], [101, 116, 99, 104, 32].tail.cons 101 |>.tail.cons 101, rfl⟩ hi
  · exact List.IsInfix.trans ⟨[], [105, 115, 116], rfl⟩ hi
  · exact List.IsInfix.trans ⟨[], [116, 97, 116, 117, 115], rfl⟩ hi
end Go.Ln

noncomputable section
namespace Go.Vm
variable {h h' : Hp}
theorem oSliceStr_mid {s : List Nat} {a b : Nat} {k k' : IntKind} (h1 : a ≤ b) (h2 : b ≤ s.length) : oSliceStr (.str s) (some (.int k (a : Int))) (some (.int k' (b : Int))) h = .ok (.str ((s.drop a).take (b - a))) h := by
  show (match Nat.ble b s.length, Nat.ble a b with | true, true => R.ok (V.str (takeN (b - a) (dropN a s))) h | _, _ => .bad) = _
  rw [Nat.ble_eq_true_of_le h1, Nat.ble_eq_true_of_le h2, takeN_eq, dropN_eq]
end Go.Vm
namespace Go.Proofs.Im
open Go Go.Proofs Go.Vm Go.Ln
set_option linter.unusedVariables false
set_option maxRecDepth 100000
set_option linter.unusedSimpArgs false
def idxV (o : Option Nat) : Int := match o with | some k => (k : Int) | none => -1
theorem rIndex_ok {s sub : List Nat} {h : Hp} (hl : s.length < 1000000000) (hs : sub.length < 1000000000) : ∃ r h', ImF38 [.str s, .str sub, .int .i64 0] h = .ok r h' ∧ r = .int .i64 (idxV (idxM s sub (s.length + 1) 0)) ∧ Ch (fun _ => False) h h' := by
  rw [ImF38_eq]
  show Tells Tryz.prog _ (fun r h' => r = .int .i64 (idxV (idxM s sub (s.length + 1) 0)) ∧ Ch (fun _ => False) h h') _
  have sl : ∀ {k : Nat} (h' : Hp), k + sub.length ≤ s.length → oSliceStr (.str s) (some (.int .i64 (k : Int))) (some (.int .i64 ((k : Int) + (sub.length : Int)))) h' = .ok (.str ((s.drop k).take sub.length)) h' := fun {k} h' hk => by
    have := oSliceStr_mid (s := s) (a := k) (b := k + sub.length) (k := .i64) (k' := .i64) (h := h') (by omega) hk
    rw [show ((k + sub.length : Nat) : Int) = (k : Int) + (sub.length : Int) by omega, show k + sub.length - k = sub.length by omega] at this
    exact this
  simp (disch := omega) only [vmL, Nat.reduceEqDiff, reduceCtorEq, ↓reduceIte, vpL, vsL, vqL, Imd38, Imr38_0, Imr38_1]
  refine Oc.then (loop_rule (n := s.length + 1) (fun m fr g => ∃ k : Nat, fr.get (Pos.of 0) = some (.str s) ∧ fr.get (Pos.of 1) = some (.str sub) ∧ fr.get (Pos.of 7) = some (.int .i64 (k : Int)) ∧ k + m = s.length + 1 ∧ idxM s sub (s.length + 1) 0 = idxM s sub m k ∧ g = h)
    (A := fun fr g => idxM s sub (s.length + 1) 0 = none ∧ g = h) (B := fun fr g => fr.get (Pos.of 6) = some (.int .i64 (idxV (idxM s sub (s.length + 1) 0))) ∧ g = h) (by rw [lf_eq]; omega) ?_ ?_) ?_ ?_
  · exact ⟨0, by simp only [vmL, Nat.reduceEqDiff, reduceCtorEq, ↓reduceIte, vpL, vsL, vqL], by simp only [vmL, Nat.reduceEqDiff, reduceCtorEq, ↓reduceIte, vpL, vsL, vqL], by simp only [vmL, Nat.reduceEqDiff, reduceCtorEq, ↓reduceIte, vpL, vsL, vqL]; rfl, by omega, rfl, rfl⟩
  · rintro m fr g ⟨k, f0, f1, f7, hk, he, rfl⟩
    by_cases hle : k + sub.length ≤ s.length
    · obtain ⟨f, rfl⟩ : ∃ f, m = f + 1 := ⟨m - 1, by omega⟩
      have e1 : idxM s sub (f + 1) k = if (s.drop k).take sub.length = sub then some k else idxM s sub f (k + 1) := by
        show (if k + sub.length ≤ s.length then (if (s.drop k).take sub.length = sub then some k else idxM s sub f (k + 1)) else none) = _
        rw [if_pos hle]
      rw [e1] at he
      by_cases ht : (s.drop k).take sub.length = sub
      · rw [if_pos ht] at he
        simp (disch := omega) only [vmL, Nat.reduceEqDiff, reduceCtorEq, ↓reduceIte, vpL, vsL, vqL, Imb38_2, Imr38_2, Imr38_4, Imr38_5, f0, f1, f7, sl, ht, eq_self]
        exact ⟨by simp only [vmL, Nat.reduceEqDiff, reduceCtorEq, ↓reduceIte, vpL, vsL, vqL]; rw [he]; rfl, rfl⟩
      · rw [if_neg ht] at he
        have hd : decide ((s.drop k).take sub.length = sub) = false := decide_eq_false ht
        simp (disch := omega) only [vmL, Nat.reduceEqDiff, reduceCtorEq, ↓reduceIte, vpL, vsL, vqL, Imb38_2, Imr38_2, Imr38_3, Imr38_4, f0, f1, f7, sl, hd]
        exact ⟨f, by omega, k + 1, by simp only [vmL, Nat.reduceEqDiff, reduceCtorEq, ↓reduceIte, vpL, vsL, vqL, f0], by simp only [vmL, Nat.reduceEqDiff, reduceCtorEq, ↓reduceIte, vpL, vsL, vqL, f1], by simp only [vmL, Nat.reduceEqDiff, reduceCtorEq, ↓reduceIte, vpL, vsL, vqL]; rfl, by omega, he, rfl⟩
    · simp (disch := omega) only [vmL, Nat.reduceEqDiff, reduceCtorEq, ↓reduceIte, vpL, vsL, vqL, Imb38_2, Imr38_2, f0, f1, f7]
      refine ⟨rfl, ?_, rfl⟩
      rw [he]
      cases m with
      | zero => rfl
      | succ f =>
        show (if k + sub.length ≤ s.length then (if (s.drop k).take sub.length = sub then some k else idxM s sub f (k + 1)) else none) = _
        rw [if_neg hle]
  · rintro fr g ⟨hn, rfl⟩
    simp (disch := omega) only [vmL, Nat.reduceEqDiff, reduceCtorEq, ↓reduceIte, vpL, vsL, vqL, Imr38_6]
    exact Tells.ret (by simp only [resK, vmL, Nat.reduceEqDiff, reduceCtorEq, ↓reduceIte, vpL, vsL, vqL, tupR]; rfl) ⟨by rw [hn]; rfl, Ch.refl _ _⟩
  · rintro fr g ⟨f6, rfl⟩
    exact Tells.ret (by simp only [resK, vmL, Nat.reduceEqDiff, reduceCtorEq, ↓reduceIte, vpL, vsL, vqL, f6, tupR]) ⟨rfl, Ch.refl _ _⟩
theorem rIn_ok {s sub : List Nat} {h : Hp} (hl : s.length < 100000000) (hs : sub.length < 100000000) (h256 : ∀ c ∈ s, c < 256) (hb256 : ∀ c ∈ sub, c < 256) : ∃ r h', ImF9 [.str s, .str sub] h = .ok r h' ∧ r = .bool (inM s sub) ∧ Ch (fun _ => False) h h' := by
  obtain ⟨r1, h1, e1, rfl, c1⟩ := rFold_ok (h := h) (s := s) (by omega) h256
  obtain ⟨r2, h2, e2, rfl, c2⟩ := rFold_ok (h := h1) (s := sub) (by omega) hb256
  obtain ⟨r3, h3, e3, rfl, c3⟩ := rIndex_ok (h := h2) (s := foldM s) (sub := foldM sub) (by simp [foldM]; omega) (by simp [foldM]; omega)
  rw [show (foldM s).length = s.length by simp [foldM]] at e3
  rw [ImF9_eq]
  show Tells Tryz.prog _ (fun r h' => r = .bool (inM s sub) ∧ Ch (fun _ => False) h h') _
  have hv : decide (idxV (idxM (foldM s) (foldM sub) (s.length + 1) 0) ≥ 0) = inM s sub := by
    unfold inM
    cases idxM (foldM s) (foldM sub) (s.length + 1) 0 with
    | none => rfl
    | some k => simp [idxV]
  have G : ∀ h, oBin .geq .none (.int .i64 (idxV (idxM (foldM s) (foldM sub) (s.length + 1) 0))) (.int .i64 0) h = .ok (.bool (inM s sub)) h := fun h => by rw [← hv]; simp only [oBin_geq]
  simp (disch := omega) only [vmL, Nat.reduceEqDiff, reduceCtorEq, ↓reduceIte, vpL, vsL, vqL, Imd9, Imr9_0, Imr9_1, e1, e2, e3, G]
  exact Tells.ret (by simp only [resK, vmL, Nat.reduceEqDiff, reduceCtorEq, ↓reduceIte, vpL, vsL, vqL, tupR]) ⟨rfl, (c1.trans c2 fun _ _ q => q).trans c3 fun _ _ q => q⟩
end Go.Proofs.Im
