/- Part of the value machine, or of a walk by it: lemmas that the claim's last text uses. No conditions. -/
import Derived.Test.YtnlbcbjgejpanaaGreatDoorStVmJ
set_option linter.unusedVariables false
set_option linter.unusedSimpArgs false
set_option linter.unnecessarySimpa false
namespace Go.Vm
noncomputable section
variable {P : Program} {G : Nat}
def fnRen (ρ : Pos → Pos) : Fn → Fn
  | .yield k => .yield (ρ (Pos.of k)).nat
  | .func f => .func f
  | .method n => .method n
  | .methodOf t n => .methodOf t n
  | .via t p f b => .via t p f b
def fnIns (n : Nat) : Fn → Bool
  | .yield k => Nat.blt k n
  | .func _ => true
  | .method _ => true
  | .methodOf _ _ => true
  | .via _ _ _ _ => true
def V.ren (ρ : Pos → Pos) : V → V
  | .bool b => .bool b
  | .int k n => .int k n
  | .str s => .str s
  | .ptr i o => .ptr (ρ i) o
  | .nilp => .nilp
  | .slice i o n c => .slice (ρ i) o n c
  | .nils => .nils
  | .emp => .emp
  | .map i => .map (ρ i)
  | .nilm => .nilm
  | .func fn a b => .func (fnRen ρ fn) (a.ren ρ) (b.ren ρ)
  | .nilf => .nilf
  | .iface t v => .iface t (v.ren ρ)
  | .nili => .nili
  | .agg l => .agg (l.ren ρ)
  | .tuple l => .tuple (l.ren ρ)
  | .nil => .nil
  | .cons a b => .cons (a.ren ρ) (b.ren ρ)
def V.ins (n : Nat) : V → Bool
  | .bool _ => true
  | .int _ _ => true
  | .str _ => true
  | .ptr i _ => Nat.blt i.nat n
  | .nilp => true
  | .slice i _ _ _ => Nat.blt i.nat n
  | .nils => true
  | .emp => true
  | .map i => Nat.blt i.nat n
  | .nilm => true
  | .func fn a b => fnIns n fn && (a.ins n && b.ins n)
  | .nilf => true
  | .iface _ v => v.ins n
  | .nili => true
  | .agg l => l.ins n
  | .tuple l => l.ins n
  | .nil => true
  | .cons a b => a.ins n && b.ins n
def Ob.ren (ρ : Pos → Pos) : Ob → Ob
  | .cells w cs => .cells w (cs.map (V.ren ρ))
  | .map es => .map (es.map fun p => (p.1.ren ρ, p.2.ren ρ))
  | .iter s n => .iter s n
  | .bytes cs => .bytes (cs.map (V.ren ρ))
def insL (n : Nat) : List V → Bool
  | [] => true
  | v :: l => v.ins n && insL n l
def insE (n : Nat) : List (V × V) → Bool
  | [] => true
  | p :: l => (p.1.ins n && p.2.ins n) && insE n l
def Ob.ins (n : Nat) : Ob → Bool
  | .cells _ cs => insL n cs
  | .map es => insE n es
  | .iter _ _ => true
  | .bytes cs => insL n cs
theorem insL_mem {n : Nat} : ∀ {l : List V}, insL n l = true → ∀ v ∈ l, v.ins n = true
  | [], _, v, h => by cases h
  | u :: l, h, v, hv => by
    simp only [insL, Bool.and_eq_true] at h
    rcases List.mem_cons.1 hv with rfl | hv
    · exact h.1
    · exact insL_mem h.2 v hv
theorem V.ren_row (ρ : Pos → Pos) (v : V) : (v.ren ρ).isRow = v.isRow := by cases v <;> rfl
theorem Ob.ren_own (ρ : Pos → Pos) (o : Ob) : (o.ren ρ).own = o.own := by cases o <;> rfl
theorem keyEq_ren (ρ : Pos → Pos) (x y : V) : keyEq (x.ren ρ) (y.ren ρ) = keyEq x y := by cases x <;> cases y <;> rfl
theorem Pos.of_nat (p : Pos) : Pos.of p.nat = p := Pos.nat_inj (Pos.nat_of _)
section
variable {M N : Mp} {ρ : Pos → Pos}
theorem FnRep.ren (hN : ∀ i L, N i = some L → M (ρ i) = some L) {f g : Fn} (h : FnRep N f g) : FnRep M (fnRen ρ f) g := by
  cases f <;> first | exact h | (obtain ⟨L, a, b⟩ := h; exact ⟨L, by rw [Pos.of_nat]; exact hN _ _ a, b⟩)
theorem FnRep.unren {n : Nat} (hN : ∀ i, i.nat < n → ∀ L, M (ρ i) = some L → N i = some L) {f g : Fn} (hi : fnIns n f = true) (h : FnRep M (fnRen ρ f) g) : FnRep N f g := by
  cases f <;> first | exact h | (obtain ⟨L, a, b⟩ := h; exact ⟨L, hN _ (by rw [Pos.nat_of]; simpa [fnIns, Nat.blt_eq] using hi) L (by rw [Pos.of_nat] at a; exact a), b⟩)
theorem Rep.ren (hN : ∀ i L, N i = some L → M (ρ i) = some L) {v : V} : ∀ {l : List Value}, Rep N v l → Rep M (v.ren ρ) l := by
  induction v with
  | ptr i o => rintro l ⟨L, h, e⟩; exact ⟨L, hN _ _ h, e⟩
  | slice i o n c => rintro l ⟨L, k, h, hc, e⟩; exact ⟨L, k, hN _ _ h, hc, e⟩
  | map i => rintro l ⟨L, h, e⟩; exact ⟨L, hN _ _ h, e⟩
  | func fn a b iha ihb => rintro l ⟨f, x, y, q, p, h, g, e⟩; exact ⟨f, x, y, q.ren hN, ⟨by rw [V.ren_row]; exact p.1, by rw [V.ren_row]; exact p.2⟩, iha h, ihb g, e⟩
  | iface t v ih => rintro l ⟨x, p, h, e⟩; exact ⟨x, by rw [V.ren_row]; exact p, ih h, e⟩
  | agg a ih => rintro l ⟨x, p, h, e⟩; exact ⟨x, by rw [V.ren_row]; exact p, ih h, e⟩
  | tuple a ih => rintro l ⟨x, p, h, e⟩; exact ⟨x, by rw [V.ren_row]; exact p, ih h, e⟩
  | cons a b iha ihb => rintro l ⟨x, xs, q, h, p, g, e⟩; exact ⟨x, xs, by rw [V.ren_row]; exact q, iha h, by rw [V.ren_row]; exact p, ihb g, e⟩
  | _ => intro l h; exact h
theorem Rep.unren {n : Nat} (hN : ∀ i, i.nat < n → ∀ L, M (ρ i) = some L → N i = some L) {v : V} : ∀ {l : List Value}, v.ins n = true → Rep M (v.ren ρ) l → Rep N v l := by
  induction v with
  | ptr i o => rintro l hi ⟨L, h, e⟩; exact ⟨L, hN _ (by simpa [V.ins, Nat.blt_eq] using hi) _ h, e⟩
  | slice i o n c => rintro l hi ⟨L, k, h, hc, e⟩; exact ⟨L, k, hN _ (by simpa [V.ins, Nat.blt_eq] using hi) _ h, hc, e⟩
  | map i => rintro l hi ⟨L, h, e⟩; exact ⟨L, hN _ (by simpa [V.ins, Nat.blt_eq] using hi) _ h, e⟩
  | func fn a b iha ihb =>
    rintro l hi ⟨f, x, y, q, p, h, g, e⟩
    simp only [V.ins, Bool.and_eq_true] at hi
    rw [V.ren_row, V.ren_row] at p
    exact ⟨f, x, y, q.unren hN hi.1, p, iha hi.2.1 h, ihb hi.2.2 g, e⟩
  | iface t v ih => rintro l hi ⟨x, p, h, e⟩; rw [V.ren_row] at p; exact ⟨x, p, ih hi h, e⟩
  | agg a ih => rintro l hi ⟨x, p, h, e⟩; rw [V.ren_row] at p; exact ⟨x, p, ih hi h, e⟩
  | tuple a ih => rintro l hi ⟨x, p, h, e⟩; rw [V.ren_row] at p; exact ⟨x, p, ih hi h, e⟩
  | cons a b iha ihb =>
    rintro l hi ⟨x, xs, q, h, p, g, e⟩
    simp only [V.ins, Bool.and_eq_true] at hi
    rw [V.ren_row] at p q
    exact ⟨x, xs, q, iha hi.1 h, p, ihb hi.2 g, e⟩
  | _ => intro l _ h; exact h
theorem Rp.ren (hN : ∀ i L, N i = some L → M (ρ i) = some L) {v : V} {c : Value} (h : Rp N v c) : Rp M (v.ren ρ) c := ⟨by rw [V.ren_row]; exact h.1, h.2.ren hN⟩
theorem Rp.unren {n : Nat} (hN : ∀ i, i.nat < n → ∀ L, M (ρ i) = some L → N i = some L) {v : V} {c : Value} (hi : v.ins n = true) (h : Rp M (v.ren ρ) c) : Rp N v c := ⟨by rw [← V.ren_row ρ]; exact h.1, h.2.unren hN hi⟩
theorem RepL.unren {n : Nat} (hN : ∀ i, i.nat < n → ∀ L, M (ρ i) = some L → N i = some L) : ∀ {vs : List V} {l : List Value}, insL n vs = true → RepL M (vs.map (V.ren ρ)) l → RepL N vs l
  | [], _, _, h => h
  | v :: vs, _, hi, ⟨x, xs, h, g, e⟩ => by
    simp only [insL, Bool.and_eq_true] at hi
    exact ⟨x, xs, h.unren hN hi.1, RepL.unren hN hi.2 g, e⟩
theorem RepE.ren (hN : ∀ i L, N i = some L → M (ρ i) = some L) : ∀ {es : List (V × V)} {l : List MapEntry}, RepE N es l → RepE M (es.map fun p => (p.1.ren ρ, p.2.ren ρ)) l
  | [], _, h => h
  | _ :: _, _, ⟨e, es, h, g, x⟩ => ⟨e, es, ⟨h.1.ren hN, h.2.ren hN⟩, RepE.ren hN g, x⟩
theorem RepE.unren {n : Nat} (hN : ∀ i, i.nat < n → ∀ L, M (ρ i) = some L → N i = some L) : ∀ {es : List (V × V)} {l : List MapEntry}, insE n es = true → RepE M (es.map fun p => (p.1.ren ρ, p.2.ren ρ)) l → RepE N es l
  | [], _, _, h => h
  | p :: ps, _, hi, ⟨e, es, h, g, x⟩ => by
    simp only [insE, Bool.and_eq_true] at hi
    exact ⟨e, es, ⟨h.1.unren hN hi.1.1, h.2.unren hN hi.1.2⟩, RepE.unren hN hi.2 g, x⟩
theorem KeysD.ren {es : List (V × V)} (h : KeysD es) : KeysD (es.map fun p => (p.1.ren ρ, p.2.ren ρ)) := by
  unfold KeysD at *
  rw [List.map_map, show ((fun x => x.1) ∘ fun p : V × V => (p.1.ren ρ, p.2.ren ρ)) = (V.ren ρ) ∘ (fun x => x.1) from rfl, ← List.map_map, List.pairwise_map]
  exact h.imp fun h => by rw [keyEq_ren]; exact h
theorem KeysD.unren {es : List (V × V)} (h : KeysD (es.map fun p => (p.1.ren ρ, p.2.ren ρ))) : KeysD es := by
  unfold KeysD at *
  rw [List.map_map, show ((fun x => x.1) ∘ fun p : V × V => (p.1.ren ρ, p.2.ren ρ)) = (V.ren ρ) ∘ (fun x => x.1) from rfl, ← List.map_map, List.pairwise_map] at h
  exact h.imp fun h => by rw [keyEq_ren] at h; exact h
theorem map_get {cs : List V} {k : Nat} {v : V} (h : (cs.map (V.ren ρ))[k]? = some v) : ∃ u, cs[k]? = some u ∧ v = u.ren ρ := by
  rw [List.getElem?_map] at h
  cases hk : cs[k]? with
  | none => rw [hk] at h; cases h
  | some u => rw [hk] at h; cases h; exact ⟨u, rfl, rfl⟩
theorem get_map {cs : List V} {k : Nat} {v : V} (h : cs[k]? = some v) : (cs.map (V.ren ρ))[k]? = some (v.ren ρ) := by rw [List.getElem?_map, h]; rfl
theorem ObRep.ren (hN : ∀ i L, N i = some L → M (ρ i) = some L) {L : Loc} {w : World} {o : Ob} (h : ObRep N L w o) : ObRep M L w (o.ren ρ) := by
  cases o with
  | cells wr cs =>
    obtain ⟨c, el, fr, a, b, g, f⟩ := h
    exact ⟨c, el, fr, a, b, fun k v hk => by obtain ⟨u, hu, rfl⟩ := map_get hk; obtain ⟨x, p, q, r⟩ := g k u hu; exact ⟨x, p, q.ren hN, r⟩, by rw [List.length_map]; exact f⟩
  | map es =>
    obtain ⟨en, ck, a, ⟨l, p, q⟩, b, c, d⟩ := h
    exact ⟨en, ck, a, ⟨l, p, q.ren hN⟩, b.ren, c, d⟩
  | iter s pos => exact h
  | bytes cs =>
    obtain ⟨c, el, fr, a, b, g, f⟩ := h
    exact ⟨c, el, fr, a, b, fun k v hk => by obtain ⟨u, hu, rfl⟩ := map_get hk; obtain ⟨x, p, q, r⟩ := g k u hu; exact ⟨x, p, q.ren hN, r⟩, f⟩
theorem ObRep.unren {n : Nat} (hN : ∀ i, i.nat < n → ∀ L, M (ρ i) = some L → N i = some L) {L : Loc} {w : World} {o : Ob} (hi : o.ins n = true) (h : ObRep M L w (o.ren ρ)) : ObRep N L w o := by
  cases o with
  | cells wr cs =>
    obtain ⟨c, el, fr, a, b, g, f⟩ := h
    exact ⟨c, el, fr, a, b, fun k v hk => by obtain ⟨x, p, q, r⟩ := g k _ (get_map hk); exact ⟨x, p, q.unren hN (insL_mem hi _ (List.mem_of_getElem? hk)), r⟩, by rw [List.length_map] at f; exact f⟩
  | map es =>
    obtain ⟨en, ck, a, ⟨l, p, q⟩, b, c, d⟩ := h
    exact ⟨en, ck, a, ⟨l, p, q.unren hN hi⟩, b.unren, c, d⟩
  | iter s pos => exact h
  | bytes cs =>
    obtain ⟨c, el, fr, a, b, g, f⟩ := h
    exact ⟨c, el, fr, a, b, fun k v hk => by obtain ⟨x, p, q, r⟩ := g k _ (get_map hk); exact ⟨x, p, q.unren hN (insL_mem hi _ (List.mem_of_getElem? hk)), r⟩, f⟩
end
structure Sub (G : Nat) (ρ : Pos → Pos) (K h : Hp) : Prop where
  inj : ∀ i j, i.nat < K.next.nat → j.nat < K.next.nat → ρ i = ρ j → i = j
  lt : ∀ i, i.nat < K.next.nat → (ρ i).nat < h.next.nat
  ob : ∀ i o, K.get i = some o → i.nat < K.next.nat ∧ o.ins K.next.nat = true ∧ h.get (ρ i) = some (o.ren ρ)
  gl : ∀ g, g < G → g < K.next.nat ∧ ρ (Pos.of g) = Pos.of g
def sig (ρ : Pos → Pos) (a b : Nat) (i : Pos) : Pos := if i.nat < a then ρ i else Pos.of (i.nat - a + b)
structure Glued (ρ : Pos → Pos) (K K' h h' : Hp) : Prop where
  next : h'.next.nat = h.next.nat + (K'.next.nat - K.next.nat)
  old : ∀ i, i.nat < K.next.nat → K.get i ≠ none → h'.get (ρ i) = (K'.get i).map (Ob.ren (sig ρ K.next.nat h.next.nat))
  new : ∀ i, K.next.nat ≤ i.nat → i.nat < K'.next.nat → h'.get (sig ρ K.next.nat h.next.nat i) = (K'.get i).map (Ob.ren (sig ρ K.next.nat h.next.nat))
  oth : ∀ j, (∀ i, i.nat < K.next.nat → K.get i ≠ none → ρ i ≠ j) → (j.nat < h.next.nat ∨ h'.next.nat ≤ j.nat) → h'.get j = h.get j
def Does (P : Program) (G : Nat) (f : FuncId) (a0 : List V) (K : Hp) (r : V) (Kc : Hp) : Prop :=
  ∀ (M : Mp) (w : World) (cargs : List Value), Rel G M K w → RepL M a0 cargs → Opq P (Post G M K w r Kc) ((callFunc f cargs.toArray).run P w)
theorem Does.of {f : FuncId} {F : Fun} {a0 : List V} {K K' : Hp} {r : V} (hF : CallOk P G f F) (e : F a0 K = .ok r K') : Does P G f a0 K r K' := fun M w cargs hr ha => hF a0 K r K' M w cargs e hr ha
open Classical in
end
end Go.Vm

namespace Go.Vm
noncomputable section
variable {P : Program} {G : Nat}
def mkOF : Hp → List (Option Ob) → Hp
  | h, [] => h
  | h, o :: l => mkOF ⟨h.t.set o h.next, h.next.succ⟩ l
def mkO (G : Nat) (os : List (Option Ob)) : Hp := mkOF (h0 G) os
theorem mkOF_next : ∀ (l : List (Option Ob)) (h : Hp), (mkOF h l).next.nat = h.next.nat + l.length
  | [], h => rfl
  | o :: l, h => by
    rw [mkOF, mkOF_next l, List.length_cons]
    show h.next.succ.nat + _ = _
    rw [Pos.nat_succ]; omega
theorem mkOF_get : ∀ (l : List (Option Ob)) (h : Hp) (i : Pos), (mkOF h l).get i = if h.next.nat ≤ i.nat ∧ i.nat < h.next.nat + l.length then (l[i.nat - h.next.nat]?).join else h.get i
  | [], h, i => by
    rw [if_neg]
    · rfl
    · simp only [List.length_nil]; omega
  | o :: l, h, i => by
    rw [mkOF, mkOF_get l]
    show (if h.next.succ.nat ≤ i.nat ∧ i.nat < h.next.succ.nat + l.length then (l[i.nat - h.next.succ.nat]?).join else (h.t.set o h.next).get i) = _
    rw [Pos.nat_succ, List.length_cons]
    by_cases e : i = h.next
    · subst e
      rw [if_neg (by omega), if_pos (by omega), Nat.sub_self, T.get_set_self]
      rfl
    · have hne : i.nat ≠ h.next.nat := fun q => e (Pos.nat_inj q)
      rw [T.get_set_ne _ e]
      by_cases hi : h.next.nat + 1 ≤ i.nat ∧ i.nat < h.next.nat + 1 + l.length
      · rw [if_pos hi, if_pos (by omega), show i.nat - h.next.nat = (i.nat - (h.next.nat + 1)) + 1 by omega, List.getElem?_cons_succ]
      · rw [if_neg hi, if_neg (by omega)]; rfl
theorem mkO_next (os : List (Option Ob)) : (mkO G os).next.nat = G + os.length := by
  unfold mkO; rw [mkOF_next]
  show (Pos.of G).nat + _ = _
  rw [Pos.nat_of]
theorem mkO_get (os : List (Option Ob)) (i : Pos) : (mkO G os).get i = if G ≤ i.nat then (os[i.nat - G]?).join else none := by
  unfold mkO; rw [mkOF_get, h0_get]
  show (if (Pos.of G).nat ≤ i.nat ∧ i.nat < (Pos.of G).nat + os.length then (os[i.nat - (Pos.of G).nat]?).join else none) = _
  rw [Pos.nat_of]
  by_cases h1 : G ≤ i.nat
  · by_cases h2 : i.nat < G + os.length
    · rw [if_pos ⟨h1, h2⟩, if_pos h1]
    · rw [if_neg (by omega), if_pos h1, List.getElem?_eq_none (by omega)]; rfl
  · rw [if_neg (by omega), if_neg h1]
def nthP : Nat → List Pos → Pos
  | _, [] => .h
  | 0, p :: _ => p
  | n + 1, _ :: l => nthP n l
theorem nthP_eq : ∀ (n : Nat) (l : List Pos), nthP n l = (l[n]?).getD .h
  | n, [] => by cases n <;> rfl
  | 0, _ :: _ => rfl
  | n + 1, _ :: l => by rw [nthP, nthP_eq n l]; rfl
def tau (a : Nat) (l : List Pos) (i : Pos) : Pos := match Nat.blt i.nat a with | true => i | false => nthP (i.nat - a) l
theorem tau_lt {a : Nat} {l : List Pos} {i : Pos} (h : i.nat < a) : tau a l i = i := by
  unfold tau; rw [show Nat.blt i.nat a = true by simpa [Nat.blt_eq] using h]
theorem tau_ge {a : Nat} {l : List Pos} {i p : Pos} (h : a ≤ i.nat) (hp : l[i.nat - a]? = some p) : tau a l i = p := by
  have : Nat.blt i.nat a = false := by
    cases hb : Nat.blt i.nat a with
    | false => rfl
    | true => have : i.nat < a := by simpa [Nat.blt_eq] using hb
              omega
  unfold tau; rw [this]
  show nthP (i.nat - a) l = p
  rw [nthP_eq, hp]; rfl
theorem V.ren_ren (ρ σ : Pos → Pos) (v : V) : (v.ren ρ).ren σ = v.ren (fun i => σ (ρ i)) := by
  induction v with
  | func fn a b iha ihb =>
    simp only [V.ren, iha, ihb]
    congr 1
    cases fn <;> first | rfl | (simp only [fnRen, Pos.of_nat])
  | iface t v ih => simp only [V.ren, ih]
  | agg l ih => simp only [V.ren, ih]
  | tuple l ih => simp only [V.ren, ih]
  | cons a b iha ihb => simp only [V.ren, iha, ihb]
  | _ => rfl
theorem fnRen_congr {n : Nat} {ρ σ : Pos → Pos} (h : ∀ i : Pos, i.nat < n → ρ i = σ i) {f : Fn} (hf : fnIns n f = true) : fnRen ρ f = fnRen σ f := by
  cases f <;> first | rfl | (simp only [fnRen]; rw [h _ (by rw [Pos.nat_of]; simpa [fnIns, Nat.blt_eq] using hf)])
theorem V.ren_congr {n : Nat} {ρ σ : Pos → Pos} (h : ∀ i : Pos, i.nat < n → ρ i = σ i) : ∀ {v : V}, v.ins n = true → v.ren ρ = v.ren σ := by
  intro v
  induction v with
  | ptr i o => intro hi; simp only [V.ren]; rw [h i (by simpa [V.ins, Nat.blt_eq] using hi)]
  | slice i o m c => intro hi; simp only [V.ren]; rw [h i (by simpa [V.ins, Nat.blt_eq] using hi)]
  | map i => intro hi; simp only [V.ren]; rw [h i (by simpa [V.ins, Nat.blt_eq] using hi)]
  | func fn a b iha ihb =>
    intro hi
    simp only [V.ins, Bool.and_eq_true] at hi
    simp only [V.ren]; rw [fnRen_congr h hi.1, iha hi.2.1, ihb hi.2.2]
  | iface t v ih => intro hi; simp only [V.ren]; rw [ih hi]
  | agg l ih => intro hi; simp only [V.ren]; rw [ih hi]
  | tuple l ih => intro hi; simp only [V.ren]; rw [ih hi]
  | cons a b iha ihb =>
    intro hi
    simp only [V.ins, Bool.and_eq_true] at hi
    simp only [V.ren]; rw [iha hi.1, ihb hi.2]
  | _ => intro _; rfl
theorem insE_mem {n : Nat} : ∀ {l : List (V × V)}, insE n l = true → ∀ v ∈ l, v.1.ins n = true ∧ v.2.ins n = true
  | [], _, v, h => by cases h
  | u :: l, h, v, hv => by
    simp only [insE, Bool.and_eq_true] at h
    rcases List.mem_cons.1 hv with rfl | hv
    · exact h.1
    · exact insE_mem h.2 v hv
theorem Ob.ren_congr {n : Nat} {ρ σ : Pos → Pos} (h : ∀ i : Pos, i.nat < n → ρ i = σ i) {o : Ob} (hi : o.ins n = true) : o.ren ρ = o.ren σ := by
  cases o with
  | cells w cs => simp only [Ob.ren]; congr 1; exact List.map_congr_left fun v hv => V.ren_congr h (insL_mem hi v hv)
  | map es => simp only [Ob.ren]; congr 1; exact List.map_congr_left fun v hv => by rw [V.ren_congr h (insE_mem hi v hv).1, V.ren_congr h (insE_mem hi v hv).2]
  | iter s n => rfl
  | bytes cs => simp only [Ob.ren]; congr 1; exact List.map_congr_left fun v hv => V.ren_congr h (insL_mem hi v hv)
theorem Ob.ren_ren (ρ σ : Pos → Pos) (o : Ob) : (o.ren ρ).ren σ = o.ren (fun i => σ (ρ i)) := by
  cases o with
  | cells w cs => simp only [Ob.ren, List.map_map]; congr 1; apply List.map_congr_left; intro v _; exact V.ren_ren ρ σ v
  | map es => simp only [Ob.ren, List.map_map]; congr 1; apply List.map_congr_left; intro v _; simp only [Function.comp, V.ren_ren]
  | iter s n => rfl
  | bytes cs => simp only [Ob.ren, List.map_map]; congr 1; apply List.map_congr_left; intro v _; exact V.ren_ren ρ σ v
def rising (b : Nat) : Nat → List Pos → Bool
  | _, [] => true
  | lo, p :: l => (Nat.ble lo p.nat && Nat.blt p.nat b) && rising b (p.nat + 1) l
theorem rising_ok {b : Nat} : ∀ {lo : Nat} {l : List Pos}, rising b lo l = true → (∀ (k : Nat) (p : Pos), l[k]? = some p → lo + k ≤ p.nat ∧ p.nat < b) ∧ ∀ (k j : Nat) (p q : Pos), l[k]? = some p → l[j]? = some q → k < j → p.nat < q.nat
  | _, [], _ => ⟨fun k p h => by simp at h, fun k j p q h => by simp at h⟩
  | lo, p :: l, h => by
    simp only [rising, Bool.and_eq_true] at h
    obtain ⟨⟨h1, h2⟩, h6⟩ := h
    obtain ⟨g2, g3⟩ := rising_ok h6
    have h1' := Nat.le_of_ble_eq_true h1
    have h2' : p.nat < b := by simpa [Nat.blt_eq] using h2
    refine ⟨fun k q hk => ?_, fun k j q r hk hj hkj => ?_⟩
    · cases k with
      | zero => simp at hk; subst hk; exact ⟨by omega, h2'⟩
      | succ k => simp at hk; obtain ⟨a, b⟩ := g2 k q hk; exact ⟨by omega, b⟩
    · cases j with
      | zero => omega
      | succ j =>
        simp at hj
        cases k with
        | zero => simp at hk; subst hk; have := (g2 j r hj).1; omega
        | succ k => simp at hk; exact g3 k j q r hk hj (by omega)
def chkOs (n : Nat) (t : Pos → Pos) (K' : Hp) : Pos → List (Option Ob) → Bool
  | _, [] => true
  | i, o :: l => (match o with
    | none => true
    | some x => x.ins n && (match K'.get (t i) with | some q => eqOb q (x.ren t) | none => false)) && chkOs n t K' i.succ l
theorem chkOs_ok {n : Nat} {t : Pos → Pos} {K' : Hp} : ∀ {l : List (Option Ob)} {i : Pos}, chkOs n t K' i l = true → ∀ (k : Nat) (x : Ob), l[k]? = some (some x) → x.ins n = true ∧ ∀ j : Pos, j.nat = i.nat + k → K'.get (t j) = some (x.ren t)
  | [], _, _, k, x, hk => by simp at hk
  | o :: l, i, h, k, x, hk => by
    simp only [chkOs, Bool.and_eq_true] at h
    cases k with
    | zero =>
      simp at hk; subst hk
      simp only [Bool.and_eq_true] at h
      refine ⟨h.1.1, fun j hj => ?_⟩
      obtain rfl : j = i := Pos.nat_inj hj
      have h2 := h.1.2
      split at h2
      · rename_i q hq; rw [hq, eqOb_ok h2]
      · cases h2
    | succ k =>
      simp at hk
      obtain ⟨a, b⟩ := chkOs_ok h.2 k x hk
      exact ⟨a, fun j hj => b j (by rw [Pos.nat_succ]; omega)⟩
def chkC (G a : Nat) (os : List (Option Ob)) (l : List Pos) (rc : V) : R V → Bool
  | .ok r K' => (eqVV r (rc.ren (tau a l)) && rc.ins (G + os.length)) && ((Nat.beq (G + os.length) (a + l.length) && rising K'.next.nat a l) && chkOs (G + os.length) (tau a l) K' (Pos.of G) os)
  | .bad => false
theorem Does.comp {f : FuncId} {F : Fun} {a0 : List V} {K : Hp} {a : Nat} {os : List (Option Ob)} {l : List Pos} {rc : V} (hF : CallOk P G f F) (ha : K.next.nat = a) (e : chkC G a os l rc (F a0 K) = true) : Does P G f a0 K rc (mkO G os) := by
  subst ha
  unfold chkC at e
  split at e
  · rename_i r0 K' e0
    simp only [Bool.and_eq_true] at e
    obtain ⟨⟨e1, e2⟩, ⟨e3, e4⟩, e5⟩ := e
    have e1 := eqVV_ok _ _ e1
    have e3 := Nat.eq_of_beq_eq_true e3
    obtain ⟨r1, r2⟩ := rising_ok e4
    have hos := chkOs_ok e5
    have hn := mkO_next (G := G) os
    intro M w cargs hr hargs
    refine Opq.mono (fun c w' hp => ?_) (hF a0 K r0 K' M w cargs e0 hr hargs)
    obtain ⟨N', hr0, hR', hx'⟩ := hp
    have hGK : ∀ g, g < G → g < K.next.nat := fun g hg => by
      rcases Nat.lt_or_ge g K.next.nat with q | q
      · exact q
      · obtain ⟨n, hn⟩ := hr.gl g hg
        rw [hr.fresh (Pos.of g) (by rw [Pos.nat_of]; exact q)] at hn; cases hn
    have tge : ∀ i : Pos, K.next.nat ≤ i.nat → i.nat < K.next.nat + l.length → ∃ p, l[i.nat - K.next.nat]? = some p ∧ tau K.next.nat l i = p := fun i h1 h2 => by
      have : i.nat - K.next.nat < l.length := by omega
      exact ⟨_, List.getElem?_eq_getElem this, tau_ge h1 (List.getElem?_eq_getElem this)⟩
    have tinj : ∀ i j : Pos, i.nat < K.next.nat + l.length → j.nat < K.next.nat + l.length → tau K.next.nat l i = tau K.next.nat l j → i = j := fun i j hi hj e => by
      rcases Nat.lt_or_ge i.nat K.next.nat with x | x <;> rcases Nat.lt_or_ge j.nat K.next.nat with y | y
      · rw [tau_lt x, tau_lt y] at e; exact e
      · obtain ⟨q, hq, e2⟩ := tge j y hj
        rw [tau_lt x, e2] at e
        have := (r1 _ _ hq).1
        rw [← e] at this; omega
      · obtain ⟨q, hq, e2⟩ := tge i x hi
        rw [tau_lt y, e2] at e
        have := (r1 _ _ hq).1
        rw [e] at this; omega
      · obtain ⟨q, hq, e2⟩ := tge i x hi
        obtain ⟨r, hr, e3⟩ := tge j y hj
        rw [e2, e3] at e
        rcases Nat.lt_trichotomy (i.nat - K.next.nat) (j.nat - K.next.nat) with z | z | z
        · have := r2 _ _ _ _ hq hr z; rw [e] at this; omega
        · exact Pos.nat_inj (by omega)
        · have := r2 _ _ _ _ hr hq z; rw [e] at this; omega
    have hob : ∀ i x, (mkO G os).get i = some x → i.nat < G + os.length ∧ x.ins (G + os.length) = true ∧ K'.get (tau K.next.nat l i) = some (x.ren (tau K.next.nat l)) := fun i x hi => by
      rw [mkO_get] at hi
      split at hi
      · rename_i hG
        have hk : os[i.nat - G]? = some (some x) := by
          cases h : os[i.nat - G]? with
          | none => rw [h] at hi; cases hi
          | some y => rw [h] at hi; cases y with
            | none => cases hi
            | some y => cases hi; rfl
        have hlt : i.nat - G < os.length := (List.getElem?_eq_some_iff.1 hk).1
        obtain ⟨p, q⟩ := hos _ _ hk
        exact ⟨by omega, p, q i (by rw [Pos.nat_of]; omega)⟩
      · cases hi
    have hun : ∀ i : Pos, i.nat < G + os.length → ∀ L, N' (tau K.next.nat l i) = some L → (if i.nat < G + os.length then N' (tau K.next.nat l i) else none) = some L := fun i hi L hL => by rw [if_pos hi]; exact hL
    refine ⟨fun i => if i.nat < G + os.length then N' (tau K.next.nat l i) else none, ?_, ⟨fun i o hi => ?_, fun i hge => if_neg (by omega), fun i j o p L Q hne hi hj ho hL hQ => ?_, fun g hg => ?_⟩,
      ⟨fun i L hL => ?_, by omega, hx'.os, hx'.tape, hx'.output, hx'.size, fun b hb hno => hx'.same b hb hno, fun i o L hi ho hL => ?_, fun i hi hn0 => ?_, fun i o L hi hL => ?_, fun i hi hn0 => ?_⟩⟩
    · rw [e1] at hr0; exact hr0.unren hun e2
    · obtain ⟨a1, a2, a3⟩ := hob i o hi
      obtain ⟨L, hL, hO⟩ := hR'.ob _ _ a3
      exact ⟨L, hun i a1 L hL, hO.unren hun a2⟩
    · obtain ⟨a1, a2, a3⟩ := hob i o hi
      obtain ⟨b1, b2, b3⟩ := hob j p hj
      simp only [a1, b1, if_true] at hL hQ
      exact hR'.sep _ _ _ _ L Q (fun q => hne (tinj i j (by omega) (by omega) q)) a3 b3 (by rw [Ob.ren_own]; exact ho) hL hQ
    · obtain ⟨n, hn'⟩ := hR'.gl g hg
      have := hGK g hg
      refine ⟨n, ?_⟩
      simp only [Pos.nat_of]
      rw [if_pos (by omega), tau_lt (by rw [Pos.nat_of]; exact this)]
      exact hn'
    · have hlt : i.nat < K.next.nat := by
        rcases Nat.lt_or_ge i.nat K.next.nat with q | q
        · exact q
        · rw [hr.fresh i q] at hL; cases hL
      show (if i.nat < G + os.length then N' (tau K.next.nat l i) else none) = some L
      rw [if_pos (by omega), tau_lt hlt]
      exact hx'.le i L hL
    · obtain ⟨a1, a2, a3⟩ := hob i o hi
      simp only [a1, if_true] at hL
      exact hx'.own _ _ L a3 (by rw [Ob.ren_own]; exact ho) hL
    · cases hc : (mkO G os).get i with
      | none => rfl
      | some x =>
        obtain ⟨a1, a2, a3⟩ := hob i x hc
        rw [tau_lt hi, hx'.old i hi hn0] at a3; cases a3
    · obtain ⟨a1, a2, a3⟩ := hob i o hi
      simp only [a1, if_true] at hL
      exact hx'.all _ _ L a3 hL
    · show (if i.nat < G + os.length then N' (tau K.next.nat l i) else none) = none
      split
      · rw [tau_lt hi]; exact hx'.none i hi hn0
      · rfl
  · cases e
end
end Go.Vm
