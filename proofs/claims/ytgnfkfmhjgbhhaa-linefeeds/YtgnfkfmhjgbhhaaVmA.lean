/- Part of the value machine, or of a walk by it: lemmas that the claim's last text uses. No conditions. -/
import Derived.Orders
import Derived.Laws.CopyRow
import Derived.Laws.IdiomCopy
import Derived.ArgAppend
import Derived.Laws.Append
import Derived.Below
import Derived.IntWalk
import Derived.Laws.Strings
import Derived.LaidEql
import Derived.Laws.IdiomStrings
import Derived.Laws.BytesString
import Derived.Laws.MakeOwn
import Derived.Great.BuildSlice
set_option linter.unusedVariables false
set_option linter.unusedSimpArgs false
set_option linter.unnecessarySimpa false
/- The value machine, part 1: positions, tries, values, heaps. Nothing of a program. -/
namespace Go.Vm

/-- A number in bijective base two: the keys of the tries. -/
inductive Pos where
  | h
  | o (p : Pos)
  | i (p : Pos)
  deriving Inhabited

namespace Pos
def nat : Pos → Nat
  | .h => 0
  | .o p => 2 * p.nat + 1
  | .i p => 2 * p.nat + 2

def succ : Pos → Pos
  | .h => .o .h
  | .o p => .i p
  | .i p => .o p.succ

theorem nat_succ (p : Pos) : p.succ.nat = p.nat + 1 := by
  induction p with
  | h => rfl
  | o p ih => simp [succ, nat]
  | i p ih => simp only [succ, nat, ih]; omega

theorem nat_inj {p q : Pos} (h : p.nat = q.nat) : p = q := by
  induction p generalizing q with
  | h => cases q <;> simp [nat] at h ⊢
  | o p ih => cases q with
    | h => simp [nat] at h
    | o q => rw [ih (q := q) (by simp [nat] at h; omega)]
    | i q => simp [nat] at h; omega
  | i p ih => cases q with
    | h => simp [nat] at h
    | o q => simp [nat] at h; omega
    | i q => rw [ih (q := q) (by simp [nat] at h; omega)]

/-- Are two positions one? -/
def eq : Pos → Pos → Bool
  | .h, .h => true
  | .o p, .o q => p.eq q
  | .i p, .i q => p.eq q
  | _, _ => false

theorem eq_iff {p q : Pos} : p.eq q = true ↔ p = q := by
  induction p generalizing q with
  | h => cases q <;> simp [eq]
  | o p ih => cases q <;> simp [eq, ih]
  | i p ih => cases q <;> simp [eq, ih]

theorem eq_false {p q : Pos} : p.eq q = false ↔ p ≠ q := by
  rw [← Bool.not_eq_true, eq_iff]

instance : DecidableEq Pos := fun _ _ => decidable_of_iff _ eq_iff
theorem eq_self (p : Pos) : p.eq p = true := eq_iff.2 rfl

def ofFuel : Nat → Nat → Pos
  | 0, _ => .h
  | _ + 1, 0 => .h
  | f + 1, n + 1 => cond (Nat.beq (n % 2) 0) (.o (ofFuel f (n / 2))) (.i (ofFuel f (n / 2)))

/-- The position of a number. -/
def of (n : Nat) : Pos := ofFuel n n

theorem nat_ofFuel (f n : Nat) (h : n ≤ f) : (ofFuel f n).nat = n := by
  induction f generalizing n with
  | zero => simp [ofFuel, nat]; omega
  | succ f ih =>
    cases n with
    | zero => rfl
    | succ n =>
      simp only [ofFuel]
      cases hb : Nat.beq (n % 2) 0 with
      | true =>
        have : n % 2 = 0 := Nat.eq_of_beq_eq_true hb
        simp only [cond_true, nat, ih (n / 2) (by omega)]; omega
      | false =>
        have : n % 2 ≠ 0 := Nat.ne_of_beq_eq_false hb
        simp only [cond_false, nat, ih (n / 2) (by omega)]; omega

theorem nat_of (n : Nat) : (of n).nat = n := nat_ofFuel n n (Nat.le_refl n)
theorem of_inj {m n : Nat} (h : of m = of n) : m = n := by
  have := congrArg nat h; rwa [nat_of, nat_of] at this
end Pos

/-- A trie. -/
inductive T (α : Type) where
  | nil
  | node (v : Option α) (l r : T α)
  deriving Inhabited

namespace T
variable {α : Type}
noncomputable section
def val (t : T α) : Option α := T.casesOn t none (fun v _ _ => v)
def left (t : T α) : T α := T.casesOn t .nil (fun _ l _ => l)
def right (t : T α) : T α := T.casesOn t .nil (fun _ _ r => r)

def get (t : T α) (p : Pos) : Option α :=
  Pos.rec (motive := fun _ => T α → Option α) (fun t => T.casesOn t none (fun v _ _ => v))
    (fun _ ih t => T.casesOn t none (fun _ l _ => ih l)) (fun _ ih t => T.casesOn t none (fun _ _ r => ih r)) p t

def set (x : Option α) (p : Pos) (t : T α) : T α :=
  Pos.rec (motive := fun _ => T α → T α)
    (fun t => T.casesOn t (.node x .nil .nil) (fun _ l r => .node x l r))
    (fun _ ih t => T.casesOn t (.node none (ih .nil) .nil) (fun v l r => .node v (ih l) r))
    (fun _ ih t => T.casesOn t (.node none .nil (ih .nil)) (fun v l r => .node v l (ih r))) p t

theorem get_nil (p : Pos) : (T.nil : T α).get p = none := by cases p <;> rfl
theorem get_h (v : Option α) (l r : T α) : (T.node v l r).get .h = v := rfl
theorem get_o (v : Option α) (l r : T α) (p : Pos) : (T.node v l r).get (.o p) = l.get p := rfl
theorem get_i (v : Option α) (l r : T α) (p : Pos) : (T.node v l r).get (.i p) = r.get p := rfl

theorem get_set_self (x : Option α) (p : Pos) (t : T α) : (t.set x p).get p = x := by
  induction p generalizing t with
  | h => cases t <;> rfl
  | o p ih => cases t with
    | nil => exact ih .nil
    | node v l r => exact ih l
  | i p ih => cases t with
    | nil => exact ih .nil
    | node v l r => exact ih r

theorem get_set_ne (x : Option α) {p q : Pos} (hne : q ≠ p) (t : T α) : (t.set x p).get q = t.get q := by
  induction p generalizing q t with
  | h => cases q with
    | h => exact absurd rfl hne
    | o q => cases t <;> first | rfl | exact get_nil q
    | i q => cases t <;> first | rfl | exact get_nil q
  | o p ih => cases q with
    | h => cases t <;> rfl
    | o q =>
      have hn : q ≠ p := fun e => hne (by rw [e])
      cases t with
      | nil => exact (ih hn .nil).trans (get_nil q)
      | node v l r => exact ih hn l
    | i q => cases t <;> first | rfl | exact get_nil q
  | i p ih => cases q with
    | h => cases t <;> rfl
    | o q => cases t <;> first | rfl | exact get_nil q
    | i q =>
      have hn : q ≠ p := fun e => hne (by rw [e])
      cases t with
      | nil => exact (ih hn .nil).trans (get_nil q)
      | node v l r => exact ih hn r

theorem get_set (x : Option α) (p q : Pos) (t : T α) : (t.set x p).get q = if q = p then x else t.get q := by
  by_cases h : q = p
  · subst h; rw [get_set_self, if_pos rfl]
  · rw [get_set_ne _ h, if_neg h]
end
end T
end Go.Vm

/- The value machine, part 2: values, heaps, and what they stand for in a world. -/
namespace Go.Vm

inductive Cap where
  | kn (c : Nat)
  | un (sz : Nat)
  deriving Inhabited

inductive V where
  | bool (b : Bool)
  | int (k : IntKind) (n : Int)
  | str (s : List Nat)
  | ptr (i : Pos) (o : Nat)
  | nilp
  | slice (i : Pos) (o len : Nat) (cap : Cap)
  | nils
  | emp
  | map (i : Pos)
  | nilm
  | func (fn : Fn) (first captured : V)
  | nilf
  | iface (t : TypeId) (v : V)
  | nili
  | agg (l : V)
  | tuple (l : V)
  | nil
  | cons (a b : V)
  deriving Inhabited

def V.undef : V := .tuple .nil
def V.list : V → List V
  | .cons a b => a :: b.list
  | _ => []
def V.ofList : List V → V
  | [] => .nil
  | a :: l => .cons a (V.ofList l)
/-- A row? -/
def V.isRow : V → Bool
  | .nil | .cons _ _ => true
  | _ => false
theorem V.list_ofList (l : List V) : (V.ofList l).list = l := by induction l <;> simp [V.ofList, V.list, *]
/-- The cells of a value: an aggregate's, or the one that it is. -/
def V.cells : V → List V
  | .agg l => l.list
  | v => [v]

inductive Ob where
  | cells (w : Bool) (cs : List V)
  | map (es : List (V × V))
  | iter (s : List Nat) (pos : Nat)
  | bytes (cs : List V)
def Ob.row : Ob → Option (Bool × List V)
  | .cells w cs => some (w, cs)
  | .bytes cs => some (false, cs)
  | _ => none
def Ob.own : Ob → Bool
  | .cells w _ => w
  | _ => true

structure Hp where
  t : T Ob
  next : Pos
noncomputable def Hp.get (h : Hp) (i : Pos) : Option Ob := h.t.get i
noncomputable def Hp.put (h : Hp) (i : Pos) (o : Option Ob) : Hp := ⟨h.t.set o i, h.next⟩
noncomputable def Hp.new (h : Hp) (o : Ob) : Hp := ⟨h.t.set (some o) h.next, h.next.succ⟩

inductive R (α : Type) where
  | ok (a : α) (h : Hp)
  | bad

/-- Where an object lies. -/
structure Loc where
  blk : Nat
  off : Nat
  size : Nat
def Loc.at (L : Loc) (o : Nat) : Addr := ⟨L.blk, L.off + o, none⟩
abbrev Mp := Pos → Option Loc
def Mp.le (M N : Mp) : Prop := ∀ i L, M i = some L → N i = some L
theorem Mp.le_refl (M : Mp) : M.le M := fun _ _ h => h
theorem Mp.le_trans {M N O : Mp} (h : M.le N) (g : N.le O) : M.le O := fun i L e => g i L (h i L e)

def bts (s : List Nat) : ByteArray := ⟨(s.map UInt8.ofNat).toArray⟩

/-- The value of one cell. -/
def scalar : Value → Bool
  | .agg _ | .tuple _ => false
  | _ => true

def CapOk (L : Loc) (o n : Nat) : Cap → Nat → Prop
  | .kn c, k => k = c ∧ n ≤ c
  | .un sz, k => (n ≤ k ∧ k ≤ 9223372036854775807) ∧ L.off + o + k * sz = L.size

/-- A value stands for these values: a plain one for one, 'cons' for a row. -/
def Rep (M : Mp) : V → List Value → Prop
  | .bool b, l => l = [.bool b]
  | .int k n, l => l = [.int k n]
  | .str s, l => (∀ b ∈ s, b < 256) ∧ l = [.string (bts s)]
  | .ptr i o, l => ∃ L, M i = some L ∧ l = [.pointer (some (L.at o))]
  | .nilp, l => l = [.pointer none]
  | .slice i o n c, l => ∃ L k, M i = some L ∧ CapOk L o n c k ∧ l = [.slice (some (L.at o)) n k]
  | .nils, l => l = [.slice none 0 0]
  | .emp, l => ∃ a k, l = [.slice (some a) 0 k]
  | .map i, l => ∃ L, M i = some L ∧ l = [.map (some L.blk)]
  | .nilm, l => l = [.map none]
  | .func fn a b, l => ∃ x y, (a.isRow = true ∧ b.isRow = true) ∧ Rep M a x ∧ Rep M b y ∧ l = [.func fn x.toArray y.toArray]
  | .nilf, l => l = [.nilFunc]
  | .iface t v, l => ∃ x, v.isRow = false ∧ Rep M v [x] ∧ l = [.iface t x]
  | .nili, l => l = [.nilIface]
  | .agg a, l => ∃ x, a.isRow = true ∧ Rep M a x ∧ (∀ y ∈ x, scalar y = true) ∧ l = [.agg x.toArray]
  | .tuple a, l => ∃ x, a.isRow = true ∧ Rep M a x ∧ l = [.tuple x.toArray]
  | .nil, l => l = []
  | .cons a b, l => ∃ x xs, a.isRow = false ∧ Rep M a [x] ∧ b.isRow = true ∧ Rep M b xs ∧ l = x :: xs

theorem Rep.mono {M N : Mp} (hle : M.le N) {v : V} : ∀ {l : List Value}, Rep M v l → Rep N v l := by
  induction v with
  | ptr i o => rintro l ⟨L, h, e⟩; exact ⟨L, hle _ _ h, e⟩
  | slice i o n c => rintro l ⟨L, k, h, hc, e⟩; exact ⟨L, k, hle _ _ h, hc, e⟩
  | map i => rintro l ⟨L, h, e⟩; exact ⟨L, hle _ _ h, e⟩
  | func fn a b iha ihb => rintro l ⟨x, y, p, h, g, e⟩; exact ⟨x, y, p, iha h, ihb g, e⟩
  | iface t v ih => rintro l ⟨x, p, h, e⟩; exact ⟨x, p, ih h, e⟩
  | agg a ih => rintro l ⟨x, p, h, e⟩; exact ⟨x, p, ih h, e⟩
  | tuple a ih => rintro l ⟨x, p, h, e⟩; exact ⟨x, p, ih h, e⟩
  | cons a b iha ihb => rintro l ⟨x, xs, q, h, p, g, e⟩; exact ⟨x, xs, q, iha h, p, ihb g, e⟩
  | _ => intro l h; exact h

/-- A value stands for one. -/
def Rp (M : Mp) (v : V) (c : Value) : Prop := v.isRow = false ∧ Rep M v [c]
theorem Rp.mono {M N : Mp} (hle : M.le N) {v : V} {c : Value} (h : Rp M v c) : Rp N v c := ⟨h.1, h.2.mono hle⟩

/-- A row of values, one by one. -/
def RepL (M : Mp) : List V → List Value → Prop
  | [], l => l = []
  | v :: vs, l => ∃ x xs, Rp M v x ∧ RepL M vs xs ∧ l = x :: xs

theorem RepL.mono {M N : Mp} (hle : M.le N) : ∀ {vs : List V} {l : List Value}, RepL M vs l → RepL N vs l
  | [], _, h => h
  | _ :: _, _, ⟨x, xs, h, g, e⟩ => ⟨x, xs, h.mono hle, RepL.mono hle g, e⟩
theorem RepL.length {M : Mp} : ∀ {vs : List V} {l : List Value}, RepL M vs l → l.length = vs.length
  | [], _, h => by rw [show _ = [] from h]; rfl
  | _ :: _, _, ⟨x, xs, _, g, e⟩ => by rw [e]; simp [RepL.length g]
theorem RepL.get {M : Mp} : ∀ {vs : List V} {l : List Value} (_ : RepL M vs l) {k : Nat} {v : V}, vs[k]? = some v → ∃ x, l[k]? = some x ∧ Rp M v x
  | [], _, _, k, v, h => by simp at h
  | u :: vs, _, ⟨x, xs, hx, g, e⟩, 0, v, h => by
    simp at h; subst h; subst e; exact ⟨x, rfl, hx⟩
  | u :: vs, _, ⟨x, xs, hx, g, e⟩, k + 1, v, h => by
    subst e; simp at h ⊢; exact RepL.get g h
theorem RepL.mk {M : Mp} : ∀ {vs : List V} {l : List Value}, l.length = vs.length → (∀ (k : Nat) (v : V), vs[k]? = some v → ∃ x, l[k]? = some x ∧ Rp M v x) → RepL M vs l
  | [], l, h, _ => List.length_eq_zero_iff.1 (by simpa using h)
  | v :: vs, [], h, _ => by simp at h
  | v :: vs, x :: l, h, g => by
    refine ⟨x, l, ?_, RepL.mk (by simpa using h) (fun k u hu => ?_), rfl⟩
    · obtain ⟨y, hy, hr⟩ := g 0 v rfl
      simp at hy; rw [hy]; exact hr
    · obtain ⟨y, hy, hr⟩ := g (k + 1) u (by simpa using hu)
      exact ⟨y, by simpa using hy, hr⟩
theorem RepL.append {M : Mp} : ∀ {vs us : List V} {l k : List Value}, RepL M vs l → RepL M us k → RepL M (vs ++ us) (l ++ k)
  | [], _, _, _, h, g => by rw [h]; exact g
  | _ :: _, _, _, _, ⟨x, xs, h, g, e⟩, g' => ⟨x, _, h, RepL.append g g', by rw [e]; rfl⟩
theorem RepL.of {M : Mp} : ∀ {v : V} {l : List Value}, v.isRow = true → Rep M v l → RepL M v.list l := by
  intro v
  induction v with
  | nil => intro l _ h; exact h
  | cons a b _ ihb => rintro l _ ⟨x, xs, q, h, p, g, e⟩; exact ⟨x, xs, ⟨q, h⟩, ihb p g, e⟩
  | _ => intro l p; cases p
theorem V.isRow_ofList : ∀ l : List V, (V.ofList l).isRow = true
  | [] => rfl
  | _ :: _ => rfl
theorem RepL.to {M : Mp} : ∀ {vs : List V} {l : List Value}, RepL M vs l → Rep M (V.ofList vs) l
  | [], _, h => h
  | _ :: vs, _, ⟨x, xs, h, g, e⟩ => ⟨x, xs, h.1, h.2, V.isRow_ofList vs, RepL.to g, e⟩
theorem RepL.drop {M : Mp} (n : Nat) : ∀ {vs : List V} {l : List Value}, RepL M vs l → RepL M (vs.drop n) (l.drop n) := by
  induction n with
  | zero => intro vs l h; exact h
  | succ n ih =>
    intro vs l h
    cases vs with
    | nil => rw [show l = [] from h]; rfl
    | cons v vs => obtain ⟨x, xs, _, g, e⟩ := h; rw [e]; exact ih g
theorem RepL.take {M : Mp} (n : Nat) : ∀ {vs : List V} {l : List Value}, RepL M vs l → RepL M (vs.take n) (l.take n) := by
  induction n with
  | zero => intro vs l h; simp; rfl
  | succ n ih =>
    intro vs l h
    cases vs with
    | nil => rw [show l = [] from h]; rfl
    | cons v vs => obtain ⟨x, xs, hx, g, e⟩ := h; rw [e]; exact ⟨x, _, hx, ih g, rfl⟩
/-- The cells of a value stand for the cells of what it stands for. -/
theorem Rp.cells {M : Mp} {v : V} {c : Value} (h : Rp M v c) : RepL M v.cells c.cells.toList := by
  obtain ⟨hr, h⟩ := h
  have one : ∀ {v : V} {c : Value}, v.isRow = false → Rep M v [c] → c.cells = #[c] → RepL M [v] c.cells.toList :=
    fun hr h e => ⟨_, [], ⟨hr, h⟩, rfl, by rw [e]⟩
  cases v with
  | agg l =>
    obtain ⟨x, p, g, _, e⟩ := h
    cases e
    simpa [V.cells, Value.cells] using RepL.of p g
  | nil => cases hr
  | cons a b => cases hr
  | bool b => exact one hr h (by cases h; rfl)
  | int k n => exact one hr h (by cases h; rfl)
  | str s => exact one hr h (by cases h.2; rfl)
  | ptr i o => exact one hr h (by obtain ⟨_, _, e⟩ := h; cases e; rfl)
  | nilp => exact one hr h (by cases h; rfl)
  | slice i o n k => exact one hr h (by obtain ⟨_, _, _, _, e⟩ := h; cases e; rfl)
  | nils => exact one hr h (by cases h; rfl)
  | emp => exact one hr h (by obtain ⟨_, _, e⟩ := h; cases e; rfl)
  | map i => exact one hr h (by obtain ⟨_, _, e⟩ := h; cases e; rfl)
  | nilm => exact one hr h (by cases h; rfl)
  | func f a b => exact one hr h (by obtain ⟨_, _, _, _, _, e⟩ := h; cases e; rfl)
  | nilf => exact one hr h (by cases h; rfl)
  | iface t v => exact one hr h (by obtain ⟨_, _, _, e⟩ := h; cases e; rfl)
  | nili => exact one hr h (by cases h; rfl)
  | tuple l => exact one hr h (by obtain ⟨_, _, _, e⟩ := h; cases e; rfl)
end Go.Vm

/- The value machine, part 3: when a world stands for a heap; what an operation may turn. -/
namespace Go.Vm
noncomputable section

/-- The entries of a map, one by one, in their order. -/
def MapRep (M : Mp) (es : List (V × V)) (en : Array MapEntry) (ck : Nat) : Prop :=
  RepL M (es.map (·.1)) (en.toList.map (·.key)) ∧ RepL M (es.map (·.2)) (en.toList.map (·.val)) ∧
    (∀ e ∈ en.toList, e.born < ck) ∧ (en.toList.map (·.born)).Nodup

theorem MapRep.mono {M N : Mp} (hle : M.le N) {es : List (V × V)} {en : Array MapEntry} {ck : Nat} (h : MapRep M es en ck) : MapRep N es en ck :=
  let ⟨b, c, d, e⟩ := h
  ⟨b.mono hle, c.mono hle, d, e⟩

def ObRep (M : Mp) (L : Loc) (w : World) : Ob → Prop
  | .cells wr cs => ∃ c el fr, w.heap[L.blk]? = some (.cells c el fr) ∧ c.size = L.size ∧
      (∀ (k : Nat) (v : V), cs[k]? = some v → ∃ x, c[L.off + k]? = some x ∧ Rp M v x ∧ scalar x = true) ∧
      (wr = true → ∀ k, L.off ≤ k → k ≤ L.size → ¬ (fr.1 ≤ k ∧ k < fr.2))
  | .bytes cs => ∃ c el fr, w.heap[L.blk]? = some (.cells c el fr) ∧ c.size = L.size ∧
      (∀ (k : Nat) (v : V), cs[k]? = some v → ∃ x, c[L.off + k]? = some x ∧ Rp M v x ∧ scalar x = true) ∧
      (∀ k, L.off ≤ k → k < L.size → ¬ (fr.1 ≤ k ∧ k < fr.2))
  | .map es => ∃ en ck, w.heap[L.blk]? = some (.map en ck) ∧ MapRep M es en ck
  | .iter s pos => (∀ b ∈ s, b < 256) ∧ w.heap[L.blk]? = some (.stringIter (bts s) pos)

theorem ObRep.mono {M N : Mp} (hle : M.le N) {L : Loc} {w : World} {o : Ob} (h : ObRep M L w o) : ObRep N L w o := by
  cases o with
  | cells wr cs =>
    obtain ⟨c, el, fr, a, b, g, f⟩ := h
    exact ⟨c, el, fr, a, b, fun k v hk => let ⟨x, p, q, r⟩ := g k v hk; ⟨x, p, q.mono hle, r⟩, f⟩
  | map es =>
    obtain ⟨en, ck, a, b⟩ := h
    exact ⟨en, ck, a, b.mono hle⟩
  | iter s pos => exact h
  | bytes cs =>
    obtain ⟨c, el, fr, a, b, g, f⟩ := h
    exact ⟨c, el, fr, a, b, fun k v hk => let ⟨x, p, q, r⟩ := g k v hk; ⟨x, p, q.mono hle, r⟩, f⟩
theorem ObRep.of_block {M : Mp} {L : Loc} {w w' : World} {o : Ob} (h : ObRep M L w o) (hb : w'.heap[L.blk]? = w.heap[L.blk]?) : ObRep M L w' o := by
  cases o <;> simpa only [ObRep, hb] using h
theorem ObRep.lt {M : Mp} {L : Loc} {w : World} {o : Ob} (h : ObRep M L w o) : L.blk < w.heap.size := by
  cases o with
  | cells wr cs => obtain ⟨c, el, fr, a, _⟩ := h; exact (Array.getElem?_eq_some_iff.1 a).1
  | map es => obtain ⟨en, ck, a, _⟩ := h; exact (Array.getElem?_eq_some_iff.1 a).1
  | iter s pos => exact (Array.getElem?_eq_some_iff.1 h.2).1
  | bytes cs => obtain ⟨c, el, fr, a, _⟩ := h; exact (Array.getElem?_eq_some_iff.1 a).1

/-- The world stands for the heap. G: how many variables the program has at package level. -/
structure Rel (G : Nat) (M : Mp) (h : Hp) (w : World) : Prop where
  ob : ∀ i o, h.get i = some o → ∃ L, M i = some L ∧ ObRep M L w o
  fresh : ∀ i, h.next.nat ≤ i.nat → M i = none
  sep : ∀ i j o p L K, i ≠ j → h.get i = some o → h.get j = some p → o.own = true → M i = some L → M j = some K → L.blk ≠ K.blk
  gl : ∀ g, g < G → ∃ n, M (Pos.of g) = some ⟨g, 0, n⟩

/-- What has turned between two worlds: blocks that the heap owned, and new ones. -/
structure Ext (M : Mp) (h : Hp) (w : World) (M' : Mp) (h' : Hp) (w' : World) : Prop where
  le : M.le M'
  next : h.next.nat ≤ h'.next.nat
  os : w'.os = w.os
  tape : w'.tape = w.tape
  output : w'.output = w.output
  size : w.heap.size ≤ w'.heap.size
  same : ∀ b, b < w.heap.size → (∀ i o L, h.get i = some o → o.own = true → M i = some L → L.blk ≠ b) → w'.heap[b]? = w.heap[b]?
  own : ∀ i o L, h'.get i = some o → o.own = true → M' i = some L → w.heap.size ≤ L.blk ∨ ∃ j p K, h.get j = some p ∧ p.own = true ∧ M j = some K ∧ K.blk = L.blk
  /-- no object comes back, none comes in of old but what was there -/
  old : ∀ i, i.nat < h.next.nat → h.get i = none → h'.get i = none
  all : ∀ i o L, h'.get i = some o → M' i = some L → w.heap.size ≤ L.blk ∨ ∃ j p K, h.get j = some p ∧ M j = some K ∧ K.blk = L.blk
  none : ∀ i, i.nat < h.next.nat → M i = none → M' i = none

theorem Ext.refl {G : Nat} {M : Mp} {h : Hp} {w : World} (_ : Rel G M h w) : Ext M h w M h w :=
  ⟨M.le_refl, Nat.le_refl _, rfl, rfl, rfl, Nat.le_refl _, fun _ _ _ => rfl, fun i o L a b c => .inr ⟨i, o, L, a, b, c, rfl⟩, fun _ _ h => h, fun i o L a b => .inr ⟨i, o, L, a, b, rfl⟩, fun _ _ h => h⟩

theorem Ext.trans {M N O : Mp} {h g f : Hp} {w x y : World} (a : Ext M h w N g x) (b : Ext N g x O f y) : Ext M h w O f y where
  le := Mp.le_trans a.le b.le
  next := Nat.le_trans a.next b.next
  os := b.os.trans a.os
  tape := b.tape.trans a.tape
  output := b.output.trans a.output
  size := Nat.le_trans a.size b.size
  same k hk hno := by
    rw [b.same k (Nat.lt_of_lt_of_le hk a.size) (fun i o L hi ho hL e => ?_), a.same k hk hno]
    rcases a.own i o L hi ho hL with hs | ⟨j, p, K, hj, hp, hK, e'⟩
    · omega
    · exact hno j p K hj hp hK (e'.trans e)
  own i o L hi ho hL := by
    rcases b.own i o L hi ho hL with hs | ⟨j, p, K, hj, hp, hK, e⟩
    · exact .inl (Nat.le_trans a.size hs)
    · rcases a.own j p K hj hp hK with hs | ⟨j', p', K', hj', hp', hK', e'⟩
      · exact .inl (by omega)
      · exact .inr ⟨j', p', K', hj', hp', hK', e'.trans e⟩
  old i hi hn := b.old i (Nat.lt_of_lt_of_le hi a.next) (a.old i hi hn)
  all i o L hi hL := by
    rcases b.all i o L hi hL with hs | ⟨j, p, K, hj, hK, e⟩
    · exact .inl (Nat.le_trans a.size hs)
    · rcases a.all j p K hj hK with hs | ⟨j', p', K', hj', hK', e'⟩
      · exact .inl (by omega)
      · exact .inr ⟨j', p', K', hj', hK', e'.trans e⟩
  none i hi hn := b.none i (Nat.lt_of_lt_of_le hi a.next) (a.none i hi hn)

theorem Rel.heap {G : Nat} {M : Mp} {h : Hp} {w w' : World} (r : Rel G M h w) (e : w'.heap = w.heap) : Rel G M h w' :=
  ⟨fun i o hi => let ⟨L, a, b⟩ := r.ob i o hi; ⟨L, a, b.of_block (by rw [e])⟩, r.fresh, r.sep, r.gl⟩

theorem Hp.get_put_self (h : Hp) (i : Pos) (o : Option Ob) : (h.put i o).get i = o := T.get_set_self _ _ _
theorem Hp.get_put_ne (h : Hp) {i j : Pos} (hn : j ≠ i) (o : Option Ob) : (h.put i o).get j = h.get j := T.get_set_ne _ hn _
theorem Hp.get_new_self (h : Hp) (o : Ob) : (h.new o).get h.next = some o := T.get_set_self _ _ _
theorem Hp.get_new_ne (h : Hp) {j : Pos} (hn : j ≠ h.next) (o : Ob) : (h.new o).get j = h.get j := T.get_set_ne _ hn _

/-- A position that is known lies ahead of the next one. -/
theorem Rel.lt_next {G : Nat} {M : Mp} {h : Hp} {w : World} (r : Rel G M h w) {i : Pos} {L : Loc} (hi : M i = some L) : i.nat < h.next.nat := by
  rcases Nat.lt_or_ge i.nat h.next.nat with hl | hl
  · exact hl
  · rw [r.fresh i hl] at hi; cases hi
theorem Rel.ne_next {G : Nat} {M : Mp} {h : Hp} {w : World} (r : Rel G M h w) {i : Pos} {L : Loc} (hi : M i = some L) : i ≠ h.next := by
  intro e; have := r.lt_next hi; rw [e] at this; omega

def Mp.add (M : Mp) (i : Pos) (L : Loc) : Mp := fun j => if j = i then some L else M j
theorem Mp.add_self (M : Mp) (i : Pos) (L : Loc) : M.add i L i = some L := if_pos rfl
theorem Mp.add_ne (M : Mp) {i j : Pos} (hn : j ≠ i) (L : Loc) : M.add i L j = M j := if_neg hn
theorem Mp.le_add {M : Mp} {i : Pos} (h : M i = none) (L : Loc) : M.le (M.add i L) := by
  intro j K hj
  by_cases e : j = i
  · subst e; rw [h] at hj; cases hj
  · rw [M.add_ne e]; exact hj

/-- A NEW OBJECT. 'o': what stands in the heap; 'b': what stands in the world. -/
theorem Rel.new {G : Nat} {M : Mp} {h : Hp} {w : World} (r : Rel G M h w) (o : Ob) (b : Obj) (n : Nat) {w' : World}
    (hw : w'.heap = w.heap.push b) (hos : w'.os = w.os) (ht : w'.tape = w.tape) (hout : w'.output = w.output)
    (ho : ∀ N : Mp, M.le N → ObRep N ⟨w.heap.size, 0, n⟩ w' o) :
    Rel G (M.add h.next ⟨w.heap.size, 0, n⟩) (h.new o) w' ∧ Ext M h w (M.add h.next ⟨w.heap.size, 0, n⟩) (h.new o) w' ∧ M.le (M.add h.next ⟨w.heap.size, 0, n⟩) := by
  have hnone : M h.next = none := r.fresh _ (Nat.le_refl _)
  have hle := Mp.le_add hnone ⟨w.heap.size, 0, n⟩
  have hold : ∀ k, k < w.heap.size → w'.heap[k]? = w.heap[k]? := fun k hk => by rw [hw, Array.getElem?_push, if_neg (by omega)]
  refine ⟨⟨fun i p hi => ?_, fun i hi => ?_, fun i j p q L K hn hi hj hp hL hK => ?_, fun g hg => ?_⟩, ⟨hle, ?_, hos, ht, hout, by rw [hw]; simp, fun k hk _ => hold k hk, fun i p L hi hp hL => ?_, fun i hi hn => ?_, fun i p L hi hL => ?_, fun i hi hn => ?_⟩, hle⟩
  · by_cases e : i = h.next
    · subst e
      rw [h.get_new_self] at hi
      cases hi
      exact ⟨_, M.add_self _ _, ho _ hle⟩
    · rw [h.get_new_ne e] at hi
      obtain ⟨L, hL, hr⟩ := r.ob i p hi
      exact ⟨L, by rw [M.add_ne e]; exact hL, (hr.of_block (hold _ hr.lt)).mono hle⟩
  · have hs : (h.new o).next.nat = h.next.nat + 1 := Pos.nat_succ _
    rw [hs] at hi
    have e : i ≠ h.next := fun e => by rw [e] at hi; omega
    rw [M.add_ne e]
    exact r.fresh i (by omega)
  · by_cases ei : i = h.next
    · subst ei
      rw [M.add_self] at hL
      cases hL
      have ej : j ≠ h.next := fun e => hn e.symm
      rw [M.add_ne ej] at hK
      rw [h.get_new_ne ej] at hj
      obtain ⟨K', hK', hr⟩ := r.ob j q hj
      rw [hK] at hK'; cases hK'
      have := hr.lt
      show w.heap.size ≠ K.blk
      omega
    · rw [M.add_ne ei] at hL
      rw [h.get_new_ne ei] at hi
      obtain ⟨L', hL', hr⟩ := r.ob i p hi
      rw [hL] at hL'; cases hL'
      by_cases ej : j = h.next
      · subst ej
        rw [M.add_self] at hK
        cases hK
        have := hr.lt
        show L.blk ≠ w.heap.size
        omega
      · rw [M.add_ne ej] at hK
        rw [h.get_new_ne ej] at hj
        exact r.sep i j p q L K hn hi hj hp hL hK
  · obtain ⟨n', hg'⟩ := r.gl g hg
    exact ⟨n', hle _ _ hg'⟩
  · show h.next.nat ≤ h.next.succ.nat
    rw [Pos.nat_succ]; omega
  · by_cases e : i = h.next
    · subst e
      rw [M.add_self] at hL
      cases hL
      exact .inl (Nat.le_refl _)
    · rw [h.get_new_ne e] at hi
      rw [M.add_ne e] at hL
      exact .inr ⟨i, p, L, hi, hp, hL, rfl⟩
  · have e : i ≠ h.next := fun e => by rw [e] at hi; omega
    rw [h.get_new_ne e]; exact hn
  · by_cases e : i = h.next
    · subst e
      rw [M.add_self] at hL
      cases hL
      exact .inl (Nat.le_refl _)
    · rw [h.get_new_ne e] at hi
      rw [M.add_ne e] at hL
      exact .inr ⟨i, p, L, hi, hL, rfl⟩
  · have e : i ≠ h.next := fun e => by rw [e] at hi; omega
    rw [M.add_ne e]; exact hn

/-- AN OBJECT TURNS INTO ANOTHER ONE, AT ITS PLACE. -/
theorem Rel.turn {G : Nat} {M : Mp} {h : Hp} {w : World} (r : Rel G M h w) {i : Pos} {o o' : Ob} {L : Loc} (hi : h.get i = some o) (hL : M i = some L)
    (hown : o.own = true) {w' : World} (hs : w'.heap.size = w.heap.size) (hoth : ∀ k, k ≠ L.blk → w'.heap[k]? = w.heap[k]?)
    (hos : w'.os = w.os) (ht : w'.tape = w.tape) (hout : w'.output = w.output) (ho : ObRep M L w' o') :
    Rel G M (h.put i (some o')) w' ∧ Ext M h w M (h.put i (some o')) w' := by
  refine ⟨⟨fun j p hj => ?_, r.fresh, fun a b p q A B hn ha hb hp hA hB => ?_, r.gl⟩, ⟨M.le_refl, Nat.le_refl _, hos, ht, hout, by omega, fun k hk hno => hoth k (fun e => hno i o L hi hown hL e.symm), fun j p K hj hp hK => ?_, fun j hj hn => ?_, fun j p K hj hK => ?_, fun _ _ hn => hn⟩⟩
  · by_cases e : j = i
    · subst e
      rw [h.get_put_self] at hj
      cases hj
      exact ⟨L, hL, ho⟩
    · rw [h.get_put_ne e] at hj
      obtain ⟨K, hK, hr⟩ := r.ob j p hj
      exact ⟨K, hK, hr.of_block (hoth _ (fun e' => r.sep i j o p L K (Ne.symm e) hi hj hown hL hK e'.symm))⟩
  · by_cases ea : a = i
    · subst ea
      rw [h.get_put_ne (Ne.symm hn)] at hb
      rw [hL] at hA; cases hA
      exact r.sep a b o q L B hn hi hb hown hL hB
    · rw [h.get_put_ne ea] at ha
      by_cases eb : b = i
      · subst eb
        rw [hL] at hB; cases hB
        exact fun e => r.sep b a o p L A (Ne.symm hn) hi ha hown hL hA e.symm
      · rw [h.get_put_ne eb] at hb
        exact r.sep a b p q A B hn ha hb hp hA hB
  · by_cases e : j = i
    · subst e
      rw [hL] at hK; cases hK
      exact .inr ⟨j, o, L, hi, hown, hL, rfl⟩
    · rw [h.get_put_ne e] at hj
      exact .inr ⟨j, p, K, hj, hp, hK, rfl⟩
  · by_cases e : j = i
    · subst e; rw [hi] at hn; cases hn
    · rw [h.get_put_ne e]; exact hn
  · by_cases e : j = i
    · subst e
      rw [hL] at hK; cases hK
      exact .inr ⟨j, o, L, hi, hL, rfl⟩
    · rw [h.get_put_ne e] at hj
      exact .inr ⟨j, p, K, hj, hK, rfl⟩

/-- AN OBJECT IS GIVEN UP. -/
theorem Rel.drop {G : Nat} {M : Mp} {h : Hp} {w : World} (r : Rel G M h w) (i : Pos) : Rel G M (h.put i none) w ∧ Ext M h w M (h.put i none) w := by
  have key : ∀ {j : Pos} {p : Ob}, (h.put i none).get j = some p → h.get j = some p := fun {j p} hj => by
    by_cases e : j = i
    · subst e; rw [h.get_put_self] at hj; cases hj
    · rwa [h.get_put_ne e] at hj
  refine ⟨⟨fun j p hj => r.ob j p (key hj), r.fresh, fun a b p q A B hn ha hb => r.sep a b p q A B hn (key ha) (key hb), r.gl⟩, ⟨M.le_refl, Nat.le_refl _, rfl, rfl, rfl, Nat.le_refl _, fun _ _ _ => rfl, fun j p K hj hp hK => .inr ⟨j, p, K, key hj, hp, hK, rfl⟩, fun j hj hn => ?_, fun j p K hj hK => .inr ⟨j, p, K, key hj, hK, rfl⟩, fun _ _ hn => hn⟩⟩
  by_cases e : j = i
  · subst e; exact h.get_put_self _ _
  · rw [h.get_put_ne e]; exact hn

/-- A cell that is read. -/
theorem Rel.cell {G : Nat} {M : Mp} {h : Hp} {w : World} (r : Rel G M h w) {i : Pos} {wr : Bool} {cs : List V} {L : Loc} {k : Nat} {v : V}
    (hi : (h.get i).bind Ob.row = some (wr, cs)) (hL : M i = some L) (hk : cs[k]? = some v) :
    ∃ x, w.cell? (L.at k) = some x ∧ Rp M v x ∧ scalar x = true := by
  cases hg : h.get i with
  | none => rw [hg] at hi; cases hi
  | some o =>
    rw [hg] at hi
    obtain ⟨L', hL', ho⟩ := r.ob i _ hg
    rw [hL] at hL'; cases hL'
    cases o with
    | cells w0 cs0 =>
      cases hi
      obtain ⟨c, el, fr, hb, hsz, hc, _⟩ := ho
      obtain ⟨x, hx, hr, hs⟩ := hc k v hk
      exact ⟨x, by simp [World.cell?, Loc.at, hb, hx], hr, hs⟩
    | bytes cs0 =>
      cases hi
      obtain ⟨c, el, fr, hb, hsz, hc, _⟩ := ho
      obtain ⟨x, hx, hr, hs⟩ := hc k v hk
      exact ⟨x, by simp [World.cell?, Loc.at, hb, hx], hr, hs⟩
    | map es => cases hi
    | iter s p => cases hi
theorem row_true {h : Hp} {i : Pos} {cs : List V} (hi : (h.get i).bind Ob.row = some (true, cs)) : h.get i = some (.cells true cs) := by
  cases hg : h.get i with
  | none => rw [hg] at hi; cases hi
  | some o =>
    rw [hg] at hi
    cases o <;> first | (cases hi; done) | (cases hi; rfl)
end
end Go.Vm

/- The value machine, part 4: rows of cells; reading, writing, making. -/
namespace Go.Vm
noncomputable section

def nthV (n : Nat) (l : List V) : Option V :=
  Nat.rec (motive := fun _ => List V → Option V) (fun l => List.casesOn l none (fun a _ => some a)) (fun _ ih l => List.casesOn l none (fun _ t => ih t)) n l
def dropV (n : Nat) (l : List V) : List V :=
  Nat.rec (motive := fun _ => List V → List V) (fun l => l) (fun _ ih l => List.casesOn l [] (fun _ t => ih t)) n l
/-- The first n; none: there are fewer. -/
def takeV (n : Nat) (l : List V) : Option (List V) :=
  Nat.rec (motive := fun _ => List V → Option (List V)) (fun _ => some []) (fun _ ih l => List.casesOn l none (fun a t => Option.casesOn (ih t) none (fun r => some (a :: r)))) n l
/-- These over the first; none: there are fewer. -/
def overV (vs : List V) (l : List V) : Option (List V) :=
  List.rec (motive := fun _ => List V → Option (List V)) (fun l => some l) (fun v _ ih l => List.casesOn l none (fun _ t => Option.casesOn (ih t) none (fun r => some (v :: r)))) vs l
def putV (n : Nat) (vs : List V) (l : List V) : Option (List V) :=
  Nat.rec (motive := fun _ => List V → Option (List V)) (fun l => overV vs l) (fun _ ih l => List.casesOn l none (fun a t => Option.casesOn (ih t) none (fun r => some (a :: r)))) n l

theorem nthV_eq (n : Nat) : ∀ l : List V, nthV n l = l[n]? := by
  induction n with
  | zero => intro l; cases l <;> rfl
  | succ n ih => intro l; cases l with
    | nil => rfl
    | cons a t => exact (ih t).trans (by simp)
theorem dropV_eq (n : Nat) : ∀ l : List V, dropV n l = l.drop n := by
  induction n with
  | zero => intro l; rfl
  | succ n ih => intro l; cases l with
    | nil => rfl
    | cons a t => exact (ih t).trans (by simp)
theorem takeV_eq (n : Nat) : ∀ {l r : List V}, takeV n l = some r → n ≤ l.length ∧ r = l.take n := by
  induction n with
  | zero => intro l r h; cases h; simp
  | succ n ih => intro l r h; cases l with
    | nil => cases h
    | cons a t =>
      change Option.casesOn (takeV n t) none (fun r => some (a :: r)) = some r at h
      cases ht : takeV n t with
      | none => rw [ht] at h; cases h
      | some s => rw [ht] at h; cases h; obtain ⟨h1, h2⟩ := ih ht; exact ⟨by simp; omega, by rw [h2]; rfl⟩
theorem takeV_some {n : Nat} : ∀ {l : List V}, n ≤ l.length → takeV n l = some (l.take n) := by
  induction n with
  | zero => intro l _; rfl
  | succ n ih => intro l h; cases l with
    | nil => simp at h
    | cons a t =>
      change @Option.casesOn (List V) (fun _ => Option (List V)) (takeV n t) none (fun r => some (a :: r)) = _
      rw [ih (by simpa using h)]; rfl
theorem overV_eq (vs : List V) : ∀ {l r : List V}, overV vs l = some r → vs.length ≤ l.length ∧ r = vs ++ l.drop vs.length := by
  induction vs with
  | nil => intro l r h; cases h; simp
  | cons v vs ih => intro l r h; cases l with
    | nil => cases h
    | cons a t =>
      change Option.casesOn (overV vs t) none (fun r => some (v :: r)) = some r at h
      cases ht : overV vs t with
      | none => rw [ht] at h; cases h
      | some s => rw [ht] at h; cases h; obtain ⟨h1, h2⟩ := ih ht; exact ⟨by simp; omega, by rw [h2]; rfl⟩
theorem putV_eq (n : Nat) (vs : List V) : ∀ {l r : List V}, putV n vs l = some r → n + vs.length ≤ l.length ∧ r = l.take n ++ vs ++ l.drop (n + vs.length) := by
  induction n with
  | zero => intro l r h; obtain ⟨a, b⟩ := overV_eq vs h; exact ⟨by omega, by rw [b]; simp⟩
  | succ n ih => intro l r h; cases l with
    | nil => cases h
    | cons a t =>
      change Option.casesOn (putV n vs t) none (fun r => some (a :: r)) = some r at h
      cases ht : putV n vs t with
      | none => rw [ht] at h; cases h
      | some s =>
        rw [ht] at h; cases h
        obtain ⟨h1, h2⟩ := ih ht
        exact ⟨by simp; omega, by rw [h2, show n + 1 + vs.length = (n + vs.length) + 1 from by omega]; rfl⟩
theorem putV_get {n : Nat} {vs l r : List V} (h : putV n vs l = some r) (k : Nat) : r[k]? = if k < n then l[k]? else if k < n + vs.length then vs[k - n]? else l[k]? := by
  obtain ⟨h1, h2⟩ := putV_eq n vs h
  have ht : (l.take n).length = n := by simp; omega
  rw [h2, List.append_assoc, List.getElem?_append]
  split
  · rename_i hk
    rw [ht] at hk
    rw [if_pos hk, List.getElem?_take, if_pos hk]
  · rename_i hk
    rw [ht] at hk ⊢
    rw [if_neg hk, List.getElem?_append]
    split
    · rename_i hk2
      rw [if_pos (by omega)]
    · rename_i hk2
      rw [if_neg (by omega), List.getElem?_drop]
      congr 1
      omega

/-! ### Reading -/
theorem Rel.cells {G : Nat} {M : Mp} {h : Hp} {w : World} (r : Rel G M h w) {i : Pos} {wr : Bool} {cs : List V} {L : Loc} {n o : Nat} {vs : List V}
    (hi : (h.get i).bind Ob.row = some (wr, cs)) (hL : M i = some L) (ht : takeV n (dropV o cs) = some vs) :
    ∃ xs : List Value, RepL M vs xs ∧ xs.length = n ∧ (∀ x ∈ xs, scalar x = true) ∧ ∀ (j : Nat) (x : Value), xs[j]? = some x → w.cell? ((L.at o).add j) = some x := by
  obtain ⟨hn, hv⟩ := takeV_eq n ht
  rw [dropV_eq] at hn hv
  have hlen : vs.length = n := by rw [hv]; simp at hn ⊢; omega
  have hget : ∀ j v, vs[j]? = some v → cs[o + j]? = some v := fun j v hj => by
    rw [hv, List.getElem?_take] at hj
    split at hj
    · rwa [List.getElem?_drop] at hj
    · cases hj
  have hc : ∀ j : Nat, ∃ x : Value, j < n → ∃ v, vs[j]? = some v ∧ w.cell? (L.at (o + j)) = some x ∧ Rp M v x ∧ scalar x = true := fun j => by
    by_cases hj : j < n
    · have hv' : vs[j]? = some vs[j] := List.getElem?_eq_getElem (by omega)
      obtain ⟨x, a, b, c⟩ := r.cell hi hL (hget j _ hv')
      exact ⟨x, fun _ => ⟨_, hv', a, b, c⟩⟩
    · exact ⟨undef, fun h => absurd h hj⟩
  let f : Nat → Value := fun j => (hc j).choose
  have hf : ∀ j, j < n → ∃ v, vs[j]? = some v ∧ w.cell? (L.at (o + j)) = some (f j) ∧ Rp M v (f j) ∧ scalar (f j) = true := fun j hj => (hc j).choose_spec hj
  refine ⟨(List.range n).map f, RepL.mk (by simp [hlen]) (fun k v hk => ?_), by simp, fun x hx => ?_, fun j x hj => ?_⟩
  · have hkn : k < n := by
      rw [← hlen]; exact (List.getElem?_eq_some_iff.1 hk).1
    obtain ⟨v', a, b, c, d⟩ := hf k hkn
    rw [hk] at a; cases a
    exact ⟨f k, by simp [hkn], c⟩
  · obtain ⟨j, hj, rfl⟩ := List.mem_map.1 hx
    obtain ⟨v', a, b, c, d⟩ := hf j (List.mem_range.1 hj)
    exact d
  · have hjn : j < n := by
      have := (List.getElem?_eq_some_iff.1 hj).1; simpa using this
    obtain ⟨v', a, b, c, d⟩ := hf j hjn
    simp [hjn] at hj
    subst hj
    rw [← b]
    congr 1
    unfold Loc.at Addr.add
    simp only
    split <;> simp_all [Nat.add_assoc]

/-! ### Writing -/
theorem scalar_one {x : Value} (h : scalar x = true) : x.oneCell' = true := by
  cases x <;> simp_all [scalar, Value.oneCell']

/-- Cells of an object are written. -/
theorem Rel.store {P : Program} {G : Nat} {M : Mp} {h : Hp} {w : World} (r : Rel G M h w) {i : Pos} {cs cs' : List V} {L : Loc} {o : Nat} {vs : List V} {xs : List Value}
    (hi : h.get i = some (.cells true cs)) (hL : M i = some L) (hp : putV o vs cs = some cs') (hx : RepL M vs xs) (h1 : ∀ x ∈ xs, scalar x = true) :
    ∃ w', (storeCells (L.at o) xs).run P w = .ok () w' ∧ Rel G M (h.put i (some (.cells true cs'))) w' ∧ Ext M h w M (h.put i (some (.cells true cs'))) w' := by
  obtain ⟨hfit, _⟩ := putV_eq o vs hp
  obtain ⟨L', hL', c, el, fr, hb, hsz, hc, hfr⟩ := r.ob i _ hi
  rw [hL] at hL'; cases hL'
  have hxl := hx.length
  have hin : ∀ j, j < xs.length → L.off + o + j < c.size := fun j hj => by
    have hk : (cs[o + j]?) = some cs[o + j] := List.getElem?_eq_getElem (by omega)
    obtain ⟨x, hx', _⟩ := hc (o + j) _ hk
    have := (Array.getElem?_eq_some_iff.1 hx').1
    omega
  have hrun := run_storeCells_cells (P := P) L.blk (L.off + o) xs 0 w
    (fun j hj => by
      have := hin j hj
      simp [World.cell?, hb, this])
    (fun j hj => by
      have h1 := hin j hj
      have := hfr rfl (L.off + o + j) (by omega) (by omega)
      simp [World.frozen?, hb]; omega)
    (fun v hv => scalar_one (h1 v hv))
  simp only [Nat.add_zero] at hrun
  refine ⟨_, hrun, ?_⟩
  have hblk : ∃ c', (w.setCells L.blk (L.off + o) xs).heap[L.blk]? = some (.cells c' el fr) ∧ c'.size = c.size ∧ (∀ k, c'[k]? = if L.off + o ≤ k ∧ k < L.off + o + xs.length then xs[k - (L.off + o)]? else c[k]?) := by
    have key : ∀ (xs : List Value) (a : Nat) (c : Array Value) (w : World), w.heap[L.blk]? = some (.cells c el fr) → (∀ j, j < xs.length → a + j < c.size) →
        ∃ c', (w.setCells L.blk a xs).heap[L.blk]? = some (.cells c' el fr) ∧ c'.size = c.size ∧ (∀ k, c'[k]? = if a ≤ k ∧ k < a + xs.length then xs[k - a]? else c[k]?) := by
      intro xs
      induction xs with
      | nil => intro a c w hw _; exact ⟨c, hw, rfl, fun k => by rw [if_neg (by simp <;> omega)]⟩
      | cons x xs ih =>
        intro a c w hw hlt
        have hw' : (w.setCell ⟨L.blk, a, none⟩ x).heap[L.blk]? = some (.cells (c.setIfInBounds a x) el fr) := by
          simp [World.setCell, Array.getElem?_modify, hw]
        obtain ⟨c', h1, h2, h3⟩ := ih (a + 1) (c.setIfInBounds a x) _ hw' (fun j hj => by have := hlt (j + 1) (by simp; omega); simp; omega)
        refine ⟨c', h1, by simpa using h2, fun k => ?_⟩
        rw [h3 k]
        have ha := hlt 0 (by simp)
        by_cases e : k = a
        · subst e
          rw [if_neg (by omega), if_pos (by simp)]
          rw [Nat.sub_self, Array.getElem?_setIfInBounds_self_of_lt (by simpa using ha)]
          rfl
        · by_cases hk : a + 1 ≤ k ∧ k < a + 1 + xs.length
          · rw [if_pos hk, if_pos (by simp; omega), show k - a = (k - (a + 1)) + 1 from by omega]
            simp
          · rw [if_neg hk, if_neg (by simp at hk ⊢; omega), Array.getElem?_setIfInBounds_ne (by omega)]
    exact key xs (L.off + o) c w hb (fun j hj => hin j hj)
  obtain ⟨c', hb', hsz', hget⟩ := hblk
  have hoth : ∀ k, k ≠ L.blk → (w.setCells L.blk (L.off + o) xs).heap[k]? = w.heap[k]? := by
    have key : ∀ (xs : List Value) (a : Nat) (w : World) (k : Nat), k ≠ L.blk → (w.setCells L.blk a xs).heap[k]? = w.heap[k]? := by
      intro xs
      induction xs with
      | nil => intros; rfl
      | cons x xs ih => intro a w k hk; rw [World.setCells, ih _ _ _ hk]; exact Go.RowKit.Below.heap_setCell _ _ _ _ hk
    exact fun k hk => key xs _ w k hk
  have hrest : ∀ (xs : List Value) (a : Nat) (w : World), (w.setCells L.blk a xs).heap.size = w.heap.size ∧ (w.setCells L.blk a xs).os = w.os ∧ (w.setCells L.blk a xs).tape = w.tape ∧ (w.setCells L.blk a xs).output = w.output := by
    intro xs
    induction xs with
    | nil => intros; exact ⟨rfl, rfl, rfl, rfl⟩
    | cons x xs ih => intro a w; obtain ⟨h1, h2, h3, h4⟩ := ih (a + 1) (w.setCell ⟨L.blk, a, none⟩ x); exact ⟨by rw [World.setCells, h1]; simp [World.setCell], h2, h3, h4⟩
  obtain ⟨g1, g2, g3, g4⟩ := hrest xs (L.off + o) w
  refine r.turn hi hL rfl g1 hoth g2 g3 g4 ⟨c', el, fr, hb', by omega, fun k v hk => ?_, hfr⟩
  rw [putV_get hp] at hk
  rw [hget]
  split at hk
  · rename_i hlt
    rw [if_neg (by omega)]
    exact hc k v hk
  · rename_i hge
    split at hk
    · rename_i hlt
      rw [if_pos (by omega), show L.off + k - (L.off + o) = k - o from by omega]
      obtain ⟨x, hx', hr⟩ := hx.get hk
      exact ⟨x, hx', hr, h1 x (List.mem_of_getElem? hx')⟩
    · rw [if_neg (by omega)]
      exact hc k v hk

end
end Go.Vm

/- The value machine, part 5: the operations, first half: moves, memory, arithmetic. -/
namespace Go.Vm
noncomputable section
variable {α : Type}

/-! ### What a value is -/
section
variable {M : Mp} {c : Value}
theorem Rp.bool {b : Bool} (h : Rp M (.bool b) c) : c = .bool b := by cases h.2; rfl
theorem Rp.int {k : IntKind} {n : Int} (h : Rp M (.int k n) c) : c = .int k n := by cases h.2; rfl
theorem Rp.str {s : List Nat} (h : Rp M (.str s) c) : (∀ b ∈ s, b < 256) ∧ c = .string (bts s) := ⟨h.2.1, by cases h.2.2; rfl⟩
theorem Rp.ptr {i : Pos} {o : Nat} (h : Rp M (.ptr i o) c) : ∃ L, M i = some L ∧ c = .pointer (some (L.at o)) := by
  obtain ⟨_, L, a, e⟩ := h; cases e; exact ⟨L, a, rfl⟩
theorem Rp.nilp (h : Rp M .nilp c) : c = .pointer none := by cases h.2; rfl
theorem Rp.slice {i : Pos} {o n : Nat} {k : Cap} (h : Rp M (.slice i o n k) c) : ∃ L m, M i = some L ∧ CapOk L o n k m ∧ c = .slice (some (L.at o)) n m := by
  obtain ⟨_, L, m, a, b, e⟩ := h; cases e; exact ⟨L, m, a, b, rfl⟩
theorem Rp.nils (h : Rp M .nils c) : c = .slice none 0 0 := by cases h.2; rfl
theorem Rp.emp (h : Rp M .emp c) : ∃ a k, c = .slice (some a) 0 k := by obtain ⟨_, a, k, e⟩ := h; cases e; exact ⟨a, k, rfl⟩
theorem Rp.map {i : Pos} (h : Rp M (.map i) c) : ∃ L, M i = some L ∧ c = .map (some L.blk) := by obtain ⟨_, L, a, e⟩ := h; cases e; exact ⟨L, a, rfl⟩
theorem Rp.nilm (h : Rp M .nilm c) : c = .map none := by cases h.2; rfl
theorem Rp.nilf (h : Rp M .nilf c) : c = .nilFunc := by cases h.2; rfl
theorem Rp.nili (h : Rp M .nili c) : c = .nilIface := by cases h.2; rfl
theorem Rp.iface {t : TypeId} {v : V} (h : Rp M (.iface t v) c) : ∃ x, Rp M v x ∧ c = .iface t x := by
  obtain ⟨_, x, a, b, e⟩ := h; cases e; exact ⟨x, ⟨a, b⟩, rfl⟩
theorem Rp.func {fn : Fn} {a b : V} (h : Rp M (.func fn a b) c) : ∃ x y, RepL M a.list x ∧ RepL M b.list y ∧ c = .func fn x.toArray y.toArray := by
  obtain ⟨_, x, y, p, q, r, e⟩ := h; cases e; exact ⟨x, y, RepL.of p.1 q, RepL.of p.2 r, rfl⟩
theorem Rp.agg {a : V} (h : Rp M (.agg a) c) : ∃ x, RepL M a.list x ∧ (∀ y ∈ x, scalar y = true) ∧ c = .agg x.toArray := by
  obtain ⟨_, x, p, q, r, e⟩ := h; cases e; exact ⟨x, RepL.of p q, r, rfl⟩
theorem Rp.tuple {a : V} (h : Rp M (.tuple a) c) : ∃ x, RepL M a.list x ∧ c = .tuple x.toArray := by
  obtain ⟨_, x, p, q, e⟩ := h; cases e; exact ⟨x, RepL.of p q, rfl⟩
theorem rp_bool (M : Mp) (b : Bool) : Rp M (.bool b) (.bool b) := ⟨rfl, rfl⟩
theorem rp_int (M : Mp) (k : IntKind) (n : Int) : Rp M (.int k n) (.int k n) := ⟨rfl, rfl⟩
theorem rp_str {M : Mp} {s : List Nat} (h : ∀ b ∈ s, b < 256) : Rp M (.str s) (.string (bts s)) := ⟨rfl, h, rfl⟩
theorem rp_ptr {M : Mp} {i : Pos} {L : Loc} (h : M i = some L) (o : Nat) : Rp M (.ptr i o) (.pointer (some (L.at o))) := ⟨rfl, L, h, rfl⟩
theorem rp_slice {M : Mp} {i : Pos} {L : Loc} (h : M i = some L) {o n : Nat} {k : Cap} {m : Nat} (hc : CapOk L o n k m) : Rp M (.slice i o n k) (.slice (some (L.at o)) n m) := ⟨rfl, L, m, h, hc, rfl⟩
theorem rp_undef (M : Mp) : Rp M V.undef undef := ⟨rfl, [], rfl, rfl, rfl⟩
theorem rp_agg {M : Mp} {vs : List V} {xs : List Value} (h : RepL M vs xs) (hs : ∀ y ∈ xs, scalar y = true) : Rp M (.agg (V.ofList vs)) (.agg xs.toArray) :=
  ⟨rfl, xs, V.isRow_ofList vs, h.to, hs, rfl⟩
theorem rp_tuple {M : Mp} {vs : List V} {xs : List Value} (h : RepL M vs xs) : Rp M (.tuple (V.ofList vs)) (.tuple xs.toArray) :=
  ⟨rfl, xs, V.isRow_ofList vs, h.to, rfl⟩
end

def asPtr (v : V) (k : Pos → Nat → R α) : R α := match v with | .ptr i o => k i o | _ => .bad
def asInt (v : V) (k : IntKind → Int → R α) : R α := match v with | .int a n => k a n | _ => .bad
def asNat (v : V) (k : Nat → R α) : R α := match v with | .int _ (.ofNat n) => k n | _ => .bad
def asBool (v : V) (k : Bool → R α) : R α := match v with | .bool b => k b | _ => .bad
def hCells (h : Hp) (i : Pos) (k : Bool → List V → R α) : R α := match h.get i with | some o => (match o with | .cells w cs => k w cs | .bytes cs => k false cs | _ => .bad) | none => .bad

section
variable {r : α} {h' : Hp}
theorem asPtr_ok {v : V} {k : Pos → Nat → R α} (e : asPtr v k = .ok r h') : ∃ i o, v = .ptr i o ∧ k i o = .ok r h' := by
  unfold asPtr at e; split at e
  · exact ⟨_, _, rfl, e⟩
  · cases e
theorem asInt_ok {v : V} {k : IntKind → Int → R α} (e : asInt v k = .ok r h') : ∃ i o, v = .int i o ∧ k i o = .ok r h' := by
  unfold asInt at e; split at e
  · exact ⟨_, _, rfl, e⟩
  · cases e
theorem asNat_ok {v : V} {k : Nat → R α} (e : asNat v k = .ok r h') : ∃ i o, v = .int i (.ofNat o) ∧ k o = .ok r h' := by
  unfold asNat at e; split at e
  · exact ⟨_, _, rfl, e⟩
  · cases e
theorem asBool_ok {v : V} {k : Bool → R α} (e : asBool v k = .ok r h') : ∃ b, v = .bool b ∧ k b = .ok r h' := by
  unfold asBool at e; split at e
  · exact ⟨_, rfl, e⟩
  · cases e
theorem hCells_ok {h : Hp} {i : Pos} {k : Bool → List V → R α} (e : hCells h i k = .ok r h') : ∃ w cs, (h.get i).bind Ob.row = some (w, cs) ∧ k w cs = .ok r h' := by
  unfold hCells at e; split at e
  · rename_i o ho
    split at e
    · exact ⟨_, _, by rw [ho]; rfl, e⟩
    · exact ⟨_, _, by rw [ho]; rfl, e⟩
    · cases e
  · cases e
end

/-- An operation of the model does what the machine says. -/
def Good (P : Program) (G : Nat) (M : Mp) (h : Hp) (w : World) (s : Sem Value) (r : V) (h' : Hp) : Prop :=
  ∃ c w' M', s.run P w = .ok c w' ∧ Rp M' r c ∧ Rel G M' h' w' ∧ Ext M h w M' h' w'

section
variable {P : Program} {G : Nat} {M : Mp} {h h' : Hp} {w : World} {r : V}
theorem Good.same (hr : Rel G M h w) {s : Sem Value} {c : Value} (e : s.run P w = .ok c w) (hc : Rp M r c) : Good P G M h w s r h :=
  ⟨c, w, M, e, hc, hr, .refl hr⟩

/-! ### Memory -/
def oLoad1 (a : V) (h : Hp) : R V := asPtr a fun i o => hCells h i fun _ cs => match nthV o cs with | some v => .ok v h | none => .bad
def oLoadN (n : Nat) (a : V) (h : Hp) : R V := asPtr a fun i o => hCells h i fun _ cs => match takeV n (dropV o cs) with | some l => .ok (.agg (V.ofList l)) h | none => .bad
def notTuple : V → Bool
  | .tuple _ => false
  | _ => true
def oStore (sz : Nat) (a x : V) (h : Hp) : R V := asPtr a fun i o => hCells h i fun wr cs =>
  match wr, notTuple x, Nat.beq x.cells.length sz with
  | true, true, true => (match putV o x.cells cs with | some cs' => .ok V.undef (h.put i (some (.cells true cs'))) | none => .bad)
  | _, _, _ => .bad
def oNew (z : List V) (h : Hp) : R V := .ok (.ptr h.next 0) (h.new (.cells true z))
def oBox (x : V) (h : Hp) : R V := match notTuple x with | true => .ok (.ptr h.next 0) (h.new (.cells true x.cells)) | false => .bad

theorem run_isAgg {t : TypeId} {d : TypeDesc} (ht : P.underlying t = some d) : (isAgg t).run P w = .ok (match d with | .struct _ | .array _ _ => true | _ => false) w := by
  simp only [isAgg, Sem.run_bind, run_underlying ht, Result.andThen_ok]
  cases d <;> rfl

theorem load1_ok {t : TypeId} {d : TypeDesc} (ht : P.underlying t = some d) (hd : (match d with | .struct _ | .array _ _ => true | _ => false) = false) {a : V} {c : Value} (hr : Rel G M h w) (ha : Rp M a c) (e : oLoad1 a h = .ok r h') :
    Good P G M h w (Instr.loadAt t c) r h' := by
  obtain ⟨i, o, rfl, e⟩ := asPtr_ok e
  obtain ⟨wr, cs, hi, e⟩ := hCells_ok e
  obtain ⟨L, hL, rfl⟩ := ha.ptr
  rw [nthV_eq] at e
  split at e
  · rename_i v hv
    cases e
    obtain ⟨x, hx, hrx, _⟩ := hr.cell hi hL hv
    refine Good.same hr (c := x) ?_ hrx
    simp only [Instr.loadAt, Instr.sureAddr, loadVar, Sem.run_bind, Sem.run_pure, Result.andThen_ok, run_isAgg ht, hd]
    simp [run_load, hx]
  · cases e

theorem loadN_ok {t : TypeId} {d : TypeDesc} {ti : TypeInfo} (ht : P.underlying t = some d) (hd : (match d with | .struct _ | .array _ _ => true | _ => false) = true) (hti : P.info? t = some ti) {a : V} {c : Value}
    (hr : Rel G M h w) (ha : Rp M a c) (e : oLoadN ti.size a h = .ok r h') : Good P G M h w (Instr.loadAt t c) r h' := by
  obtain ⟨i, o, rfl, e⟩ := asPtr_ok e
  obtain ⟨wr, cs, hi, e⟩ := hCells_ok e
  obtain ⟨L, hL, rfl⟩ := ha.ptr
  split at e
  · rename_i l hl
    cases e
    obtain ⟨xs, hx, hxl, hxs, hxc⟩ := hr.cells hi hL hl
    refine Good.same hr (c := .agg xs.toArray) ?_ (rp_agg hx hxs)
    have := run_loadCells_list (P := P) w (L.at o) xs hxc
    rw [hxl] at this
    simp only [Instr.loadAt, Instr.sureAddr, loadVar, Sem.run_bind, Sem.run_pure, Result.andThen_ok, run_isAgg ht, hd]
    simp [sizeOf, typeInfo, hti, this]
  · cases e

theorem cells_scalar {x : V} {c : Value} (hx : Rp M x c) (hn : notTuple x = true) : ∀ y ∈ c.cells.toList, scalar y = true := by
  intro y hy
  cases x with
  | agg a =>
    obtain ⟨xs, _, hs, rfl⟩ := hx.agg
    exact hs y (by simpa [Value.cells] using hy)
  | tuple a => cases hn
  | nil => cases hx.1
  | cons a b => cases hx.1
  | bool b => cases hx.bool; simp [Value.cells] at hy; subst hy; rfl
  | int k n => cases hx.int; simp [Value.cells] at hy; subst hy; rfl
  | str s => cases hx.str.2; simp [Value.cells] at hy; subst hy; rfl
  | ptr i o => obtain ⟨L, _, rfl⟩ := hx.ptr; simp [Value.cells] at hy; subst hy; rfl
  | nilp => cases hx.nilp; simp [Value.cells] at hy; subst hy; rfl
  | slice i o n k => obtain ⟨L, m, _, _, rfl⟩ := hx.slice; simp [Value.cells] at hy; subst hy; rfl
  | nils => cases hx.nils; simp [Value.cells] at hy; subst hy; rfl
  | emp => obtain ⟨a, k, rfl⟩ := hx.emp; simp [Value.cells] at hy; subst hy; rfl
  | map i => obtain ⟨L, _, rfl⟩ := hx.map; simp [Value.cells] at hy; subst hy; rfl
  | nilm => cases hx.nilm; simp [Value.cells] at hy; subst hy; rfl
  | func f a b => obtain ⟨_, _, _, _, rfl⟩ := hx.func; simp [Value.cells] at hy; subst hy; rfl
  | nilf => cases hx.nilf; simp [Value.cells] at hy; subst hy; rfl
  | iface t v => obtain ⟨_, _, rfl⟩ := hx.iface; simp [Value.cells] at hy; subst hy; rfl
  | nili => cases hx.nili; simp [Value.cells] at hy; subst hy; rfl

theorem store_ok {t : TypeId} {ti : TypeInfo} (hti : P.info? t = some ti) {a x : V} {c d : Value} (hr : Rel G M h w) (ha : Rp M a c) (hx : Rp M x d) (e : oStore ti.size a x h = .ok r h') :
    ∃ w', (Instr.storeAt t c d).run P w = .ok () w' ∧ r = V.undef ∧ Rel G M h' w' ∧ Ext M h w M h' w' := by
  obtain ⟨i, o, rfl, e⟩ := asPtr_ok e
  obtain ⟨wr, cs, hi, e⟩ := hCells_ok e
  obtain ⟨L, hL, rfl⟩ := ha.ptr
  split at e
  · rename_i hnt hlen
    split at e
    · rename_i cs' hp
      cases e
      have hxc := hx.cells
      obtain ⟨w', h1, h2, h3⟩ := hr.store (P := P) (row_true hi) hL hp hxc (cells_scalar hx hnt)
      refine ⟨w', ?_, rfl, h2, h3⟩
      have hsz : d.cells.size = ti.size := by
        have := hxc.length
        have h4 := Nat.eq_of_beq_eq_true hlen
        simp at this; omega
      simp [Instr.storeAt, Instr.sureAddr, storeVar, sizeOf, typeInfo, hti, hsz, h1]
    · cases e
  · cases e

/-- A new row of cells. -/
theorem Rel.row (hr : Rel G M h w) (vs : List V) (c : Array Value) (el : TypeId) (fr : Nat × Nat) (hx : RepL M vs (c.toList.take vs.length)) (hs : ∀ y ∈ c.toList, scalar y = true)
    (hf : ∀ k, k ≤ c.size → ¬ (fr.1 ≤ k ∧ k < fr.2)) {w' : World} (hw : w'.heap = w.heap.push (.cells c el fr)) (hos : w'.os = w.os) (ht : w'.tape = w.tape) (hout : w'.output = w.output) :
    Rel G (M.add h.next ⟨w.heap.size, 0, c.size⟩) (h.new (.cells true vs)) w' ∧ Ext M h w (M.add h.next ⟨w.heap.size, 0, c.size⟩) (h.new (.cells true vs)) w' := by
  have hcell : ∀ (N : Mp), M.le N → ∀ (k : Nat) (v : V), vs[k]? = some v → ∃ x, c[0 + k]? = some x ∧ Rp N v x ∧ scalar x = true := by
    intro N hle k v hk
    obtain ⟨x, hx', hrx⟩ := hx.get hk
    rw [List.getElem?_take] at hx'
    split at hx'
    · exact ⟨x, by simpa using hx', hrx.mono hle, hs x (List.mem_of_getElem? hx')⟩
    · cases hx'
  have := hr.new (.cells true vs) (.cells c el fr) c.size hw hos ht hout (fun N hle => ⟨c, el, fr, by rw [hw]; simp, rfl, hcell N hle, fun _ k _ hk => hf k hk⟩)
  exact ⟨this.1, this.2.1⟩

theorem box_ok {t : TypeId} {x : V} {c : Value} (hr : Rel G M h w) (hx : Rp M x c) (e : oBox x h = .ok r h') : Good P G M h w (Instr.box t c) r h' := by
  unfold oBox at e
  split at e
  · rename_i hn
    cases e
    have hc := hx.cells
    have hl : x.cells.length = c.cells.size := by have := hc.length; simpa using this.symm
    have := hr.row (w' := w.alloc (.cells c.cells t)) x.cells c.cells t (0, 0) (by rw [hl, ← Array.length_toList, List.take_length]; exact hc) (cells_scalar hx hn) (by simp) rfl rfl rfl rfl
    refine ⟨.pointer (some ⟨w.heap.size, 0, none⟩), _, _, ?_, ?_, this.1, this.2⟩
    · simp [Instr.box, newVar, newRow]
    · exact rp_ptr (M.add_self _ _) 0
  · cases e
end
end
end Go.Vm

/- The value machine, part 6: arithmetic, comparisons. -/
namespace Go.Vm
noncomputable section

def kix : IntKind → Nat
  | .i8 => 0 | .i16 => 1 | .i32 => 2 | .i64 => 3 | .u8 => 4 | .u16 => 5 | .u32 => 6 | .u64 => 7
theorem kix_inj {a b : IntKind} (h : Nat.beq (kix a) (kix b) = true) : a = b := by
  have := Nat.eq_of_beq_eq_true h
  cases a <;> cases b <;> first | rfl | (simp [kix] at this)

def forceNat {α : Type} (m : Nat) (k : Nat → α) : α := Nat.rec (motive := fun _ => α) (k 0) (fun n _ => k (Nat.succ n)) m
theorem forceNat_eq {α : Type} (m : Nat) (k : Nat → α) : forceNat m k = k m := by cases m <;> rfl

def okInt (k : IntKind) (n : Int) (h : Hp) : R V := match n with
  | .ofNat m => forceNat m fun m => .ok (.int k (.ofNat m)) h
  | .negSucc m => forceNat m fun m => .ok (.int k (.negSucc m)) h
theorem okInt_eq (k : IntKind) (n : Int) (h : Hp) : okInt k n h = .ok (.int k n) h := by
  cases n <;> simp [okInt, forceNat_eq]
def okBool (b : Bool) (h : Hp) : R V := match b with
  | true => .ok (.bool true) h
  | false => .ok (.bool false) h
theorem okBool_eq (b : Bool) (h : Hp) : okBool b h = .ok (.bool b) h := by cases b <;> rfl

def wrap64 (n : Int) : Int := match n with
  | .ofNat m => (match Nat.blt m 9223372036854775808 with | true => .ofNat m | false => IntKind.i64.wrap (.ofNat m))
  | .negSucc m => (match Nat.blt m 9223372036854775808 with | true => .negSucc m | false => IntKind.i64.wrap (.negSucc m))
def wrapK (k : IntKind) (n : Int) : Int := match k with
  | .i64 => wrap64 n
  | k => k.wrap n

theorem wrap_in {n : Int} (h1 : -9223372036854775808 ≤ n) (h2 : n < 9223372036854775808) : IntKind.i64.wrap n = n := by
  exact IntWalk.i64_in n ⟨h1, by omega⟩
theorem wrap64_eq (n : Int) : wrap64 n = IntKind.i64.wrap n := by
  cases n with
  | ofNat m =>
    simp only [wrap64]
    split
    · rename_i hb
      have : m < 9223372036854775808 := by simpa [Nat.blt_eq] using hb
      rw [wrap_in] <;> simp <;> omega
    · rfl
  | negSucc m =>
    simp only [wrap64]
    split
    · rename_i hb
      have : m < 9223372036854775808 := by simpa [Nat.blt_eq] using hb
      rw [wrap_in] <;> omega
    · rfl
theorem wrapK_eq (k : IntKind) (n : Int) : wrapK k n = k.wrap n := by
  cases k <;> simp [wrapK, wrap64_eq]

def intEq : Int → Int → Bool
  | .ofNat a, .ofNat b => Nat.beq a b
  | .negSucc a, .negSucc b => Nat.beq a b
  | _, _ => false
def intLe : Int → Int → Bool
  | .ofNat a, .ofNat b => Nat.ble a b
  | .negSucc a, .negSucc b => Nat.ble b a
  | .negSucc _, .ofNat _ => true
  | .ofNat _, .negSucc _ => false
theorem intEq_eq (a b : Int) : intEq a b = (a == b) := by
  cases a <;> cases b <;> simp only [intEq]
  · rw [Bool.eq_iff_iff]; simp [Nat.beq_eq]; omega
  · rfl
  · rfl
  · rw [Bool.eq_iff_iff]; simp [Nat.beq_eq]
theorem intLe_eq (a b : Int) : intLe a b = decide (a ≤ b) := by
  cases a <;> cases b <;> simp only [intLe] <;> rw [Bool.eq_iff_iff] <;> simp [Nat.ble_eq] <;> omega

/-- a string's bytes against another's -/
def strEq : List Nat → List Nat → Bool
  | [], [] => true
  | a :: x, b :: y => (match Nat.beq a b with | true => strEq x y | false => false)
  | _, _ => false
def strLt : List Nat → List Nat → Bool
  | _, [] => false
  | [], _ :: _ => true
  | a :: x, b :: y => (match Nat.blt a b with | true => true | false => (match Nat.beq a b with | true => strLt x y | false => false))

theorem u8_ofNat_inj {a b : Nat} (ha : a < 256) (hb : b < 256) (h : UInt8.ofNat a = UInt8.ofNat b) : a = b := by
  have := congrArg UInt8.toNat h
  simp at this
  omega
theorem u8_toNat {a : Nat} (ha : a < 256) : (UInt8.ofNat a).toNat = a := by simp; omega
theorem bts_toList (s : List Nat) : (bts s).toList = s.map UInt8.ofNat := by
  simp [bts]
theorem bts_size (s : List Nat) : (bts s).size = s.length := by simp [bts, ByteArray.size]

theorem strEq_eq : ∀ {s t : List Nat}, (∀ b ∈ s, b < 256) → (∀ b ∈ t, b < 256) → strEq s t = (s.map UInt8.ofNat == t.map UInt8.ofNat)
  | [], [], _, _ => rfl
  | [], b :: y, _, _ => rfl
  | a :: x, [], _, _ => rfl
  | a :: x, b :: y, hs, ht => by
    have ih := strEq_eq (s := x) (t := y) (fun c hc => hs c (by simp [hc])) (fun c hc => ht c (by simp [hc]))
    simp only [strEq, List.map_cons]
    have ha := hs a (by simp)
    have hb := ht b (by simp)
    show _ = (UInt8.ofNat a == UInt8.ofNat b && (x.map UInt8.ofNat == y.map UInt8.ofNat))
    cases hab : Nat.beq a b with
    | true => rw [Nat.eq_of_beq_eq_true hab]; simp [ih]
    | false =>
      have : ¬ UInt8.ofNat a = UInt8.ofNat b := fun e => Nat.ne_of_beq_eq_false hab (u8_ofNat_inj ha hb e)
      simp [this]
theorem strLt_eq : ∀ {s t : List Nat}, (∀ b ∈ s, b < 256) → (∀ b ∈ t, b < 256) → strLt s t = Op.bytesLess (s.map UInt8.ofNat) (t.map UInt8.ofNat)
  | [], [], _, _ => rfl
  | [], b :: y, _, _ => rfl
  | a :: x, [], _, _ => rfl
  | a :: x, b :: y, hs, ht => by
    have ih := strLt_eq (s := x) (t := y) (fun c hc => hs c (by simp [hc])) (fun c hc => ht c (by simp [hc]))
    have ha := hs a (by simp)
    have hb := ht b (by simp)
    simp only [strLt, List.map_cons, Op.bytesLess, ← ih]
    have hlt : decide (UInt8.ofNat a < UInt8.ofNat b) = Nat.blt a b := by
      rw [Bool.eq_iff_iff]; simp [UInt8.lt_iff_toNat_lt, Nat.blt_eq]; omega
    have heq : (UInt8.ofNat a == UInt8.ofNat b) = Nat.beq a b := by
      rw [Bool.eq_iff_iff]; simp only [beq_iff_eq, Nat.beq_eq]
      exact ⟨u8_ofNat_inj ha hb, fun e => by rw [e]⟩
    rw [hlt, heq]
    cases Nat.blt a b <;> cases Nat.beq a b <;> simp

/-- What equality means at a type, where it is not by numbers and texts. -/
inductive EqC where
  | none
  | bool
  | ptr (n : Nat)
  | slice
  | map
  | func
  | iface (lit : Bool)
  deriving Inhabited

def sameV (c : EqC) (x y : V) (k : Bool → R V) : R V :=
  match c with
  | .bool => (match x, y with | .bool a, .bool b => k (match a, b with | true, true => true | false, false => true | _, _ => false) | _, _ => .bad)
  | .ptr n => (match x with
    | .nilp => (match y with | .nilp => k true | .ptr _ _ => k false | _ => .bad)
    | .ptr i o => (match y with | .nilp => k false | .ptr j p => (match Nat.beq n 0, i.eq j with | false, true => k (Nat.beq o p) | _, _ => .bad) | _ => .bad)
    | _ => .bad)
  | .slice => (match x, y with
    | .nils, .nils => k true | .nils, .slice _ _ _ _ => k false | .nils, .emp => k false | .slice _ _ _ _, .nils => k false | .emp, .nils => k false | _, _ => .bad)
  | .map => (match x, y with | .nilm, .nilm => k true | .nilm, .map _ => k false | .map _, .nilm => k false | _, _ => .bad)
  | .func => (match x, y with | .nilf, .nilf => k true | .nilf, .func _ _ _ => k false | .func _ _ _, .nilf => k false | _, _ => .bad)
  | .iface l => (match x, y with
    | .nili, .nili => (match l with | true => k true | false => .bad)
    | .nili, .iface _ _ => k false | .iface _ _, .nili => k false
    | .iface t _, .iface u _ => (match Nat.beq t u with | false => k false | true => .bad)
    | _, _ => .bad)
  | .none => .bad

def intOp (op : BinOp) (k : IntKind) (a b : Int) (h : Hp) : R V :=
  match op with
  | .add => okInt k (wrapK k (Int.add a b)) h
  | .sub => okInt k (wrapK k (Int.sub a b)) h
  | .mul => okInt k (wrapK k (Int.mul a b)) h
  | .quo => (match intEq b 0 with | true => .bad | false => okInt k (wrapK k (Int.tdiv a b)) h)
  | .rem => (match intEq b 0 with | true => .bad | false => okInt k (Int.tmod a b) h)
  | .and => okInt k (k.wrap (BitVec.ofInt k.bits a &&& BitVec.ofInt k.bits b).toNat) h
  | .or => okInt k (k.wrap (BitVec.ofInt k.bits a ||| BitVec.ofInt k.bits b).toNat) h
  | .xor => okInt k (k.wrap (BitVec.ofInt k.bits a ^^^ BitVec.ofInt k.bits b).toNat) h
  | .andNot => okInt k (k.wrap (BitVec.ofInt k.bits a &&& ~~~ BitVec.ofInt k.bits b).toNat) h
  | .eql => okBool (intEq a b) h
  | .neq => okBool (not (intEq a b)) h
  | .lss => okBool (not (intLe b a)) h
  | .leq => okBool (intLe a b) h
  | .gtr => okBool (not (intLe a b)) h
  | .geq => okBool (intLe b a) h
  | _ => .bad
def shiftOp (op : BinOp) (k : IntKind) (a b : Int) (h : Hp) : R V :=
  match b with
  | .ofNat n => (match op with
    | .shl => okInt k (k.wrap (a * 2 ^ (min n k.bits))) h
    | .shr => okInt k (a.fdiv (2 ^ (min n k.bits))) h
    | _ => .bad)
  | _ => .bad
def strOp (op : BinOp) (s t : List Nat) (h : Hp) : R V :=
  match op with
  | .add => (match Nat.blt (s.length + t.length) 4611686018427387904 with | true => .ok (.str (s ++ t)) h | false => .bad)
  | .eql => okBool (strEq s t) h
  | .neq => okBool (not (strEq s t)) h
  | .lss => okBool (strLt s t) h
  | .leq => okBool (or (strLt s t) (strEq s t)) h
  | .gtr => okBool (not (or (strLt s t) (strEq s t))) h
  | .geq => okBool (not (strLt s t)) h
  | _ => .bad
def isShift : BinOp → Bool
  | .shl | .shr => true
  | _ => false
def oBin (op : BinOp) (c : EqC) (x y : V) (h : Hp) : R V :=
  match x with
  | .int k a => (match y with
    | .int k' b => (match isShift op with
      | true => shiftOp op k a b h
      | false => (match Nat.beq (kix k) (kix k') with | true => intOp op k a b h | false => .bad))
    | _ => .bad)
  | .str s => (match y with | .str t => strOp op s t h | _ => .bad)
  | x => (match op with
    | .eql => sameV c x y fun b => okBool b h
    | .neq => sameV c x y fun b => okBool (not b) h
    | _ => .bad)

def eqClass (d : TypeDesc) (sz : Nat) (lit : Bool) : EqC := match d with
  | .bool => .bool
  | .pointer _ => .ptr sz
  | .slice _ => .slice
  | .map _ _ => .map
  | .func _ _ _ => .func
  | .interface ms => .iface (lit || ms.isEmpty)
  | _ => .none
end
end Go.Vm

/- The value machine, part 7: arithmetic and comparisons are the model's. -/
namespace Go.Vm
noncomputable section
variable {P : Program} {G : Nat} {M : Mp} {h h' : Hp} {w : World} {r : V}

def isC : Operand → Bool
  | .const _ => true
  | _ => false

theorem run_eqGuard_plain {op : BinOp} {t : TypeId} {xo yo : Operand} {a b : Value} (h1 : a ≠ .nilIface ∨ b ≠ .nilIface) (h2 : ∀ c, a ≠ .agg c) : (eqGuard op t xo yo a b).run P w = .ok () w := by
  unfold eqGuard
  cases op <;> first
    | rfl
    | (cases a <;> first
        | exact absurd rfl (h2 _)
        | rfl
        | (cases b <;> first | rfl | exact absurd h1 (by simp)))

theorem intOp_ok {op : BinOp} (hop : isShift op = false) {t : TypeId} {k : IntKind} {a b : Int} (hr : Rel G M h w) (e : intOp op k a b h = .ok r h') :
    Good P G M h w (binOp op t (.int k a) (.int k b)) r h' := by
  have fin : ∀ (v : Int) (s : Sem Value), s.run P w = .ok (.int k v) w → okInt k v h = .ok r h' → Good P G M h w s r h' := by
    intro v s hs e
    rw [okInt_eq] at e; cases e
    exact .same hr hs (rp_int M k v)
  have finb : ∀ (v : Bool) (s : Sem Value), s.run P w = .ok (.bool v) w → okBool v h = .ok r h' → Good P G M h w s r h' := by
    intro v s hs e
    rw [okBool_eq] at e; cases e
    exact .same hr hs (rp_bool M v)
  have nlt : ∀ x y : Int, (!intLe y x) = decide (x < y) := by
    intro x y; rw [intLe_eq, Bool.eq_iff_iff]; simp
  cases op <;> simp only [isShift] at hop <;> simp only [intOp, wrapK_eq, intEq_eq, nlt] at e <;> (try simp only [intLe_eq] at e)
  case add => exact fin _ _ (by simp [binOp, Op.intArith]) e
  case sub => exact fin _ _ (by simp [binOp, Op.intArith]; rfl) e
  case mul => exact fin _ _ (by simp [binOp, Op.intArith]) e
  case quo =>
    split at e
    · cases e
    · rename_i hb
      have hb' : b ≠ 0 := by simpa using hb
      exact fin _ _ (by simp [binOp, Op.intDiv, hb']) e
  case rem =>
    split at e
    · cases e
    · rename_i hb
      have hb' : b ≠ 0 := by simpa using hb
      exact fin _ _ (by simp [binOp, Op.intDiv, hb']) e
  case and => exact fin _ _ (by simp [binOp, Op.intBits]) e
  case or => exact fin _ _ (by simp [binOp, Op.intBits]) e
  case xor => exact fin _ _ (by simp [binOp, Op.intBits]) e
  case andNot => exact fin _ _ (by simp [binOp, Op.intBits]) e
  case eql => exact finb _ _ (by simp [binOp, Op.intCmp]) e
  case neq => exact finb _ _ (by simp [binOp, Op.intCmp, bne]) e
  case lss => exact finb _ _ (by simp [binOp, Op.intCmp]) e
  case leq => exact finb _ _ (by simp [binOp, Op.intCmp]) e
  case gtr => exact finb _ _ (by simp [binOp, Op.intCmp]) e
  case geq => exact finb _ _ (by simp [binOp, Op.intCmp]) e
  all_goals cases e

theorem shiftOp_ok {op : BinOp} (hop : isShift op = true) {t : TypeId} {k k' : IntKind} {a b : Int} (hr : Rel G M h w) (e : shiftOp op k a b h = .ok r h') :
    Good P G M h w (binOp op t (.int k a) (.int k' b)) r h' := by
  cases b with
  | negSucc n => cases e
  | ofNat n =>
    simp only [shiftOp] at e
    have hn : ¬ Int.ofNat n < 0 := by simp
    cases op <;> simp only [isShift, Bool.false_eq_true] at hop <;> simp only [okInt_eq] at e <;> cases e
    · exact .same hr (by simp only [binOp, Op.shift, hn, if_false]; rfl) (rp_int M k _)
    · exact .same hr (by simp only [binOp, Op.shift, hn, if_false]; rfl) (rp_int M k _)

theorem bts_append (s t : List Nat) : bts s ++ bts t = bts (s ++ t) := by
  apply ByteArray.ext
  simp [bts]

theorem strOp_ok {op : BinOp} {t : TypeId} {s u : List Nat} (hs : ∀ b ∈ s, b < 256) (hu : ∀ b ∈ u, b < 256) (hr : Rel G M h w) (e : strOp op s u h = .ok r h') :
    Good P G M h w (binOp op t (.string (bts s)) (.string (bts u))) r h' := by
  have finb : ∀ (v : Bool) (s : Sem Value), s.run P w = .ok (.bool v) w → okBool v h = .ok r h' → Good P G M h w s r h' := by
    intro v s hs e
    rw [okBool_eq] at e; cases e
    exact .same hr hs (rp_bool M v)
  have e1 := strEq_eq hs hu
  have e2 := strLt_eq hs hu
  have b1 := bts_toList s
  have b2 := bts_toList u
  cases op <;> simp only [strOp, e1, e2] at e
  case add =>
    split at e
    · rename_i hl
      cases e
      have hl' : s.length + u.length < 4611686018427387904 := by simpa [Nat.blt_eq] using hl
      have hn : ¬ (((bts s).size + (bts u).size : Nat) : Int) > IntKind.i64.max := by
        rw [bts_size, bts_size]
        simp only [IntKind.max, IntKind.signed, IntKind.bits, if_true]
        omega
      refine .same hr (c := .string (bts (s ++ u))) ?_ (rp_str (fun b hb => ?_))
      · simp only [binOp, Op.stringOp, hn, if_false, bts_append]
        rfl
      · rcases List.mem_append.1 hb with hb | hb
        · exact hs b hb
        · exact hu b hb
    · cases e
  case eql => exact finb _ _ (by simp only [binOp, Op.stringOp, b1, b2]; rfl) e
  case neq => exact finb _ _ (by simp only [binOp, Op.stringOp, b1, b2]; rfl) e
  case lss => exact finb _ _ (by simp only [binOp, Op.stringOp, b1, b2]; rfl) e
  case leq => exact finb _ _ (by simp only [binOp, Op.stringOp, b1, b2]; rfl) e
  case gtr => exact finb _ _ (by simp only [binOp, Op.stringOp, b1, b2]; rfl) e
  case geq => exact finb _ _ (by simp only [binOp, Op.stringOp, b1, b2]; rfl) e
  all_goals cases e


theorem run_eqGuard_nil {t : TypeId} {ms : Array (String × TypeId)} (hd : P.underlying t = some (.interface ms)) {op : BinOp} {xo yo : Operand}
    (hl : ((isC xo || isC yo) || ms.isEmpty) = true) : (eqGuard op t xo yo .nilIface .nilIface).run P w = .ok () w := by
  by_cases hc : (isC xo || isC yo) = true
  · unfold eqGuard
    cases xo <;> cases yo <;> first
      | (simp [isC] at hc; done)
      | (cases op <;> rfl)
  · have hm : ms.isEmpty = true := by
      cases hm : ms.isEmpty
      · rw [hm, Bool.or_false] at hl; exact absurd hl hc
      · rfl
    have hg : ∀ n, (Op.eqGuardIn (n + 1) t .nilIface .nilIface).run P w = .ok false w := fun n => by
      simp [Op.eqGuardIn, run_underlying hd, hm]
    have hg' : (Op.eqGuardIn Op.maxDepth t .nilIface .nilIface).run P w = .ok false w := by rw [show Op.maxDepth = 9999 + 1 from rfl]; exact hg 9999
    clear hg
    unfold eqGuard
    cases xo <;> cases yo <;> first
      | (exfalso; exact hc rfl)
      | (cases op <;> first | rfl | simp [hg'])
set_option maxHeartbeats 2000000 in
/-- Equality where it is neither by numbers nor by texts. -/
theorem sameV_ok {d : TypeDesc} {t : TypeId} {sz : Nat} {xo yo : Operand} (hd : P.underlying t = some d) (hsz : ∀ e, d = .pointer e → ∃ ti, P.info? e = some ti ∧ ti.size = sz)
    {x y : V} {a b : Value} (hx : Rp M x a) (hy : Rp M y b) {k : Bool → R V} (e : sameV (eqClass d sz (isC xo || isC yo)) x y k = .ok r h') :
    ∃ q, k q = .ok r h' ∧ (∀ op, (eqGuard op t xo yo a b).run P w = .ok () w) ∧ (Op.equal t a b).run P w = .ok q w ∧ (∀ c, a ≠ .agg c) ∧
      (∀ op z, (op = .eql → binOp op t a b = (do pure (.bool (← Op.equal t a b)))) ∧ (op = .neq → z = 0 → binOp op t a b = (do pure (.bool (!(← Op.equal t a b)))))) := by
  have hq : ∀ {a b : Value} {q : Bool}, (∀ n, (Op.equalIn (n + 1) t a b).run P w = .ok q w) → (Op.equal t a b).run P w = .ok q w := fun h => h 9999
  have pl : ∀ {a b : Value}, (a ≠ .nilIface ∨ b ≠ .nilIface) → (∀ c, a ≠ .agg c) → ∀ op, (eqGuard op t xo yo a b).run P w = .ok () w := fun h1 h2 op => run_eqGuard_plain h1 h2
  cases d <;> simp only [eqClass, sameV] at e
  case bool =>
    split at e
    · cases hx.bool; cases hy.bool
      rename_i p q
      refine ⟨_, e, pl (.inl (by simp)) (by simp), hq (fun n => ?_), by simp, fun op z => ⟨fun h => by subst h; rfl, fun h _ => by subst h; rfl⟩⟩
      cases p <;> cases q <;> simp [Op.equalIn, run_underlying hd]
    · cases e
  case pointer el =>
    obtain ⟨ti, hti, hts⟩ := hsz el rfl
    split at e
    · cases hx.nilp
      split at e
      · cases hy.nilp
        exact ⟨_, e, pl (.inl (by simp)) (by simp), hq (fun n => by simp [Op.equalIn, run_underlying hd]), by simp, fun op z => ⟨fun h => by subst h; rfl, fun h _ => by subst h; rfl⟩⟩
      · obtain ⟨L, hL, rfl⟩ := hy.ptr
        exact ⟨_, e, pl (.inl (by simp)) (by simp), hq (fun n => by simp [Op.equalIn, run_underlying hd]), by simp, fun op z => ⟨fun h => by subst h; rfl, fun h _ => by subst h; rfl⟩⟩
      · cases e
    · rename_i i o
      obtain ⟨L, hL, rfl⟩ := hx.ptr
      split at e
      · cases hy.nilp
        exact ⟨_, e, pl (.inl (by simp)) (by simp), hq (fun n => by simp [Op.equalIn, run_underlying hd]), by simp, fun op z => ⟨fun h => by subst h; rfl, fun h _ => by subst h; rfl⟩⟩
      · rename_i j p
        obtain ⟨K, hK, rfl⟩ := hy.ptr
        split at e
        · rename_i hz hij
          have hij' := Pos.eq_iff.1 hij
          subst hij'
          rw [hL] at hK; cases hK
          have hne : ti.size ≠ 0 := by rw [hts]; exact Nat.ne_of_beq_eq_false hz
          refine ⟨_, e, pl (.inl (by simp)) (by simp), hq (fun n => ?_), by simp, fun op z => ⟨fun h => by subst h; rfl, fun h _ => by subst h; rfl⟩⟩
          have hb : (({ block := L.blk, off := L.off + o, spot := none } : Addr) == { block := L.blk, off := L.off + p, spot := none }) = Nat.beq o p := by
            rw [Bool.eq_iff_iff]; simp [Nat.beq_eq]
          simp [Op.equalIn, run_underlying hd, sizeOf, typeInfo, hti, hne, sameAddr, Loc.at, hb]
        · cases e
      · cases e
    · cases e
  case slice el =>
    split at e
    · cases hx.nils; cases hy.nils
      exact ⟨_, e, pl (.inl (by simp)) (by simp), hq (fun n => by simp [Op.equalIn, run_underlying hd]), by simp, fun op z => ⟨fun h => by subst h; rfl, fun h _ => by subst h; rfl⟩⟩
    · cases hx.nils; obtain ⟨L, m, _, _, rfl⟩ := hy.slice
      exact ⟨_, e, pl (.inl (by simp)) (by simp), hq (fun n => by simp [Op.equalIn, run_underlying hd]), by simp, fun op z => ⟨fun h => by subst h; rfl, fun h _ => by subst h; rfl⟩⟩
    · cases hx.nils; obtain ⟨L, m, rfl⟩ := hy.emp
      exact ⟨_, e, pl (.inl (by simp)) (by simp), hq (fun n => by simp [Op.equalIn, run_underlying hd]), by simp, fun op z => ⟨fun h => by subst h; rfl, fun h _ => by subst h; rfl⟩⟩
    · cases hy.nils; obtain ⟨L, m, _, _, rfl⟩ := hx.slice
      exact ⟨_, e, pl (.inl (by simp)) (by simp), hq (fun n => by simp [Op.equalIn, run_underlying hd]), by simp, fun op z => ⟨fun h => by subst h; rfl, fun h _ => by subst h; rfl⟩⟩
    · cases hy.nils; obtain ⟨L, m, rfl⟩ := hx.emp
      exact ⟨_, e, pl (.inl (by simp)) (by simp), hq (fun n => by simp [Op.equalIn, run_underlying hd]), by simp, fun op z => ⟨fun h => by subst h; rfl, fun h _ => by subst h; rfl⟩⟩
    · cases e
  case map kt et =>
    split at e
    · cases hx.nilm; cases hy.nilm
      exact ⟨_, e, pl (.inl (by simp)) (by simp), hq (fun n => by simp [Op.equalIn, run_underlying hd]), by simp, fun op z => ⟨fun h => by subst h; rfl, fun h _ => by subst h; rfl⟩⟩
    · cases hx.nilm; obtain ⟨L, _, rfl⟩ := hy.map
      exact ⟨_, e, pl (.inl (by simp)) (by simp), hq (fun n => by simp [Op.equalIn, run_underlying hd]), by simp, fun op z => ⟨fun h => by subst h; rfl, fun h _ => by subst h; rfl⟩⟩
    · cases hy.nilm; obtain ⟨L, _, rfl⟩ := hx.map
      exact ⟨_, e, pl (.inl (by simp)) (by simp), hq (fun n => by simp [Op.equalIn, run_underlying hd]), by simp, fun op z => ⟨fun h => by subst h; rfl, fun h _ => by subst h; rfl⟩⟩
    · cases e
  case func ps rs v =>
    split at e
    · cases hx.nilf; cases hy.nilf
      exact ⟨_, e, pl (.inl (by simp)) (by simp), hq (fun n => by simp [Op.equalIn, run_underlying hd]), by simp, fun op z => ⟨fun h => by subst h; rfl, fun h _ => by subst h; rfl⟩⟩
    · cases hx.nilf; obtain ⟨_, _, _, _, rfl⟩ := hy.func
      exact ⟨_, e, pl (.inl (by simp)) (by simp), hq (fun n => by simp [Op.equalIn, run_underlying hd]), by simp, fun op z => ⟨fun h => by subst h; rfl, fun h _ => by subst h; rfl⟩⟩
    · cases hy.nilf; obtain ⟨_, _, _, _, rfl⟩ := hx.func
      exact ⟨_, e, pl (.inl (by simp)) (by simp), hq (fun n => by simp [Op.equalIn, run_underlying hd]), by simp, fun op z => ⟨fun h => by subst h; rfl, fun h _ => by subst h; rfl⟩⟩
    · cases e
  case interface ms =>
    split at e
    · cases hx.nili; cases hy.nili
      split at e
      · rename_i hl
        refine ⟨_, e, fun op => ?_, hq (fun n => by simp [Op.equalIn, run_underlying hd]), by simp, fun op z => ⟨fun h => by subst h; rfl, fun h _ => by subst h; rfl⟩⟩
        exact run_eqGuard_nil hd hl
      · cases e
    · cases hx.nili; obtain ⟨_, _, rfl⟩ := hy.iface
      exact ⟨_, e, pl (.inr (by simp)) (by simp), hq (fun n => by simp [Op.equalIn, run_underlying hd]), by simp, fun op z => ⟨fun h => by subst h; rfl, fun h _ => by subst h; rfl⟩⟩
    · cases hy.nili; obtain ⟨_, _, rfl⟩ := hx.iface
      exact ⟨_, e, pl (.inl (by simp)) (by simp), hq (fun n => by simp [Op.equalIn, run_underlying hd]), by simp, fun op z => ⟨fun h => by subst h; rfl, fun h _ => by subst h; rfl⟩⟩
    · obtain ⟨_, _, rfl⟩ := hx.iface; obtain ⟨_, _, rfl⟩ := hy.iface
      split at e
      · rename_i htu
        have : ¬ _ = _ := Nat.ne_of_beq_eq_false htu
        exact ⟨_, e, pl (.inl (by simp)) (by simp), hq (fun n => by simp [Op.equalIn, run_underlying hd, this]), by simp, fun op z => ⟨fun h => by subst h; rfl, fun h _ => by subst h; rfl⟩⟩
      · cases e
    · cases e
  all_goals cases e

theorem bin_ok {op : BinOp} {t : TypeId} {d : TypeDesc} {sz : Nat} {xo yo : Operand} (hd : P.underlying t = some d) (hsz : ∀ e, d = .pointer e → ∃ ti, P.info? e = some ti ∧ ti.size = sz)
    {x y : V} {a b : Value} (hr : Rel G M h w) (hx : Rp M x a) (hy : Rp M y b) (e : oBin op (eqClass d sz (isC xo || isC yo)) x y h = .ok r h') :
    Good P G M h w (do eqGuard op t xo yo a b; binOp op t a b) r h' := by
  have seqd : ∀ {s : Sem Value}, (eqGuard op t xo yo a b).run P w = .ok () w → Good P G M h w s r h' → Good P G M h w (do eqGuard op t xo yo a b; s) r h' := by
    rintro s hg ⟨c, w', M', h1, h2⟩
    exact ⟨c, w', M', by simp [hg, h1], h2⟩
  unfold oBin at e
  split at e
  · cases hx.int
    split at e
    · cases hy.int
      refine seqd (run_eqGuard_plain (.inl (by simp)) (by simp)) ?_
      split at e
      · rename_i hs; exact shiftOp_ok hs hr e
      · rename_i hs
        split at e
        · rename_i hk
          cases kix_inj hk
          exact intOp_ok hs hr e
        · cases e
    · cases e
  · cases hx.str.2
    split at e
    · cases hy.str.2
      refine seqd (run_eqGuard_plain (.inl (by simp)) (by simp)) ?_
      exact strOp_ok hx.str.1 hy.str.1 hr e
    · cases e
  · split at e
    · obtain ⟨q, e, hg, he, _, hb⟩ := sameV_ok (w := w) hd hsz hx hy e
      rw [okBool_eq] at e; cases e
      refine seqd (hg _) (.same hr ?_ (rp_bool M q))
      rw [(hb .eql 0).1 rfl]
      simp [he]
    · obtain ⟨q, e, hg, he, _, hb⟩ := sameV_ok (w := w) hd hsz hx hy e
      rw [okBool_eq] at e; cases e
      refine seqd (hg _) (.same hr ?_ (rp_bool M _))
      rw [(hb .neq 0).2 rfl rfl]
      simp [he]
    · cases e
end
end Go.Vm

/- The value machine, part 8: choices, parts, addresses, slices. -/
namespace Go.Vm
noncomputable section
variable {P : Program} {G : Nat} {M : Mp} {h h' : Hp} {w : World} {r : V}

def oPick (c a b : V) (h : Hp) : R V := asBool c fun q => match q with | true => .ok a h | false => .ok b h
def oNilCheck (x : V) (h : Hp) : R V := match x with
  | .nilp | .nili | .nilf => .bad
  | .func fn a b => (match fn with | .method _ => .bad | _ => .ok (.func fn a b) h)
  | x => .ok x h
/-- The n-th of a row. -/
def nthC (n : Nat) (l : V) : Option V :=
  Nat.rec (motive := fun _ => V → Option V) (fun l => match l with | .cons a _ => some a | _ => none) (fun _ ih l => match l with | .cons _ t => ih t | _ => none) n l
theorem nthC_eq (n : Nat) : ∀ l : V, nthC n l = l.list[n]? := by
  induction n with
  | zero => intro l; cases l <;> rfl
  | succ n ih => intro l; cases l <;> first | exact ih _ | rfl
def oExtract (n : Nat) (x : V) (h : Hp) : R V := match x with
  | .tuple l => (match nthC n l with | some v => .ok v h | none => .bad)
  | _ => .bad
def oUn (op : UnOp) (x : V) (h : Hp) : R V := match op with
  | .neg => asInt x fun k n => okInt k (wrapK k (Int.sub 0 n)) h
  | .xor => asInt x fun k n => okInt k (k.wrap (BitVec.ofInt k.bits (if k.signed then -1 else k.max) ^^^ BitVec.ofInt k.bits n).toNat) h
  | .not => asBool x fun b => okBool (not b) h
  | .plus => .bad
def oConvInt (k : IntKind) (x : V) (h : Hp) : R V := asInt x fun _ n => okInt k (wrapK k n) h
def oConvStr (x : V) (h : Hp) : R V := match x with | .str s => .ok (.str s) h | _ => .bad
def oIface (t : TypeId) (x : V) (h : Hp) : R V := .ok (.iface t x) h
def oFunc (fn : Fn) (f c : List V) (h : Hp) : R V := .ok (.func fn (V.ofList f) (V.ofList c)) h
def oFieldAddr (off : Nat) (x : V) (h : Hp) : R V := asPtr x fun i o => forceNat (o + off) fun q => .ok (.ptr i q) h
def oIdxS (sz : Nat) (x i : V) (h : Hp) : R V := asNat i fun k => match x with
  | .slice i o n _ => (match Nat.blt k n with | true => forceNat (o + k * sz) fun q => .ok (.ptr i q) h | false => .bad)
  | _ => .bad
def oIdxA (len sz : Nat) (x i : V) (h : Hp) : R V := asNat i fun k => asPtr x fun i o =>
  match Nat.blt k len with | true => forceNat (o + k * sz) fun q => .ok (.ptr i q) h | false => .bad
def nthN (n : Nat) (l : List Nat) : Option Nat :=
  Nat.rec (motive := fun _ => List Nat → Option Nat) (fun l => List.casesOn l none (fun a _ => some a)) (fun _ ih l => List.casesOn l none (fun _ t => ih t)) n l
theorem nthN_eq (n : Nat) : ∀ l : List Nat, nthN n l = l[n]? := by
  induction n with
  | zero => intro l; cases l <;> rfl
  | succ n ih => intro l; cases l with
    | nil => rfl
    | cons a t => exact (ih t).trans (by simp)
def oIdxStr (x i : V) (h : Hp) : R V := asNat i fun k => match x with
  | .str s => (match nthN k s with | some b => .ok (.int .u8 (.ofNat b)) h | none => .bad)
  | _ => .bad
/-- A part of an aggregate: one cell, or some. -/
def oPart (ag : Bool) (sz off : Nat) (x : V) (h : Hp) : R V := match x with
  | .agg l => (match ag with
    | false => (match nthC off l with | some v => .ok v h | none => .bad)
    | true => (match takeV sz (dropV off l.list) with | some vs => .ok (.agg (V.ofList vs)) h | none => .bad))
  | _ => .bad

theorem pick_ok {c a b : V} {x y z : Value} (hr : Rel G M h w) (hc : Rp M c x) (ha : Rp M a y) (hb : Rp M b z) (e : oPick c a b h = .ok r h') :
    Good P G M h w (do pure (if ← Go.asBool x then y else z)) r h' := by
  obtain ⟨q, rfl, e⟩ := asBool_ok e
  cases hc.bool
  cases q <;> cases e
  · exact .same hr (c := z) (by simp [Go.asBool]) hb
  · exact .same hr (c := y) (by simp [Go.asBool]) ha

theorem nilCheck_ok {x : V} {a : Value} (hx : Rp M x a) (e : oNilCheck x h = .ok r h') : r = x ∧ h' = h ∧
    (∀ ρ o op, o.op = .nilCheck op → ρ op = a → (execOp ρ o).run P w = .ok (.value a) w) := by
  have fin : ∀ {x : V} {a : Value}, (R.ok x h : R V) = .ok r h' → (∀ ρ o op, o.op = Op.nilCheck op → ρ op = a → (execOp ρ o).run P w = .ok (.value a) w) →
      r = x ∧ h' = h ∧ (∀ ρ o op, o.op = .nilCheck op → ρ op = a → (execOp ρ o).run P w = .ok (.value a) w) := by
    intro x a e hh; cases e; exact ⟨rfl, rfl, hh⟩
  cases x with
  | nilp => cases e
  | nili => cases e
  | nilf => cases e
  | func fn p q =>
    obtain ⟨_, _, _, _, rfl⟩ := hx.func
    cases fn <;> first
      | exact fin e (fun ρ o op ho hρ => by simp only [execOp, ho, hρ]; rfl)
      | cases e
  | nil => cases hx.1
  | cons a b => cases hx.1
  | bool b => cases hx.bool; exact fin e (fun ρ o op ho hρ => by simp only [execOp, ho, hρ]; rfl)
  | int k n => cases hx.int; exact fin e (fun ρ o op ho hρ => by simp only [execOp, ho, hρ]; rfl)
  | str s => cases hx.str.2; exact fin e (fun ρ o op ho hρ => by simp only [execOp, ho, hρ]; rfl)
  | ptr i o => obtain ⟨L, _, rfl⟩ := hx.ptr; exact fin e (fun ρ o op ho hρ => by simp only [execOp, ho, hρ]; rfl)
  | slice i o n k => obtain ⟨L, m, _, _, rfl⟩ := hx.slice; exact fin e (fun ρ o op ho hρ => by simp only [execOp, ho, hρ]; rfl)
  | nils => cases hx.nils; exact fin e (fun ρ o op ho hρ => by simp only [execOp, ho, hρ]; rfl)
  | emp => obtain ⟨_, _, rfl⟩ := hx.emp; exact fin e (fun ρ o op ho hρ => by simp only [execOp, ho, hρ]; rfl)
  | map i => obtain ⟨L, _, rfl⟩ := hx.map; exact fin e (fun ρ o op ho hρ => by simp only [execOp, ho, hρ]; rfl)
  | nilm => cases hx.nilm; exact fin e (fun ρ o op ho hρ => by simp only [execOp, ho, hρ]; rfl)
  | iface t v => obtain ⟨_, _, rfl⟩ := hx.iface; exact fin e (fun ρ o op ho hρ => by simp only [execOp, ho, hρ]; rfl)
  | agg l => obtain ⟨_, _, _, rfl⟩ := hx.agg; exact fin e (fun ρ o op ho hρ => by simp only [execOp, ho, hρ]; rfl)
  | tuple l => obtain ⟨_, _, rfl⟩ := hx.tuple; exact fin e (fun ρ o op ho hρ => by simp only [execOp, ho, hρ]; rfl)

theorem extract_ok {n : Nat} {x : V} {a : Value} (hr : Rel G M h w) (hx : Rp M x a) (e : oExtract n x h = .ok r h') : Good P G M h w (Instr.extract a n) r h' := by
  unfold oExtract at e
  split at e
  · obtain ⟨l, hl, rfl⟩ := hx.tuple
    split at e
    · rename_i v hv
      cases e
      rw [nthC_eq] at hv
      obtain ⟨y, hy, hrp⟩ := hl.get hv
      exact .same hr (c := y) (by simp [Instr.extract, hy]) hrp
    · cases e
  · cases e

theorem un_ok {op : UnOp} {x : V} {a : Value} (hr : Rel G M h w) (hx : Rp M x a) (e : oUn op x h = .ok r h') : Good P G M h w (Op.unary op a) r h' := by
  cases op
  case neg =>
    obtain ⟨k, n, rfl, e1⟩ := asInt_ok e
    cases hx.int
    rw [okInt_eq, wrapK_eq] at e1; cases e1
    exact .same hr (by simp [Op.unary, Op.intArith, show Int.sub 0 n = 0 - n from rfl]) (rp_int M k _)
  case xor =>
    obtain ⟨k, n, rfl, e1⟩ := asInt_ok e
    cases hx.int
    rw [okInt_eq] at e1; cases e1
    exact .same hr (by simp [Op.unary, Op.intBits]) (rp_int M k _)
  case not =>
    obtain ⟨b, rfl, e1⟩ := asBool_ok e
    cases hx.bool
    rw [okBool_eq] at e1; cases e1
    exact .same hr (by simp [Op.unary]) (rp_bool M _)
  case plus => cases e

theorem convInt_ok {s d : TypeId} {ds : TypeDesc} {k : IntKind} (hs : P.underlying s = some ds) (hd : P.underlying d = some (.int k)) {x : V} {a : Value} (hr : Rel G M h w) (hx : Rp M x a) (e : oConvInt k x h = .ok r h') :
    Good P G M h w (convert s d a) r h' := by
  obtain ⟨k', n, rfl, e1⟩ := asInt_ok e
  cases hx.int
  rw [okInt_eq, wrapK_eq] at e1; cases e1
  exact .same hr (by simp [convert, run_underlying hs, run_underlying hd, Conv.intToInt]) (rp_int M k _)
theorem convStr_ok {s d : TypeId} {ds : TypeDesc} (hs : P.underlying s = some ds) (hd : P.underlying d = some .string) {x : V} {a : Value} (hr : Rel G M h w) (hx : Rp M x a) (e : oConvStr x h = .ok r h') :
    Good P G M h w (convert s d a) r h' := by
  unfold oConvStr at e
  split at e
  · cases hx.str.2
    cases e
    refine .same hr (c := .string (bts _)) ?_ hx
    simp only [convert, Sem.run_bind, run_underlying hs, run_underlying hd, Result.andThen_ok]
    cases ds <;> rfl
  · cases e

theorem iface_ok {t : TypeId} {d : TypeDesc} (hd : P.underlying t = some d) (hni : ∀ ms, d ≠ .interface ms) {x : V} {a : Value} (hr : Rel G M h w) (hx : Rp M x a) (e : oIface t x h = .ok r h') :
    Good P G M h w (Instr.makeInterface t a) r h' := by
  cases e
  refine .same hr (c := .iface t a) ?_ ⟨rfl, a, hx.1, hx.2, rfl⟩
  simp only [Instr.makeInterface, Sem.run_bind, run_underlying hd, Result.andThen_ok]
  cases d <;> first | rfl | exact absurd rfl (hni _)

theorem func_ok {fn : Fn} {f c : List V} {x y : List Value} (hr : Rel G M h w) (hf : RepL M f x) (hc : RepL M c y) (e : oFunc fn f c h = .ok r h') :
    Good P G M h w (Instr.makeFunc fn x.toArray y.toArray) r h' := by
  cases e
  exact .same hr (c := .func fn x.toArray y.toArray) rfl ⟨rfl, x, y, ⟨V.isRow_ofList f, V.isRow_ofList c⟩, hf.to, hc.to, rfl⟩

theorem Loc.at_add (L : Loc) (o n : Nat) : (L.at o).add n = L.at (o + n) := by
  unfold Loc.at Addr.add
  split
  · simp_all
  · simp [Nat.add_assoc]

theorem fieldAddr_ok {t : TypeId} {fs : Array Field} {n : Nat} {f : Field} {ti : TypeInfo} (ht : P.underlying t = some (.struct fs)) (hf : fs[n]? = some f) (hti : P.info? f.type = some ti) (hz : ti.size ≠ 0)
    {x : V} {a : Value} (hr : Rel G M h w) (hx : Rp M x a) (e : oFieldAddr f.offset x h = .ok r h') : Good P G M h w (Instr.fieldAt t a n) r h' := by
  obtain ⟨i, o, rfl, e1⟩ := asPtr_ok e
  obtain ⟨L, hL, rfl⟩ := hx.ptr
  rw [forceNat_eq] at e1
  cases e1
  refine .same hr (c := .pointer (some (L.at (o + f.offset)))) ?_ (rp_ptr hL _)
  simp [Instr.fieldAt, run_underlying ht, hf, Instr.sureAddr, fieldPlace, sizeOf, typeInfo, hti, hz, Loc.at_add]

theorem idxS_ok {t el : TypeId} {ti : TypeInfo} (ht : P.underlying t = some (.slice el)) (hti : P.info? el = some ti) {x i : V} {a b : Value} (hr : Rel G M h w) (hx : Rp M x a) (hi : Rp M i b) (e : oIdxS ti.size x i h = .ok r h') :
    Good P G M h w (Instr.indexAt t a b) r h' := by
  obtain ⟨k, n, rfl, e1⟩ := asNat_ok e
  clear e
  cases hi.int
  have e := e1
  clear e1
  split at e
  · rename_i i o len cap
    obtain ⟨L, m, hL, _, rfl⟩ := hx.slice
    split at e
    · rename_i hlt
      rw [forceNat_eq] at e
      cases e
      have hlt' : n < len := by simpa [Nat.blt_eq] using hlt
      refine .same hr (c := .pointer (some (L.at (o + n * ti.size)))) ?_ (rp_ptr hL _)
      simp [Instr.indexAt, asIntOf, run_underlying ht, hlt', sizeOf, typeInfo, hti, Loc.at_add]
    · cases e
  · cases e

theorem idxA_ok {t el : TypeId} {len : Nat} {ti : TypeInfo} (ht : P.underlying t = some (.array len el)) (hti : P.info? el = some ti) {x i : V} {a b : Value} (hr : Rel G M h w) (hx : Rp M x a) (hi : Rp M i b) (e : oIdxA len ti.size x i h = .ok r h') :
    Good P G M h w (Instr.indexAt t a b) r h' := by
  obtain ⟨k, n, rfl, e1⟩ := asNat_ok e
  clear e
  cases hi.int
  obtain ⟨i, o, rfl, e⟩ := asPtr_ok e1
  clear e1
  obtain ⟨L, hL, rfl⟩ := hx.ptr
  split at e
  · rename_i hlt
    rw [forceNat_eq] at e
    cases e
    have hlt' : n < len := by simpa [Nat.blt_eq] using hlt
    refine .same hr (c := .pointer (some (L.at (o + n * ti.size)))) ?_ (rp_ptr hL _)
    simp [Instr.indexAt, asIntOf, run_underlying ht, Instr.sureAddr, hlt', sizeOf, typeInfo, hti, Loc.at_add]
  · cases e

theorem idxStr_ok {t : TypeId} (ht : P.underlying t = some .string) {x i : V} {a b : Value} (hr : Rel G M h w) (hx : Rp M x a) (hi : Rp M i b) (e : oIdxStr x i h = .ok r h') :
    Good P G M h w (Instr.index t a b) r h' := by
  obtain ⟨k, n, rfl, e1⟩ := asNat_ok e
  clear e
  cases hi.int
  have e := e1
  clear e1
  split at e
  · rename_i s
    obtain ⟨hs, rfl⟩ := hx.str
    split at e
    · rename_i c hc
      cases e
      rw [nthN_eq] at hc
      have hb : (bts s)[n]? = some (UInt8.ofNat c) := by
        have hlt : n < s.length := (List.getElem?_eq_some_iff.1 hc).1
        have : (bts s).data[n]? = some (UInt8.ofNat c) := by simp [bts, hc]
        rw [getElem?_pos (bts s) n (by rw [bts_size]; exact hlt)]
        have h2 := (Array.getElem?_eq_some_iff.1 this).2
        exact congrArg some h2
      have hcl := u8_toNat (hs c (List.mem_of_getElem? hc))
      refine .same hr (c := .int .u8 (.ofNat c)) ?_ (rp_int M _ _)
      simp [Instr.index, asIntOf, run_underlying ht, hb, hcl]
    · cases e
  · cases e
end
end Go.Vm

/- The value machine, part 9: slice expressions. -/
namespace Go.Vm
noncomputable section
variable {P : Program} {G : Nat} {M : Mp} {h h' : Hp} {w : World} {r : V}

def dropN (n : Nat) (l : List Nat) : List Nat :=
  Nat.rec (motive := fun _ => List Nat → List Nat) (fun l => l) (fun _ ih l => List.casesOn l [] (fun _ t => ih t)) n l
def takeN (n : Nat) (l : List Nat) : List Nat :=
  Nat.rec (motive := fun _ => List Nat → List Nat) (fun _ => []) (fun _ ih l => List.casesOn l [] (fun a t => a :: ih t)) n l
theorem dropN_eq (n : Nat) : ∀ l : List Nat, dropN n l = l.drop n := by
  induction n with
  | zero => intro l; rfl
  | succ n ih => intro l; cases l with
    | nil => rfl
    | cons a t => exact (ih t).trans (by simp)
theorem takeN_eq (n : Nat) : ∀ l : List Nat, takeN n l = l.take n := by
  induction n with
  | zero => intro l; rfl
  | succ n ih => intro l; cases l with
    | nil => rfl
    | cons a t => exact (congrArg (a :: ·) (ih t)).trans (by simp)

def optNat (x : Option V) (d : Nat) (k : Nat → R V) : R V := match x with
  | none => k d
  | some v => asNat v k
def OptRp (M : Mp) : Option V → Option Value → Prop
  | none, none => True
  | some v, some c => Rp M v c
  | _, _ => False
/-- A bound: its value, or none and the default. -/
def BoundIs (y : Option Value) (d n : Nat) : Prop := match y with
  | none => n = d
  | some c => ∃ k, c = .int k (.ofNat n)
theorem optNat_ok {x : Option V} {d : Nat} {k : Nat → R V} {y : Option Value} (hx : OptRp M x y) (e : optNat x d k = .ok r h') : ∃ n, BoundIs y d n ∧ k n = .ok r h' := by
  cases x with
  | none => cases y with
    | none => exact ⟨d, rfl, e⟩
    | some c => exact hx.elim
  | some v => cases y with
    | none => exact hx.elim
    | some c =>
      obtain ⟨k', n, rfl, e1⟩ := asNat_ok e
      exact ⟨n, ⟨k', Rp.int hx⟩, e1⟩

theorem run_sliceBound {k : IntKind} {n y : Nat} (hn : n ≤ y) (code : BoundsCode) : (Instr.sliceBound (.int k (n : Int)) y code).run P w = .ok n w := by
  simp [Instr.sliceBound, asIntOf, hn]

theorem run_sliceBounds {isS : Bool} {len cap : Nat} {lo hi mx : Option Value} {m hh l : Nat} (h1 : BoundIs mx cap m) (h2 : BoundIs hi len hh) (h3 : BoundIs lo 0 l)
    (h4 : mx = none ∨ hi ≠ none) (g1 : m ≤ cap) (g2 : hh ≤ m) (g3 : l ≤ hh) : (Instr.sliceBounds isS len cap lo hi mx).run P w = .ok (l, hh, m) w := by
  unfold Instr.sliceBounds
  cases mx with
  | none =>
    have h1 : m = cap := h1
    subst h1
    cases hi with
    | none =>
      have h2 : hh = len := h2
      subst h2
      cases lo with
      | none => have h3 : l = 0 := h3; subst h3; simp
      | some c => obtain ⟨k, rfl⟩ := h3; simp [run_sliceBound g3]
    | some c =>
      obtain ⟨k, rfl⟩ := h2
      cases lo with
      | none => have h3 : l = 0 := h3; subst h3; simp [run_sliceBound g2]
      | some c => obtain ⟨k, rfl⟩ := h3; simp [run_sliceBound g2, run_sliceBound g3]
  | some c =>
    obtain ⟨k, rfl⟩ := h1
    cases hi with
    | none => rcases h4 with h4 | h4 <;> simp at h4
    | some c =>
      obtain ⟨k, rfl⟩ := h2
      cases lo with
      | none => have h3 : l = 0 := h3; subst h3; simp [run_sliceBound g1, run_sliceBound g2]
      | some c => obtain ⟨k, rfl⟩ := h3; simp [run_sliceBound g1, run_sliceBound g2, run_sliceBound g3]

def oSliceStr (x : V) (lo hi : Option V) (h : Hp) : R V := match x with
  | .str s => optNat hi s.length fun hh => optNat lo 0 fun l =>
    (match Nat.ble hh s.length, Nat.ble l hh with
    | true, true => .ok (.str (takeN (hh - l) (dropN l s))) h
    | _, _ => .bad)
  | _ => .bad

def moved (sz o l m : Nat) : Nat := match Nat.beq m l with | true => o | false => o + l * sz
/-- with a third bound there is a second -/
def okMax (mx hi : Option V) : Bool := match mx with
  | none => true
  | some _ => (match hi with | none => false | some _ => true)
def sliceM (sz : Nat) (i : Pos) (o len top : Nat) (lo hi : Option V) (h : Hp) (m : Nat) : R V :=
  optNat hi len fun hh => optNat lo 0 fun l =>
    match Nat.ble m top, Nat.ble hh m, Nat.ble l hh with
    | true, true, true => forceNat (moved sz o l m) fun q => forceNat (hh - l) fun n => .ok (.slice i q n (.kn (m - l))) h
    | _, _, _ => .bad
def sliceUn (sz : Nat) (i : Pos) (o len u : Nat) (lo hi : Option V) (h : Hp) : R V :=
  optNat hi len fun hh => optNat lo 0 fun l =>
    match Nat.ble hh len, Nat.ble l hh, Nat.beq u sz with
    | true, true, true => (match l with
      | 0 => .ok (.slice i o hh (.un u)) h
      | l + 1 => (match Nat.blt (l + 1) len with
        | true => forceNat (o + (l + 1) * sz) fun q => forceNat (hh - (l + 1)) fun n => .ok (.slice i q n (.un u)) h
        | false => .ok .emp h))
    | _, _, _ => .bad
def sliceZero (v : V) (lo hi : Option V) (h : Hp) (m : Nat) : R V :=
  optNat hi 0 fun hh => optNat lo 0 fun l => match m, hh, l with | 0, 0, 0 => .ok v h | _, _, _ => .bad
def sliceX (sz : Nat) (x : V) (lo hi mx : Option V) (h : Hp) : R V :=
  match x with
  | .slice i o len cap => (match cap with
    | .kn c => optNat mx c (sliceM sz i o len c lo hi h)
    | .un u => (match mx with
      | none => sliceUn sz i o len u lo hi h
      | some mv => asNat mv (sliceM sz i o len len lo hi h)))
  | .nils => optNat mx 0 (sliceZero .nils lo hi h)
  | .emp => (match mx with
    | none => sliceZero .emp lo hi h 0
    | some _ => .bad)
  | _ => .bad
def oSlice (sz : Nat) (x : V) (lo hi mx : Option V) (h : Hp) : R V :=
  match okMax mx hi with
  | true => sliceX sz x lo hi mx h
  | false => .bad
/-- a slice of an array that lies at an address -/
def oSliceArr (sz len : Nat) (x : V) (lo hi mx : Option V) (h : Hp) : R V :=
  match okMax mx hi with
  | true => asPtr x fun i o => optNat mx len (sliceM sz i o len len lo hi h)
  | false => .bad

theorem bts_extract (s : List Nat) (l hh : Nat) : (bts s).extract l hh = bts ((s.drop l).take (hh - l)) := by
  apply ByteArray.ext
  apply Array.ext'
  simp [bts, ByteArray.data_extract, List.map_take, List.map_drop, List.extract_eq_take_drop]

theorem sliceStr_ok {t : TypeId} (ht : P.underlying t = some .string) {x : V} {a : Value} {lo hi : Option V} {clo chi : Option Value} (hr : Rel G M h w) (hx : Rp M x a) (hlo : OptRp M lo clo) (hhi : OptRp M hi chi)
    (e : oSliceStr x lo hi h = .ok r h') : Good P G M h w (Instr.sliceAt t a clo chi none) r h' := by
  unfold oSliceStr at e
  split at e
  · rename_i s
    obtain ⟨hs, rfl⟩ := hx.str
    obtain ⟨hh, b1, e⟩ := optNat_ok hhi e
    obtain ⟨l, b2, e⟩ := optNat_ok hlo e
    split at e
    · rename_i c1 c2
      cases e
      have c1' : hh ≤ s.length := Nat.le_of_ble_eq_true c1
      have c2' : l ≤ hh := Nat.le_of_ble_eq_true c2
      have hb := run_sliceBounds (P := P) (w := w) (isS := false) (len := s.length) (cap := s.length) (mx := none) (m := s.length) rfl b1 b2 (.inl rfl) (Nat.le_refl _) c1' c2'
      refine .same hr (c := .string (bts ((s.drop l).take (hh - l)))) ?_ ?_
      · simp [Instr.sliceAt, Instr.slice, run_underlying ht, bts_size, hb, bts_extract]
      · rw [takeN_eq, dropN_eq]
        exact rp_str fun b hb => hs b (List.mem_of_mem_drop (List.mem_of_mem_take hb))
    · cases e
  · cases e

theorem moved_eq (L : Loc) (sz o l m : Nat) : (if m = l then L.at o else (L.at o).add (l * sz)) = L.at (moved sz o l m) := by
  unfold moved
  cases hb : Nat.beq m l with
  | true => rw [if_pos (Nat.eq_of_beq_eq_true hb)]
  | false => rw [if_neg (Nat.ne_of_beq_eq_false hb), Loc.at_add]

theorem run_slice {t el : TypeId} {ti : TypeInfo} (ht : P.underlying t = some (.slice el)) (hti : P.info? el = some ti) {a : Option Addr} {len cap l hh m : Nat} {clo chi cmx : Option Value}
    (hb : (Instr.sliceBounds true len cap clo chi cmx).run P w = .ok (l, hh, m) w) :
    (Instr.sliceAt t (.slice a len cap) clo chi cmx).run P w = .ok (.slice (if m = l then a else a.map (·.add (l * ti.size))) (hh - l) (m - l)) w := by
  simp [Instr.sliceAt, Instr.slice, run_underlying ht, hb, sizeOf, typeInfo, hti]

theorem okMax_ok {mx hi : Option V} {cmx chi : Option Value} (hmx : OptRp M mx cmx) (hhi : OptRp M hi chi) (h : okMax mx hi = true) : cmx = none ∨ chi ≠ none := by
  cases mx <;> cases hi <;> cases cmx <;> cases chi <;> simp_all [OptRp, okMax]

theorem sliceM_ok {sz : Nat} {i : Pos} {o len top m : Nat} {lo hi : Option V} {clo chi cmx : Option Value} (hlo : OptRp M lo clo) (hhi : OptRp M hi chi) (h4 : cmx = none ∨ chi ≠ none)
    {cap : Nat} (b1 : BoundIs cmx cap m) (ht : top ≤ cap) {isS : Bool} (e : sliceM sz i o len top lo hi h m = .ok r h') :
    ∃ hh l, hh ≤ m ∧ (Instr.sliceBounds isS len cap clo chi cmx).run P w = .ok (l, hh, m) w ∧ h' = h ∧ r = .slice i (moved sz o l m) (hh - l) (.kn (m - l)) := by
  obtain ⟨hh, b2, e⟩ := optNat_ok hhi e
  obtain ⟨l, b3, e⟩ := optNat_ok hlo e
  split at e
  · rename_i c1 c2 c3
    rw [forceNat_eq, forceNat_eq] at e
    cases e
    exact ⟨hh, l, Nat.le_of_ble_eq_true c2, run_sliceBounds b1 b2 b3 h4 (Nat.le_trans (Nat.le_of_ble_eq_true c1) ht) (Nat.le_of_ble_eq_true c2) (Nat.le_of_ble_eq_true c3), rfl, rfl⟩
  · cases e

theorem sliceZero_ok {v : V} {m : Nat} {lo hi : Option V} {clo chi cmx : Option Value} (hlo : OptRp M lo clo) (hhi : OptRp M hi chi) (h4 : cmx = none ∨ chi ≠ none)
    {cap : Nat} (b1 : cmx = none ∨ BoundIs cmx 0 m) {isS : Bool} (e : sliceZero v lo hi h m = .ok r h') :
    ∃ m', (m' = 0 ∨ m' = cap) ∧ (Instr.sliceBounds isS 0 cap clo chi cmx).run P w = .ok (0, 0, m') w ∧ h' = h ∧ r = v := by
  obtain ⟨hh, b2, e⟩ := optNat_ok hhi e
  obtain ⟨l, b3, e⟩ := optNat_ok hlo e
  split at e
  · cases e
    rcases b1 with rfl | b1
    · exact ⟨cap, .inr rfl, run_sliceBounds rfl b2 b3 h4 (Nat.le_refl _) (Nat.zero_le _) (Nat.le_refl _), rfl, rfl⟩
    · cases cmx with
      | none => exact ⟨cap, .inr rfl, run_sliceBounds rfl b2 b3 h4 (Nat.le_refl _) (Nat.zero_le _) (Nat.le_refl _), rfl, rfl⟩
      | some c => exact ⟨0, .inl rfl, run_sliceBounds b1 b2 b3 h4 (Nat.zero_le _) (Nat.le_refl _) (Nat.le_refl _), rfl, rfl⟩
  · cases e

theorem slice_ok {t el : TypeId} {ti : TypeInfo} (ht : P.underlying t = some (.slice el)) (hti : P.info? el = some ti) {x : V} {a : Value} {lo hi mx : Option V} {clo chi cmx : Option Value} (hr : Rel G M h w) (hx : Rp M x a)
    (hlo : OptRp M lo clo) (hhi : OptRp M hi chi) (hmx : OptRp M mx cmx) (e : oSlice ti.size x lo hi mx h = .ok r h') : Good P G M h w (Instr.sliceAt t a clo chi cmx) r h' := by
  unfold oSlice at e
  split at e
  case h_2 => cases e
  rename_i hm
  have h4 := okMax_ok hmx hhi hm
  clear hm
  have key : ∀ {i : Pos} {o len cap hh l m : Nat} {L : Loc}, hh ≤ m → M i = some L → (Instr.sliceBounds true len cap clo chi cmx).run P w = .ok (l, hh, m) w →
      Good P G M h w (Instr.sliceAt t (.slice (some (L.at o)) len cap) clo chi cmx) (.slice i (moved ti.size o l m) (hh - l) (.kn (m - l))) h := by
    intro i o len cap hh l m L hhm hL hb
    refine .same hr (run_slice ht hti hb) ?_
    have := moved_eq L ti.size o l m
    rw [show (if m = l then some (L.at o) else (some (L.at o)).map (·.add (l * ti.size))) = some (L.at (moved ti.size o l m)) from by rw [← this]; split <;> rfl]
    exact rp_slice hL ⟨rfl, by omega⟩
  cases x with
  | slice i o len cap =>
    obtain ⟨L, k, hL, hcap, rfl⟩ := hx.slice
    cases cap with
    | kn c =>
      have hk : k = c := hcap.1
      subst hk
      obtain ⟨m, b1, e1⟩ := optNat_ok hmx e
      obtain ⟨hh, l, hhm, hb, rfl, rfl⟩ := sliceM_ok (P := P) (w := w) (isS := true) hlo hhi h4 b1 (Nat.le_refl _) e1
      exact key hhm hL hb
    | un u =>
      obtain ⟨hk1, hk2⟩ := hcap
      cases mx with
      | none =>
        cases cmx with
        | some _ => exact hmx.elim
        | none =>
        have e : sliceUn ti.size i o len u lo hi h = .ok r h' := e
        obtain ⟨hh, b2, e1⟩ := optNat_ok hhi e
        obtain ⟨l, b3, e1⟩ := optNat_ok hlo e1
        split at e1
        · rename_i c1 c2 c3
          have c1' := Nat.le_of_ble_eq_true c1
          have c2' := Nat.le_of_ble_eq_true c2
          have c3' : u = ti.size := Nat.eq_of_beq_eq_true c3
          subst c3'
          have hb := run_sliceBounds (P := P) (w := w) (isS := true) (len := len) (cap := k) (mx := none) (m := k) rfl b2 b3 (.inl rfl) (Nat.le_refl _) (by omega) c2'
          have hrun := run_slice (a := some (L.at o)) ht hti hb
          cases l with
          | zero =>
            cases e1
            have e0 : (if k = 0 then some (L.at o) else (some (L.at o)).map (·.add (0 * ti.size))) = some (L.at o) := by
              split
              · rfl
              · simp [Addr.add]
            rw [e0] at hrun
            exact .same hr hrun (rp_slice hL ⟨by omega, by simpa using hk2⟩)
          | succ l =>
            simp only [] at e1
            split at e1
            · rename_i c4
              have c4' : l + 1 < len := by simpa [Nat.blt_eq] using c4
              rw [forceNat_eq, forceNat_eq] at e1
              cases e1
              rw [if_neg (by omega)] at hrun
              have e0 : (some (L.at o)).map (·.add ((l + 1) * ti.size)) = some (L.at (o + (l + 1) * ti.size)) := by simp [Loc.at_add]
              rw [e0] at hrun
              refine .same hr hrun (rp_slice hL ⟨by omega, ?_⟩)
              have e2 : (k - (l + 1)) * ti.size + (l + 1) * ti.size = k * ti.size := by rw [← Nat.add_mul]; congr 1; omega
              omega
            · rename_i c4
              have c4' : ¬ l + 1 < len := fun hlt => by
                have : Nat.blt (l + 1) len = true := by simpa [Nat.blt_eq] using hlt
                rw [this] at c4; cases c4
              cases e1
              have hz : hh - (l + 1) = 0 := by omega
              rw [hz] at hrun
              refine .same hr hrun ?_
              split
              · exact ⟨rfl, _, _, rfl⟩
              · exact ⟨rfl, _, _, rfl⟩
        · cases e1
      | some mv =>
        cases cmx with
        | none => exact hmx.elim
        | some c =>
        obtain ⟨k', m, rfl, e1⟩ := asNat_ok e
        have hc := Rp.int hmx
        obtain ⟨hh, l, hhm, hb, rfl, rfl⟩ := sliceM_ok (P := P) (w := w) (isS := true) (cap := k) hlo hhi h4 ⟨k', hc⟩ (by omega) e1
        exact key hhm hL hb
  | nils =>
    cases hx.nils
    obtain ⟨m, b1, e1⟩ := optNat_ok hmx e
    obtain ⟨m', hm', hb, rfl, rfl⟩ := sliceZero_ok (P := P) (w := w) (isS := true) (cap := 0) hlo hhi h4 (.inr b1) e1
    have hm0 : m' = 0 := by rcases hm' with h | h <;> exact h
    subst hm0
    exact .same hr (run_slice ht hti hb) (by simpa using hx)
  | emp =>
    obtain ⟨ad, k, rfl⟩ := hx.emp
    cases mx with
    | some _ => cases e
    | none =>
      cases cmx with
      | some _ => exact hmx.elim
      | none =>
      obtain ⟨m', hm', hb, rfl, rfl⟩ := sliceZero_ok (P := P) (w := w) (isS := true) (cap := k) hlo hhi h4 (.inl rfl) e
      refine .same hr (run_slice ht hti hb) ?_
      split
      · exact ⟨rfl, _, _, rfl⟩
      · exact ⟨rfl, _, _, rfl⟩
  | _ => cases e

theorem sliceArr_ok {t el : TypeId} {n : Nat} {ti : TypeInfo} (ht : P.underlying t = some (.array n el)) (hti : P.info? el = some ti) {x : V} {a : Value} {lo hi mx : Option V} {clo chi cmx : Option Value} (hr : Rel G M h w) (hx : Rp M x a)
    (hlo : OptRp M lo clo) (hhi : OptRp M hi chi) (hmx : OptRp M mx cmx) (e : oSliceArr ti.size n x lo hi mx h = .ok r h') : Good P G M h w (Instr.sliceAt t a clo chi cmx) r h' := by
  unfold oSliceArr at e
  split at e
  case h_2 => cases e
  rename_i hm
  have h4 := okMax_ok hmx hhi hm
  clear hm
  obtain ⟨i, o, rfl, e1⟩ := asPtr_ok e
  obtain ⟨L, hL, rfl⟩ := hx.ptr
  obtain ⟨m, b1, e1⟩ := optNat_ok hmx e1
  obtain ⟨hh, l, hhm, hb, rfl, rfl⟩ := sliceM_ok (P := P) (w := w) (isS := false) hlo hhi h4 b1 (Nat.le_refl _) e1
  refine .same hr (c := .slice (some (L.at (moved ti.size o l m))) (hh - l) (m - l)) ?_ (rp_slice hL ⟨rfl, by omega⟩)
  simp [Instr.sliceAt, run_underlying ht, Instr.sureAddr, hb, sizeOf, typeInfo, hti, moved_eq]
end
end Go.Vm

/- The value machine, part 10: append. -/
namespace Go.Vm
noncomputable section
variable {P : Program} {G : Nat} {M : Mp} {h h' : Hp} {w : World} {r : V}

def u8s (s : List Nat) : List V := s.map fun b => .int .u8 (.ofNat b)
def srcCells (sz : Nat) (x : V) (h : Hp) (k : Nat → List V → R V) : R V :=
  match x with
  | .nils => k 0 []
  | .emp => k 0 []
  | .slice j p n _ => hCells h j fun _ cs => (match takeV (n * sz) (dropV p cs) with | some l => k n l | none => .bad)
  | .str s => (match Nat.beq sz 1 with | true => k s.length (u8s s) | false => .bad)
  | _ => .bad
def freshRow (sz bt n : Nat) (cs : List V) (h h0 : Hp) : R V :=
  match Nat.ble (Nat.mul n bt) 140737488355328 with
  | true => .ok (.slice h.next 0 n (.un sz)) (h0.new (.cells true cs))
  | false => .bad
/-- appended to a row of bytes of a text: it stays one -/
def appB (sz bt : Nat) (i : Pos) (o len need : Nat) (new cs : List V) (h : Hp) : R V := match h.get i with
  | some ob => (match ob with
    | .bytes _ => (match takeV (len * sz) (dropV o cs) with
      | some old => (match dropV (len * sz) (dropV o cs) with
        | [] => (match Nat.ble (Nat.mul need bt) 140737488355328 with
          | true => .ok (.slice h.next 0 need (.un sz)) ((h.put i none).new (.bytes (old ++ new)))
          | false => .bad)
        | _ :: _ => .bad)
      | none => .bad)
    | _ => .bad)
  | none => .bad
def oAppend (sz bt : Nat) (s x : V) (h : Hp) : R V :=
  srcCells sz x h fun n new => match n with
  | 0 => (match s with
    | .nils => .ok .nils h
    | .emp => .ok .emp h
    | .slice i o len cap => .ok (.slice i o len cap) h
    | _ => .bad)
  | m + 1 => (match s with
    | .nils => freshRow sz bt (m + 1) new h h
    | .slice i o len cap => hCells h i fun wr cs => forceNat (len + (m + 1)) fun need => (match cap with
      | .kn c => (match Nat.ble need c with
        | true => (match wr, putV (o + len * sz) new cs with
          | true, some cs' => .ok (.slice i o need (.kn c)) (h.put i (some (.cells true cs')))
          | _, _ => .bad)
        | false => (match takeV (len * sz) (dropV o cs) with
          | some old => freshRow sz bt need (old ++ new) h h
          | none => .bad))
      | .un u => (match wr, Nat.beq u sz with
        | true, true => (match takeV (len * sz) (dropV o cs) with
          | none => .bad
          | some old => (match dropV (len * sz) (dropV o cs) with
            | [] => freshRow sz bt need (old ++ new) h (h.put i none)
            | _ :: _ => (match putV (o + len * sz) new cs with
              | some cs' => .ok (.slice i o need (.un u)) (h.put i (some (.cells true cs')))
              | none => .bad)))
        | false, true => appB sz bt i o len need new cs h
        | _, _ => .bad))
    | _ => .bad)

theorem run_append_in {t t2 ty el : TypeId} {d2 : TypeDesc} {ti : TypeInfo} (ht : P.underlying t = some (.slice el)) (ht2 : P.underlying t2 = some d2) (hd2 : ∀ k, d2 ≠ .int k) (hti : P.info? el = some ti)
    {base : Option Addr} {n cap m : Nat} {x : Value} (hm : (Builtin.lenOf x).run P w = .ok m w) {news : List Value} (hnews : (Builtin.firstCells ti.size m x).run P w = .ok news.toArray w) (hfit : n + m ≤ cap) :
    (Builtin.append_ #[t, t2] ty #[.slice base n cap, x]).run P w =
      (match base with | some a => ((storeCells (a.add (n * ti.size)) news).run P w).andThen fun _ w' => .ok (.slice base (n + m) cap) w' | none => .ok (.slice base (n + m) cap) w) := by
  cases base <;> simp [Builtin.append_, run_underlying ht, run_underlying ht2, sizeOf, typeInfo, hti, hm, hfit, hnews]

theorem run_append_out {t t2 ty el : TypeId} {d2 : TypeDesc} {ti : TypeInfo} {z : Value} (ht : P.underlying t = some (.slice el)) (ht2 : P.underlying t2 = some d2) (hd2 : ∀ k, d2 ≠ .int k) (hti : P.info? el = some ti) (hz : ti.zero = some z)
    {base : Option Addr} {n cap m : Nat} {x : Value} (hm : (Builtin.lenOf x).run P w = .ok m w) {news olds : List Value} (hnews : (Builtin.firstCells ti.size m x).run P w.drew = .ok news.toArray w.drew)
    (holds : (Builtin.firstCells ti.size n (.slice base n cap)).run P w.drew = .ok olds.toArray w.drew) (hfit : cap < n + m) (hb : (n + m) * ti.bytes ≤ 140737488355328) (hb0 : 0 < ti.bytes) :
    (Builtin.append_ #[t, t2] ty #[.slice base n cap, x]).run P w =
      .ok (.slice (some ⟨w.heap.size, 0, none⟩) (n + m) (grownCap w (n + m) cap el)) (w.drew.alloc (.cells (olds.toArray ++ news.toArray ++ Builtin.zeroCells z.cells (grownCap w (n + m) cap el - (n + m))) el)) := by
  have hn : ¬ (n + m ≤ cap) := by omega
  have hle : n + m ≤ (n + m) * ti.bytes := Nat.le_mul_of_pos_right _ hb0
  have h63' : ¬ (9223372036854775807 < ((n : Int) + (m : Int))) := by omega
  have h48 := growslice_fits (bytes := ti.bytes) hfit hb
  have h48' : ¬ (281474976710656 < Builtin.nextslicecap (n + m) cap * ti.bytes) := by omega
  simp [Builtin.append_, run_underlying ht, run_underlying ht2, sizeOf, typeInfo, zeroValue, hti, hz, hm, hn, h63', h48', Question.forced, hnews, holds, newRow, grownCap]
  congr 2
  apply Array.ext'
  simp [List.append_assoc]

theorem run_lenOf_slice (a : Option Addr) (n c : Nat) : (Builtin.lenOf (.slice a n c)).run P w = .ok n w := rfl
theorem run_lenOf_string (s : ByteArray) : (Builtin.lenOf (.string s)).run P w = .ok s.size w := rfl

/-- What is appended. -/
theorem srcCells_ok {sz : Nat} {x : V} {c : Value} {k : Nat → List V → R V} (hr : Rel G M h w) (hx : Rp M x c) (e : srcCells sz x h k = .ok r h') :
    ∃ (n : Nat) (new : List V) (news : List Value), k n new = .ok r h' ∧ (Builtin.lenOf c).run P w = .ok n w ∧ RepL M new news ∧ new.length = n * sz ∧ (∀ y ∈ news, scalar y = true) ∧
      ∀ w', w'.heap = w.heap → (Builtin.firstCells sz n c).run P w' = .ok news.toArray w' := by
  unfold srcCells at e
  split at e
  · cases hx.nils
    exact ⟨0, [], [], e, rfl, rfl, by simp, by simp, fun w' _ => by simp [Builtin.firstCells]⟩
  · obtain ⟨a, k', rfl⟩ := hx.emp
    exact ⟨0, [], [], e, rfl, rfl, by simp, by simp, fun w' _ => by simp [Builtin.firstCells, loadCells, loadCellsFrom]⟩
  · rename_i j p n cap
    obtain ⟨L, m, hL, _, rfl⟩ := hx.slice
    obtain ⟨wr, cs, hi, e1⟩ := hCells_ok e
    split at e1
    · rename_i l hl
      obtain ⟨xs, hxl, hlen, hs, hc⟩ := hr.cells hi hL hl
      have hll : l.length = n * sz := by rw [← hxl.length]; exact hlen
      refine ⟨n, l, xs, e1, rfl, hxl, hll, hs, fun w' hw => ?_⟩
      exact run_firstCells_some w' sz n (L.at p) n m xs hlen (fun j v hj => by
        rw [← hc j v hj]; simp [World.cell?, hw])
    · cases e1
  · rename_i s
    split at e
    · rename_i h1
      have h1' : sz = 1 := Nat.eq_of_beq_eq_true h1
      subst h1'
      obtain ⟨hs, rfl⟩ := hx.str
      refine ⟨s.length, u8s s, s.map fun b => .int .u8 (.ofNat b), e, by rw [run_lenOf_string, bts_size], ?_, by simp [u8s], ?_, fun w' _ => ?_⟩
      · refine RepL.mk (by simp [u8s]) (fun i v hi => ?_)
        simp only [u8s, List.getElem?_map] at hi ⊢
        cases hsi : s[i]? with
        | none => rw [hsi] at hi; cases hi
        | some b => rw [hsi] at hi; cases hi; exact ⟨_, rfl, rp_int M _ _⟩
      · intro y hy
        obtain ⟨b, _, rfl⟩ := List.mem_map.1 hy
        rfl
      · simp only [Builtin.firstCells]
        show Result.ok _ _ = _
        congr 1
        apply Array.ext'
        have : ((bts s).extract 0 s.length).data.toList = s.map UInt8.ofNat := by
          rw [bts_extract]; simp [bts]
        simp only [Array.toList_map, this, List.map_map]
        apply List.map_congr_left
        intro b hb
        simp [u8_toNat (hs b hb)]
    · cases e
  · cases e

/-- An object is given up, and a new one takes over its cells. -/
theorem Rel.overO (hr : Rel G M h w) {i : Pos} {o0 : Ob} {L : Loc} (hi : h.get i = some o0) (hown : o0.own = true) (hL : M i = some L) (o : Nat) (nb : Ob) {w' : World}
    (hs : w'.heap.size = w.heap.size) (hoth : ∀ k, k ≠ L.blk → w'.heap[k]? = w.heap[k]?) (hos : w'.os = w.os) (ht : w'.tape = w.tape) (hout : w'.output = w.output)
    (hob : ∀ N : Mp, M.le N → ObRep N ⟨L.blk, L.off + o, L.size⟩ w' nb) :
    Rel G (M.add h.next ⟨L.blk, L.off + o, L.size⟩) ((h.put i none).new nb) w' ∧ Ext M h w (M.add h.next ⟨L.blk, L.off + o, L.size⟩) ((h.put i none).new nb) w' := by
  have hnone : M h.next = none := hr.fresh _ (Nat.le_refl _)
  have hle := Mp.le_add hnone ⟨L.blk, L.off + o, L.size⟩
  have hin : i ≠ h.next := hr.ne_next hL
  have hnx : (h.put i none).next = h.next := rfl
  have get : ∀ {j : Pos} {p : Ob}, j ≠ h.next → ((h.put i none).new nb).get j = some p → j ≠ i ∧ h.get j = some p := by
    intro j p hj hg
    rw [Hp.get_new_ne _ (by rw [hnx]; exact hj)] at hg
    by_cases e : j = i
    · subst e; rw [h.get_put_self] at hg; cases hg
    · rw [h.get_put_ne e] at hg; exact ⟨e, hg⟩
  have getn : ((h.put i none).new nb).get h.next = some nb := Hp.get_new_self (h.put i none) _
  have keep : ∀ {j : Pos} {p : Ob} {K : Loc}, j ≠ i → h.get j = some p → M j = some K → K.blk ≠ L.blk := fun hj hg hK e =>
    hr.sep i _ _ _ L _ (Ne.symm hj) hi hg hown hL hK e.symm
  refine ⟨⟨fun j p hg => ?_, fun j hj => ?_, fun a b p q A B hn ha hb hp hA hB => ?_, fun g hg => ?_⟩, ⟨hle, ?_, hos, ht, hout, by omega, fun k hk hno => hoth k (fun e => hno i _ L hi hown hL e.symm), fun j p K hg hp hK => ?_, fun j hj hn => ?_, fun j p K hg hK => ?_, fun j hj hn => ?_⟩⟩
  · by_cases e : j = h.next
    · subst e
      rw [getn] at hg; cases hg
      exact ⟨_, M.add_self _ _, hob _ hle⟩
    · obtain ⟨hji, hg'⟩ := get e hg
      obtain ⟨K, hK, hrep⟩ := hr.ob j p hg'
      exact ⟨K, by rw [M.add_ne e]; exact hK, (hrep.of_block (hoth _ (keep hji hg' hK))).mono hle⟩
  · have hs' : ((h.put i none).new nb).next.nat = h.next.nat + 1 := Pos.nat_succ _
    rw [hs'] at hj
    have e : j ≠ h.next := fun e => by rw [e] at hj; omega
    rw [M.add_ne e]
    exact hr.fresh j (by omega)
  · by_cases ea : a = h.next
    · subst ea
      rw [M.add_self] at hA; cases hA
      have eb : b ≠ h.next := fun e => hn e.symm
      obtain ⟨hbi, hb'⟩ := get eb hb
      rw [M.add_ne eb] at hB
      exact fun e => keep hbi hb' hB e.symm
    · obtain ⟨hai, ha'⟩ := get ea ha
      rw [M.add_ne ea] at hA
      by_cases eb : b = h.next
      · subst eb
        rw [M.add_self] at hB; cases hB
        exact keep hai ha' hA
      · obtain ⟨hbi, hb'⟩ := get eb hb
        rw [M.add_ne eb] at hB
        exact hr.sep a b p q A B hn ha' hb' hp hA hB
  · obtain ⟨n', hg'⟩ := hr.gl g hg
    exact ⟨n', hle _ _ hg'⟩
  · show h.next.nat ≤ h.next.succ.nat
    rw [Pos.nat_succ]; omega
  · by_cases e : j = h.next
    · subst e
      rw [M.add_self] at hK; cases hK
      exact .inr ⟨i, _, L, hi, hown, hL, rfl⟩
    · obtain ⟨hji, hg'⟩ := get e hg
      rw [M.add_ne e] at hK
      exact .inr ⟨j, p, K, hg', hp, hK, rfl⟩
  · have e : j ≠ h.next := fun e => by rw [e] at hj; omega
    rw [Hp.get_new_ne _ (by rw [hnx]; exact e)]
    by_cases e2 : j = i
    · subst e2; exact h.get_put_self _ _
    · rw [h.get_put_ne e2]; exact hn
  · by_cases e : j = h.next
    · subst e
      rw [M.add_self] at hK; cases hK
      exact .inr ⟨i, _, L, hi, hL, rfl⟩
    · obtain ⟨hji, hg'⟩ := get e hg
      rw [M.add_ne e] at hK
      exact .inr ⟨j, p, K, hg', hK, rfl⟩
  · have e : j ≠ h.next := fun e => by rw [e] at hj; omega
    rw [M.add_ne e]; exact hn

theorem Rel.over (hr : Rel G M h w) {i : Pos} {cs : List V} {L : Loc} (hi : h.get i = some (.cells true cs)) (hL : M i = some L) (o : Nat) (vs : List V) {w' : World}
    (hs : w'.heap.size = w.heap.size) (hoth : ∀ k, k ≠ L.blk → w'.heap[k]? = w.heap[k]?) (hos : w'.os = w.os) (ht : w'.tape = w.tape) (hout : w'.output = w.output)
    (hob : ∀ N : Mp, M.le N → ObRep N ⟨L.blk, L.off + o, L.size⟩ w' (.cells true vs)) :
    Rel G (M.add h.next ⟨L.blk, L.off + o, L.size⟩) ((h.put i none).new (.cells true vs)) w' ∧ Ext M h w (M.add h.next ⟨L.blk, L.off + o, L.size⟩) ((h.put i none).new (.cells true vs)) w' :=
  hr.overO hi rfl hL o _ hs hoth hos ht hout hob

theorem rawStore {b a : Nat} {c : Array Value} {el : TypeId} {fr : Nat × Nat} {xs : List Value} (hb : w.heap[b]? = some (.cells c el fr)) (hin : ∀ j, j < xs.length → a + j < c.size)
    (hfr : ∀ j, j < xs.length → ¬ (fr.1 ≤ a + j ∧ a + j < fr.2)) (h1 : ∀ x ∈ xs, scalar x = true) :
    ∃ w' c', (storeCells ⟨b, a, none⟩ xs).run P w = .ok () w' ∧ w'.heap[b]? = some (.cells c' el fr) ∧ c'.size = c.size ∧ (∀ k, c'[k]? = if a ≤ k ∧ k < a + xs.length then xs[k - a]? else c[k]?) ∧
      (∀ k, k ≠ b → w'.heap[k]? = w.heap[k]?) ∧ w'.heap.size = w.heap.size ∧ w'.os = w.os ∧ w'.tape = w.tape ∧ w'.output = w.output := by
  have hrun := run_storeCells_cells (P := P) b a xs 0 w
    (fun j hj => by
      have := hin j hj
      simp [World.cell?, hb, this])
    (fun j hj => by
      have := hfr j hj
      simp [World.frozen?, hb]; omega)
    (fun v hv => scalar_one (h1 v hv))
  simp only [Nat.add_zero] at hrun
  have key : ∀ (xs : List Value) (a : Nat) (c : Array Value) (w : World), w.heap[b]? = some (.cells c el fr) → (∀ j, j < xs.length → a + j < c.size) →
      ∃ c', (w.setCells b a xs).heap[b]? = some (.cells c' el fr) ∧ c'.size = c.size ∧ (∀ k, c'[k]? = if a ≤ k ∧ k < a + xs.length then xs[k - a]? else c[k]?) := by
    intro xs
    induction xs with
    | nil => intro a c w hw _; exact ⟨c, hw, rfl, fun k => by rw [if_neg (by simp <;> omega)]⟩
    | cons x xs ih =>
      intro a c w hw hlt
      have hw' : (w.setCell ⟨b, a, none⟩ x).heap[b]? = some (.cells (c.setIfInBounds a x) el fr) := by
        simp [World.setCell, Array.getElem?_modify, hw]
      obtain ⟨c', h1, h2, h3⟩ := ih (a + 1) (c.setIfInBounds a x) _ hw' (fun j hj => by have := hlt (j + 1) (by simp; omega); simp; omega)
      refine ⟨c', h1, by simpa using h2, fun k => ?_⟩
      rw [h3 k]
      have ha := hlt 0 (by simp)
      by_cases e : k = a
      · subst e
        rw [if_neg (by omega), if_pos (by simp)]
        rw [Nat.sub_self, Array.getElem?_setIfInBounds_self_of_lt (by simpa using ha)]
        rfl
      · by_cases hk : a + 1 ≤ k ∧ k < a + 1 + xs.length
        · rw [if_pos hk, if_pos (by simp; omega), show k - a = (k - (a + 1)) + 1 from by omega]
          simp
        · rw [if_neg hk, if_neg (by simp at hk ⊢; omega), Array.getElem?_setIfInBounds_ne (by omega)]
  have hoth : ∀ (xs : List Value) (a : Nat) (w : World) (k : Nat), k ≠ b → (w.setCells b a xs).heap[k]? = w.heap[k]? := by
    intro xs
    induction xs with
    | nil => intros; rfl
    | cons x xs ih => intro a w k hk; rw [World.setCells, ih _ _ _ hk]; exact Go.RowKit.Below.heap_setCell _ _ _ _ hk
  have hrest : ∀ (xs : List Value) (a : Nat) (w : World), (w.setCells b a xs).heap.size = w.heap.size ∧ (w.setCells b a xs).os = w.os ∧ (w.setCells b a xs).tape = w.tape ∧ (w.setCells b a xs).output = w.output := by
    intro xs
    induction xs with
    | nil => intros; exact ⟨rfl, rfl, rfl, rfl⟩
    | cons x xs ih => intro a w; obtain ⟨h1, h2, h3, h4⟩ := ih (a + 1) (w.setCell ⟨b, a, none⟩ x); exact ⟨by rw [World.setCells, h1]; simp [World.setCell], h2, h3, h4⟩
  obtain ⟨c', k1, k2, k3⟩ := key xs a c w hb hin
  obtain ⟨g1, g2, g3, g4⟩ := hrest xs a w
  exact ⟨_, c', hrun, k1, k2, k3, fun k hk => hoth xs a w k hk, g1, g2, g3, g4⟩

/-- What the type table must say of an element's type. -/
structure ElemOk (P : Program) (el : TypeId) (ti : TypeInfo) (z : Value) : Prop where
  info : P.info? el = some ti
  zero : ti.zero = some z
  cells : z.cells.size = ti.size
  plain : ∀ y ∈ z.cells.toList, scalar y = true
  size : 0 < ti.size
  bytes : 0 < ti.bytes

theorem zeroCells_mem {z : Array Value} (hz : ∀ y ∈ z.toList, scalar y = true) (hs : 0 < z.size) (n : Nat) : ∀ y ∈ (Builtin.zeroCells z n).toList, scalar y = true := by
  intro y hy
  simp only [Builtin.zeroCells, Array.toList_map, List.mem_map] at hy
  obtain ⟨i, _, rfl⟩ := hy
  have hlt : i % z.size < z.size := Nat.mod_lt _ hs
  rw [getElem!_pos z _ hlt]
  exact hz _ (by simp)

/-- A new row for what is appended. -/
theorem fresh_ok {el : TypeId} {ti : TypeInfo} {z : Value} (E : ElemOk P el ti z) {h0 : Hp} (hr : Rel G M h0 w) (hnx : h0.next = h.next) {n C : Nat} {vs : List V} {xs : List Value} (hv : RepL M vs xs) (hl : vs.length = n * ti.size) (h1 : ∀ y ∈ xs, scalar y = true)
    (hC : n ≤ C) (hC2 : n ≤ 9223372036854775807 → C ≤ 9223372036854775807) (e : freshRow ti.size ti.bytes n vs h h0 = .ok r h') :
    ∃ M', Rp M' r (.slice (some ⟨w.heap.size, 0, none⟩) n C) ∧ Rel G M' h' (w.drew.alloc (.cells (xs.toArray ++ Builtin.zeroCells z.cells (C - n)) el)) ∧
      Ext M h0 w M' h' (w.drew.alloc (.cells (xs.toArray ++ Builtin.zeroCells z.cells (C - n)) el)) ∧ n * ti.bytes ≤ 140737488355328 := by
  unfold freshRow at e
  split at e
  · rename_i hb
    cases e
    have hb' : n * ti.bytes ≤ 140737488355328 := Nat.le_of_ble_eq_true hb
    have hxl := hv.length
    have hsz : (xs.toArray ++ Builtin.zeroCells z.cells (C - n)).size = C * ti.size := by
      rw [Array.size_append, size_zeroCells, E.cells, List.size_toArray, hxl, hl, ← Nat.add_mul]
      congr 1; omega
    have := hr.row vs (xs.toArray ++ Builtin.zeroCells z.cells (C - n)) el (0, 0) (w' := w.drew.alloc (.cells (xs.toArray ++ Builtin.zeroCells z.cells (C - n)) el))
      (by simp only [Array.toList_append]; rw [← hxl, List.take_left]; exact hv)
      (fun y hy => by
        simp only [Array.toList_append, List.mem_append] at hy
        rcases hy with hy | hy
        · exact h1 y hy
        · exact zeroCells_mem E.plain (by rw [E.cells]; exact E.size) _ y hy)
      (by simp) rfl rfl rfl rfl
    refine ⟨_, ?_, this.1, this.2, hb'⟩
    have hk : (M.add h0.next ⟨w.heap.size, 0, (xs.toArray ++ Builtin.zeroCells z.cells (C - n)).size⟩) h.next = some ⟨w.heap.size, 0, (xs.toArray ++ Builtin.zeroCells z.cells (C - n)).size⟩ := by
      rw [← hnx]; exact M.add_self _ _
    have hn : n ≤ n * ti.bytes := Nat.le_mul_of_pos_right _ E.bytes
    exact rp_slice (o := 0) hk ⟨⟨hC, hC2 (by omega)⟩, by show 0 + 0 + C * ti.size = (xs.toArray ++ Builtin.zeroCells z.cells (C - n)).size; rw [hsz]; omega⟩
  · cases e

/-- the same, for a row of bytes of a text -/
theorem fresh_okB {el : TypeId} {ti : TypeInfo} {z : Value} (E : ElemOk P el ti z) {h0 : Hp} (hr : Rel G M h0 w) (hnx : h0.next = h.next) {n C : Nat} {vs : List V} {xs : List Value} (hv : RepL M vs xs) (hl : vs.length = n * ti.size) (h1 : ∀ y ∈ xs, scalar y = true)
    (hC : n ≤ C) (hC2 : C ≤ 9223372036854775807) :
    ∃ M', Rp M' (.slice h.next 0 n (.un ti.size)) (.slice (some ⟨w.heap.size, 0, none⟩) n C) ∧ Rel G M' (h0.new (.bytes vs)) (w.drew.alloc (.cells (xs.toArray ++ Builtin.zeroCells z.cells (C - n)) el)) ∧
      Ext M h0 w M' (h0.new (.bytes vs)) (w.drew.alloc (.cells (xs.toArray ++ Builtin.zeroCells z.cells (C - n)) el)) := by
  have hxl := hv.length
  have hsz : (xs.toArray ++ Builtin.zeroCells z.cells (C - n)).size = C * ti.size := by
    rw [Array.size_append, size_zeroCells, E.cells, List.size_toArray, hxl, hl, ← Nat.add_mul]
    congr 1; omega
  have := hr.new (.bytes vs) (.cells (xs.toArray ++ Builtin.zeroCells z.cells (C - n)) el (0, 0)) (xs.toArray ++ Builtin.zeroCells z.cells (C - n)).size (w' := w.drew.alloc (.cells (xs.toArray ++ Builtin.zeroCells z.cells (C - n)) el))
    rfl rfl rfl rfl (fun N hle => ⟨_, el, (0, 0), by simp only [World.alloc]; exact Array.getElem?_push_size, rfl, fun k v hk => by
      obtain ⟨x, hx', hrx⟩ := hv.get hk
      have hlt := (List.getElem?_eq_some_iff.1 hx').1
      refine ⟨x, ?_, hrx.mono hle, h1 x (List.mem_of_getElem? hx')⟩
      show (xs.toArray ++ Builtin.zeroCells z.cells (C - n))[0 + k]? = some x
      rw [Nat.zero_add, Array.getElem?_append_left (by simpa using hlt)]
      simpa using hx', fun k _ _ h => by simp at h⟩)
  have hk : (M.add h0.next ⟨w.heap.size, 0, (xs.toArray ++ Builtin.zeroCells z.cells (C - n)).size⟩) h.next = some ⟨w.heap.size, 0, (xs.toArray ++ Builtin.zeroCells z.cells (C - n)).size⟩ := by
    rw [← hnx]; exact M.add_self _ _
  exact ⟨_, rp_slice (o := 0) hk ⟨⟨hC, hC2⟩, by show 0 + 0 + C * ti.size = (xs.toArray ++ Builtin.zeroCells z.cells (C - n)).size; rw [hsz]; omega⟩, this.1, this.2.1⟩
theorem append_ok {t t2 ty el : TypeId} {d2 : TypeDesc} {ti : TypeInfo} {z : Value} (ht : P.underlying t = some (.slice el)) (ht2 : P.underlying t2 = some d2) (hd2 : ∀ k, d2 ≠ .int k) (E : ElemOk P el ti z)
    {s x : V} {a c : Value} (hr : Rel G M h w) (hs : Rp M s a) (hx : Rp M x c) (e0 : oAppend ti.size ti.bytes s x h = .ok r h') : Good P G M h w (Builtin.append_ #[t, t2] ty #[a, c]) r h' := by
  obtain ⟨n, new, news, e, hlen, hnew, hnl, hns, hnews⟩ := srcCells_ok (P := P) hr hx e0
  clear e0
  have hdrew : w.drew.heap = w.heap := rfl
  have hnwl := hnew.length
  cases n with
  | zero =>
    have hnn : news = [] := by
      have : news.length = 0 := by rw [hnwl, hnl]; omega
      exact List.length_eq_zero_iff.1 this
    subst hnn
    simp only [] at e
    split at e
    · cases e
      cases hs.nils
      refine .same hr (c := .slice none 0 0) ?_ hs
      rw [run_append_in ht ht2 hd2 E.info hlen (hnews w rfl) (by omega)]
    · cases e
      obtain ⟨ad, k, rfl⟩ := hs.emp
      refine .same hr (c := .slice (some ad) 0 k) ?_ hs
      rw [run_append_in ht ht2 hd2 E.info hlen (hnews w rfl) (by omega)]
      rfl
    · cases e
      obtain ⟨L, k, hL, hc, rfl⟩ := hs.slice
      refine .same hr (c := .slice (some (L.at _)) _ k) ?_ hs
      rw [run_append_in ht ht2 hd2 E.info hlen (hnews w rfl) (by rename_i cap; cases cap <;> simp only [CapOk] at hc <;> omega)]
      rfl
    · cases e
  | succ m =>
    simp only [] at e
    split at e
    · -- nil
      cases hs.nils
      obtain ⟨M', h1, h2, h3, h4⟩ := fresh_ok (n := m + 1) (C := grownCap w (0 + (m + 1)) 0 el) E hr rfl hnew hnl hns (by have := grownCap_ge w (0 + (m + 1)) 0 el; omega) (fun hh => grownCap_le_maxLen _ _ _ _ (by rw [Nat.zero_add]; exact hh)) e
      refine ⟨_, _, M', ?_, h1, h2, h3⟩
      have := run_append_out (ty := ty) (olds := []) (base := none) (n := 0) (cap := 0) ht ht2 hd2 E.info E.zero hlen (hnews _ hdrew) (by simp [Builtin.firstCells]) (by omega) (by rw [Nat.zero_add]; exact h4) E.bytes
      rw [this]
      simp
    · rename_i i o len cap
      obtain ⟨L, k, hL, hc, rfl⟩ := hs.slice
      obtain ⟨wr, cs, hi, e1⟩ := hCells_ok e
      clear e
      rw [forceNat_eq] at e1
      have e := e1
      clear e1
      have room : ∀ {cs' : List V}, wr = true → putV (o + len * ti.size) new cs = some cs' → len + (m + 1) ≤ k → ∀ cp, CapOk L o (len + (m + 1)) cp k → R.ok (V.slice i o (len + (m + 1)) cp) (h.put i (some (.cells true cs'))) = .ok r h' →
          Good P G M h w (Builtin.append_ #[t, t2] ty #[.slice (some (L.at o)) len k, c]) r h' := by
        intro cs' hw hp hle cp hcp e2
        subst hw
        cases e2
        obtain ⟨w', g1, g2, g3⟩ := hr.store (P := P) (row_true hi) hL hp hnew hns
        refine ⟨.slice (some (L.at o)) (len + (m + 1)) k, w', M, ?_, rp_slice hL hcp, g2, g3⟩
        rw [run_append_in ht ht2 hd2 E.info hlen (hnews w rfl) hle]
        simp only [Loc.at_add, g1]
        rfl
      have grow : ∀ {old : List V} {h0 : Hp}, takeV (len * ti.size) (dropV o cs) = some old → Rel G M h0 w → h0.next = h.next → Ext M h w M h0 w → k < len + (m + 1) →
          freshRow ti.size ti.bytes (len + (m + 1)) (old ++ new) h h0 = .ok r h' → Good P G M h w (Builtin.append_ #[t, t2] ty #[.slice (some (L.at o)) len k, c]) r h' := by
        intro old h0 ho hr0 hnx hext hlt e2
        obtain ⟨olds, ho1, ho2, ho3, ho4⟩ := hr.cells hi hL ho
        have hol : old.length = len * ti.size := by rw [← ho1.length]; exact ho2
        obtain ⟨M', h1, h2, h3, h4⟩ := fresh_ok (n := len + (m + 1)) (C := grownCap w (len + (m + 1)) k el) E hr0 hnx (RepL.append ho1 hnew) (by rw [List.length_append, hol, hnl, ← Nat.add_mul])
          (fun y hy => (List.mem_append.1 hy).elim (ho3 y) (hns y)) (grownCap_ge _ _ _ _) (fun hh => grownCap_le_maxLen _ _ _ _ hh) e2
        refine ⟨_, _, M', ?_, h1, h2, hext.trans h3⟩
        have := run_append_out (ty := ty) (olds := olds) (base := some (L.at o)) (n := len) (cap := k) ht ht2 hd2 E.info E.zero hlen (hnews _ hdrew)
          (run_firstCells_some _ _ _ _ _ _ olds ho2 (fun j v hj => by rw [← ho4 j v hj]; rfl)) hlt h4 E.bytes
        rw [this]
        simp
      cases cap with
      | kn cc =>
        obtain ⟨rfl, hcl⟩ := hc
        simp only [] at e
        split at e
        · rename_i hle
          split at e
          · rename_i hp
            exact room rfl hp (Nat.le_of_ble_eq_true hle) (.kn k) ⟨rfl, Nat.le_of_ble_eq_true hle⟩ e
          · cases e
        · rename_i hle
          split at e
          · rename_i old ho
            refine grow ho hr rfl (.refl hr) ?_ e
            have : ¬ len + (m + 1) ≤ k := fun hh => by rw [Nat.ble_eq_true_of_le hh] at hle; cases hle
            omega
          · cases e
      | un u =>
        obtain ⟨hk1, hk2⟩ := hc
        simp only [] at e
        split at e
        · rename_i hu
          have hu' : u = ti.size := Nat.eq_of_beq_eq_true hu
          subst hu'
          split at e
          · cases e
          · rename_i old ho
            split at e
            · rename_i hd
              -- the end of what is known
              by_cases hle : len + (m + 1) ≤ k
              · obtain ⟨L', hL', cc, el', fr, hb, hsz, hcell, hfr⟩ := hr.ob i _ (row_true hi)
                rw [hL] at hL'; cases hL'
                obtain ⟨olds, ho1, ho2, ho3, ho4⟩ := hr.cells hi hL ho
                have hol : old.length = len * ti.size := by rw [← ho1.length]; exact ho2
                have hmul : (len + (m + 1)) * ti.size ≤ k * ti.size := Nat.mul_le_mul_right _ hle
                rw [Nat.add_mul] at hmul
                have hin : ∀ j, j < news.length → L.off + (o + len * ti.size) + j < cc.size := fun j hj => by rw [hnwl, hnl] at hj; omega
                obtain ⟨w', c', g1, g2, g3, g4, g5, g6, g7, g8, g9⟩ := rawStore (P := P) (a := L.off + (o + len * ti.size)) hb hin (fun j hj => hfr rfl _ (by omega) (by have := hin j hj; omega)) hns
                unfold freshRow at e
                split at e
                · cases e
                  have hcell' : ∀ (N : Mp), M.le N → ∀ (q : Nat) (v : V), (old ++ new)[q]? = some v → ∃ x, c'[L.off + o + q]? = some x ∧ Rp N v x ∧ scalar x = true := by
                    intro N hle' q v hq
                    rw [g4]
                    rw [List.getElem?_append] at hq
                    split at hq
                    · rename_i hql
                      rw [if_neg (by omega)]
                      obtain ⟨hq1, hq2⟩ := takeV_eq _ ho
                      rw [hq2, dropV_eq, List.getElem?_take] at hq
                      rw [if_pos (by omega), List.getElem?_drop] at hq
                      obtain ⟨x, x1, x2, x3⟩ := hcell _ _ hq
                      exact ⟨x, by rw [← x1]; congr 1; omega, x2.mono hle', x3⟩
                    · rename_i hql
                      obtain ⟨x, x1, x2⟩ := hnew.get hq
                      have hxl : q - old.length < news.length := (List.getElem?_eq_some_iff.1 x1).1
                      rw [if_pos (by omega)]
                      exact ⟨x, by rw [← x1]; congr 1; omega, x2.mono hle', hns x (List.mem_of_getElem? x1)⟩
                  have hov := hr.over (row_true hi) hL o (old ++ new) (w' := w') g6 (fun q hq => g5 q hq) g7 g8 g9 (fun N hN => ⟨c', el', fr, g2, g3.trans hsz, hcell' N hN, fun _ q hq1 hq2 => hfr rfl q (by simp only [] at hq1; omega) hq2⟩)
                  refine ⟨.slice (some (L.at o)) (len + (m + 1)) k, w', _, ?_, ?_, hov.1, hov.2⟩
                  · rw [run_append_in ht ht2 hd2 E.info hlen (hnews w rfl) hle]
                    simp only [Loc.at_add]
                    have : (storeCells (L.at (o + len * ti.size)) news).run P w = .ok () w' := g1
                    rw [this]
                    rfl
                  · have := rp_slice (o := 0) (n := len + (m + 1)) (k := .un ti.size) (m := k) (M.add_self h.next ⟨L.blk, L.off + o, L.size⟩) ⟨⟨hle, hk1.2⟩, by show L.off + o + 0 + k * ti.size = L.size; omega⟩
                    exact this
                · cases e
              · have hd := hr.drop i
                exact grow ho hd.1 rfl hd.2 (by omega) e
            · rename_i v vs hd
              split at e
              · rename_i hp
                have hpos : 0 < (m + 1) * ti.size := Nat.mul_pos (by omega) E.size
                obtain ⟨hfit, _⟩ := putV_eq _ _ hp
                obtain ⟨L', hL', cc, el', fr, hb, hsz, hcell, hfr⟩ := hr.ob i _ (row_true hi)
                rw [hL] at hL'; cases hL'
                have hle : len + (m + 1) ≤ k := by
                  have h1 : (len + (m + 1)) * ti.size ≤ k * ti.size := by
                    rw [Nat.add_mul]
                    have hlast : 0 < cs.length := by omega
                    obtain ⟨x, hx1, _⟩ := hcell (cs.length - 1) cs[cs.length - 1] (List.getElem?_eq_getElem (by omega))
                    have := (Array.getElem?_eq_some_iff.1 hx1).1
                    omega
                  exact Nat.le_of_mul_le_mul_right h1 E.size
                exact room rfl hp hle (.un ti.size) ⟨⟨hle, hk1.2⟩, hk2⟩ e
              · cases e
        · -- a row of bytes of a text
          rename_i hu
          have hu' : u = ti.size := Nat.eq_of_beq_eq_true hu
          subst hu'
          unfold appB at e
          split at e
          · rename_i ob hob
            split at e
            · rename_i cs0
              rw [hob] at hi
              cases hi
              split at e
              · rename_i old ho
                split at e
                · rename_i hd
                  split at e
                  · rename_i hbig
                    have hbig' : (len + (m + 1)) * ti.bytes ≤ 140737488355328 := Nat.le_of_ble_eq_true hbig
                    cases e
                    have hi' : (h.get i).bind Ob.row = some (false, cs) := by rw [hob]; rfl
                    obtain ⟨olds, ho1, ho2, ho3, ho4⟩ := hr.cells hi' hL ho
                    have hol : old.length = len * ti.size := by rw [← ho1.length]; exact ho2
                    obtain ⟨L', hL', cc, el', fr, hb, hsz, hcell, hfr⟩ := hr.ob i _ hob
                    rw [hL] at hL'; cases hL'
                    by_cases hle : len + (m + 1) ≤ k
                    · have hmul : (len + (m + 1)) * ti.size ≤ k * ti.size := Nat.mul_le_mul_right _ hle
                      rw [Nat.add_mul] at hmul
                      have hin : ∀ j, j < news.length → L.off + (o + len * ti.size) + j < cc.size := fun j hj => by rw [hnwl, hnl] at hj; omega
                      obtain ⟨w', c', g1, g2, g3, g4, g5, g6, g7, g8, g9⟩ := rawStore (P := P) (a := L.off + (o + len * ti.size)) hb hin (fun j hj => hfr _ (by omega) (by have := hin j hj; omega)) hns
                      have hcell' : ∀ (N : Mp), M.le N → ∀ (q : Nat) (v : V), (old ++ new)[q]? = some v → ∃ x, c'[L.off + o + q]? = some x ∧ Rp N v x ∧ scalar x = true := by
                        intro N hle' q v hq
                        rw [g4]
                        rw [List.getElem?_append] at hq
                        split at hq
                        · rename_i hql
                          rw [if_neg (by omega)]
                          obtain ⟨hq1, hq2⟩ := takeV_eq _ ho
                          rw [hq2, dropV_eq, List.getElem?_take] at hq
                          rw [if_pos (by omega), List.getElem?_drop] at hq
                          obtain ⟨x, x1, x2, x3⟩ := hcell _ _ hq
                          exact ⟨x, by rw [← x1]; congr 1; omega, x2.mono hle', x3⟩
                        · rename_i hql
                          obtain ⟨x, x1, x2⟩ := hnew.get hq
                          have hxl : q - old.length < news.length := (List.getElem?_eq_some_iff.1 x1).1
                          rw [if_pos (by omega)]
                          exact ⟨x, by rw [← x1]; congr 1; omega, x2.mono hle', hns x (List.mem_of_getElem? x1)⟩
                      have hov := hr.overO hob rfl hL o (.bytes (old ++ new)) (w' := w') g6 (fun q hq => g5 q hq) g7 g8 g9 (fun N hN => ⟨c', el', fr, g2, g3.trans hsz, hcell' N hN, fun q hq1 hq2 => hfr q (by simp only [] at hq1; omega) hq2⟩)
                      refine ⟨.slice (some (L.at o)) (len + (m + 1)) k, w', _, ?_, ?_, hov.1, hov.2⟩
                      · rw [run_append_in ht ht2 hd2 E.info hlen (hnews w rfl) hle]
                        simp only [Loc.at_add]
                        have : (storeCells (L.at (o + len * ti.size)) news).run P w = .ok () w' := g1
                        rw [this]
                        rfl
                      · exact rp_slice (o := 0) (n := len + (m + 1)) (k := .un ti.size) (m := k) (M.add_self h.next ⟨L.blk, L.off + o, L.size⟩) ⟨⟨hle, hk1.2⟩, by show L.off + o + 0 + k * ti.size = L.size; omega⟩
                    · have hdr := hr.drop i
                      have hn1 : len + (m + 1) ≤ (len + (m + 1)) * ti.bytes := Nat.le_mul_of_pos_right _ E.bytes
                      obtain ⟨M', h1, h2, h3⟩ := fresh_okB (h := h) (n := len + (m + 1)) (C := grownCap w (len + (m + 1)) k el) E hdr.1 rfl (RepL.append ho1 hnew) (by rw [List.length_append, hol, hnl, ← Nat.add_mul])
                        (fun y hy => (List.mem_append.1 hy).elim (ho3 y) (hns y)) (grownCap_ge _ _ _ _) (grownCap_le_maxLen _ _ _ _ (by show _ ≤ 9223372036854775807; omega))
                      refine ⟨_, _, M', ?_, h1, h2, hdr.2.trans h3⟩
                      have := run_append_out (ty := ty) (olds := olds) (base := some (L.at o)) (n := len) (cap := k) ht ht2 hd2 E.info E.zero hlen (hnews _ hdrew)
                        (run_firstCells_some _ _ _ _ _ _ olds ho2 (fun j v hj => by rw [← ho4 j v hj]; rfl)) (by omega) hbig' E.bytes
                      rw [this]
                      simp
                  · cases e
                · cases e
              · cases e
            · cases e
          · cases e
        · cases e
    · cases e
end
end Go.Vm

/- The value machine, part 11: literals, make, texts and bytes, len, min, max, copy. -/
namespace Go.Vm
noncomputable section
variable {P : Program} {G : Nat} {M : Mp} {h h' : Hp} {w : World} {r : V}

/-! ### Constants -/
def constS : Value → Option V
  | .bool b => some (.bool b)
  | .int k n => some (.int k n)
  | .string s => some (.str (s.data.toList.map UInt8.toNat))
  | .pointer none => some .nilp
  | .slice none 0 0 => some .nils
  | .map none => some .nilm
  | .nilFunc => some .nilf
  | .nilIface => some .nili
  | _ => none
def constL : List Value → Option (List V)
  | [] => some []
  | v :: l => (match constS v, constL l with | some a, some r => some (a :: r) | _, _ => none)
def const : Value → Option V
  | .agg cs => (match constL cs.toList with | some l => some (.agg (V.ofList l)) | none => none)
  | .tuple cs => (match cs.toList with | [] => some V.undef | _ => none)
  | v => constS v

theorem bts_of (s : ByteArray) : bts (s.data.toList.map UInt8.toNat) = s := by
  apply ByteArray.ext
  simp only [bts, List.map_map]
  have : UInt8.ofNat ∘ UInt8.toNat = id := by funext x; simp
  rw [this]; simp

theorem constS_ok {v : Value} {a : V} (e : constS v = some a) (M : Mp) : Rp M a v ∧ scalar v = true := by
  unfold constS at e
  split at e <;> cases e
  · exact ⟨⟨rfl, rfl⟩, rfl⟩
  · exact ⟨⟨rfl, rfl⟩, rfl⟩
  · refine ⟨⟨rfl, ?_, ?_⟩, rfl⟩
    · intro b hb
      obtain ⟨c, _, rfl⟩ := List.mem_map.1 hb
      exact c.toNat_lt
    · rw [bts_of]
  · exact ⟨⟨rfl, rfl⟩, rfl⟩
  · exact ⟨⟨rfl, rfl⟩, rfl⟩
  · exact ⟨⟨rfl, rfl⟩, rfl⟩
  · exact ⟨⟨rfl, rfl⟩, rfl⟩
  · exact ⟨⟨rfl, rfl⟩, rfl⟩
theorem constL_ok : ∀ {l : List Value} {r : List V}, constL l = some r → ∀ M : Mp, RepL M r l ∧ ∀ y ∈ l, scalar y = true
  | [], r, e, M => by cases e; exact ⟨rfl, by simp⟩
  | v :: l, r, e, M => by
    simp only [constL] at e
    split at e
    · rename_i a t ha ht
      cases e
      obtain ⟨h1, h2⟩ := constS_ok ha M
      obtain ⟨h3, h4⟩ := constL_ok ht M
      exact ⟨⟨v, l, h1, h3, rfl⟩, fun y hy => by rcases List.mem_cons.1 hy with rfl | hy; exact h2; exact h4 y hy⟩
    · cases e
theorem const_ok {v : Value} {a : V} (e : const v = some a) (M : Mp) : Rp M a v := by
  unfold const at e
  split at e
  · rename_i cs
    split at e
    · rename_i l hl
      cases e
      obtain ⟨h1, h2⟩ := constL_ok hl M
      exact rp_agg (xs := cs.toList) h1 h2
    · cases e
  · rename_i cs
    split at e
    · rename_i hc
      cases e
      have : cs = #[] := by apply Array.ext'; exact hc
      subst this
      exact rp_undef M
    · cases e
  · exact (constS_ok e M).1

/-! ### Literals -/
def fillP : List V → List (Nat × Nat × V) → Option (List V)
  | cs, [] => some cs
  | cs, (off, size, v) :: rest => (match notTuple v, Nat.beq v.cells.length size with
    | true, true => (match putV off v.cells cs with | some cs' => fillP cs' rest | none => none)
    | _, _ => none)
/-- the places of the parts -/
def placed (place : Nat → Option (Nat × Nat)) : List (Nat × V) → Option (List (Nat × Nat × V))
  | [] => some []
  | (i, v) :: rest => (match place i, placed place rest with | some p, some r => some ((p.1, p.2, v) :: r) | _, _ => none)

theorem foldl_set (off : Nat) : ∀ (cs : List Value) (j : Nat) (xs : Array Value), off + j + cs.length ≤ xs.size →
    ((cs.zipIdx j).foldl (fun a (p : Value × Nat) => a.setIfInBounds (off + p.2) p.1) xs).size = xs.size ∧
    ∀ k, ((cs.zipIdx j).foldl (fun a (p : Value × Nat) => a.setIfInBounds (off + p.2) p.1) xs)[k]? = if off + j ≤ k ∧ k < off + j + cs.length then cs[k - (off + j)]? else xs[k]? := by
  intro cs
  induction cs with
  | nil => intro j xs _; exact ⟨rfl, fun k => by rw [if_neg (by simp <;> omega)]; rfl⟩
  | cons c cs ih =>
    intro j xs hl
    simp only [List.zipIdx_cons, List.foldl_cons]
    have hl' : off + (j + 1) + cs.length ≤ (xs.setIfInBounds (off + j) c).size := by simp at hl ⊢; omega
    obtain ⟨h1, h2⟩ := ih (j + 1) (xs.setIfInBounds (off + j) c) hl'
    refine ⟨by rw [h1]; simp, fun k => ?_⟩
    rw [h2 k]
    by_cases e : k = off + j
    · subst e
      rw [if_neg (by omega), if_pos (by simp)]
      rw [Nat.sub_self, Array.getElem?_setIfInBounds_self_of_lt (by simp at hl; omega)]
      rfl
    · by_cases hk : off + (j + 1) ≤ k ∧ k < off + (j + 1) + cs.length
      · rw [if_pos hk, if_pos (by simp; omega), show k - (off + j) = (k - (off + (j + 1))) + 1 from by omega]
        simp
      · rw [if_neg hk, if_neg (by simp at hk ⊢; omega), Array.getElem?_setIfInBounds_ne (by omega)]

theorem fill_ok {place : Nat → Option (Nat × Nat)} : ∀ {ps : List (Nat × V)} {qs : List (Nat × Nat × V)} {cs : List V} {r : List V} {ys : List (Nat × Value)} {xs : Array Value},
    placed place ps = some qs → fillP cs qs = some r → RepL M cs xs.toList → (∀ y ∈ xs.toList, scalar y = true) → ps.map (·.1) = ys.map (·.1) → RepL M (ps.map (·.2)) (ys.map (·.2)) →
    ∃ xs', Instr.fill place xs ys = some xs' ∧ RepL M r xs'.toList ∧ ∀ y ∈ xs'.toList, scalar y = true := by
  intro ps
  induction ps with
  | nil =>
    intro qs cs r ys xs hp hf hx hs h1 h2
    cases ys with
    | cons y ys => cases h1
    | nil =>
      cases hp; cases hf
      exact ⟨xs, rfl, hx, hs⟩
  | cons p ps ih =>
    intro qs cs r ys xs hp hf hx hs h1 h2
    cases ys with
    | nil => cases h1
    | cons y ys =>
      obtain ⟨i, v⟩ := p
      obtain ⟨i', c⟩ := y
      simp only [List.map_cons, List.cons.injEq] at h1
      obtain ⟨rfl, h1⟩ := h1
      simp only [List.map_cons] at h2
      obtain ⟨x, xt, hv, hrest, he⟩ := h2
      simp only [List.cons.injEq] at he
      obtain ⟨rfl, rfl⟩ := he
      simp only [placed] at hp
      split at hp
      · rename_i q r' hq hr'
        cases hp
        simp only [fillP] at hf
        split at hf
        · rename_i hn hb
          split at hf
          · rename_i cs' hput
            have hsz := Nat.eq_of_beq_eq_true hb
            have hvc := hv.cells
            have hvl := hvc.length
            obtain ⟨hfit, _⟩ := putV_eq _ _ hput
            have hxl := hx.length
            have hlen : xs.size = cs.length := by simpa using hxl
            have hcl : c.cells.size = v.cells.length := by simpa using hvl
            have hfold := foldl_set q.1 c.cells.toList 0 xs (by simp; omega)
            simp only [Nat.add_zero] at hfold
            obtain ⟨f1, f2⟩ := hfold
            have hfoldA : c.cells.zipIdx.foldl (fun cs x => match x with | (c, j) => cs.setIfInBounds (q.1 + j) c) xs = (c.cells.toList.zipIdx 0).foldl (fun a (p : Value × Nat) => a.setIfInBounds (q.1 + p.2) p.1) xs := by
              rw [← Array.foldl_toList, Array.toList_zipIdx]
            have hcs := cells_scalar hv hn
            have := ih (qs := r') (cs := cs') (r := r) (ys := ys) (xs := (c.cells.toList.zipIdx 0).foldl (fun a (p : Value × Nat) => a.setIfInBounds (q.1 + p.2) p.1) xs) hr' hf
              (RepL.mk (by
                have := (putV_eq _ _ hput).2
                have hl2 : cs'.length = cs.length := by rw [this]; simp; omega
                simp only [Array.length_toList, f1]; omega) (fun k u hk => by
                rw [putV_get hput] at hk
                simp only [Array.getElem?_toList]
                rw [f2 k]
                split at hk
                · rw [if_neg (by omega)]
                  obtain ⟨x, x1, x2⟩ := hx.get hk
                  exact ⟨x, by simpa using x1, x2⟩
                · split at hk
                  · rw [if_pos (by simp; omega)]
                    exact hvc.get hk
                  · rw [if_neg (by simp; omega)]
                    obtain ⟨x, x1, x2⟩ := hx.get hk
                    exact ⟨x, by simpa using x1, x2⟩))
              (fun y hy => by
                obtain ⟨k, hk⟩ := List.mem_iff_getElem?.1 hy
                simp only [Array.getElem?_toList] at hk
                rw [f2 k] at hk
                split at hk
                · exact hcs y (List.mem_of_getElem? hk)
                · exact hs y (List.mem_of_getElem? (by simpa using hk)))
              h1 hrest
            obtain ⟨xs', g1, g2, g3⟩ := this
            refine ⟨xs', ?_, g2, g3⟩
            simp only [Instr.fill, hq]
            rw [if_neg (by simp; omega)]
            rw [hfoldA]
            exact g1
          · cases hf
        · cases hf
      · cases hp

def oBuild (z : List V) (qs : List (Nat × Nat × V)) (h : Hp) : R V := match fillP z qs with
  | some cs => .ok (.agg (V.ofList cs)) h
  | none => .bad
def oBuildSlice (z : List V) (len : Nat) (qs : List (Nat × Nat × V)) (h : Hp) : R V := match fillP z qs with
  | some cs => .ok (.slice h.next 0 len (.kn len)) (h.new (.cells true cs))
  | none => .bad

theorem build_ok {t : TypeId} {d : TypeDesc} {it : TypeInfo} {z : Value} {place : Nat → Option (Nat × Nat)} (hd : P.underlying t = some d) (hit : P.info? t = some it) (hz : it.zero = some z)
    (hpl : (∃ n e ie, d = .array n e ∧ P.info? e = some ie ∧ place = fun i => some (i * ie.size, ie.size)) ∨
      (∃ fs places, d = .struct fs ∧ fs.toList.mapM (fun f => (P.info? f.type).map fun i => (f.offset, i.size)) = some places ∧ place = fun i => places.toArray[i]?))
    {zs : List V} (hzs : RepL M zs z.cells.toList) (hsc : ∀ y ∈ z.cells.toList, scalar y = true) {ps : List (Nat × V)} {qs : List (Nat × Nat × V)} {ys : Array (Nat × Value)}
    (hp : placed place ps = some qs) (h1 : ps.map (·.1) = ys.toList.map (·.1)) (h2 : RepL M (ps.map (·.2)) (ys.toList.map (·.2))) (hr : Rel G M h w) (e : oBuild zs qs h = .ok r h') :
    Good P G M h w (Instr.build t ys) r h' := by
  unfold oBuild at e
  split at e
  · rename_i cs hf
    cases e
    obtain ⟨xs', g1, g2, g3⟩ := fill_ok hp hf hzs hsc h1 h2
    refine .same hr (c := .agg xs') (run_build w t ys xs' ?_) (rp_agg (xs := xs'.toList) g2 g3)
    unfold Program.built
    rcases hpl with ⟨n, e, ie, rfl, hie, rfl⟩ | ⟨fs, places, rfl, hfs, rfl⟩
    · simp only [hit, hd, hz, hie]
      exact g1
    · simp only [hit, hd, hz, hfs]
      exact g1
  · cases e

theorem buildSlice_ok {t el : TypeId} {ti : TypeInfo} {z : Value} (hd : P.underlying t = some (.slice el)) (E : ElemOk P el ti z) {len : Nat} (hpos : 0 < len) (hsmall : len * ti.size ≤ 16777216)
    {zs : List V} (hzs : RepL M zs ((Array.range (len * ti.size)).map (z.cells[· % z.cells.size]!)).toList) {ps : List (Nat × V)} {qs : List (Nat × Nat × V)} {ys : Array (Nat × Value)}
    (hp : placed (fun i => some (i * ti.size, ti.size)) ps = some qs) (h1 : ps.map (·.1) = ys.toList.map (·.1)) (h2 : RepL M (ps.map (·.2)) (ys.toList.map (·.2))) (hr : Rel G M h w) (e : oBuildSlice zs len qs h = .ok r h') :
    Good P G M h w (Instr.buildSlice t len ys) r h' := by
  unfold oBuildSlice at e
  split at e
  · rename_i cs hf
    cases e
    have hsc : ∀ y ∈ ((Array.range (len * ti.size)).map (z.cells[· % z.cells.size]!)).toList, scalar y = true := by
      intro y hy
      simp only [Array.toList_map, List.mem_map] at hy
      obtain ⟨i, _, rfl⟩ := hy
      have hlt : i % z.cells.size < z.cells.size := Nat.mod_lt _ (by rw [E.cells]; exact E.size)
      rw [getElem!_pos z.cells _ hlt]
      exact E.plain _ (by simp)
    obtain ⟨xs', g1, g2, g3⟩ := fill_ok hp hf hzs hsc h1 h2
    have hl := g2.length
    have := hr.row cs xs' el (0, 0) (w' := w.alloc (.cells xs' el)) (by rw [show cs.length = xs'.toList.length from hl.symm, List.take_length]; exact g2) g3 (by simp) rfl rfl rfl rfl
    have hnz : ¬ len * ti.size = 0 := by have := Nat.mul_pos hpos E.size; omega
    exact ⟨_, _, _, run_buildSlice w t el len ys xs' ti z hd E.info E.zero (by omega) hnz g1, rp_slice (o := 0) (k := .kn len) (m := len) (M.add_self _ _) ⟨rfl, Nat.le_refl _⟩, this.1, this.2⟩
  · cases e

theorem alloc_ok {t : TypeId} {it : TypeInfo} {z : Value} (hit : P.info? t = some it) (hz : it.zero = some z) {zs : List V} (hzs : RepL M zs z.cells.toList) (hsc : ∀ y ∈ z.cells.toList, scalar y = true)
    (hr : Rel G M h w) (e : oNew zs h = .ok r h') : Good P G M h w (Instr.alloc t true (.tuple #[])) r h' := by
  cases e
  have hl := hzs.length
  have := hr.row zs z.cells t (0, 0) (w' := w.alloc (.cells z.cells t)) (by rw [show zs.length = z.cells.toList.length from hl.symm, List.take_length]; exact hzs) hsc (by simp) rfl rfl rfl rfl
  refine ⟨.pointer (some ⟨w.heap.size, 0, none⟩), _, _, ?_, rp_ptr (M.add_self _ _) 0, this.1, this.2⟩
  simp [Instr.alloc, zeroValue, typeInfo, hit, hz, newVar, newRow]

/-- n times a row -/
def times (n : Nat) (z : List V) : List V := Nat.rec (motive := fun _ => List V) [] (fun _ ih => z ++ ih) n
def oMakeSlice (bt : Nat) (z : List V) (l c : V) (h : Hp) : R V := asNat l fun l => asNat c fun c =>
  match Nat.ble l c, Nat.ble (Nat.mul c bt) 140737488355328 with
  | true, true => .ok (.slice h.next 0 l (.kn c)) (h.new (.cells true (times c z)))
  | _, _ => .bad

theorem range_mod_mul (z : Array Value) : ∀ n : Nat, 0 < z.size → ((Array.range (n * z.size)).map (z[· % z.size]!)).toList = (List.replicate n z.toList).flatten := by
  intro n hz
  apply List.ext_getElem?
  intro i
  induction n generalizing i with
  | zero => simp
  | succ n ih =>
    rw [List.replicate_succ, List.flatten_cons, List.getElem?_append]
    by_cases hi : i < z.size
    · rw [if_pos (by simpa using hi)]
      have h1 : i < (n + 1) * z.size := by rw [Nat.add_mul]; omega
      simp [h1, Nat.mod_eq_of_lt hi, hi]
    · rw [if_neg (by simpa using hi)]
      rw [← ih]
      by_cases h1 : i < (n + 1) * z.size
      · have h2 : i - z.size < n * z.size := by rw [Nat.add_mul] at h1; omega
        have h3 : (i - z.size) % z.size = i % z.size := by
          conv => rhs; rw [show i = (i - z.size) + z.size from by omega]
          rw [Nat.add_mod_right]
        simp [h1, h2, h3]
      · have h2 : ¬ i - z.size < n * z.size := by rw [Nat.add_mul] at h1; omega
        simp [h1, h2]

theorem times_rep {zs : List V} {xs : List Value} (hz : RepL M zs xs) (n : Nat) : RepL M (times n zs) (List.replicate n xs).flatten := by
  induction n with
  | zero => rfl
  | succ n ih =>
    rw [List.replicate_succ, List.flatten_cons]
    exact RepL.append hz ih

theorem makeSlice_ok {t el : TypeId} {ti : TypeInfo} {z : Value} (hd : P.underlying t = some (.slice el)) (E : ElemOk P el ti z) {zs : List V} (hzs : RepL M zs z.cells.toList)
    {l c : V} {a b : Value} (hr : Rel G M h w) (hl : Rp M l a) (hc : Rp M c b) (e : oMakeSlice ti.bytes zs l c h = .ok r h') : Good P G M h w (Instr.makeSlice t a b) r h' := by
  obtain ⟨k1, n1, rfl, e1⟩ := asNat_ok e
  clear e
  obtain ⟨k2, n2, rfl, e2⟩ := asNat_ok e1
  clear e1
  cases hl.int
  cases hc.int
  split at e2
  · rename_i c1 c2
    cases e2
    have c1' : n1 ≤ n2 := Nat.le_of_ble_eq_true c1
    have c2' : n2 * ti.bytes ≤ 140737488355328 := Nat.le_of_ble_eq_true c2
    have hle : n2 ≤ n2 * ti.bytes := Nat.le_mul_of_pos_right _ E.bytes
    have hcast : (ti.bytes : Int) * (n2 : Int) ≤ 281474976710656 := by
      have : ((ti.bytes * n2 : Nat) : Int) ≤ 281474976710656 := by rw [Nat.mul_comm]; omega
      rwa [Int.natCast_mul] at this
    have hrun := run_make (P := P) w t el ti z hd E.info E.zero k1 k2 (n1 : Int) (n2 : Int) (by omega) (by omega) hcast (by omega)
    simp only [Int.toNat_natCast] at hrun
    have hcs : (madeCells z.cells (n2 * ti.size)).toList = (List.replicate n2 z.cells.toList).flatten := by
      unfold madeCells
      rw [← E.cells]
      exact range_mod_mul z.cells n2 (by rw [E.cells]; exact E.size)
    have hrep := times_rep hzs n2
    have hlen := hrep.length
    have := hr.row (times n2 zs) (madeCells z.cells (n2 * ti.size)) el (0, 0) (w' := w.alloc (.cells (madeCells z.cells (n2 * ti.size)) el))
      (by rw [hcs, ← hlen, List.take_length]; exact hrep)
      (by
        intro y hy
        rw [hcs] at hy
        obtain ⟨l, hl, hyl⟩ := List.mem_flatten.1 hy
        rw [(List.mem_replicate.1 hl).2] at hyl
        exact E.plain y hyl) (by simp) rfl rfl rfl rfl
    exact ⟨_, _, _, hrun, rp_slice (o := 0) (n := n1) (k := .kn n2) (m := n2) (M.add_self _ _) ⟨rfl, c1'⟩, this.1, this.2⟩
  · cases e2

/-! ### Texts and bytes -/
def oStrBytes (x : V) (h : Hp) : R V := match x with
  | .str s => (match Nat.blt s.length 4611686018427387904 with | true => .ok (.slice h.next 0 s.length (.un 1)) (h.new (.bytes (u8s s))) | false => .bad)
  | _ => .bad
def natsOf : List V → Option (List Nat)
  | [] => some []
  | v :: l => (match v with
    | .int k n => (match Nat.beq (kix k) 4, n with
      | true, .ofNat b => (match Nat.blt b 256, natsOf l with | true, some r => some (b :: r) | _, _ => none)
      | _, _ => none)
    | _ => none)
def oBytesStr (x : V) (h : Hp) : R V := match x with
  | .nils => .ok (.str []) h
  | .emp => .ok (.str []) h
  | .slice i o n _ => hCells h i fun _ cs => (match takeV n (dropV o cs) with
    | some l => (match natsOf l with | some s => .ok (.str s) h | none => .bad)
    | none => .bad)
  | _ => .bad

theorem strBytes_ok {s d el : TypeId} (hs : P.underlying s = some .string) (hd : P.underlying d = some (.slice el)) (he : P.underlying el = some (.int .u8)) {x : V} {a : Value} (hr : Rel G M h w) (hx : Rp M x a) (e : oStrBytes x h = .ok r h') :
    Good P G M h w (convert s d a) r h' := by
  unfold oStrBytes at e
  split at e
  · rename_i l
    obtain ⟨hl, rfl⟩ := hx.str
    split at e
    · rename_i hbl
      have hbl' : l.length < 4611686018427387904 := by simpa [Nat.blt_eq] using hbl
      cases e
      have hrun := run_bytes_of_string (P := P) w s d el (bts l) hs hd he
      have hge := grownCap_ge w (bts l).size 0 el
      have hgl : grownCap w (bts l).size 0 el ≤ 9223372036854775807 := grownCap_le_maxLen _ _ _ _ (by rw [bts_size]; show _ ≤ 9223372036854775807; omega)
      generalize hC : grownCap w (bts l).size 0 el = C at hrun hge hgl
      have hbs : (bytesRow (bts l) C).toList = (l.map fun b => Value.int .u8 (.ofNat b)) ++ List.replicate (C - l.length) (.int .u8 0) := by
        simp only [bytesRow, Array.toList_append, Array.toList_map, bts_size, Array.toList_replicate]
        congr 1
        simp only [bts, List.map_map]
        apply List.map_congr_left
        intro b hb
        simp [u8_toNat (hl b hb)]
      have hsz : (bytesRow (bts l) C).size = C := by
        rw [← Array.length_toList, hbs]; rw [bts_size] at hge; simp; omega
      have hrep : RepL M (u8s l) (l.map fun b => Value.int .u8 (.ofNat b)) := by
        refine RepL.mk (by simp [u8s]) (fun i v hi => ?_)
        simp only [u8s, List.getElem?_map] at hi ⊢
        cases hsi : l[i]? with
        | none => rw [hsi] at hi; cases hi
        | some b => rw [hsi] at hi; cases hi; exact ⟨_, rfl, rp_int M _ _⟩
      have := hr.new (.bytes (u8s l)) (.cells (bytesRow (bts l) C) el ((bytesRow (bts l) C).size, (bytesRow (bts l) C).size + 1)) (bytesRow (bts l) C).size
        (w' := w.drew.alloc (.cells (bytesRow (bts l) C) el ((bytesRow (bts l) C).size, (bytesRow (bts l) C).size + 1))) rfl rfl rfl rfl
        (fun N hle => ⟨_, _, _, by simp only [World.alloc]; exact Array.getElem?_push_size, rfl, fun k v hk => by
          obtain ⟨x, hx', hrx⟩ := hrep.get hk
          have hbx : (bytesRow (bts l) C)[0 + k]? = some x := by
            rw [Nat.zero_add, ← Array.getElem?_toList, hbs, List.getElem?_append_left (by rw [List.getElem?_eq_some_iff] at hx'; exact hx'.1)]; exact hx'
          refine ⟨x, hbx, hrx.mono hle, ?_⟩
          obtain ⟨b, _, rfl⟩ := List.mem_map.1 (List.mem_of_getElem? hx'); rfl, fun k _ hk h => by
            have h1 : (bytesRow (bts l) C).size ≤ k := h.1
            exact absurd hk (by show ¬ k < (bytesRow (bts l) C).size; omega)⟩)
      rw [bts_size] at hrun hge
      exact ⟨_, _, _, hrun, rp_slice (o := 0) (n := l.length) (k := .un 1) (m := C) (M.add_self h.next ⟨w.heap.size, 0, (bytesRow (bts l) C).size⟩) ⟨⟨hge, hgl⟩, by show 0 + 0 + C * 1 = (bytesRow (bts l) C).size; rw [hsz]; omega⟩, this.1, this.2.1⟩
    · cases e
  · cases e

theorem natsOf_ok : ∀ {l : List V} {s : List Nat} {xs : List Value}, natsOf l = some s → RepL M l xs → (∀ b ∈ s, b < 256) ∧ xs = (s.map fun (b : Nat) => (b : Int)).map (Value.int .u8) := by
  intro l
  induction l with
  | nil => intro s xs e hx; cases e; rw [show xs = [] from hx]; simp
  | cons v l ih =>
    intro s xs e hx
    obtain ⟨x, xt, hv, ht, rfl⟩ := hx
    simp only [natsOf] at e
    split at e
    · rename_i k n
      split at e
      · rename_i b hk
        split at e
        · rename_i r hb hr'
          cases e
          obtain ⟨g1, g2⟩ := ih hr' ht
          have hk' : k = .u8 := kix_inj (a := k) (b := .u8) hk
          subst hk'
          cases hv.int
          have hb' : b < 256 := by simpa [Nat.blt_eq] using hb
          refine ⟨fun c hc => ?_, by rw [g2]; rfl⟩
          rcases List.mem_cons.1 hc with rfl | hc
          · exact hb'
          · exact g1 c hc
        · cases e
      · cases e
    · cases e

theorem fold_push : ∀ (s : List Nat) (acc : ByteArray), (s.map fun (b : Nat) => (b : Int)).foldl (fun r n => r.push (UInt8.ofNat n.toNat)) acc = acc ++ bts s := by
  intro s
  induction s with
  | nil => intro acc; apply ByteArray.ext; simp [bts]
  | cons b s ih =>
    intro acc
    simp only [List.map_cons, List.foldl_cons, Int.toNat_natCast]
    rw [ih]
    apply ByteArray.ext
    simp [bts]

theorem bytesStr_ok {s d el : TypeId} (hs : P.underlying s = some (.slice el)) (hd : P.underlying d = some .string) (he : P.underlying el = some (.int .u8)) {x : V} {a : Value} (hr : Rel G M h w) (hx : Rp M x a) (e : oBytesStr x h = .ok r h') :
    Good P G M h w (convert s d a) r h' := by
  unfold oBytesStr at e
  have he0 : ByteArray.empty = bts [] := rfl
  split at e
  · cases e
    cases hx.nils
    refine .same hr (c := .string (bts [])) ?_ (rp_str (by simp))
    rw [run_convert_bytes_string w s d el _ _ _ hs he hd]
    rfl
  · cases e
    obtain ⟨ad, k, rfl⟩ := hx.emp
    refine .same hr (c := .string (bts [])) ?_ (rp_str (by simp))
    rw [run_convert_bytes_string w s d el _ _ _ hs he hd]
    have := run_bytesToString (P := P) w ad 0 k [] (by rfl)
    exact this
  · rename_i i o n cap
    obtain ⟨L, m, hL, _, rfl⟩ := hx.slice
    obtain ⟨wr, cs, hi, e1⟩ := hCells_ok e
    split at e1
    · rename_i l hl
      split at e1
      · rename_i t ht
        cases e1
        obtain ⟨xs, hxl, hlen, hsx, hc⟩ := hr.cells hi hL hl
        obtain ⟨g1, g2⟩ := natsOf_ok ht hxl
        refine .same hr (c := .string (bts t)) ?_ (rp_str g1)
        rw [run_convert_bytes_string w s d el _ _ _ hs he hd]
        have hload := run_loadCells_list (P := P) w (L.at o) xs hc
        rw [hlen, g2] at hload
        have := run_bytesToString (P := P) w (L.at o) n m _ hload
        rw [this, fold_push]
        congr 2
      · cases e1
    · cases e1
  · cases e

/-! ### A row of bytes that becomes one of a text: it is not written any more -/
def oMarkB (x : V) (h : Hp) : R V := match x with
  | .slice i o n c => (match h.get i with
    | some ob => (match ob with
      | .cells wr cs => (match wr with | true => .ok (.slice i o n c) (h.put i (some (.cells false cs))) | false => .bad)
      | _ => .bad)
    | none => .bad)
  | _ => .bad
theorem markB_ok {s d el el' : TypeId} (hsd : s = d) (hs : P.underlying s = some (.slice el)) (hd : P.underlying d = some (.slice el')) (he : P.underlying el' = some (.int .u8)) {x : V} {a : Value} (hr : Rel G M h w) (hx : Rp M x a) (e : oMarkB x h = .ok r h') :
    Good P G M h w (convert s d a) r h' := by
  unfold oMarkB at e
  split at e
  · rename_i i o n c
    obtain ⟨L, k, hL, hc, rfl⟩ := hx.slice
    split at e
    · rename_i ob hob
      split at e
      · rename_i wr cs
        split at e
        · cases e
          obtain ⟨L', hL', cc, el1, fr, hb, hsz, hcell, hfr⟩ := hr.ob i _ hob
          rw [hL] at hL'; cases hL'
          have hbl : L.blk < w.heap.size := (Array.getElem?_eq_some_iff.1 hb).1
          have hrun : (markStringish (L.at o)).run P w = .ok () (w.freeze ⟨L.blk, cc.size, none⟩ 1) := by
            have hshape : w.shape? L.blk = some (el1, cc.size) := by simp [World.shape?, hb]
            simp [markStringish, Loc.at, hshape]
          have ht := hr.turn hob hL rfl (w' := w.freeze ⟨L.blk, cc.size, none⟩ 1) (o' := .cells false cs) (by simp [World.freeze]) (fun q hq => by
            simp only [World.freeze]
            rw [if_neg (by omega), Array.getElem?_modify, if_neg (Ne.symm hq)]) rfl rfl rfl (by
            refine ⟨cc, el1, (if fr.1 == fr.2 then (cc.size, cc.size + 1) else (min fr.1 cc.size, max fr.2 (cc.size + 1))), ?_, hsz, hcell, fun h => (by cases h)⟩
            simp only [World.freeze]
            rw [if_neg (by omega), Array.getElem?_modify, if_pos rfl, hb]
            rfl)
          refine ⟨_, _, M, ?_, hx, ht.1, ht.2⟩
          subst hsd
          have hel : el = el' := by rw [hs] at hd; cases hd; rfl
          subst hel
          simp only [convert, Sem.run_bind, run_underlying hs, run_underlying he, Result.andThen_ok, beq_self_eq_true]
          rw [hrun]
          rfl
        · cases e
      · cases e
    · cases e
  · cases e
end
end Go.Vm

/- The value machine, part 12: len, min, max, copy, maps. -/
namespace Go.Vm
noncomputable section
variable {P : Program} {G : Nat} {M : Mp} {h h' : Hp} {w : World} {r : V}

def lenN (l : List Nat) : Nat := List.rec (motive := fun _ => Nat) 0 (fun _ _ ih => Nat.succ ih) l
theorem lenN_eq (l : List Nat) : lenN l = l.length := by induction l with | nil => rfl | cons a t ih => exact congrArg (· + 1) ih
def lenE (l : List (V × V)) : Nat := List.rec (motive := fun _ => Nat) 0 (fun _ _ ih => Nat.succ ih) l
theorem lenE_eq (l : List (V × V)) : lenE l = l.length := by induction l with | nil => rfl | cons a t ih => exact congrArg (· + 1) ih

def oLen (x : V) (h : Hp) : R V := match x with
  | .str s => .ok (.int .i64 (.ofNat (lenN s))) h
  | .slice _ _ n _ => .ok (.int .i64 (.ofNat n)) h
  | .nils => .ok (.int .i64 (.ofNat 0)) h
  | .emp => .ok (.int .i64 (.ofNat 0)) h
  | .nilm => .ok (.int .i64 (.ofNat 0)) h
  | .map i => (match h.get i with | some (.map es) => .ok (.int .i64 (.ofNat (lenE es))) h | _ => .bad)
  | _ => .bad
/-- what len is asked of -/
def lenKind (d : TypeDesc) : Nat := match d with
  | .string => 1 | .slice _ => 2 | .map _ _ => 3 | _ => 0
def fitsLen (k : Nat) (x : V) : Bool := match x with
  | .str _ => Nat.beq k 1
  | .slice _ _ _ _ | .nils | .emp => Nat.beq k 2
  | .nilm | .map _ => Nat.beq k 3
  | _ => false
def oLenK (k : Nat) (x : V) (h : Hp) : R V := match fitsLen k x with | true => oLen x h | false => .bad

theorem len_ok {t ty : TypeId} {d : TypeDesc} (hd : P.underlying t = some d) {x : V} {a : Value} (hr : Rel G M h w) (hx : Rp M x a) (e : oLenK (lenKind d) x h = .ok r h') :
    Good P G M h w (Builtin.len_ #[t] ty #[a]) r h' := by
  unfold oLenK at e
  split at e
  case h_2 => cases e
  rename_i hf
  cases x with
  | str s =>
    cases e
    cases hx.str.2
    have : d = .string := by cases d <;> simp_all [fitsLen, lenKind]
    subst this
    rw [lenN_eq]
    refine .same hr ?_ (rp_int M _ _)
    simp [Builtin.len_, run_underlying hd, bts_size, goInt]
  | slice i o n c =>
    cases e
    obtain ⟨L, m, _, _, rfl⟩ := hx.slice
    have : ∃ el, d = .slice el := by cases d <;> simp_all [fitsLen, lenKind]
    obtain ⟨el, rfl⟩ := this
    refine .same hr ?_ (rp_int M _ _)
    simp [Builtin.len_, run_underlying hd, goInt]
  | nils =>
    cases e
    cases hx.nils
    have : ∃ el, d = .slice el := by cases d <;> simp_all [fitsLen, lenKind]
    obtain ⟨el, rfl⟩ := this
    refine .same hr ?_ (rp_int M _ _)
    simp [Builtin.len_, run_underlying hd, goInt]
  | emp =>
    cases e
    obtain ⟨_, _, rfl⟩ := hx.emp
    have : ∃ el, d = .slice el := by cases d <;> simp_all [fitsLen, lenKind]
    obtain ⟨el, rfl⟩ := this
    refine .same hr ?_ (rp_int M _ _)
    simp [Builtin.len_, run_underlying hd, goInt]
  | nilm =>
    cases e
    cases hx.nilm
    have : ∃ k el, d = .map k el := by cases d <;> simp_all [fitsLen, lenKind]
    obtain ⟨k, el, rfl⟩ := this
    refine .same hr ?_ (rp_int M _ _)
    simp [Builtin.len_, run_underlying hd, goInt]
  | map i =>
    simp only [oLen] at e
    have : ∃ k el, d = .map k el := by cases d <;> simp_all [fitsLen, lenKind]
    obtain ⟨k, el, rfl⟩ := this
    split at e
    · rename_i es hes
      cases e
      obtain ⟨L, hL, rfl⟩ := hx.map
      obtain ⟨L', hL', en, ck, hb, h1, _⟩ := hr.ob i _ hes
      rw [hL] at hL'; cases hL'
      have hlen : en.size = es.length := by
        have e2 := h1.length
        simp at e2
        omega
      rw [lenE_eq]
      refine .same hr (c := .int .i64 (.ofNat es.length)) ?_ (rp_int M _ _)
      have hg : (getObj L.blk).run P w = .ok (.map en ck) w := by simp [getObj, Sem.run, hb]
      simp [Builtin.len_, run_underlying hd, goInt, hg, hlen]
    · cases e
  | _ => cases e

/-- len of an array, however it lies. -/
def oLenArr (n : Nat) (h : Hp) : R V := .ok (.int .i64 (.ofNat n)) h
theorem lenArr_ok {t ty : TypeId} {n : Nat} {el : TypeId} (hd : P.underlying t = some (.array n el)) {a : Value} (hr : Rel G M h w) (e : oLenArr n h = .ok r h') :
    Good P G M h w (Builtin.len_ #[t] ty #[a]) r h' := by
  cases e
  refine .same hr (c := goInt n) ?_ (rp_int M _ _)
  simp [Builtin.len_, run_underlying hd]

def oMin (x y : V) (h : Hp) : R V := asInt x fun k a => asInt y fun _ b => match intLe a b with | true => .ok (.int k a) h | false => .ok (.int k b) h
def oMax (x y : V) (h : Hp) : R V := asInt x fun k a => asInt y fun _ b => match intLe b a with | true => .ok (.int k a) h | false => .ok (.int k b) h
theorem min_ok {at_ : Array TypeId} {ty : TypeId} {x y : V} {a b : Value} (hr : Rel G M h w) (hx : Rp M x a) (hy : Rp M y b) (e : oMin x y h = .ok r h') : Good P G M h w (Builtin.min_ at_ ty #[a, b]) r h' := by
  obtain ⟨k, n, rfl, e1⟩ := asInt_ok e
  obtain ⟨k', m, rfl, e2⟩ := asInt_ok e1
  cases hx.int; cases hy.int
  rw [intLe_eq] at e2
  by_cases hle : n ≤ m
  · rw [decide_eq_true hle] at e2; cases e2
    refine .same hr (c := .int k n) ?_ (rp_int M _ _)
    have : ¬ m < n := by omega
    simp [Builtin.min_, Builtin.min2, this]
  · rw [decide_eq_false hle] at e2; cases e2
    refine .same hr (c := .int k m) ?_ (rp_int M _ _)
    have : m < n := by omega
    simp [Builtin.min_, Builtin.min2, this]
theorem max_ok {at_ : Array TypeId} {ty : TypeId} {x y : V} {a b : Value} (hr : Rel G M h w) (hx : Rp M x a) (hy : Rp M y b) (e : oMax x y h = .ok r h') : Good P G M h w (Builtin.max_ at_ ty #[a, b]) r h' := by
  obtain ⟨k, n, rfl, e1⟩ := asInt_ok e
  obtain ⟨k', m, rfl, e2⟩ := asInt_ok e1
  cases hx.int; cases hy.int
  rw [intLe_eq] at e2
  by_cases hle : m ≤ n
  · rw [decide_eq_true hle] at e2; cases e2
    refine .same hr (c := .int k n) ?_ (rp_int M _ _)
    have : ¬ n < m := by omega
    simp [Builtin.max_, Builtin.max2, this]
  · rw [decide_eq_false hle] at e2; cases e2
    refine .same hr (c := .int k m) ?_ (rp_int M _ _)
    have : n < m := by omega
    simp [Builtin.max_, Builtin.max2, this]
end
end Go.Vm

/- The value machine, part 12b: maps. -/
namespace Go.Vm
noncomputable section
variable {P : Program} {G : Nat} {M : Mp} {h h' : Hp} {w : World} {r : V}

/-- Two keys of one of the plain kinds: are they the same? -/
def keyEq (x y : V) : Option Bool := match x with
  | .int k a => (match y with | .int k' b => (match Nat.beq (kix k) (kix k') with | true => some (intEq a b) | false => none) | _ => none)
  | .str s => (match y with | .str t => some (strEq s t) | _ => none)
  | .bool a => (match y with | .bool b => some (match a, b with | true, true => true | false, false => true | _, _ => false) | _ => none)
  | _ => none
def keyFits (d : TypeDesc) (x : V) : Bool := match d, x with
  | .int _, .int _ _ => true
  | .string, .str _ => true
  | .bool, .bool _ => true
  | _, _ => false
def findM (x : V) : List (V × V) → Option (Option V)
  | [] => some none
  | (k, v) :: l => (match keyEq x k with | some b => (match b with | true => some (some v) | false => findM x l) | none => none)
def putM (x y : V) : List (V × V) → Option (List (V × V))
  | [] => some [(x, y)]
  | (k, v) :: l => (match keyEq x k with
    | some b => (match b with | true => some ((x, y) :: l) | false => (match putM x y l with | some r => some ((k, v) :: r) | none => none))
    | none => none)
def lookR (ok : Bool) (v : V) (b : Bool) (h : Hp) : R V := match ok with | true => .ok (.tuple (.cons v (.cons (.bool b) .nil))) h | false => .ok v h
def lookE (ok : Bool) (z x : V) (es : List (V × V)) (h : Hp) : R V := match findM x es with
  | some o => (match o with | some v => lookR ok v true h | none => lookR ok z false h)
  | none => .bad
def oLookup (ok : Bool) (z m x : V) (h : Hp) : R V := match m with
  | .nilm => lookR ok z false h
  | .map i => (match h.get i with | some (.map es) => lookE ok z x es h | _ => .bad)
  | _ => .bad
def oMapUpdate (m x y : V) (h : Hp) : R V := match m with
  | .map i => (match h.get i with
    | some (.map es) => (match putM x y es with | some es' => .ok V.undef (h.put i (some (.map es'))) | none => .bad)
    | _ => .bad)
  | _ => .bad
def oMakeMap (h : Hp) : R V := .ok (.map h.next) (h.new (.map []))

theorem keyFits_check {d : TypeDesc} {kt : TypeId} (hk : P.underlying kt = some d) {x : V} (hf : keyFits d x = true) (c : Value) (e : Bool) : (Instr.checkKey e 10000 kt c).run P w = .ok () w := by
  rw [show (10000 : Nat) = 9999 + 1 from rfl]
  unfold Instr.checkKey
  rw [Sem.run_bind, run_underlying hk]
  cases d <;> cases x <;> first | (cases hf; done) | rfl
theorem keyEq_ok {d : TypeDesc} {x y : V} {c e : Value} {b : Bool} (hf : keyFits d x = true) (hx : Rp M x c) (hy : Rp M y e) (hb : keyEq x y = some b) : Instr.sameNow d c e = some b := by
  cases x with
  | int k a =>
    cases y <;> try (cases hb; done)
    rename_i k' a'
    simp only [keyEq] at hb
    split at hb
    · rename_i hk
      cases hb
      have hk' := kix_inj hk
      subst hk'
      cases hx.int; cases hy.int
      cases d <;> first | (cases hf; done) | (simp [Instr.sameNow, intEq_eq])
    · cases hb
  | str s =>
    cases y <;> try (cases hb; done)
    rename_i t
    cases hb
    obtain ⟨h1, rfl⟩ := hx.str
    obtain ⟨h2, rfl⟩ := hy.str
    cases d <;> first | (cases hf; done) | skip
    simp only [Instr.sameNow]
    rw [strEq_eq h1 h2]
    congr 1
    show ((bts s).data == (bts t).data) = _
    simp only [bts]
    rw [Bool.eq_iff_iff]
    simp
  | bool a =>
    cases y <;> try (cases hb; done)
    rename_i a'
    cases hx.bool; cases hy.bool
    cases d <;> first | (cases hf; done) | skip
    simp only [Instr.sameNow]
    rw [← hb]
    cases a <;> cases a' <;> rfl
  | _ => cases hb

theorem findM_ok {d : TypeDesc} {x : V} {c : Value} (hf : keyFits d x = true) (hx : Rp M x c) : ∀ {es : List (V × V)} {en : List MapEntry} {o : Option V} (i : Nat), RepL M (es.map (·.1)) (en.map (·.key)) → RepL M (es.map (·.2)) (en.map (·.val)) → findM x es = some o →
    ∃ q, Instr.findNow d c en i = some q ∧ (match o, q with | none, none => True | some v, some (_, u) => Rp M v u | _, _ => False)
  | [], en, o, i, hk, hv, e => by
    cases en with
    | nil => cases e; exact ⟨none, rfl, trivial⟩
    | cons y l => obtain hk : _ = [] := hk; simp at hk
  | (k, v) :: es, en, o, i, hk, hv, e => by
    obtain ⟨a, as, h1, h2, h3⟩ := hk
    obtain ⟨b, bs, g1, g2, g3⟩ := hv
    cases en with
    | nil => cases h3
    | cons y l =>
      simp at h3 g3
      obtain ⟨rfl, rfl⟩ := h3
      obtain ⟨rfl, rfl⟩ := g3
      simp only [findM] at e
      split at e
      · rename_i b hb
        have hs := keyEq_ok hf hx h1 hb
        unfold Instr.findNow
        rw [hs]
        split at e
        · cases e; exact ⟨_, rfl, g1⟩
        · exact findM_ok hf hx (i + 1) h2 g2 e
      · cases e
theorem keyEq_same {d : TypeDesc} {x y : V} {c e : Value} (hf : keyFits d x = true) (hx : Rp M x c) (hy : Rp M y e) (hb : keyEq x y = some true) : e = c ∧ (Instr.keyThatStays e c).run P w = .ok c w := by
  have key : e = c ∧ Instr.sameBits 10000 c c = true := by
    rw [show (10000 : Nat) = 9999 + 1 from rfl]
    cases x with
    | int k a =>
      cases y <;> try (cases hb; done)
      rename_i k' a'
      simp only [keyEq] at hb
      split at hb
      · rename_i hk
        have hk' := kix_inj hk
        subst hk'
        have hb' : intEq a a' = true := by simpa using hb
        rw [intEq_eq] at hb'
        have hb'' : a = a' := by simpa using hb'
        subst hb''
        cases hx.int; cases hy.int
        exact ⟨rfl, by simp [Instr.sameBits]⟩
      · cases hb
    | str s =>
      cases y <;> try (cases hb; done)
      rename_i t
      obtain ⟨h1, rfl⟩ := hx.str
      obtain ⟨h2, rfl⟩ := hy.str
      have hb' : strEq s t = true := by simpa [keyEq] using hb
      rw [strEq_eq h1 h2] at hb'
      have e1 : s.map UInt8.ofNat = t.map UInt8.ofNat := by simpa using hb'
      have e2 : bts t = bts s := by unfold bts; rw [e1]
      refine ⟨by rw [e2], ?_⟩
      simp only [Instr.sameBits]
      show ((bts s).data == (bts s).data) = true
      simp
    | bool a =>
      cases y <;> try (cases hb; done)
      rename_i a'
      cases hx.bool; cases hy.bool
      cases a <;> cases a' <;> first | (cases hb; done) | exact ⟨rfl, by simp [Instr.sameBits]⟩
    | _ => cases hb
  obtain ⟨rfl, k⟩ := key
  refine ⟨rfl, ?_⟩
  unfold Instr.keyThatStays
  rw [if_pos k]
  rfl

theorem putM_ok {d : TypeDesc} {x y : V} {c cy : Value} (hf : keyFits d x = true) (hx : Rp M x c) (hy : Rp M y cy) : ∀ {es : List (V × V)} {en : List MapEntry} {es' : List (V × V)} (i : Nat), RepL M (es.map (·.1)) (en.map (·.key)) → RepL M (es.map (·.2)) (en.map (·.val)) → putM x y es = some es' →
    ∃ q, Instr.findNow d c en i = some q ∧ (match q with
      | none => RepL M (es'.map (·.1)) (en.map (·.key) ++ [c]) ∧ RepL M (es'.map (·.2)) (en.map (·.val) ++ [cy])
      | some (j, _) => ∃ n e0, j = i + n ∧ en[n]? = some e0 ∧ e0.key = c ∧ (∀ (P : Program) (w : World), (Instr.keyThatStays c c).run P w = .ok c w) ∧
          RepL M (es'.map (·.1)) ((en.modify n fun e => { e with key := c, val := cy }).map (·.key)) ∧ RepL M (es'.map (·.2)) ((en.modify n fun e => { e with key := c, val := cy }).map (·.val)))
  | [], en, es', i, hk, hv, e => by
    cases en with
    | nil => cases e; exact ⟨none, rfl, ⟨c, [], hx, rfl, rfl⟩, ⟨cy, [], hy, rfl, rfl⟩⟩
    | cons y l => obtain hk : _ = [] := hk; simp at hk
  | (k, v) :: es, en, es', i, hk, hv, e => by
    obtain ⟨a, as, h1, h2, h3⟩ := hk
    obtain ⟨b, bs, g1, g2, g3⟩ := hv
    cases en with
    | nil => cases h3
    | cons e0 l =>
      simp at h3 g3
      obtain ⟨rfl, rfl⟩ := h3
      obtain ⟨rfl, rfl⟩ := g3
      simp only [putM] at e
      split at e
      · rename_i b hb
        have hs := keyEq_ok hf hx h1 hb
        unfold Instr.findNow
        rw [hs]
        split at e
        · cases e
          have hsame : ∀ (P : Program) (w : World), e0.key = c ∧ (Instr.keyThatStays e0.key c).run P w = .ok c w := fun P w => keyEq_same hf hx h1 hb
          have hk0 := (hsame default default).1
          refine ⟨_, rfl, 0, e0, rfl, rfl, hk0, fun P w => ?_, ⟨c, _, hx, h2, rfl⟩, ⟨cy, _, hy, g2, rfl⟩⟩
          have := (hsame P w).2
          rw [hk0] at this; exact this
        · split at e
          · rename_i rr hr
            cases e
            obtain ⟨q, q1, q2⟩ := putM_ok hf hx hy (i + 1) h2 g2 hr
            refine ⟨q, q1, ?_⟩
            cases q with
            | none => exact ⟨⟨_, _, h1, q2.1, rfl⟩, ⟨_, _, g1, q2.2, rfl⟩⟩
            | some p =>
              obtain ⟨j, u⟩ := p
              obtain ⟨n, e1, rfl, t1, t2, t3, t4, t5⟩ := q2
              exact ⟨n + 1, e1, by omega, t1, t2, t3, ⟨_, _, h1, t4, rfl⟩, ⟨_, _, g1, t5, rfl⟩⟩
          · cases e
      · cases e

theorem run_setMap {b : Nat} {en : Array MapEntry} {ck : Nat} (o : Obj) (hb : w.heap[b]? = some (.map en ck)) : (setObj b o).run P w = .ok () { w with heap := w.heap.setIfInBounds b o } := by
  simp [setObj, Sem.run, hb]
theorem mapAt {i : Pos} {es : List (V × V)} {L : Loc} (hr : Rel G M h w) (hi : h.get i = some (.map es)) (hL : M i = some L) : ∃ en ck, w.heap[L.blk]? = some (.map en ck) ∧ MapRep M es en ck := by
  obtain ⟨L', hL', en, ck, hb, hm⟩ := hr.ob i _ hi
  rw [hL] at hL'; cases hL'
  exact ⟨en, ck, hb, hm⟩

theorem lookup_ok {t kt et : TypeId} {d : TypeDesc} {ie : TypeInfo} {zc : Value} {z m x : V} {cm cx : Value} {ok : Bool} (ht : P.underlying t = some (.map kt et)) (hd : P.underlying kt = some d) (hie : P.info? et = some ie) (hzc : ie.zero = some zc) (hz : const zc = some z)
    (hf : keyFits d x = true) (hr : Rel G M h w) (hm : Rp M m cm) (hx : Rp M x cx) (e : oLookup ok z m x h = .ok r h') : Good P G M h w (Instr.lookup t cm cx ok) r h' := by
  have fin : ∀ (v : V) (c : Value) (b : Bool), Rp M v c → lookR ok v b h = .ok r h' → (Instr.lookup t cm cx ok).run P w = .ok (if ok then .tuple #[c, .bool b] else c) w → Good P G M h w (Instr.lookup t cm cx ok) r h' := by
    intro v c b hv e hrun
    cases ok with
    | true =>
      cases e
      exact .same hr hrun (rp_tuple (vs := [v, .bool b]) (xs := [c, .bool b]) ⟨_, _, hv, ⟨_, _, rp_bool M b, rfl, rfl⟩, rfl⟩)
    | false => cases e; exact .same hr hrun hv
  have hzr : (zeroValue et).run P w = .ok zc w := by simp [zeroValue, typeInfo, hie, hzc]
  have hck := fun b => keyFits_check (w := w) hd hf cx b
  unfold oLookup at e
  split at e
  · cases hm.nilm
    refine fin z zc false (const_ok hz M) e ?_
    unfold Instr.lookup
    simp [run_underlying ht, hck, Instr.findKey, run_underlying hd, Instr.findNow, hzr]
  · rename_i i
    obtain ⟨L, hL, rfl⟩ := hm.map
    split at e
    · rename_i es hes
      obtain ⟨en, ck, hb, hk, hv, _⟩ := mapAt hr hes hL
      have hg : (getObj L.blk).run P w = .ok (.map en ck) w := by simp [getObj, Sem.run, hb]
      unfold lookE at e
      split at e
      · rename_i o ho
        obtain ⟨q, hq, hqo⟩ := findM_ok hf hx 0 hk hv ho
        split at e
        · rename_i v
          cases q with
          | none => exact hqo.elim
          | some p =>
            obtain ⟨j, u⟩ := p
            refine fin v u true hqo e ?_
            unfold Instr.lookup
            simp [run_underlying ht, hg, hck, Instr.findKey, run_underlying hd, hq]
        · cases q with
          | some p => exact hqo.elim
          | none =>
            refine fin z zc false (const_ok hz M) e ?_
            unfold Instr.lookup
            simp [run_underlying ht, hg, hck, Instr.findKey, run_underlying hd, hq, hzr]
      · cases e
    · cases e
  · cases e

theorem makeMap_ok {t : TypeId} (hr : Rel G M h w) (e : oMakeMap h = .ok r h') : Good P G M h w (Instr.makeMap t none) r h' := by
  cases e
  have := hr.new (.map []) (.map #[] 0) 0 (w' := w.alloc (.map #[] 0)) rfl rfl rfl rfl (fun N _ => ⟨#[], 0, (by show (w.heap.push _)[w.heap.size]? = _; simp), rfl, rfl, by simp, by simp⟩)
  exact ⟨.map (some w.heap.size), _, _, by simp [Instr.makeMap], ⟨rfl, _, M.add_self _ _, rfl⟩, this.1, this.2.1⟩
theorem mapUpdate_ok {t kt et : TypeId} {d : TypeDesc} {m x y : V} {cm cx cy : Value} (ht : P.underlying t = some (.map kt et)) (hd : P.underlying kt = some d)
    (hf : keyFits d x = true) (hr : Rel G M h w) (hm : Rp M m cm) (hx : Rp M x cx) (hy : Rp M y cy) (e : oMapUpdate m x y h = .ok r h') :
    ∃ w', (Instr.mapUpdate t cm cx cy).run P w = .ok () w' ∧ r = V.undef ∧ Rel G M h' w' ∧ Ext M h w M h' w' := by
  unfold oMapUpdate at e
  split at e
  · rename_i i
    obtain ⟨L, hL, rfl⟩ := hm.map
    split at e
    · rename_i es hes
      obtain ⟨en, ck, hb, hk, hv, hborn, hnd⟩ := mapAt hr hes hL
      have hlt : L.blk < w.heap.size := (Array.getElem?_eq_some_iff.1 hb).1
      have hg : (getObj L.blk).run P w = .ok (.map en ck) w := by simp [getObj, Sem.run, hb]
      split at e
      · rename_i es' hes'
        cases e
        obtain ⟨q, hq, hqo⟩ := putM_ok hf hx hy 0 hk hv hes'
        have turn : ∀ (o : Array MapEntry) (ck' : Nat), MapRep M es' o ck' → Rel G M (h.put i (some (.map es'))) { w with heap := w.heap.setIfInBounds L.blk (.map o ck') } ∧ Ext M h w M (h.put i (some (.map es'))) { w with heap := w.heap.setIfInBounds L.blk (.map o ck') } := by
          intro o ck' hmr
          exact hr.turn hes hL rfl (by simp) (fun k hk => by simp [Array.getElem?_setIfInBounds_ne (Ne.symm hk)]) rfl rfl rfl ⟨o, ck', by simp [hlt], hmr⟩
        have hck := keyFits_check (w := w) hd hf cx false
        cases q with
        | none =>
          have hmr : MapRep M es' (en.push { key := cx, val := cy, born := ck }) (ck + 1) := by
            refine ⟨by simpa using hqo.1, by simpa using hqo.2, fun e0 he0 => ?_, ?_⟩
            · simp at he0
              rcases he0 with he0 | rfl
              · have := hborn e0 (by simpa using he0); omega
              · simp
            · simp only [Array.toList_push, List.map_append, List.map_cons, List.map_nil]
              rw [List.nodup_append]
              refine ⟨hnd, by simp, fun a ha b hb' => ?_⟩
              simp at hb'; subst hb'
              obtain ⟨e0, he0, rfl⟩ := List.mem_map.1 ha
              have := hborn e0 he0
              omega
          obtain ⟨t1, t2⟩ := turn _ _ hmr
          refine ⟨_, ?_, rfl, t1, t2⟩
          unfold Instr.mapUpdate
          simp [run_underlying ht, hg, hck, Instr.findKey, run_underlying hd, hq, run_setMap _ hb]
        | some p =>
          obtain ⟨j, u⟩ := p
          obtain ⟨n, e0, rfl, k1, k2, k3, k4, k5⟩ := hqo
          have hen : en[0 + n]? = some e0 := by rw [Nat.zero_add, ← Array.getElem?_toList]; exact k1
          have hmr : MapRep M es' (en.modify (0 + n) fun e => { e with key := cx, val := cy }) ck := by
            have hbm : (en.modify (0 + n) fun e => { e with key := cx, val := cy }).toList.map (·.born) = en.toList.map (·.born) := by
              rw [Array.toList_modify]
              apply List.ext_getElem?
              intro k
              simp only [List.getElem?_map, List.getElem?_modify]
              split <;> (cases en.toList[k]? <;> rfl)
            refine ⟨by rw [Array.toList_modify, Nat.zero_add]; exact k4, by rw [Array.toList_modify, Nat.zero_add]; exact k5, fun e1 he1 => ?_, by rw [hbm]; exact hnd⟩
            have : e1.born ∈ en.toList.map (·.born) := by rw [← hbm]; exact List.mem_map_of_mem he1
            obtain ⟨e2, he2, h3⟩ := List.mem_map.1 this
            rw [← h3]; exact hborn e2 he2
          obtain ⟨t1, t2⟩ := turn _ _ hmr
          refine ⟨_, ?_, rfl, t1, t2⟩
          unfold Instr.mapUpdate
          have hks : (((en[0 + n]?).map (·.key)).getD cx) = cx := by rw [hen]; exact k2
          simp only [Sem.run_bind, run_underlying ht, Result.andThen_ok, hg, hck, Instr.findKey, run_underlying hd, hq, Sem.run_pure, hks, k3, run_setMap _ hb]
      · cases e
    · cases e
  · cases e
end
end Go.Vm

/- The value machine, part 12c: structs of plain fields against each other. -/
namespace Go.Vm
noncomputable section
variable {P : Program} {G : Nat} {M : Mp} {h h' : Hp} {w : World} {r : V}

def plainD (d : TypeDesc) : Bool := match d with | .int _ | .string | .bool => true | _ => false
def plainOffs (P : Program) : List Field → Option (List (TypeDesc × Nat))
  | [] => some []
  | f :: l => (match decide (f.name = "_") with
    | true => plainOffs P l
    | false => (match P.underlying f.type with
      | some d => (match plainD d, plainOffs P l with | true, some r => some ((d, f.offset) :: r) | _, _ => none)
      | none => none))
def eqAgg : List (TypeDesc × Nat) → List V → List V → Option Bool
  | [], _, _ => some true
  | (d, o) :: l, xs, ys => (match nthV o xs, nthV o ys with
    | some x, some y => (match keyFits d x, keyEq x y with
      | true, some b => (match b with | true => eqAgg l xs ys | false => some false)
      | _, _ => none)
    | _, _ => none)
theorem eqKey_run {t : TypeId} {d : TypeDesc} (hd : P.underlying t = some d) {x y : V} {c e : Value} {b : Bool} (hf : keyFits d x = true) (hx : Rp M x c) (hy : Rp M y e) (hb : keyEq x y = some b) (n : Nat) : (Op.equalIn (n + 1) t c e).run P w = .ok b w := by
  have hs := keyEq_ok hf hx hy hb
  cases d <;> cases x <;> first | (cases hf; done) | skip
  all_goals cases y <;> first | (cases hb; done) | skip
  · cases hx.bool; cases hy.bool
    simp [Instr.sameNow] at hs
    simp [Op.equalIn, run_underlying hd, hs]
  · cases hx.int; cases hy.int
    rename_i k a k' a'
    simp only [Instr.sameNow] at hs
    split at hs
    · rename_i hk; subst hk; simp at hs; simp [Op.equalIn, run_underlying hd, hs]
    · cases hs
  · cases hx.str.2; cases hy.str.2
    simp only [Instr.sameNow] at hs
    have hs' := Option.some.inj hs
    simp only [Op.equalIn, Sem.run_bind, run_underlying hd, Result.andThen_ok, Sem.run_pure, hs']
theorem plain_agg {d : TypeDesc} (h : plainD d = true) : (match d with | .struct _ | .array _ _ => true | _ => false) = false := by cases d <;> first | rfl | cases h
theorem run_isAgg0 {t : TypeId} {d : TypeDesc} (hd : P.underlying t = some d) (hp : plainD d = true) : (isAgg t).run P w = .ok false w := by
  simp only [isAgg, Sem.run_bind, run_underlying hd, Result.andThen_ok]
  cases d <;> first | rfl | cases hp
theorem part_run {t : TypeId} {d : TypeDesc} (hd : P.underlying t = some d) (hp : plainD d = true) {xs : Array Value} {o : Nat} {c : Value} (hc : xs[o]? = some c) : (part t xs o).run P w = .ok c w := by
  unfold part
  rw [Sem.run_bind, run_isAgg0 hd hp]
  simp [hc]
def eqBody (n : Nat) (xs ys : Array Value) (f : Field) (_ : Option Bool × Unit) : Sem (ForInStep (Option Bool × Unit)) :=
  if f.name ≠ "_" then do
    if !(← Op.equalIn (n + 1) f.type (← part f.type xs f.offset) (← part f.type ys f.offset)) then pure (ForInStep.done (some false, ()))
    else pure (ForInStep.yield (none, ()))
  else pure (ForInStep.yield (none, ()))
theorem eqLoop {xs ys : List V} {cs ds : List Value} (hx : RepL M xs cs) (hy : RepL M ys ds) (n : Nat) : ∀ {l : List Field} {offs : List (TypeDesc × Nat)} {b : Bool}, plainOffs P l = some offs → eqAgg offs xs ys = some b →
    (forIn l (none, ()) (eqBody n cs.toArray ds.toArray)).run P w = .ok (if b then (none, ()) else (some false, ())) w
  | [], offs, b, ho, hb => by cases ho; cases hb; rfl
  | f :: l, offs, b, ho, hb => by
    unfold plainOffs at ho
    rw [List.forIn_cons, Sem.run_bind]
    split at ho
    · rename_i hn
      have hn' : f.name = "_" := by simpa using hn
      have : (eqBody n cs.toArray ds.toArray f (none, ())).run P w = .ok (ForInStep.yield (none, ())) w := by simp [eqBody, hn']
      rw [this]
      exact eqLoop hx hy n ho hb
    · rename_i hn
      have hn' : ¬ f.name = "_" := by simpa using hn
      split at ho
      · rename_i d hd
        split at ho
        · rename_i r hp hr
          cases ho
          unfold eqAgg at hb
          rw [nthV_eq, nthV_eq] at hb
          split at hb
          · rename_i x y hgx hgy
            obtain ⟨c, hc, hrc⟩ := hx.get hgx
            obtain ⟨e, he, hre⟩ := hy.get hgy
            have p1 : (part f.type cs.toArray f.offset).run P w = .ok c w := part_run hd hp (by simpa using hc)
            have p2 : (part f.type ds.toArray f.offset).run P w = .ok e w := part_run hd hp (by simpa using he)
            split at hb
            · rename_i b' hf hk
              have p3 := eqKey_run (w := w) hd hf hrc hre hk n
              have : (eqBody n cs.toArray ds.toArray f (none, ())).run P w = .ok (if b' then ForInStep.yield (none, ()) else ForInStep.done (some false, ())) w := by
                unfold eqBody
                rw [if_pos hn']
                simp only [Sem.run_bind, p1, p2, p3, Result.andThen_ok]
                cases b' <;> rfl
              rw [this]
              cases b' with
              | true => exact eqLoop hx hy n hr hb
              | false => cases hb; rfl
            · cases hb
          · cases hb
        · cases ho
      · cases ho
theorem eqAgg_run {t : TypeId} {fs : Array Field} (hd : P.underlying t = some (.struct fs)) (hs : P.stoodInHeld t = false) {offs : List (TypeDesc × Nat)} (ho : plainOffs P fs.toList = some offs) {xs ys : List V} {cs ds : List Value} (hx : RepL M xs cs) (hy : RepL M ys ds) {b : Bool} (hb : eqAgg offs xs ys = some b) (n : Nat) :
    (Op.equalIn (n + 1 + 1) t (.agg cs.toArray) (.agg ds.toArray)).run P w = .ok b w := by
  unfold Op.equalIn
  simp only [Sem.run_bind, run_underlying hd, Result.andThen_ok, run_program, hs]
  simp only [Bool.false_eq_true, if_false]
  rw [← Array.forIn_toList]
  have hl := eqLoop (w := w) hx hy n ho hb
  unfold eqBody at hl
  rw [Sem.run_bind, hl]
  cases b <;> rfl
def structOf (d : TypeDesc) : Option (Array Field) := match d with | .struct fs => some fs | _ => none
def dBinAgg (P : Program) (op : BinOp) (t : TypeId) (fs : Array Field) (x y : V) (h : Hp) : R V := match x, y with
  | .agg xs, .agg ys => (match P.stoodInHeld t, P.eqGuardType P.depth t, plainOffs P fs.toList with
    | false, false, some offs => (match eqAgg offs xs.list ys.list with
      | some b => (match op with | .eql => okBool b h | .neq => okBool (not b) h | _ => .bad)
      | none => .bad)
    | _, _, _ => .bad)
  | _, _ => .bad
theorem binAgg_ok {op : BinOp} {t : TypeId} {fs : Array Field} {xo yo : Operand} (hd : P.underlying t = some (.struct fs)) {x y : V} {a b : Value} (hr : Rel G M h w) (hx : Rp M x a) (hy : Rp M y b) (e : dBinAgg P op t fs x y h = .ok r h') :
    Good P G M h w (do eqGuard op t xo yo a b; binOp op t a b) r h' := by
  unfold dBinAgg at e
  split at e
  · rename_i xs ys
    obtain ⟨cs, hcs, _, rfl⟩ := hx.agg
    obtain ⟨ds, hds, _, rfl⟩ := hy.agg
    split at e
    · rename_i offs h1 h2 h3
      split at e
      · rename_i q hq
        have hrun := eqAgg_run (w := w) hd h1 h3 hcs hds hq 9998
        have heq : (Op.equal t (.agg cs.toArray) (.agg ds.toArray)).run P w = .ok q w := by
          unfold Op.equal
          rw [show Op.maxDepth = 9998 + 1 + 1 from rfl]; exact hrun
        split at e
        · rw [okBool_eq] at e; cases e
          refine .same hr (c := .bool q) ?_ (rp_bool M q)
          simp [eqGuard, binOp, h2, heq]
        · rw [okBool_eq] at e; cases e
          refine .same hr (c := .bool (!q)) ?_ (rp_bool M _)
          simp [eqGuard, binOp, h2, heq]
        · cases e
      · cases e
    · cases e
  · cases e
end
end Go.Vm
