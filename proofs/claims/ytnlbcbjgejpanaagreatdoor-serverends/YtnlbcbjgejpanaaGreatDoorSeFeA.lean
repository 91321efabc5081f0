/- Part of the value machine, or of a walk by it: lemmas that the claim's last text uses. No conditions. -/
import Derived.Test.YtnlbcbjgejpanaaGreatDoorSeVmO
set_option linter.unusedVariables false
set_option linter.unusedSimpArgs false
set_option linter.unnecessarySimpa false
namespace Go.Ln
open Go Go.Vm
inductive Wds where
  | nil
  | cons (kind : Int) (text : List Nat) (kids rest : Wds)
  deriving DecidableEq
def Wds.len : Wds → Nat
  | .nil => 0
  | .cons _ _ _ r => r.len + 1
structure Wd where
  kind : Int
  text : List Nat
  kids : Wds
structure St where
  cur : List Nat
  rest : List (List Nat × List Nat)
def St.size (s : St) : Nat := s.cur.length + (s.rest.map fun p => p.2.length + 1).sum
def nextM (c : Nat) (s : St) : Option St := match s.cur with
  | [] => none
  | d :: l => if d = c then some { s with cur := l } else none
def quotedM : List Nat → Option (List Nat × List Nat)
  | [] => none
  | c :: s =>
    if c = 34 then some ([], s)
    else if c = 13 then none
    else if c = 92 then (match s with
      | d :: s' => if d = 34 ∨ d = 92 then (match quotedM s' with | some (t, r) => some (d :: t, r) | none => none) else none
      | [] => none)
    else (match quotedM s with | some (t, r) => some (c :: t, r) | none => none)
def atomC (c : Nat) : Bool := decide (33 ≤ c ∧ c ≤ 126 ∧ c ≠ 40 ∧ c ≠ 41 ∧ c ≠ 34 ∧ c ≠ 123)
def loopW (word : St → Option (Wd × St)) : Nat → St → Option (Wds × St)
  | 0, _ => none
  | f + 1, st => (match word st with
    | none => none
    | some (w, st1) => (match nextM 32 st1 with
      | some st2 => (match loopW word f st2 with
        | some (ws, s) => some (.cons w.kind w.text w.kids ws, s)
        | none => none)
      | none => some (.cons w.kind w.text w.kids .nil, st1)))
def wordM : Nat → St → Option (Wd × St)
  | n, ⟨[], []⟩ => none
  | n, ⟨[], (l, t) :: r⟩ => some (⟨2, l, .nil⟩, ⟨t, r⟩)
  | n, ⟨c :: s, r⟩ =>
    if c = 34 then (match quotedM s with | some (t, s') => some (⟨2, t, .nil⟩, ⟨s', r⟩) | none => none)
    else if c = 40 then (match n with
      | 0 => none
      | n + 1 => (match nextM 41 ⟨s, r⟩ with
        | some st => some (⟨3, [], .nil⟩, st)
        | none => (match loopW (wordM n) (St.size ⟨s, r⟩ + 1) ⟨s, r⟩ with
          | some (ws, st) => (match nextM 41 st with | some st' => some (⟨3, [], ws⟩, st') | none => none)
          | none => none)))
    else if atomC c then some (⟨1, (c :: s).takeWhile atomC, .nil⟩, ⟨(c :: s).dropWhile atomC, r⟩) else none
def placesM : Bool → List (List Nat) → List (List Nat) → Bool
  | first, t :: texts, _ :: lits => (match t.getLast? with | none => first | some c => decide (c = 32 ∨ c = 40)) && placesM false texts lits
  | _, _, _ => true
def parseM (texts lits : List (List Nat)) : Option Wds := match texts with
  | [] => none
  | t :: ts => if placesM true texts lits then (match loopW (wordM 8) (St.size ⟨t, lits.zip ts⟩ + 1) ⟨t, lits.zip ts⟩ with
    | some (ws, st) => if st.cur = [] ∧ st.rest = [] then some ws else none
    | none => none) else none
def numM (s : List Nat) : Option Nat :=
  if s = [] ∨ s.length > 10 ∨ (s.head? = some 48 ∧ s.length > 1) ∨ ¬ (∀ c ∈ s, 48 ≤ c ∧ c ≤ 57) then none
  else if s.foldl (fun n c => n * 10 + (c - 48)) 0 > 4294967295 then none else some (s.foldl (fun n c => n * 10 + (c - 48)) 0)
def lastM (c : Nat) : List Nat → Option Nat
  | [] => none
  | d :: l => (match lastM c l with | some i => some (i + 1) | none => if d = c then some 0 else none)
def markerM (t : List Nat) : Option (List Nat × Nat × Bool) :=
  if t.getLast? = some 125 then
    (match lastM 123 t.dropLast with
    | none => none
    | some i => (if (t.dropLast.drop (i + 1)).getLast? = some 43
        then (match numM (t.dropLast.drop (i + 1)).dropLast with | some n => some (t.take i, n, true) | none => none)
        else (match numM (t.dropLast.drop (i + 1)) with | some n => some (t.take i, n, false) | none => none)))
  else none
structure Rd where
  texts : List (List Nat) := []
  lits : List (List Nat) := []
  long : Nat := 0
  wide : Nat := 0
  now : List Nat := []
  want : Nat := 0
  lit : List Nat := []
  literal : Bool := false
  skip : Nat := 0
  line : Bool := false
structure Got where
  kind : Int
  words : Wds
def cutCR (t : List Nat) : List Nat := if t.getLast? = some 13 then t.dropLast else t
def endM (most : Int) (r : Rd) : Rd × List Got :=
  match markerM (cutCR r.now) with
  | none => (match parseM (r.texts ++ [cutCR r.now]) r.lits with
    | some ws => ({}, [⟨1, ws⟩])
    | none => ({}, [⟨3, .nil⟩]))
  | some (ahead, n, plus) =>
    if (n : Int) > most - r.wide then (if plus then ({ skip := n, line := true }, [⟨3, .nil⟩]) else ({}, [⟨3, .nil⟩]))
    else ({ texts := r.texts ++ [ahead], lits := if n = 0 then r.lits ++ [[]] else r.lits, long := r.long + (cutCR r.now).length, wide := r.wide + n, now := [], want := n, lit := r.lit, literal := decide (0 < n), skip := r.skip, line := r.line },
      if plus then [] else [⟨2, .nil⟩])
def feedM (most : Int) (r : Rd) (c : Nat) : Rd × List Got :=
  if r.skip > 0 then ({ r with skip := r.skip - 1 }, [])
  else if r.literal then (if r.want ≤ 1 then ({ r with want := 0, lits := r.lits ++ [r.lit ++ [c]], lit := [], literal := false }, []) else ({ r with want := r.want - 1, lit := r.lit ++ [c] }, []))
  else if r.line then ({ r with line := decide (c ≠ 10) }, [])
  else if c = 10 then endM most r
  else if r.long + (r.now.length + 1) > 4096 ∧ (c ≠ 13 ∨ r.long + (r.now.length + 1) > 4097) then ({ line := true }, [⟨3, .nil⟩])
  else ({ r with now := r.now ++ [c] }, [])
def feedsM (most : Int) : Rd → List Nat → Rd × List Got
  | r, [] => (r, [])
  | r, c :: b => ((feedsM most (feedM most r c).1 b).1, (feedM most r c).2 ++ (feedsM most (feedM most r c).1 b).2)
theorem feedsM_append (most : Int) : ∀ (r : Rd) (a b : List Nat), feedsM most r (a ++ b) = ((feedsM most (feedsM most r a).1 b).1, (feedsM most r a).2 ++ (feedsM most (feedsM most r a).1 b).2)
  | r, [], b => by simp [feedsM]
  | r, c :: a, b => by simp [feedsM, feedsM_append most _ a b]
end Go.Ln
