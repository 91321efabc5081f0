/- Part of the value machine, or of a walk by it: lemmas that the claim's last text uses. No conditions. -/
import Derived.Lib.LaidCaseMet
set_option linter.unusedVariables false
set_option linter.unusedSimpArgs false
set_option linter.unnecessarySimpa false
/- The value machine, part 32: a world for the witness that holds unicode.CaseRanges. -/
namespace Go.VmL
open Go.Lib Go.Proofs

/-- what the type table must say of unicode.CaseRange -/
structure CaseTy (P : Program) (g : Nat) (tU tI tA tR tS : TypeId) (f0 f1 f2 : Field) : Prop where
  name : P.globalNamed "unicode.CaseRanges" = some g
  glob : (P.globals[g]?).map (·.type) = some tS
  s : P.underlying tS = some (.slice tR)
  r : P.underlying tR = some (.struct #[f0, f1, f2])
  a : P.underlying tA = some (.array 3 tI)
  u : P.underlying tU = some (.int .u32)
  i : P.underlying tI = some (.int .i32)
  ty : (f0.type = tU ∧ f1.type = tU) ∧ f2.type = tA
  off : (f0.offset = 0 ∧ f1.offset = 1) ∧ f2.offset = 2
  cu : P.cellsOf tU = 1
  ci : P.cellsOf tI = 1
  ca : P.cellsOf tA = 3
  cr : P.cellsOf tR = 5

variable {P : Program} {g : Nat} {tU tI tA tR tS : TypeId} {f0 f1 f2 : Field} {w : World}

theorem caseRow_told (C : CaseTy P g tU tI tA tR tS f0 f1 f2) {x : CaseRow} (hx : rowWf x = true) (n : Nat) : DataW.trod (fun _ => ()) P w 0 (fun _ => true) false (n + 3) tR (cells5 x) = some (rowData x, []) := by
  obtain ⟨⟨t0, t1⟩, t2⟩ := C.ty
  obtain ⟨⟨o0, o1⟩, o2⟩ := C.off
  obtain ⟨a, b, c, d, e⟩ := x
  simp only [rowWf, Bool.and_eq_true] at hx
  obtain ⟨⟨⟨⟨w0, w1⟩, w2⟩, w3⟩, w4⟩ := hx
  have three : List.range 3 = [0, 1, 2] := rfl
  simp [DataW.trod, C.r, C.a, C.u, C.i, C.cu, C.ci, C.ca, C.cr, t0, t1, t2, o0, o1, o2, cells5, rowData, w0, w1, w2, w3, w4, three]

theorem caseVar_told (C : CaseTy P g tU tI tA tR tS f0 f1 f2) {R : Nat} {t : TypeId} {fz : Nat × Nat} (hb : w.heap[R]? = some (.cells caseCells5 t fz)) :
    DataW.trod (fun _ => ()) P w 0 (fun _ => true) false 4 tS [.slice (some ⟨R, 0, none⟩) caseA.size caseA.size] = some (caseData, MemPlace.row ⟨R, 0, none⟩ (caseA.size * 5)) := by
  have hT := caseTab_of_block hb
  have each : ∀ k ∈ List.range caseA.size, (w.cells? 0 ((⟨R, 0, none⟩ : Addr).add (k * 5)) 5).bind (DataW.trod (fun _ => ()) P w 0 (fun _ => true) false 3 tR) = some ((fun k => ((rowData (caseA.getD k (0, 0, 0, 0, 0)) : DataW Unit), ([] : List MemPlace))) k) := by
    intro k hk
    have hk' := List.mem_range.1 hk
    rw [case_cells5 hT k hk']
    exact caseRow_told C (caseA_wf k hk') 0
  have hbig : caseA.size ≤ maxLen := by rw [caseA_size]; unfold maxLen; omega
  show DataW.trod _ _ _ _ _ _ (3 + 1) _ _ = _
  rw [DataW.trod_step]
  unfold DataW.trodStep
  simp only [C.s, C.cr]
  rw [if_pos ⟨Nat.zero_le _, Nat.le_refl _, hbig⟩, Go.Lib.mapM_some _ _ _ each]
  have hd := case_rows_data
  simp [caseData, ← hd]

/-- the variables ahead of it, it, and those behind it -/
theorem laid_around (C : CaseTy P g tU tI tA tR tS f0 f1 f2) {l1 l2 : List (String × DataW Unit)} (fuel : Nat)
    (k1 : (DataW.laidRun P w fuel (l1.map (·.1))).map (·.1) = some l1) (k2 : (DataW.laidRun P w fuel (l2.map (·.1))).map (·.1) = some l2) {R : Nat} {t : TypeId} (hgR : g ≠ R)
    (kn : ((DataW.laidRun P w fuel (l1.map (·.1))).bind fun x => (DataW.laidRun P w fuel (l2.map (·.1))).map fun y =>
      _root_.Go.nodupB ((x.2 ++ y.2).map MemPlace.codeOf) && (laidRowsB P w (x.2 ++ y.2) && (x.2 ++ y.2).all fun p => p.block != g && p.block != R)) = some true)
    (hvar : w.heap[g]? = some (.cells #[.slice (some ⟨R, 0, none⟩) caseA.size caseA.size] tS (0, 0))) (hblk : w.heap[R]? = some (.cells caseCells5 t (0, 0))) :
    laidMet P (l1 ++ ("unicode.CaseRanges", caseData) :: l2) w := by
  cases e1 : DataW.laidRun P w fuel (l1.map (·.1)) with
  | none => rw [e1] at k1; cases k1
  | some x1 =>
  cases e2 : DataW.laidRun P w fuel (l2.map (·.1)) with
  | none => rw [e2] at k2; cases k2
  | some x2 =>
  rw [e1] at k1
  rw [e2] at k2
  rw [e1, e2] at kn
  obtain ⟨y1, p1⟩ := x1
  obtain ⟨y2, p2⟩ := x2
  simp only [Option.map_some, Option.some.injEq] at k1 k2
  subst k1; subst k2
  simp only [Option.bind_some, Option.map_some, Option.some.injEq, Bool.and_eq_true] at kn
  obtain ⟨kn1, kn2, kn3⟩ := kn
  have hnd : (p1 ++ p2).Nodup := nodup_of_code kn1
  have hoff : ∀ p ∈ p1 ++ p2, p.block ≠ g ∧ p.block ≠ R := fun p hp => by
    have := List.all_eq_true.1 kn3 p hp
    simpa using this
  have hT := caseTab_of_block hblk
  have hmid : DataW.LaidVars P w [("unicode.CaseRanges", caseData)] (MemPlace.row ⟨g, 0, none⟩ 1 ++ MemPlace.row ⟨R, 0, none⟩ (caseA.size * 5) ++ []) :=
    ⟨g, tS, _, _, _, [], C.name, C.glob, by simp [World.var?, C.name, hvar], caseVar_told C hblk, rfl, rfl⟩
  have hall := LaidVars_append (DataW.LaidVars_of_laidRun e1) (LaidVars_append hmid (DataW.LaidVars_of_laidRun e2))
  have hmem : ∀ p, p ∈ MemPlace.row ⟨g, 0, none⟩ 1 ++ MemPlace.row ⟨R, 0, none⟩ (caseA.size * 5) ++ [] → (p = .cell g 0) ∨ ∃ i, i < caseA.size * 5 ∧ p = .cell R i := by
    intro p hp
    rw [List.append_nil] at hp
    rcases List.mem_append.1 hp with hp | hp
    · obtain ⟨i, hi, rfl⟩ := MemPlace.mem_row.1 hp
      obtain rfl : i = 0 := by omega
      exact .inl rfl
    · obtain ⟨i, hi, rfl⟩ := MemPlace.mem_row.1 hp
      exact .inr ⟨i, hi, by simp⟩
  have hblockOf : ∀ p, p ∈ MemPlace.row ⟨g, 0, none⟩ 1 ++ MemPlace.row ⟨R, 0, none⟩ (caseA.size * 5) ++ [] → p.block = g ∨ p.block = R := fun p hp => by
    rcases hmem p hp with rfl | ⟨i, _, rfl⟩
    · exact .inl rfl
    · exact .inr rfl
  have hmidnd : (MemPlace.row ⟨g, 0, none⟩ 1 ++ MemPlace.row ⟨R, 0, none⟩ (caseA.size * 5) ++ []).Nodup := by
    rw [List.append_nil]
    refine List.nodup_append.2 ⟨row_nodup _ _, row_nodup _ _, fun a ha b hb e => ?_⟩
    obtain ⟨i, _, rfl⟩ := MemPlace.mem_row.1 ha
    obtain ⟨j, _, rfl⟩ := MemPlace.mem_row.1 hb
    simp at e
    exact hgR e.1
  refine ⟨_, hall, ?_, fun b off hp => ?_⟩
  · obtain ⟨n1, n2, n3⟩ := List.nodup_append.1 hnd
    refine List.nodup_append.2 ⟨n1, List.nodup_append.2 ⟨hmidnd, n2, fun a ha b hb e => ?_⟩, fun a ha b hb e => ?_⟩
    · subst e
      obtain ⟨q1, q2⟩ := hoff a (List.mem_append_right _ hb)
      rcases hblockOf a ha with q | q
      · exact q1 q
      · exact q2 q
    · subst e
      obtain ⟨q1, q2⟩ := hoff a (List.mem_append_left _ ha)
      rcases List.mem_append.1 hb with hb | hb
      · rcases hblockOf a hb with q | q
        · exact q1 q
        · exact q2 q
      · exact n3 a ha a hb rfl
  · by_cases hin : MemPlace.cell b off ∈ p1 ++ p2
    · have := List.all_eq_true.1 kn2 _ hin
      simp only [Bool.and_eq_true] at this
      obtain ⟨q1, q2⟩ := this
      refine ⟨?_, fun u v hc => ?_⟩
      · split at q1
        · rename_i c t' hh; exact ⟨c, t', hh⟩
        · cases q1
      · rw [hc] at q2
        exact Value.okWide_of_okWideB q2
    · have hp' : MemPlace.cell b off ∈ MemPlace.row ⟨g, 0, none⟩ 1 ++ MemPlace.row ⟨R, 0, none⟩ (caseA.size * 5) ++ [] := by
        rcases List.mem_append.1 hp with hp | hp
        · exact absurd (List.mem_append_left _ hp) hin
        · rcases List.mem_append.1 hp with hp | hp
          · exact hp
          · exact absurd (List.mem_append_right _ hp) hin
      rcases hmem _ hp' with e | ⟨i, hi, e⟩
      · cases e
        refine ⟨⟨_, _, hvar⟩, fun u v hc => ?_⟩
        rw [Lib.cell_of_heap hvar] at hc
        simp at hc
      · cases e
        refine ⟨⟨_, _, hblk⟩, fun u v hc => ?_⟩
        obtain ⟨c0, c1, c2, c3, c4⟩ := hT (off / 5) (by omega)
        have hq : off = 0 + off / 5 * 5 + off % 5 := by omega
        rw [hq] at hc
        have hm : off % 5 < 5 := Nat.mod_lt _ (by omega)
        generalize off % 5 = k at hc hm
        match k, hm with
        | 0, _ => rw [Nat.add_zero, c0] at hc; cases hc
        | 1, _ => rw [c1] at hc; cases hc
        | 2, _ => rw [c2] at hc; cases hc
        | 3, _ => rw [c3] at hc; cases hc
        | 4, _ => rw [c4] at hc; cases hc
end Go.VmL
