/- The symbolic evaluator, part D: soundness of one operation. Conditions: none; generic over programs. -/
import Derived.Test.YtjibgfihfbdcaaaSyC
import Derived.Laws.Tables
namespace Go.Sx
open Go.RowKit (Below)

theorem opd_den {S : St} {a : Act} {ρ : Env} (hF : FrRel ρ S.fr a.tmps) {x : Operand} {s : SV} (h : opd S x = some s) : s.den ρ = some (a.eval x) := by
  cases x with
  | tmp t =>
    simp only [opd] at h
    split at h
    · rename_i o ho
      subst h
      obtain ⟨v, h1, h2⟩ := hF.2 t s ho
      rw [h2]; simp [Act.eval, Array.getD_eq_getD_getElem?, h1]
    · cases h
  | const v => simp only [opd, Option.some.injEq] at h; subst h; rfl
  | global g => simp only [opd, Option.some.injEq] at h; subst h; rfl
  | func f => simp only [opd, Option.some.injEq] at h; subst h; rfl

theorem opds_den {S : St} {a : Act} {ρ : Env} (hF : FrRel ρ S.fr a.tmps) : ∀ {l : List Operand} {ss : List SV}, opds S l = some ss → SV.denL ρ ss = some (l.map a.eval)
  | [], _, h => by simp only [opds, Option.some.injEq] at h; subst h; simp [SV.denL]
  | x :: l, _, h => by
    simp only [opds] at h
    split at h
    · rename_i s ss h1 h2
      simp only [Option.some.injEq] at h; subst h
      simp only [SV.denL, opd_den hF h1, opds_den hF h2, List.map_cons]
    · cases h

/-- The parts of a build, as values. -/
def PartsDen (ρ : Env) : List (Nat × SV) → List (Nat × Value) → Prop
  | [], [] => True
  | (i, s) :: ss, (j, v) :: vs => i = j ∧ s.den ρ = some v ∧ PartsDen ρ ss vs
  | _, _ => False

theorem parts_den {S : St} {a : Act} {ρ : Env} (hF : FrRel ρ S.fr a.tmps) : ∀ {l : List (Nat × Operand)} {ss : List (Nat × SV)}, parts S l = some ss → PartsDen ρ ss (l.map fun (i, x) => (i, a.eval x))
  | [], _, h => by simp only [parts, Option.some.injEq] at h; subst h; trivial
  | (i, x) :: l, _, h => by
    simp only [parts] at h
    split at h
    · rename_i s ss h1 h2
      simp only [Option.some.injEq] at h; subst h
      exact ⟨rfl, opd_den hF h1, parts_den hF h2⟩
    · cases h

theorem foldl_lay (off : Nat) : ∀ (l : List Value) (k : Nat) (cells : List Value), off + k + l.length ≤ cells.length →
    (l.zipIdx k).foldl (fun (cs : Array Value) (x : Value × Nat) => cs.setIfInBounds (off + x.2) x.1) cells.toArray = (cells.take (off + k) ++ l ++ cells.drop (off + k + l.length)).toArray
  | [], k, cells, _ => by simp
  | v :: l, k, cells, h => by
    simp only [List.length_cons] at h
    simp only [List.zipIdx_cons, List.foldl_cons]
    rw [List.setIfInBounds_toArray, foldl_lay off l (k + 1) _ (by simp; omega)]
    congr 1
    have e1 : (cells.set (off + k) v).take (off + (k + 1)) = cells.take (off + k) ++ [v] := by
      rw [← Nat.add_assoc, List.take_succ_eq_append_getElem (by simp; omega)]
      simp [List.take_set_of_le]
    rw [e1, List.drop_set_of_lt (by omega)]
    simp [Nat.add_assoc, Nat.add_comm 1]

theorem fill_den {ρ : Env} {place : Nat → Option (Nat × Nat)} : ∀ {ss : List (Nat × SV)} {ps : List (Nat × Value)} {cells cs : List SV} {vs : List Value}, PartsDen ρ ss ps → SV.denL ρ cells = some vs →
    fillW place cells ss = some cs → ∃ ws, SV.denL ρ cs = some ws ∧ Instr.fill place vs.toArray ps = some ws.toArray
  | [], [], cells, cs, vs, _, hv, h => by simp only [fillW, Option.some.injEq] at h; subst h; exact ⟨vs, hv, rfl⟩
  | (i, s) :: ss, (j, v) :: ps, cells, cs, vs, hp, hv, h => by
    obtain ⟨rfl, hd, hp⟩ := hp
    simp only [fillW] at h
    cases hpl : place i with
    | none => rw [hpl] at h; cases h
    | some x =>
      obtain ⟨off, size⟩ := x
      rw [hpl] at h
      simp only at h
      split at h
      case isFalse => cases h
      rename_i hc
      obtain ⟨h1, h2, h3⟩ := hc
      have hsc := svCells_den h1 hd
      have hl := denL_length hsc
      have hvl := denL_length hv
      have hlay : SV.denL ρ (lay cells off (svCells s)) = some (vs.take off ++ v.cells.toList ++ vs.drop (off + v.cells.toList.length)) := by
        unfold lay
        rw [hl]
        exact denL_append (denL_append (denL_take hv off) hsc) (denL_drop hv _)
      obtain ⟨ws, h4, h5⟩ := fill_den hp hlay h
      refine ⟨ws, h4, ?_⟩
      simp only [Instr.fill, hpl]
      have hsz : v.cells.size = (svCells s).length := by rw [← Array.length_toList, hl]
      rw [if_neg (by simp only [List.size_toArray]; simp only [Array.length_toList] at hl; simp; omega)]
      rw [← h5]
      congr 1
      have hf := foldl_lay off v.cells.toList 0 vs (by simp only [Nat.add_zero]; omega)
      simp only [Nat.add_zero] at hf
      rw [← hf, ← Array.foldl_toList]
      simp [Array.toList_zipIdx]
  | [], _ :: _, _, _, _, hp, _, _ => hp.elim
  | _ :: _, [], _, _, _, hp, _, _ => hp.elim

theorem run_zeroValue' {P : Program} {T : TypeId} {i : TypeInfo} {z : Value} (h : P.info? T = some i) (hz : i.zero = some z) (w : World) : (zeroValue T).run P w = .ok z w := by
  simp [zeroValue, run_typeInfo' h, hz]

end Go.Sx
