/- The symbolic evaluator, part V: more small lemmas for the prover: the cells of a row of structs; loops and cuts from a state in which more is known. Conditions: none; generic over programs. -/
import Derived.Test.YtjibgfihfbdcaaaSyU
namespace Go.Sx
open Go
/-- The types of a type's cells, where it is laid out field by field. -/
def flatT (P : Program) : Nat → TypeId → Option (List TypeId)
  | 0, _ => none
  | n + 1, T => match P.underlying T with
    | some (.struct fs) => match flatFs P (flatT P n) 0 fs.toList with
      | some ts => if ts.length = P.cellsOf T then some ts else none
      | none => none
    | some (.array ..) => none
    | _ => if P.cellsOf T = 1 then some [T] else none
where
  flatFs (P : Program) (r : TypeId → Option (List TypeId)) : Nat → List Field → Option (List TypeId)
    | _, [] => some []
    | k, f :: fs => if f.offset = k then match r f.type with
        | some ts => if ts.length = P.cellsOf f.type then match flatFs P r (k + ts.length) fs with
          | some us => some (ts ++ us)
          | none => none else none
        | none => none else none

/-- A value's cells, one by one. -/
def CellsShp (P : Program) (W : World) : List TypeId → List Value → Prop
  | [], [] => True
  | t :: ts, v :: vs => (∃ m, Shp P W (m + 1) t [v]) ∧ CellsShp P W ts vs
  | _, _ => False

theorem CellsShp.app {P : Program} {W : World} : ∀ {ts us : List TypeId} {vs ws : List Value}, CellsShp P W ts vs → CellsShp P W us ws → CellsShp P W (ts ++ us) (vs ++ ws)
  | [], _, [], _, _, h => h
  | _ :: _, _, _ :: _, _, h, k => ⟨h.1, h.2.app k⟩
  | [], _, _ :: _, _, h, _ => h.elim
  | _ :: _, _, [], _, h, _ => h.elim
theorem CellsShp.len {P : Program} {W : World} : ∀ {ts : List TypeId} {vs : List Value}, CellsShp P W ts vs → vs.length = ts.length
  | [], [], _ => rfl
  | _ :: _, _ :: _, h => by simp [h.2.len]
  | [], _ :: _, h => h.elim
  | _ :: _, [], h => h.elim

theorem flatFs_sound {P : Program} {W : World} {n : Nat} (ih : ∀ T ts cs, flatT P n T = some ts → cs.length = P.cellsOf T → Shp P W n T cs → CellsShp P W ts cs) :
    ∀ (fs : List Field) (k : Nat) (ts : List TypeId) (cs : List Value), flatT.flatFs P (flatT P n) k fs = some ts → cs.length = k + ts.length → (∀ f ∈ fs, Shp P W n f.type ((cs.drop f.offset).take (P.cellsOf f.type))) → CellsShp P W ts (cs.drop k)
  | [], k, ts, cs, h, hl, _ => by
    simp only [flatT.flatFs, Option.some.injEq] at h; subst h
    rw [List.drop_eq_nil_of_le (by simpa using Nat.le_of_eq hl)]; exact True.intro
  | f :: fs, k, ts, cs, h, hl, hs => by
    simp only [flatT.flatFs] at h
    split at h
    case isFalse => cases h
    rename_i ho
    split at h
    case h_2 => cases h
    rename_i us hus
    split at h
    case isFalse => cases h
    rename_i hc
    split at h
    case h_2 => cases h
    rename_i vs hvs
    simp only [Option.some.injEq] at h; subst h
    simp only [List.length_append] at hl
    have h1 := hs f (by simp)
    rw [ho] at h1
    have h2 := ih f.type us _ hus (by simp only [List.length_take, List.length_drop]; omega) h1
    have h3 := flatFs_sound ih fs (k + us.length) vs cs hvs (by omega) (fun g hg => hs g (by simp [hg]))
    have h4 := h2.app h3
    rwa [← hc, ← List.drop_drop, List.take_append_drop] at h4

theorem flatT_sound {P : Program} {W : World} : ∀ (n : Nat) (T : TypeId) (ts : List TypeId) (cs : List Value), flatT P n T = some ts → cs.length = P.cellsOf T → Shp P W n T cs → CellsShp P W ts cs
  | 0, _, _, _, h, _, _ => by cases h
  | n + 1, T, ts, cs, h, hl, hs => by
    unfold flatT at h
    split at h
    · rename_i fs hu
      unfold Shp at hs
      rw [hu] at hs
      split at h
      case h_2 => cases h
      rename_i us hus
      split at h
      case isFalse => cases h
      rename_i hc
      simp only [Option.some.injEq] at h; subst h
      have := flatFs_sound (flatT_sound n) fs.toList 0 us cs hus (by omega) hs.2
      simpa using this
    · cases h
    · split at h
      case isFalse => cases h
      rename_i hc
      simp only [Option.some.injEq] at h; subst h
      rw [hc] at hl
      match cs, hl with
      | [v], _ => exact ⟨⟨n, hs⟩, True.intro⟩

theorem Shp_int1 {P : Program} {W : World} {m : Nat} {T : TypeId} {k : IntKind} (hu : P.underlying T = some (.int k)) {v : Value} (h : Shp P W (m + 1) T [v]) : ∃ z : Int, v = .int k z ∧ (Lit.int k z).wf = true := by
  unfold Shp at h
  rw [hu] at h
  obtain ⟨z, hz, hw⟩ := h
  exact ⟨z, by simpa using hz, hw⟩

theorem CellsShp.int {P : Program} {W : World} {t : TypeId} {k : IntKind} (hu : P.underlying t = some (.int k)) {ts : List TypeId} {vs : List Value} (h : CellsShp P W (t :: ts) vs) : ∃ (z : Int) (us : List Value), vs = .int k z :: us ∧ (Lit.int k z).wf = true ∧ CellsShp P W ts us := by
  match vs, h with
  | v :: us, ⟨⟨_, s⟩, h2⟩ =>
    obtain ⟨z, rfl, hw⟩ := Shp_int1 hu s
    exact ⟨z, us, rfl, hw, h2⟩
theorem CellsShp.nil {P : Program} {W : World} {vs : List Value} (h : CellsShp P W [] vs) : vs = [] := by
  match vs, h with
  | [], _ => rfl

theorem Lp_re {C : Cx} {n : Nat} {fn : Func} {p : List Nat} {n0 : Nat} {K : KT} {S T : St} (τ : Tau) (h : Lp C n fn p n0 K T) (hw : S.wk n0 τ T) : Lp C n fn p n0 K S := Lp_wk τ hw h
theorem Ct_re {C : Cx} {n : Nat} {fn : Func} {p : List Nat} {n0 : Nat} {K : KT} {S T : St} (τ : Tau) (h : Ct C n fn p n0 K T) (hw : S.wk n0 τ T) : Ct C n fn p n0 K S := Ct_wk τ hw h
end Go.Sx
