/- The symbolic evaluator, part E: soundness of one operation. Conditions: none; generic over programs. -/
import Derived.Test.YtjlpfhekhpebpaaSyD
namespace Go.Sx
open Go.RowKit (Below)

def CallPost (w0 : World) (mu : Fm) (ρ : Env) (K : KT) : Ending → World → Prop :=
  fun e w' => ∃ v s bx' E' ρ', e = .returned v ∧ ρ <+: ρ' ∧ s.den ρ' = some v ∧ Rel w0 mu bx' E' ρ' w' ∧ K s bx' E'

def EnterOK (P : Program) (f : FuncId) : Prop := ∃ fn, P.funcs[f]? = some fn ∧ (fn.name == "runtime.NumGoroutine") = false ∧ fn.body.isNone = false

def CallSem (P : Program) (f : FuncId) (args : List SV) (bx : List Box) (E : Mem) (K : KT) : Prop :=
  EnterOK P f ∧ ∀ w0 mu ρ w vs, Rel w0 mu bx E ρ w → SV.denL ρ args = some vs → Calls P f vs.toArray w (CallPost w0 mu ρ K)

def CallOK (P : Program) (callW : CallT) : Prop := ∀ f args bx E K, callW f args bx E K → CallSem P f args bx E K

theorem EnterOK.run {P : Program} {f : FuncId} (h : EnterOK P f) (args : Array Value) (w : World) : (callFunc f args).run P w = .ok (.enter f args) w := by
  obtain ⟨fn, h1, h2, h3⟩ := h
  unfold callFunc
  simp only [Sem.run_bind, run_program, Result.andThen_ok, h1, h2, h3, Bool.false_eq_true, if_false, Sem.run_pure]

theorem run_newVar' {P : Program} (T : TypeId) (v : Value) (w : World) : (newVar T v).run P w = .ok ⟨w.heap.size, 0, none⟩ (w.alloc (.cells v.cells T)) := by
  rfl

theorem asCells_raw {z : Value} {zs : List SV} (h : asCells (.raw z) = some zs) : SV.denL [] zs = some z.cells.toList ∧ zs = z.cells.toList.map .raw := by
  unfold asCells at h
  split at h
  · rename_i hh; cases hh
  · rename_i cs hh
    simp only [Option.some.injEq] at h; subst h
    cases hh
    exact ⟨denL_raw _, rfl⟩
  · cases h

/-- The next step, for a value. -/
def NextOK (op : Op) (S : St) (dst : Option Tmp) (a : Act) (ρ : Env) (w0 : World) (mu : Fm) (K : KT) (next : Act → World → Prop) : Prop :=
  ∀ s v bx E ρ' w', ρ <+: ρ' → s.den ρ' = some v → Rel w0 mu bx E ρ' w' → (growOp op S = true → S.bx <+: bx ∧ Mem.le S.E E) → K s bx E → next (a.put dst v) w'

theorem pureW_elim {P : Program} {s : Sem Value} {K : SV → Prop} (h : pureW P s K) : ∃ v, (∀ w, s.run P w = .ok v w) ∧ K (.raw v) := by
  unfold pureW at h
  split at h
  · rename_i v hv; exact ⟨v, pureVal_run s hv, h⟩
  · exact h.elim

theorem Rel.read' {w0 : World} {mu : Fm} {bx : List Box} {E : Mem} {ρ : Env} {w : World} (h : Rel w0 mu bx E ρ w) {i : Nat} {b : Box} {a : Addr} (hb : bx[i]? = some b) (hρ : ρ[i]? = some (some a)) :
    a.spot = none ∧ ∃ vs, SV.denL ρ b.cells = some vs ∧ ∀ k x, vs[k]? = some x → w.cell? (a.add k) = some x := by
  obtain ⟨h1, vs, h2, h3⟩ := h.box i b _ hb hρ
  refine ⟨h1, vs, h2, ?_⟩
  by_cases hc : b.cells = []
  · have := denL_length h2
    rw [hc] at this
    intro k x hx
    have : vs = [] := List.eq_nil_of_length_eq_zero this
    subst this; simp at hx
  · obtain ⟨a', vs', e1, e2, e3, e4⟩ := h.read hb hc
    rw [hρ] at e1; cases e1
    rw [h2] at e3; cases e3
    exact e4

theorem locDen_some {ρ : Env} {b off : Nat} {v : Value} (h : locDen ρ b off = some v) : ∃ a, ρ[b]? = some (some a) ∧ v = .pointer (some (a.add off)) := by
  unfold locDen at h
  split at h
  · rename_i a ha; simp only [Option.some.injEq] at h; exact ⟨a, ha, h.symm⟩
  · cases h

theorem rpDen_some {x v : Value} {off : Nat} (h : rpDen x off = some v) : ∃ a len cap, x = .slice (some a) len cap ∧ v = .pointer (some (a.add off)) ∧ a.spot = none := by
  unfold rpDen at h
  split at h
  · rename_i a len cap
    split at h
    · rename_i hs; simp only [Option.some.injEq] at h; exact ⟨a, len, cap, rfl, h.symm, hs⟩
    · cases h
  · cases h

theorem load_sound {P : Program} {T : TypeId} {w0 : World} {mu : Fm} {bx : List Box} {E : Mem} {ρ : Env} {w : World} (h : Rel w0 mu bx E ρ w) {b off : Nat} {y : Box} {r : SV} {av : Value}
    (hb : bx[b]? = some y) (hr : loadW P T y.cells off = some r) (ha : locDen ρ b off = some av) :
    ∃ v, r.den ρ = some v ∧ (Instr.loadAt T av).run P w = .ok v w := by
  obtain ⟨a, hρ, rfl⟩ := locDen_some ha
  obtain ⟨h1, vs, h2, h3⟩ := h.read' hb hρ
  obtain ⟨v, h4, h5⟩ := run_loadVar (P := P) h1 hr h2 h3
  exact ⟨v, h4, by simp [Instr.loadAt, Instr.sureAddr, h5]⟩

theorem loadE_sound {P : Program} {T : TypeId} {w0 : World} {mu : Fm} {bx : List Box} {E : Mem} {ρ : Env} {w : World} (h : Rel w0 mu bx E ρ w) {x : Value} {off : Nat} {r : SV} {av : Value}
    (hr : LoadE P E T x off r) (ha : rpDen x off = some av) :
    ∃ v, r.den ρ = some v ∧ (Instr.loadAt T av).run P w = .ok v w := by
  obtain ⟨a, len, cap, rfl, rfl, _⟩ := rpDen_some ha
  obtain ⟨cs, hE, hl⟩ := hr
  rcases h.hold _ _ hE with rfl | ⟨a', len', cap', e, hs, hcell⟩
  · -- no cells: only a value of no size can be read
    obtain ⟨d, hu⟩ := loadW_type hl
    by_cases hd : isAggD d = true
    · obtain ⟨i, hi, hlen, rfl⟩ := loadW_agg hu hd hl
      simp at hlen
      refine ⟨.agg #[], by simp [SV.den, SV.denL], ?_⟩
      simp only [Instr.loadAt, Instr.sureAddr, Sem.run_bind, Sem.run_pure, Result.andThen_ok]
      unfold loadVar
      simp only [Sem.run_bind, run_isAgg' hu, hd, Result.andThen_ok, Sem.run_ite, if_true, run_sizeOf' hi, ← hlen]
      simp [loadCells, loadCellsFrom]
    · have := loadW_single hu (by simpa using hd) hl
      simp at this
  · cases e
    obtain ⟨v, h4, h5⟩ := run_loadVar (P := P) (w := w) hs hl (denL_raw (ρ := ρ) cs) (fun k x hx => by rw [add_eq hs]; exact hcell k x hx)
    exact ⟨v, h4, by simp [Instr.loadAt, Instr.sureAddr, h5]⟩

end Go.Sx
