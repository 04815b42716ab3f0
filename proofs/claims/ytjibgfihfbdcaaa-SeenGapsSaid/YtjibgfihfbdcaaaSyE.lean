/- The symbolic evaluator, part E: soundness of one operation. Conditions: none; generic over programs. -/
import Derived.Test.YtjibgfihfbdcaaaSyD
namespace Go.Sx
open Go.RowKit (Below)

def CallPost (w0 : World) (mu : Fm) (ρ : Env) (K : KT) : Ending → World → Prop :=
  fun e w' => ∃ v s bx' E' ρ', e = .returned v ∧ ρ <+: ρ' ∧ s.den ρ' = some v ∧ Rel w0 mu bx' E' ρ' w' ∧ K s bx' E'

def EnterOK (P : Program) (f : FuncId) : Prop := ∃ fn, P.funcs[f]? = some fn ∧ (fn.name == "runtime.NumGoroutine") = false ∧ fn.body.isNone = false

/-- The record of the loop at hand. -/
def okE (Ω : Option Rc) (ρ : Env) : Prop := match Ω with
  | none => True
  | some c => c.ρ <+: ρ
theorem okE.mono {Ω : Option Rc} {ρ ρ' : Env} (h : okE Ω ρ) (hp : ρ <+: ρ') : okE Ω ρ' := by
  cases Ω with
  | none => trivial
  | some c => exact List.IsPrefix.trans h hp
def okR (Ω : Option Rc) (w0 : World) (mu : Fm) (ρ : Env) : Prop := (mu.om = Ω ∧ okE Ω ρ) ∧ okO w0 mu

theorem okO.at {w0 w : World} {mu : Fm} {mus : List Nat} {E : Mem} {ds : List Deferred} (h : okO w0 mu) (hk : Keep mu.mu w0 w) (hm : ∀ g, g ∈ mus → w0.heap.size ≤ g ∨ g ∈ mu.mu) : okO w ⟨mus, E, mu.om, ds⟩ := by
  unfold okO at h ⊢
  cases hc : mu.om with
  | none => trivial
  | some c =>
    rw [hc] at h
    obtain ⟨h3, h4, h5⟩ := h
    have hlt : c.l < w0.heap.size := (Array.getElem?_eq_some_iff.1 h3).1
    refine ⟨?_, h4, fun hg => ?_⟩
    · rw [hk.block c.l hlt h5]; exact h3
    · rcases hm c.l hg with q | q
      · omega
      · exact h5 q

theorem EnterOK.run {P : Program} {f : FuncId} (h : EnterOK P f) (args : Array Value) (w : World) : (callFunc f args).run P w = .ok (.enter f args) w := by
  obtain ⟨fn, h1, h2, h3⟩ := h
  unfold callFunc
  simp only [Sem.run_bind, run_program, Result.andThen_ok, h1, h2, h3, Bool.false_eq_true, if_false, Sem.run_pure]

/-- What a call reaches: the function is entered, or its entry answers at once. -/
def Reach (P : Program) (f : FuncId) (args : Array Value) (w : World) (R : Ending → World → Prop) : Prop :=
  ((callFunc f args).run P w = .ok (.enter f args) w ∧ Calls P f args w R) ∨ ∃ v w', (callFunc f args).run P w = .ok (.value v) w' ∧ R (.returned v) w'
theorem Reach.mono {P : Program} {f : FuncId} {args : Array Value} {w : World} {R R' : Ending → World → Prop} (h : Reach P f args w R) (k : ∀ e w', R e w' → R' e w') : Reach P f args w R' := by
  rcases h with ⟨h1, h2⟩ | ⟨v, w', h1, h2⟩
  · exact .inl ⟨h1, h2.mono k⟩
  · exact .inr ⟨v, w', h1, k _ _ h2⟩
theorem EnterOK.reach {P : Program} {f : FuncId} (h : EnterOK P f) {args : Array Value} {w : World} {R : Ending → World → Prop} (k : Calls P f args w R) : Reach P f args w R := .inl ⟨h.run args w, k⟩

def CallSem (P : Program) (f : FuncId) (args : List SV) (bx : List Box) (E : Mem) (K : KT) : Prop :=
  ∀ w0 mu ρ w vs, Rel w0 mu bx E ρ w → SV.denL ρ args = some vs → Reach P f vs.toArray w (CallPost w0 mu ρ K)

/-- How a function that is ranged over ends, where a round has returned. -/
def QuitPost (Ω : Option Rc) (w0 : World) (mu : Fm) (ρ : Env) : Ending → World → Prop := fun e w' => ∃ c, Ω = some c ∧ ∃ v bx' E' ρ', e = .returned v ∧ ρ <+: ρ' ∧ Rel (w0.putObj c.l (.loop c.stop)) mu bx' E' ρ' w' ∧ c.q bx' E'

/-- The same, while a loop's record lies ready. -/
def CallSemO (Ω : Option Rc) (P : Program) (f : FuncId) (args : List SV) (bx : List Box) (E : Mem) (K : KT) : Prop :=
  EnterOK P f ∧ ∀ w0 mu ρ w vs, okR Ω w0 mu ρ → Rel w0 mu bx E ρ w → SV.denL ρ args = some vs → Calls P f vs.toArray w fun e w' => CallPost w0 mu ρ K e w' ∨ QuitPost Ω w0 mu ρ e w'

theorem Rel.cast {w0 : World} {mu mu' : Fm} {bx : List Box} {E : Mem} {ρ : Env} {w : World} (h1 : mu'.mu = mu.mu) (h2 : mu'.E0 = mu.E0) (h : Rel w0 mu bx E ρ w) : Rel w0 mu' bx E ρ w :=
  ⟨h1 ▸ h.keep, h.len, h.box, by rw [h1]; exact h.sep, h.hold, by rw [h1]; exact h.bsrc, by rw [h1, h2]; exact h.src⟩

theorem CallSemO.out {P : Program} {f : FuncId} {args : List SV} {bx : List Box} {E : Mem} {K : KT} (h : CallSemO none P f args bx E K) : CallSem P f args bx E K := by
  refine fun w0 mu ρ w vs hR hd => h.1.reach ?_
  refine (h.2 w0 ⟨mu.mu, mu.E0, none, []⟩ ρ w vs ⟨⟨rfl, trivial⟩, trivial⟩ (Rel.cast (mu := mu) rfl rfl hR) hd).mono fun e w' he => ?_
  rcases he with he | ⟨c, q, _⟩
  case inr => cases q
  obtain ⟨v, s, bx', E', ρ', rfl, h1, h2, h3, h4⟩ := he
  exact ⟨v, s, bx', E', ρ', rfl, h1, h2, Rel.cast (mu := ⟨mu.mu, mu.E0, none, []⟩) rfl rfl h3, h4⟩

/-- A call of yield: a round of the loop at hand. -/
def YieldSem (Ω : Option Rc) (P : Program) (args : List SV) (bx : List Box) (E : Mem) (K : KT) : Prop :=
  ∃ l m b rest, args = .raw (.func (.yield l) m b) :: rest ∧ ∀ w0 mu ρ w vs, okR Ω w0 mu ρ → Rel w0 mu bx E ρ w → SV.denL ρ rest = some vs →
    ∃ fn tmps assign body, (Instr.yield l (m ++ vs.toArray)).run P w = .ok (.round l fn tmps assign body) w ∧ RoundIn Fence.wide 0 P l fn tmps assign body w (CallPost w0 mu ρ K)

def CallOK (Ω : Option Rc) (P : Program) (callW : CallT) : Prop := ∀ f args bx E K, callW f args bx E K → if f = YID then YieldSem Ω P args bx E K else CallSem P f args bx E K

theorem run_newVar' {P : Program} (T : TypeId) (v : Value) (w : World) : (newVar T v).run P w = .ok ⟨w.heap.size, 0, none⟩ (w.alloc (.cells v.cells T)) := by
  rfl

theorem asCells_raw {z : Value} {zs : List SV} (h : asCells (.raw z) = some zs) : SV.denL [] zs = some z.cells.toList ∧ zs = z.cells.toList.map .raw := by
  unfold asCells at h
  split at h
  · rename_i hh; cases hh
  · rename_i cs hh
    simp only [Option.some.injEq] at h; subst h
    cases hh
    exact ⟨denL_raw _, rfl⟩
  · cases h

/-- The next step, for a value. -/
def NextOK (op : Op) (S : St) (dst : Option Tmp) (a : Act) (ρ : Env) (w0 : World) (mu : Fm) (K : KT) (next : Act → World → Prop) : Prop :=
  ∀ s v bx E ρ' w', ρ <+: ρ' → s.den ρ' = some v → Rel w0 mu bx E ρ' w' → (growOp op S = true → S.bx <+: bx ∧ Mem.le S.E E) → K s bx E → next (a.put dst v) w'

theorem pureW_elim {P : Program} {s : Sem Value} {K : SV → Prop} (h : pureW P s K) : ∃ v, (∀ w, s.run P w = .ok v w) ∧ K (.raw v) := by
  unfold pureW at h
  split at h
  · rename_i v hv; exact ⟨v, pureVal_run s hv, h⟩
  · exact h.elim

theorem Rel.read' {w0 : World} {mu : Fm} {bx : List Box} {E : Mem} {ρ : Env} {w : World} (h : Rel w0 mu bx E ρ w) {i : Nat} {b : Box} {a : Addr} (hb : bx[i]? = some b) (hρ : ρ[i]? = some (some a)) :
    a.spot = none ∧ ∃ vs, SV.denL ρ b.cells = some vs ∧ ∀ k x, vs[k]? = some x → w.cell? (a.add k) = some x := by
  obtain ⟨h1, vs, h2, h3⟩ := h.box i b _ hb hρ
  refine ⟨h1, vs, h2, ?_⟩
  by_cases hc : b.cells = []
  · have := denL_length h2
    rw [hc] at this
    intro k x hx
    have : vs = [] := List.eq_nil_of_length_eq_zero this
    subst this; simp at hx
  · obtain ⟨a', vs', e1, e2, e3, e4⟩ := h.read hb hc
    rw [hρ] at e1; cases e1
    rw [h2] at e3; cases e3
    exact e4

theorem locDen_some {ρ : Env} {b off : Nat} {v : Value} (h : locDen ρ b off = some v) : ∃ a, ρ[b]? = some (some a) ∧ v = .pointer (some (a.add off)) := by
  unfold locDen at h
  split at h
  · rename_i a ha; simp only [Option.some.injEq] at h; exact ⟨a, ha, h.symm⟩
  · cases h

theorem rpDen_some {x v : Value} {off : Nat} (h : rpDen x off = some v) : ∃ a len cap, x = .slice (some a) len cap ∧ v = .pointer (some (a.add off)) ∧ a.spot = none := by
  unfold rpDen at h
  split at h
  · rename_i a len cap
    split at h
    · rename_i hs; simp only [Option.some.injEq] at h; exact ⟨a, len, cap, rfl, h.symm, hs⟩
    · cases h
  · cases h

theorem load_sound {P : Program} {T : TypeId} {w0 : World} {mu : Fm} {bx : List Box} {E : Mem} {ρ : Env} {w : World} (h : Rel w0 mu bx E ρ w) {b off : Nat} {y : Box} {r : SV} {av : Value}
    (hb : bx[b]? = some y) (hr : loadW P T y.cells off = some r) (ha : locDen ρ b off = some av) :
    ∃ v, r.den ρ = some v ∧ (Instr.loadAt T av).run P w = .ok v w := by
  obtain ⟨a, hρ, rfl⟩ := locDen_some ha
  obtain ⟨h1, vs, h2, h3⟩ := h.read' hb hρ
  obtain ⟨v, h4, h5⟩ := run_loadVar (P := P) h1 hr h2 h3
  exact ⟨v, h4, by simp [Instr.loadAt, Instr.sureAddr, h5]⟩

theorem loadE_sound {P : Program} {T : TypeId} {w0 : World} {mu : Fm} {bx : List Box} {E : Mem} {ρ : Env} {w : World} (h : Rel w0 mu bx E ρ w) {x : Value} {off : Nat} {r : SV} {av : Value}
    (hr : LoadE P E T x off r) (ha : rpDen x off = some av) :
    ∃ v, r.den ρ = some v ∧ (Instr.loadAt T av).run P w = .ok v w := by
  obtain ⟨a, len, cap, rfl, rfl, _⟩ := rpDen_some ha
  obtain ⟨cs, hE, hl⟩ := hr
  rcases h.hold _ _ hE with rfl | ⟨a', len', cap', e, hs, hcell⟩
  · -- no cells: only a value of no size can be read
    obtain ⟨d, hu⟩ := loadW_type hl
    by_cases hd : isAggD d = true
    · obtain ⟨i, hi, hlen, rfl⟩ := loadW_agg hu hd hl
      simp at hlen
      refine ⟨.agg #[], by simp [SV.den, SV.denL], ?_⟩
      simp only [Instr.loadAt, Instr.sureAddr, Sem.run_bind, Sem.run_pure, Result.andThen_ok]
      unfold loadVar
      simp only [Sem.run_bind, run_isAgg' hu, hd, Result.andThen_ok, Sem.run_ite, if_true, run_sizeOf' hi, ← hlen]
      simp [loadCells, loadCellsFrom]
    · have := loadW_single hu (by simpa using hd) hl
      simp at this
  · cases e
    obtain ⟨v, h4, h5⟩ := run_loadVar (P := P) (w := w) hs hl (denL_raw (ρ := ρ) cs) (fun k x hx => by rw [add_eq hs]; exact hcell k x hx)
    exact ⟨v, h4, by simp [Instr.loadAt, Instr.sureAddr, h5]⟩

end Go.Sx
