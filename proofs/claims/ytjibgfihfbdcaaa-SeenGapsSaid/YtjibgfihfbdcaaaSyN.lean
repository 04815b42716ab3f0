/- The symbolic evaluator, part N: operations that change nothing, in whatever world the state fits. Conditions: none; generic over programs. -/
import Derived.Test.YtjibgfihfbdcaaaSyH
import Derived.Test.YtjibgfihfbdcaaaSyI
namespace Go.Sx
open Go.RowKit (Below)

theorem run_val {P : Program} {o : Oper} {a : Act} {s : Sem Value} {w : World} {v : Value}
    (hx : execOp a.eval o = (do pure (Next.value (← s)))) (hr : s.run P w = .ok v w) : (execOp a.eval o).run P w = .ok (.value v) w := by
  rw [hx]
  simp only [Sem.run_bind, hr, Result.andThen_ok, Sem.run_pure]

section
variable {P : Program} {callW : CallT} {S : St} {a : Act} {w0 w1 : World} {mu : Fm} {ρ : Env} {K : KT}

/-- What a quiet operation gives. -/
def DetK (P : Program) (o : Oper) (S : St) (a : Act) (w0 : World) (mu : Fm) (ρ : Env) (K : KT) (G : Prop) : Prop :=
  ∀ (s : SV) (v : Value) (E' : Mem), s.den ρ = some v → Mem.le S.E E' → (∀ w, Rel w0 mu S.bx S.E ρ w → Rel w0 mu S.bx E' ρ w) → (∀ v cs, E' v cs → cs ≠ [] → ∃ v0 cs0, S.E v0 cs0 ∧ cs0 ≠ [] ∧ blk v = blk v0) → K s S.bx E' →
    (∀ w, (isLoad o.op = true → Rel w0 mu S.bx S.E ρ w) → (execOp a.eval o).run P w = .ok (.value v) w) → G

theorem pureDet {op : Op} {dst : Option Tmp} {type : TypeId} {pos : String} {after : Array Edge} {guard : Option (Nat × Bool)} {s : Sem Value}
    (hx : execOp a.eval ⟨dst, op, type, pos, after, guard⟩ = (do pure (Next.value (← s)))) (h : pureW P s fun r => K r S.bx S.E) {G : Prop} (hk : DetK P ⟨dst, op, type, pos, after, guard⟩ S a w0 mu ρ K G) : G := by
  obtain ⟨v, h1, h2⟩ := pureW_elim h
  exact hk _ v S.E rfl (Mem.le_refl _) (fun _ g => g) (fun v cs g hne => ⟨v, cs, g, hne, rfl⟩) h2 (fun w _ => run_val hx (h1 w))

set_option maxHeartbeats 1000000 in
theorem detW_sound {o : Oper} (hdet : isDet o.op = true) (hR1 : Rel w0 mu S.bx S.E ρ w1) (hF : FrRel ρ S.fr a.tmps) (h : opW P callW o.op S K) {G : Prop} (hk : DetK P o S a w0 mu ρ K G) : G := by
  obtain ⟨dst, op, type, pos, after, guard⟩ := o
  have fin : ∀ {s : SV} {x : Value}, s.den ρ = some x → K s S.bx S.E → (∀ w, (isLoad op = true → Rel w0 mu S.bx S.E ρ w) → (execOp a.eval ⟨dst, op, type, pos, after, guard⟩).run P w = .ok (.value x) w) → G :=
    fun {s x} h1 h2 h3 => hk s x S.E h1 (Mem.le_refl _) (fun _ g => g) (fun v cs g hne => ⟨v, cs, g, hne, rfl⟩) h2 h3
  cases op with
  | move x =>
    simp only [opW] at h
    split at h
    · rename_i s hs; exact fin (opd_den hF hs) h (fun w _ => rfl)
    · exact h.elim
  | assign x =>
    simp only [opW] at h
    split at h
    · rename_i s hs; exact fin (opd_den hF hs) h (fun w _ => rfl)
    · exact h.elim
  | pick c x y =>
    simp only [opW] at h
    have hb : ∀ {t : Bool}, opd S c = some (.raw (.bool t)) → a.eval c = .bool t := fun hc => by have := opd_den hF hc; simpa [SV.den] using this.symm
    split at h
    · rename_i t b1 b2 hc h1 h2
      have e1 : a.eval x = .bool b1 := by have := opd_den hF h1; simpa [SV.den] using this.symm
      have e2 : a.eval y = .bool b2 := by have := opd_den hF h2; simpa [SV.den] using this.symm
      have : ∀ w, (execOp a.eval ⟨dst, .pick c x y, type, pos, after, guard⟩).run P w = .ok (.value (.bool (cond t b1 b2))) w := by
        intro w
        cases t <;> simp [execOp, hb hc, asBool, e1, e2]
      exact fin (s := .raw (.bool (cond t b1 b2))) rfl h (fun w _ => this w)
    · rename_i t s1 s2 _ hc h1 h2
      cases t with
      | true =>
        have : ∀ w, (execOp a.eval ⟨dst, .pick c x y, type, pos, after, guard⟩).run P w = .ok (.value (a.eval x)) w := by intro w; simp [execOp, hb hc, asBool]
        exact fin (opd_den hF h1) h (fun w _ => this w)
      | false =>
        have : ∀ w, (execOp a.eval ⟨dst, .pick c x y, type, pos, after, guard⟩).run P w = .ok (.value (a.eval y)) w := by intro w; simp [execOp, hb hc, asBool]
        exact fin (opd_den hF h2) h (fun w _ => this w)
    · rename_i s1 hc h1 h2
      have : ∀ w, (execOp a.eval ⟨dst, .pick c x y, type, pos, after, guard⟩).run P w = .ok (.value (a.eval x)) w := by intro w; simp [execOp, hb hc, asBool]
      exact fin (opd_den hF h1) h (fun w _ => this w)
    · rename_i s1 hc h1 h2
      have : ∀ w, (execOp a.eval ⟨dst, .pick c x y, type, pos, after, guard⟩).run P w = .ok (.value (a.eval y)) w := by intro w; simp [execOp, hb hc, asBool]
      exact fin (opd_den hF h2) h (fun w _ => this w)
    · exact h.elim
  | build T ps =>
    simp only [opW] at h
    have hp : ∀ {ss}, parts S ps.toList = some ss → PartsDen ρ ss (ps.map fun (i, x) => (i, a.eval x)).toList := fun hs => by
      simpa using parts_den hF hs
    split at h
    · rename_i i fs ss hi hu hs
      split at h
      case h_2 => exact h.elim
      rename_i z places hz hpl
      split at h
      case h_2 => exact h.elim
      rename_i zs hzs
      split at h
      case h_2 => exact h.elim
      rename_i cs hcs
      obtain ⟨hz1, rfl⟩ := asCells_raw hzs
      obtain ⟨ws, h1, h2⟩ := fill_den (hp hs) (denL_raw (ρ := ρ) z.cells.toList) hcs
      refine fin (s := .agg cs) (by simp only [SV.den, h1, Option.map_some]) h (fun w _ => run_val (s := Instr.build T (ps.map fun (i, x) => (i, a.eval x))) rfl (run_build w T _ ws.toArray ?_))
      simp only [Program.built, hi, hu, hz, hpl]
      simpa using h2
    · rename_i i n e ss hi hu hs
      split at h
      case h_2 => exact h.elim
      rename_i z ie hz hie
      split at h
      case h_2 => exact h.elim
      rename_i zs hzs
      split at h
      case h_2 => exact h.elim
      rename_i cs hcs
      obtain ⟨hz1, rfl⟩ := asCells_raw hzs
      obtain ⟨ws, h1, h2⟩ := fill_den (hp hs) (denL_raw (ρ := ρ) z.cells.toList) hcs
      refine fin (s := .agg cs) (by simp only [SV.den, h1, Option.map_some]) h (fun w _ => run_val (s := Instr.build T (ps.map fun (i, x) => (i, a.eval x))) rfl (run_build w T _ ws.toArray ?_))
      simp only [Program.built, hi, hu, hz, hie]
      simpa using h2
    · exact h.elim
  | load T x =>
    simp only [opW] at h
    split at h
    · rename_i b off hs
      split at h
      case h_2 => exact h.elim
      rename_i y hy
      have hl : locDen ρ b off = some (a.eval x) := by simpa [SV.den] using opd_den hF hs
      have go : ∀ r, loadW P T y.cells off = some r → K r S.bx S.E → G := by
        intro r hr h
        obtain ⟨v, h1, h2⟩ := load_sound (P := P) hR1 hy hr hl
        refine fin h1 h (fun w hR => ?_)
        obtain ⟨v', g1, g2⟩ := load_sound (P := P) (hR rfl) hy hr hl
        rw [h1] at g1; cases g1
        exact run_val (s := Instr.loadAt T (a.eval x)) rfl g2
      split at h
      · rename_i cells hc
        split at h
        case h_2 => exact h.elim
        rename_i r hr
        exact go r (by simpa [Box.cells, hc, Row.cells] using hr) h
      · rename_i us hc
        obtain ⟨r, hl, h⟩ := loadRel_elim h
        exact go r (by simpa [Box.cells, hc, Row.cells, LoadV] using hl) h
    · rename_i v off hs
      obtain ⟨r, hl, h⟩ := loadRel_elim h
      have hl' : rpDen v off = some (a.eval x) := by simpa [SV.den] using opd_den hF hs
      obtain ⟨v, h1, h2⟩ := loadE_sound (P := P) hR1 hl hl'
      refine fin h1 h (fun w hR => ?_)
      obtain ⟨v', g1, g2⟩ := loadE_sound (P := P) (hR rfl) hl hl'
      rw [h1] at g1; cases g1
      exact run_val (s := Instr.loadAt T (a.eval x)) rfl g2
    · exact h.elim
  | nilCheck x =>
    simp only [opW] at h
    split at h
    · rename_i b off hs
      have hd := opd_den hF hs
      simp only [SV.den] at hd
      obtain ⟨c, hc, e⟩ := locDen_some hd
      have : ∀ w, (execOp a.eval ⟨dst, .nilCheck x, type, pos, after, guard⟩).run P w = .ok (.value (a.eval x)) w := by
        intro w
        simp [execOp, e]
      exact fin (opd_den hF hs) h (fun w _ => this w)
    · rename_i v off hs
      have hd := opd_den hF hs
      simp only [SV.den] at hd
      obtain ⟨c, _, _, _, e, _⟩ := rpDen_some hd
      have : ∀ w, (execOp a.eval ⟨dst, .nilCheck x, type, pos, after, guard⟩).run P w = .ok (.value (a.eval x)) w := by
        intro w
        simp [execOp, e]
      exact fin (opd_den hF hs) h (fun w _ => this w)
    · rename_i f m l hs
      have hd := opd_den hF hs
      have e : ∃ us vs, a.eval x = .func (.func f) us vs := by
        simp only [SV.den] at hd
        split at hd
        · simp only [Option.some.injEq] at hd; exact ⟨_, _, hd.symm⟩
        · cases hd
      obtain ⟨us, vs, e⟩ := e
      have : ∀ w, (execOp a.eval ⟨dst, .nilCheck x, type, pos, after, guard⟩).run P w = .ok (.value (a.eval x)) w := by
        intro w
        simp [execOp, e]
      exact fin (opd_den hF hs) h (fun w _ => this w)
    · rename_i t v hs
      have hd := opd_den hF hs
      simp only [SV.den, Option.map_eq_some_iff] at hd
      obtain ⟨vs, _, e⟩ := hd
      have : ∀ w, (execOp a.eval ⟨dst, .nilCheck x, type, pos, after, guard⟩).run P w = .ok (.value (a.eval x)) w := by
        intro w
        simp [execOp, ← e]
      exact fin (opd_den hF hs) h (fun w _ => this w)
    · exact h.elim
  | binOp op T x y yt =>
    simp only [opW] at h
    split at h
    case h_2 => exact h.elim
    rename_i s t hs ht
    have es := opd_den hF hs
    have et := opd_den hF ht
    have hx : execOp a.eval ⟨dst, .binOp op T x y yt, type, pos, after, guard⟩ = (do pure (Next.value (← (do eqGuard op T x y (a.eval x) (a.eval y); binOp op T (a.eval x) (a.eval y))))) := rfl
    have hnil : ∀ {r}, isNilCmp s t = some r → ∀ {e}, P.underlying T = some (.pointer e) → r = false ∧ ∀ w, (eqGuard op T x y (a.eval x) (a.eval y)).run P w = .ok () w ∧ (Op.equal T (a.eval x) (a.eval y)).run P w = .ok false w := by
      intro r hr e he
      obtain ⟨h1, h2⟩ := nilCmp hr es et
      refine ⟨h1, fun w => ?_⟩
      rcases h2 with ⟨b, e1, e2⟩ | ⟨b, e1, e2⟩ <;> rw [e1, e2]
      · exact ⟨by cases op <;> rfl, (equalIn_ptr he 9999 b w).1⟩
      · exact ⟨by cases op <;> rfl, (equalIn_ptr he 9999 b w).2⟩
    split at h
    · rename_i r e hr he
      obtain ⟨rfl, hw⟩ := hnil hr he
      refine fin (s := .raw (.bool false)) rfl h (fun w hR => run_val hx ?_)
      have hb : binOp .eql T (a.eval x) (a.eval y) = (do pure (.bool (← Op.equal T (a.eval x) (a.eval y)))) := by
        obtain ⟨_, h2⟩ := nilCmp hr es et
        rcases h2 with ⟨b, e1, e2⟩ | ⟨b, e1, e2⟩ <;> rw [e1, e2] <;> rfl
      simp only [Sem.run_bind, (hw w).1, Result.andThen_ok, hb, (hw w).2, Sem.run_pure]
    · rename_i r e hr he
      obtain ⟨rfl, hw⟩ := hnil hr he
      refine fin (s := .raw (.bool true)) rfl h (fun w hR => run_val hx ?_)
      have hb : binOp .neq T (a.eval x) (a.eval y) = (do pure (.bool (!(← Op.equal T (a.eval x) (a.eval y))))) := by
        obtain ⟨_, h2⟩ := nilCmp hr es et
        rcases h2 with ⟨b, e1, e2⟩ | ⟨b, e1, e2⟩ <;> rw [e1, e2] <;> rfl
      simp only [Sem.run_bind, (hw w).1, Result.andThen_ok, hb, (hw w).2, Sem.run_pure, Bool.not_false]
    · rename_i e hr he
      obtain ⟨r, h, g1, _, g2, _⟩ := nilSlcW_sound (P := P) (ρ := ρ) he h es et
      refine fin (s := .raw (.bool r)) rfl h (fun w hR => run_val hx ?_)
      simp only [Sem.run_bind, g1, Result.andThen_ok, g2]
    · rename_i e hr he
      obtain ⟨r, h, _, g1, _, g2⟩ := nilSlcW_sound (P := P) (ρ := ρ) he h es et
      refine fin (s := .raw (.bool !r)) rfl h (fun w hR => run_val hx ?_)
      simp only [Sem.run_bind, g1, Result.andThen_ok, g2]
    · rename_i e hr he
      split at h
      case isFalse => exact h.elim
      rename_i hg
      split at h
      case h_2 => exact h.elim
      rename_i r hr
      obtain ⟨g1, _, g2, _⟩ := eqStruct_sound (P := P) (ρ := ρ) he hg hr es et
      refine fin (s := .raw (.bool r)) rfl h (fun w hR => run_val hx ?_)
      simp only [Sem.run_bind, g1, Result.andThen_ok, g2]
    · rename_i e hr he
      split at h
      case isFalse => exact h.elim
      rename_i hg
      split at h
      case h_2 => exact h.elim
      rename_i r hr
      obtain ⟨_, g1, _, g2⟩ := eqStruct_sound (P := P) (ρ := ρ) he hg hr es et
      refine fin (s := .raw (.bool !r)) rfl h (fun w hR => run_val hx ?_)
      simp only [Sem.run_bind, g1, Result.andThen_ok, g2]
    · split at h
      case h_2 => exact h.elim
      rename_i v u hv hu
      have e1 := SV.den_of_val ρ s hv
      have e2 := SV.den_of_val ρ t hu
      rw [es] at e1; rw [et] at e2
      cases e1; cases e2
      obtain ⟨_, rfl, h⟩ := binW_pure h
      exact pureDet hx h hk
  | unOp op T x =>
    simp only [opW] at h
    split at h
    case h_2 => exact h.elim
    rename_i v hs
    have es := opd_den hF hs
    simp only [SV.den, Option.some.injEq] at es; subst es
    exact pureDet rfl h hk
  | convert src d x =>
    simp only [opW] at h
    split at h
    case h_2 => exact h.elim
    rename_i s hs
    split at h
    case h_2 => exact h.elim
    rename_i v hv
    have es := opd_den hF hs
    rw [SV.den_of_val ρ s hv] at es; cases es
    exact pureDet rfl h hk
  | makeInterface T x =>
    simp only [opW] at h
    split at h
    · exact h.elim
    · rename_i s d hne hs hu
      have es := opd_den hF hs
      refine fin (s := .ifc T s) (x := .iface T (a.eval x)) (by simp only [SV.den, es, Option.map_some]) h (fun w hR => run_val (s := Instr.makeInterface T (a.eval x)) rfl ?_)
      unfold Instr.makeInterface
      simp only [Sem.run_bind, run_underlying hu, Result.andThen_ok]
      cases d <;> first | rfl | exact (hne _ rfl).elim
    · exact h.elim
  | makeFunc fn first caps =>
    cases fn with
    | func f =>
      simp only [opW] at h
      split at h
      · rename_i m l hm hl
        have el := opds_den hF hl
        have em := opds_den hF hm
        refine fin (s := .clo f m l) (x := .func (.func f) (first.map a.eval) (caps.map a.eval)) ?_ h (fun w _ => run_val (s := Instr.makeFunc (.func f) (first.map a.eval) (caps.map a.eval)) rfl (by simp [Instr.makeFunc]))
        simp only [SV.den, el, em]
        congr 2 <;> (apply Array.ext'; simp)
      · exact h.elim
    | _ => exact h.elim
  | slice T x lo hi mx =>
    simp only [opW] at h
    have hx : execOp a.eval ⟨dst, .slice T x lo hi mx, type, pos, after, guard⟩ = (do pure (Next.value (← Instr.sliceAt T (a.eval x) (lo.map a.eval) (hi.map a.eval) (mx.map a.eval)))) := rfl
    split at h
    · rename_i b off l hh m n e hs h1 h2 h3 hu
      split at h
      case h_2 => exact h.elim
      rename_i z hz
      simp only [sizeW, Option.map_eq_some_iff] at hz
      obtain ⟨i, hi', rfl⟩ := hz
      have es := opd_den hF hs
      simp only [SV.den] at es
      obtain ⟨c, hc, e1⟩ := locDen_some es
      have hr := fun w => (run_sliceBounds (P := P) hF h1 h2 h3 h false w).1
      have hK := (run_sliceBounds (P := P) hF h1 h2 h3 h false w1).2
      refine fin (x := .slice (some (c.add (if toN m n = toN l 0 then off else off + toN l 0 * i.size))) (toN hh n - toN l 0) (toN m n - toN l 0)) ?_ hK (fun w hR => run_val hx ?_)
      rotate_left
      · unfold Instr.sliceAt
        simp only [Sem.run_bind, run_underlying hu, Result.andThen_ok, e1, Instr.sureAddr, Sem.run_pure, hr, run_sizeOf' hi']
        congr 3
        split
        · rfl
        · rw [add_add (hR1.spot hc)]
      · simp only [SV.den, slcDen, hc]
    · rename_i b off len cap l hh m e hs h1 h2 h3 hu
      split at h
      case h_2 => exact h.elim
      rename_i z hz
      simp only [sizeW, Option.map_eq_some_iff] at hz
      obtain ⟨i, hi', rfl⟩ := hz
      have es := opd_den hF hs
      simp only [SV.den] at es
      have hr := fun w => (run_sliceBounds (P := P) hF h1 h2 h3 h true w).1
      have hK := (run_sliceBounds (P := P) hF h1 h2 h3 h true w1).2
      rcases slcDen_some es with ⟨c, hc, e1⟩ | ⟨hc, rfl, rfl, rfl, e1⟩
      · refine fin (x := .slice (some (c.add (if toN m cap = toN l 0 then off else off + toN l 0 * i.size))) (toN hh len - toN l 0) (toN m cap - toN l 0)) ?_ hK (fun w hR => run_val hx ?_)
        rotate_left
        · unfold Instr.sliceAt Instr.slice
          simp only [Sem.run_bind, run_underlying hu, Result.andThen_ok, e1, hr, run_sizeOf' hi', Sem.run_pure]
          congr 2
          split
          · rfl
          · simp only [Option.map_some]; rw [add_add (hR1.spot hc)]
        · simp only [SV.den, slcDen, hc]
      · obtain ⟨_, g1, g2, g3, _⟩ := sliceNums_elim h
        have z3 : toN m 0 = 0 := by
          cases m with
          | none => rfl
          | some j => have := g1 j rfl; simp only [toN]; omega
        have z2 : toN hh 0 = 0 := by
          cases hh with
          | none => rfl
          | some j => have := g2 j rfl; rw [z3] at this; simp only [toN]; omega
        have z1 : toN l 0 = 0 := by
          cases l with
          | none => rfl
          | some j => have := g3 j rfl; rw [z2] at this; simp only [toN]; omega
        rw [z1, z2, z3] at hK
        simp only [z1, z2, z3] at hr
        refine fin (x := .slice none 0 0) ?_ hK (fun w hR => run_val hx ?_)
        rotate_left
        · unfold Instr.sliceAt Instr.slice
          simp only [Sem.run_bind, run_underlying hu, Result.andThen_ok, e1, hr, run_sizeOf' hi', Sem.run_pure]
          rfl
        · simp only [SV.den, slcDen, hc]; rfl
    · rename_i base len cap l hh m e hs h1 h2 h3 hu
      split at h
      case h_2 => exact h.elim
      rename_i z hz
      simp only [sizeW, Option.map_eq_some_iff] at hz
      obtain ⟨i, hi', rfl⟩ := hz
      have es := opd_den hF hs
      simp only [SV.den, Option.some.injEq] at es
      obtain ⟨hlc, h⟩ := req_elim h
      have hr := fun w => (run_sliceBounds (P := P) hF h1 h2 h3 h true w).1
      have hK := (run_sliceBounds (P := P) hF h1 h2 h3 h true w1).2
      let v' : Value := .slice (if toN m cap = toN l 0 then base else base.map (·.add (toN l 0 * i.size))) (toN hh len - toN l 0) (toN m cap - toN l 0)
      let E' : Mem := fun v cs => S.E v cs ∨ ∃ cs0, S.E (.slice base len cap) cs0 ∧ v = v' ∧ cs = (cs0.drop (toN l 0 * i.size)).take ((toN hh len - toN l 0) * i.size)
      have hE := hK (if toN m cap = toN l 0 then base else base.map (·.add (toN l 0 * i.size))) E' (fun _ _ g => .inl g) (fun cs g => .inr ⟨cs, g, rfl, rfl⟩)
      obtain ⟨_, g1, g2, g3, _⟩ := sliceNums_elim h
      have hle : toN m cap = toN l 0 → toN hh len - toN l 0 = 0 := by
        intro e0
        have a1 : toN hh len ≤ toN m cap ∨ hh = none := by
          cases hh with
          | none => exact .inr rfl
          | some j => have := g2 j rfl; left; simp only [toN] at *; omega
        rcases a1 with a1 | rfl
        · omega
        · cases m with
          | none => simp only [toN] at *; omega
          | some j => have h0 := (sliceNums_elim h).1 rfl; cases h0
      have hrow : ∀ w, Rel w0 mu S.bx S.E ρ w → ∀ cs0, S.E (.slice base len cap) cs0 → RowAt w v' ((cs0.drop (toN l 0 * i.size)).take ((toN hh len - toN l 0) * i.size)) := by
        intro w hR cs0 g
        by_cases e0 : toN m cap = toN l 0
        · left; rw [hle e0]; simp
        · rcases hR.hold _ _ g with rfl | ⟨c, len', cap', e2, hsp, hcell⟩
          · left; simp
          · cases e2
            right
            refine ⟨c.add (toN l 0 * i.size), toN hh len - toN l 0, toN m cap - toN l 0, by simp only [v', if_neg e0, Option.map_some], by rw [add_eq hsp], fun j x hj => ?_⟩
            rw [add_eq hsp]
            simp only
            have hj' : j < (toN hh len - toN l 0) * i.size := by
              rcases Nat.lt_or_ge j ((toN hh len - toN l 0) * i.size) with q | q
              · exact q
              · rw [List.getElem?_eq_none (by simp; omega)] at hj; cases hj
            rw [List.getElem?_take_of_lt hj', List.getElem?_drop] at hj
            rw [Nat.add_assoc]
            exact hcell _ _ hj
      have hR' : ∀ w, Rel w0 mu S.bx S.E ρ w → Rel w0 mu S.bx E' ρ w := fun w hR => hR.addE (fun v cs g => by
          rcases g with g | ⟨cs0, g, rfl, rfl⟩
          · exact hR.hold v cs g
          · exact hrow w hR cs0 g) (fun v cs g hne => by
          rcases g with g | ⟨cs0, g, rfl, rfl⟩
          · exact .inl g
          · right
            intro j b c b1 b2 b3
            have hne0 : cs0 ≠ [] := by rintro rfl; simp at hne
            have := (hR.sep j b c b1 b2 b3).2.2 _ _ g hne0
            have e0 : ¬ toN m cap = toN l 0 := by intro e0; rw [hle e0] at hne; simp at hne
            rcases hR.hold _ _ g with rfl | ⟨c', len', cap', e2, hsp, _⟩
            · exact absurd rfl hne0
            · cases e2
              simp only [v', if_neg e0, Option.map_some, blk] at this ⊢
              rw [add_eq hsp]; exact this) (fun v cs g hne => by
          rcases g with g | ⟨cs0, g, rfl, rfl⟩
          · exact hR.src _ _ g hne
          · have hne0 : cs0 ≠ [] := by rintro rfl; simp at hne
            have e0 : ¬ toN m cap = toN l 0 := by intro e0; rw [hle e0] at hne; simp at hne
            have := hR.src _ _ g hne0
            rcases hR.hold _ _ g with rfl | ⟨c', len', cap', e2, hsp, _⟩
            · exact absurd rfl hne0
            · cases e2
              simp only [v', if_neg e0, Option.map_some, blk] at this ⊢
              rw [add_eq hsp]; exact this)
      have hsub : ∀ v cs, E' v cs → cs ≠ [] → ∃ v0 cs0, S.E v0 cs0 ∧ cs0 ≠ [] ∧ blk v = blk v0 := fun v cs g hne => by
        rcases g with g | ⟨cs0, g, rfl, rfl⟩
        · exact ⟨v, cs, g, hne, rfl⟩
        · have hne0 : cs0 ≠ [] := by rintro rfl; simp at hne
          have e0 : ¬ toN m cap = toN l 0 := by intro e0; rw [hle e0] at hne; simp at hne
          refine ⟨_, cs0, g, hne0, ?_⟩
          rcases hR1.hold _ _ g with rfl | ⟨c', len', cap', e2, hsp, _⟩
          · exact absurd rfl hne0
          · cases e2
            simp only [v', if_neg e0, Option.map_some, blk]
            rw [add_eq hsp]
      refine hk (.raw v') v' E' rfl (fun _ _ g => .inl g) hR' hsub (hE (by split <;> simp)) (fun w hR => run_val hx ?_)
      unfold Instr.sliceAt Instr.slice
      simp only [Sem.run_bind, run_underlying hu, Result.andThen_ok, ← es, hr, run_sizeOf' hi', Sem.run_pure]
      rfl
    · exact h.elim
  | fieldAddr T x f =>
    simp only [opW] at h
    split at h
    case h_2 => exact h.elim
    rename_i fs hu
    split at h
    case h_2 => exact h.elim
    rename_i fld hf
    have key : ∀ {n off : Nat} {c : Addr}, sizeW P fld.type = some n → n ≠ 0 → c.spot = none → a.eval x = .pointer (some (c.add off)) →
        ∀ w, (Instr.fieldAt T (a.eval x) f).run P w = .ok (.pointer (some (c.add (off + fld.offset)))) w := by
      intro n off c hn h0 hc e1 w
      simp only [sizeW, Option.map_eq_some_iff] at hn
      obtain ⟨i, hi', rfl⟩ := hn
      unfold Instr.fieldAt
      simp only [Sem.run_bind, run_underlying hu, Result.andThen_ok, hf, e1, Instr.sureAddr, Sem.run_pure]
      unfold fieldPlace
      simp only [Sem.run_bind, run_sizeOf' hi', Result.andThen_ok, if_neg h0, Sem.run_pure, add_add hc]
    split at h
    · rename_i n b off hn hs
      split at h
      case isTrue => exact h.elim
      rename_i h0
      have es := opd_den hF hs
      simp only [SV.den] at es
      obtain ⟨c, hc, e1⟩ := locDen_some es
      exact fin (by simp only [SV.den, locDen, hc]) h (fun w hR => run_val (s := Instr.fieldAt T (a.eval x) f) rfl (key hn h0 (hR1.spot hc) e1 w))
    · rename_i n v off hn hs
      split at h
      case isTrue => exact h.elim
      rename_i h0
      have es := opd_den hF hs
      simp only [SV.den] at es
      obtain ⟨c, len, cap, rfl, e1, hsp⟩ := rpDen_some es
      exact fin (by simp only [SV.den, rpDen, hsp, if_true]) h (fun w hR => run_val (s := Instr.fieldAt T (a.eval x) f) rfl (key hn h0 hsp e1 w))
    · exact h.elim
  | field T x f =>
    simp only [opW] at h
    split at h
    case h_2 => exact h.elim
    rename_i fs hu
    split at h
    case h_2 => exact h.elim
    rename_i fld s hf hs
    split at h
    case h_2 => exact h.elim
    rename_i cs hcs
    split at h
    case h_2 => exact h.elim
    rename_i r hr
    obtain ⟨vs, e1, e2⟩ := asCells_den hcs (opd_den hF hs)
    obtain ⟨v, e3, e4⟩ := run_part (P := P) (w := w1) hr e2
    refine fin e3 h (fun w hR => run_val (s := Instr.field T (a.eval x) f) rfl ?_)
    obtain ⟨v', g3, g4⟩ := run_part (P := P) (w := w) hr e2
    rw [e3] at g3; cases g3
    unfold Instr.field
    simp only [Sem.run_bind, run_underlying hu, Result.andThen_ok, hf, e1, asAgg, Sem.run_pure, g4]
  | extract x i =>
    simp only [opW] at h
    split at h
    · rename_i l hs
      split at h
      case h_2 => exact h.elim
      rename_i s hl
      have es := opd_den hF hs
      simp only [SV.den, Option.map_eq_some_iff] at es
      obtain ⟨vs, e1, e2⟩ := es
      obtain ⟨v, e3, e4⟩ := denL_get e1 hl
      refine fin e4 h (fun w hR => run_val (s := Instr.extract (a.eval x) i) rfl ?_)
      rw [← e2]
      simp [Instr.extract, e3]
    · rename_i vs hs
      split at h
      case h_2 => exact h.elim
      rename_i v hl
      have es := opd_den hF hs
      simp only [SV.den, Option.some.injEq] at es
      refine fin rfl h (fun w hR => run_val (s := Instr.extract (a.eval x) i) rfl ?_)
      rw [← es]
      have : vs[i]? = some v := by simpa using hl
      simp [Instr.extract, this]
    · exact h.elim
  | typeAssert x T U ok =>
    simp only [opW] at h
    split at h
    case h_2 => exact h.elim
    rename_i s hs
    split at h
    case h_2 => exact h.elim
    rename_i v hv
    have es := opd_den hF hs
    rw [SV.den_of_val ρ s hv] at es; cases es
    exact pureDet rfl h hk
  | indexAddr T x i =>
    simp only [opW] at h
    have hx : execOp a.eval ⟨dst, .indexAddr T x i, type, pos, after, guard⟩ = (do pure (Next.value (← Instr.indexAt T (a.eval x) (a.eval i)))) := rfl
    split at h
    · rename_i b off k n len e hs hi hu
      split at h
      case h_2 => exact h.elim
      rename_i z hz
      obtain ⟨hn, h⟩ := req_elim h
      simp only [sizeW, Option.map_eq_some_iff] at hz
      obtain ⟨inf, hi', rfl⟩ := hz
      have es := opd_den hF hs
      have ei := opd_den hF hi
      simp only [SV.den, Option.some.injEq] at es ei
      obtain ⟨c, hc, e1⟩ := locDen_some es
      refine fin (x := .pointer (some (c.add (off + n.toNat * inf.size)))) (by simp only [SV.den, locDen, hc]) h (fun w hR => run_val hx ?_)
      unfold Instr.indexAt
      simp only [← ei, asIntOf, Sem.run_bind, Sem.run_pure, Result.andThen_ok, run_underlying hu, e1, Instr.sureAddr]
      simp only [if_pos hn, Sem.run_bind, run_sizeOf' hi', Result.andThen_ok, Sem.run_pure, add_add (hR1.spot hc)]
    · rename_i v off k n len e hs hi hu
      split at h
      case h_2 => exact h.elim
      rename_i z hz
      obtain ⟨hn, h⟩ := req_elim h
      simp only [sizeW, Option.map_eq_some_iff] at hz
      obtain ⟨inf, hi', rfl⟩ := hz
      have es := opd_den hF hs
      have ei := opd_den hF hi
      simp only [SV.den, Option.some.injEq] at es ei
      obtain ⟨c, l', cap', rfl, e1, hsp⟩ := rpDen_some es
      refine fin (x := .pointer (some (c.add (off + n.toNat * inf.size)))) (by simp only [SV.den, rpDen, hsp, if_true]) h (fun w hR => run_val hx ?_)
      unfold Instr.indexAt
      simp only [← ei, asIntOf, Sem.run_bind, Sem.run_pure, Result.andThen_ok, run_underlying hu, e1, Instr.sureAddr]
      simp only [if_pos hn, Sem.run_bind, run_sizeOf' hi', Result.andThen_ok, Sem.run_pure, add_add hsp]
    · rename_i b off len cap k n e hs hi hu
      split at h
      case h_2 => exact h.elim
      rename_i z hz
      obtain ⟨hn, h⟩ := req_elim h
      simp only [sizeW, Option.map_eq_some_iff] at hz
      obtain ⟨inf, hi', rfl⟩ := hz
      have es := opd_den hF hs
      have ei := opd_den hF hi
      simp only [SV.den, Option.some.injEq] at es ei
      rcases slcDen_some es with ⟨c, hc, e1⟩ | ⟨hc, rfl, rfl, rfl, e1⟩
      · refine fin (x := .pointer (some (c.add (off + n.toNat * inf.size)))) (by simp only [SV.den, locDen, hc]) h (fun w hR => run_val hx ?_)
        unfold Instr.indexAt
        simp only [← ei, asIntOf, Sem.run_bind, Sem.run_pure, Result.andThen_ok, run_underlying hu, e1]
        simp only [if_pos hn, Sem.run_bind, run_sizeOf' hi', Result.andThen_ok, Sem.run_pure, add_add (hR1.spot hc)]
      · omega
    · rename_i base len cap k n e hs hi hu
      split at h
      case h_2 => exact h.elim
      rename_i z hz
      obtain ⟨hn, ⟨cs, hE, hne⟩, h⟩ := req_elim h
      simp only [sizeW, Option.map_eq_some_iff] at hz
      obtain ⟨inf, hi', rfl⟩ := hz
      have es := opd_den hF hs
      have ei := opd_den hF hi
      simp only [SV.den, Option.some.injEq] at es ei
      rcases hR1.hold _ _ hE with rfl | ⟨c, l', cap', e2, hsp, _⟩
      · exact absurd rfl hne
      · cases e2
        refine fin (x := .pointer (some (c.add (n.toNat * inf.size)))) (by simp only [SV.den, rpDen, hsp, if_true]) h (fun w hR => run_val hx ?_)
        unfold Instr.indexAt
        simp only [← ei, asIntOf, Sem.run_bind, Sem.run_pure, Result.andThen_ok, run_underlying hu, ← es]
        simp only [if_pos hn, Sem.run_bind, run_sizeOf' hi', Result.andThen_ok, Sem.run_pure]
    · exact h.elim
  | index T x i =>
    simp only [opW] at h
    have hx : execOp a.eval ⟨dst, .index T x i, type, pos, after, guard⟩ = (do pure (Next.value (← Instr.index T (a.eval x) (a.eval i)))) := rfl
    split at h
    · rename_i s k n len e hs hi hu
      split at h
      case h_2 => exact h.elim
      rename_i cs z hcs hz
      obtain ⟨hn, h2⟩ := req_elim h
      clear h
      split at h2
      case h_2 => exact h2.elim
      rename_i r hr
      simp only [sizeW, Option.map_eq_some_iff] at hz
      obtain ⟨inf, hi', rfl⟩ := hz
      have ei := opd_den hF hi
      simp only [SV.den, Option.some.injEq] at ei
      obtain ⟨vs, e1, e2⟩ := asCells_den hcs (opd_den hF hs)
      obtain ⟨v, e3, e4⟩ := run_part (P := P) (w := w1) hr e2
      refine fin e3 h2 (fun w hR => run_val hx ?_)
      obtain ⟨v', g3, g4⟩ := run_part (P := P) (w := w) hr e2
      rw [e3] at g3; cases g3
      unfold Instr.index
      simp only [← ei, asIntOf, Sem.run_bind, Sem.run_pure, Result.andThen_ok, run_underlying hu, e1]
      simp only [if_pos hn, Sem.run_bind, run_sizeOf' hi', Result.andThen_ok, g4]
    · rename_i v j hs hi _
      have es := opd_den hF hs
      have ei := opd_den hF hi
      simp only [SV.den, Option.some.injEq] at es ei
      rw [es, ei] at h
      exact pureDet hx h hk
    · exact h.elim
  | call c =>
    simp only [opW] at h
    split at h
    case h_2 => exact h.elim
    rename_i args hargs
    have ea := opds_den hF hargs
    have eaA : ∀ vs : List Value, SV.denL ρ args = some vs → c.args.map a.eval = vs.toArray := by
      intro vs hv
      rw [ea] at hv; cases hv
      apply Array.ext'; simp
    split at h
    · rename_i f hf
      obtain ⟨cal, args', types⟩ := c
      simp only at hf; subst hf
      simp [isDet] at hdet
    · rename_i r name hr
      obtain ⟨cal, args', types⟩ := c
      simp only at hr; subst hr
      simp [isDet] at hdet
    · rename_i hc
      have hx : execOp a.eval ⟨dst, .call c, type, pos, after, guard⟩ = (do pure (Next.value (← Builtin.len_ c.argTypes type (c.args.map a.eval)))) := by
        simp only [execOp, resolve, hc]; rfl
      have ht : ∀ {d}, (c.argTypes[0]?).bind P.underlying = some d → ∃ t, c.argTypes[0]? = some t ∧ P.underlying t = some d := fun {d} e => by
        simpa [Option.bind_eq_some_iff] using e
      split at h
      · rename_i base n cap e hu
        obtain ⟨t, ht1, ht2⟩ := ht hu
        have ev : c.args.map a.eval = #[.slice base n cap] := eaA _ rfl
        refine fin (x := .int .i64 n) rfl h (fun w hR => run_val hx ?_)
        unfold Builtin.len_
        simp [ev, ht1, run_underlying ht2, goInt]
      · rename_i b off n cap e hu
        obtain ⟨t, ht1, ht2⟩ := ht hu
        refine fin (x := .int .i64 n) rfl h (fun w hR => run_val hx ?_)
        have hd : ∃ base, c.args.map a.eval = #[.slice base n cap] := by
          have ea2 := ea
          simp only [SV.denL, SV.den] at ea2
          cases hsd : slcDen ρ b off n cap with
          | none => rw [hsd] at ea2; simp at ea2
          | some v =>
            rw [hsd] at ea2
            have := eaA [v] (by simp only [SV.denL, SV.den, hsd])
            rcases slcDen_some hsd with ⟨c', _, rfl⟩ | ⟨_, rfl, rfl, rfl, rfl⟩
            · exact ⟨_, this⟩
            · exact ⟨_, this⟩
        obtain ⟨base, ev⟩ := hd
        unfold Builtin.len_
        simp [ev, ht1, run_underlying ht2, goInt]
      · rename_i s hu
        obtain ⟨t, ht1, ht2⟩ := ht hu
        have ev : c.args.map a.eval = #[.string s] := eaA _ rfl
        refine fin (x := .int .i64 s.size) rfl h (fun w hR => run_val hx ?_)
        unfold Builtin.len_
        simp [ev, ht1, run_underlying ht2, goInt]
      · rename_i s0 n e hu
        obtain ⟨t, ht1, ht2⟩ := ht hu
        refine fin (x := .int .i64 n) rfl h (fun w hR => run_val hx ?_)
        have hd : ∃ x, c.args.map a.eval = #[x] := by
          have hl := denL_length ea
          have hsz : (c.args.map a.eval).size = 1 := by simpa using hl
          refine ⟨(c.args.map a.eval)[0], ?_⟩
          apply Array.ext <;> simp [hsz]
          intro i h1; have : i = 0 := by omega
          subst this; simp
        obtain ⟨x, ev⟩ := hd
        unfold Builtin.len_
        simp [ev, ht1, run_underlying ht2, goInt]
      · exact h.elim
    · rename_i hc
      have hx : execOp a.eval ⟨dst, .call c, type, pos, after, guard⟩ = (do pure (Next.value (← Builtin.cap_ c.argTypes type (c.args.map a.eval)))) := by
        simp only [execOp, resolve, hc]; rfl
      have ht : ∀ {d}, (c.argTypes[0]?).bind P.underlying = some d → ∃ t, c.argTypes[0]? = some t ∧ P.underlying t = some d := fun {d} e => by
        simpa [Option.bind_eq_some_iff] using e
      split at h
      · rename_i base n cap e hu
        obtain ⟨t, ht1, ht2⟩ := ht hu
        have ev : c.args.map a.eval = #[.slice base n cap] := eaA _ rfl
        refine fin (x := .int .i64 cap) rfl h (fun w hR => run_val hx ?_)
        unfold Builtin.cap_
        simp [ev, ht1, run_underlying ht2, goInt]
      · rename_i b off n cap e hu
        obtain ⟨t, ht1, ht2⟩ := ht hu
        refine fin (x := .int .i64 cap) rfl h (fun w hR => run_val hx ?_)
        have hd : ∃ base, c.args.map a.eval = #[.slice base n cap] := by
          have ea2 := ea
          simp only [SV.denL, SV.den] at ea2
          cases hsd : slcDen ρ b off n cap with
          | none => rw [hsd] at ea2; simp at ea2
          | some v =>
            rw [hsd] at ea2
            have := eaA [v] (by simp only [SV.denL, SV.den, hsd])
            rcases slcDen_some hsd with ⟨c', _, rfl⟩ | ⟨_, rfl, rfl, rfl, rfl⟩
            · exact ⟨_, this⟩
            · exact ⟨_, this⟩
        obtain ⟨base, ev⟩ := hd
        unfold Builtin.cap_
        simp [ev, ht1, run_underlying ht2, goInt]
      · exact h.elim
    · rename_i hc
      obtain ⟨cal, args', types⟩ := c
      simp only at hc; subst hc
      simp [isDet] at hdet
    · rename_i hc
      obtain ⟨cal, args', types⟩ := c
      simp only at hc; subst hc
      simp [isDet] at hdet
    · rename_i hc
      split at h
      case h_2 => exact h.elim
      rename_i vs hv
      have hx : execOp a.eval ⟨dst, .call c, type, pos, after, guard⟩ = (do pure (Next.value (← Builtin.min_ #[] 0 vs.toArray))) := by
        have := eaA vs (SV.denL_of_val ρ args hv)
        simp only [execOp, resolve, hc, this]; rfl
      exact pureDet hx h hk
    · rename_i hc
      split at h
      case h_2 => exact h.elim
      rename_i vs hv
      have hx : execOp a.eval ⟨dst, .call c, type, pos, after, guard⟩ = (do pure (Next.value (← Builtin.max_ #[] 0 vs.toArray))) := by
        have := eaA vs (SV.denL_of_val ρ args hv)
        simp only [execOp, resolve, hc, this]; rfl
      exact pureDet hx h hk
    · exact h.elim
  | _ => simp [isDet] at hdet

end
end Go.Sx
