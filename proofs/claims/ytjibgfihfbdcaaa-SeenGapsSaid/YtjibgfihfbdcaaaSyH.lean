/- The symbolic evaluator, part H: soundness of one operation. Conditions: none; generic over programs. -/
import Derived.Test.YtjibgfihfbdcaaaSyR
namespace Go.Sx
open Go.RowKit (Below)

section
variable {ro : Option Nat} {Ω : Option Rc} {P : Program} {callW : CallT} {S : St} {a : Act} {w w0 : World} {mu : Fm} {ρ : Env} {K : KT} {next : Act → World → Prop} {Q : Exit → Act → World → Prop}

theorem zeros_den {e : TypeId} {n : Nat} {zs : List SV} (h : zerosW P e n = some zs) : ∃ i z, P.info? e = some i ∧ i.zero = some z ∧ z.cells.size = i.size ∧
    SV.denL ρ zs = some ((Array.range (n * i.size)).map (z.cells[· % z.cells.size]!)).toList := by
  unfold zerosW at h
  split at h
  case h_2 => cases h
  rename_i i hi
  split at h
  case h_2 => cases h
  rename_i z hz
  split at h
  case isFalse => cases h
  rename_i hc
  obtain ⟨h1, h2⟩ := hc
  simp only [Option.some.injEq] at h; subst h
  have hd := svCells_den (ρ := ρ) h1 (v := z) rfl
  have hl := denL_length hd
  refine ⟨i, z, hi, hz, by rw [← Array.length_toList, hl, h2], ?_⟩
  have hsz : z.cells.size = i.size := by rw [← Array.length_toList, hl, h2]
  have : ∀ n, SV.denL ρ (List.replicate n (svCells (.raw z))).flatten = some (List.replicate n z.cells.toList).flatten := by
    intro n
    induction n with
    | zero => simp [SV.denL]
    | succ n ih => simp only [List.replicate_succ, List.flatten_cons]; exact denL_append hd ih
  rw [this n]
  congr 1
  apply List.ext_getElem?
  intro k
  rw [← hsz]
  clear this hl h2 hsz hz hi h1 hd
  generalize z.cells = c
  have key : ∀ n k : Nat, (List.replicate n c.toList).flatten[k]? = if k < n * c.size then some (c[k % c.size]!) else none := by
    intro n
    induction n with
    | zero => intro k; simp
    | succ n ih =>
      intro k
      simp only [List.replicate_succ, List.flatten_cons]
      by_cases hk : k < c.size
      · rw [List.getElem?_append_left (by simpa using hk), if_pos (by rw [Nat.add_mul]; omega), Nat.mod_eq_of_lt hk]
        simp [hk, getElem!_pos]
      · rw [List.getElem?_append_right (by simpa using Nat.le_of_not_lt hk), ih]
        simp only [Array.length_toList]
        have h1 : (k - c.size < n * c.size) ↔ (k < (n + 1) * c.size) := by rw [Nat.add_mul]; omega
        simp only [h1]
        have h2 : (k - c.size) % c.size = k % c.size := by
          have := Nat.mod_eq_sub_mod (Nat.le_of_not_lt hk)
          omega
        rw [h2]
  rw [key n k]
  simp only [Array.toList_map, Array.toList_range, List.getElem?_map]
  by_cases hk : k < n * c.size
  · simp [hk]
  · simp [hk]

theorem run_buildSlice {T e : TypeId} {n m : Nat} {zs cs : List SV} {ss : List (Nat × SV)} {ps : Array (Nat × Value)} (w : World) (hu : P.underlying T = some (.slice e)) (hm : sizeW P e = some m) (hzs : zerosW P e n = some zs)
    (hle : n * m ≤ 16777216) (hp : PartsDen ρ ss ps.toList) (hcs : fillW (fun k => some (k * m, m)) zs ss = some cs) :
    ∃ ws, SV.denL ρ cs = some ws ∧ (Instr.buildSlice T n ps).run P w = .ok (.slice (some ⟨w.heap.size, 0, none⟩) n n) (w.alloc (.cells ws.toArray e)) := by
  obtain ⟨i, z, hi, hz, hsz, hzd⟩ := zeros_den (ρ := ρ) hzs
  have hmi : m = i.size := by simp only [sizeW, hi, Option.map_some, Option.some.injEq] at hm; exact hm.symm
  subst hmi
  obtain ⟨ws, h1, h2⟩ := fill_den hp hzd hcs
  refine ⟨ws, h1, ?_⟩
  simp only [Array.toArray_toList] at h2
  unfold Instr.buildSlice
  simp only [Sem.run_bind, run_underlying hu, Result.andThen_ok, run_sizeOf' hi]
  rw [if_neg (show ¬ n * i.size > 2 ^ 24 by omega)]
  by_cases h0 : n * i.size = 0
  · rw [if_pos h0]
    have hr : Array.map (fun x => (#[] : Array Value)[x % (#[] : Array Value).size]!) (Array.range (n * i.size)) = Array.map (fun x => z.cells[x % z.cells.size]!) (Array.range (n * i.size)) := by simp [h0]
    simp only [Sem.run_bind, Sem.run_pure, Result.andThen_ok, hr, h2, newRow, run_newObj]
    rfl
  · rw [if_neg h0]
    simp only [Sem.run_bind, run_zeroValue' hi hz, Result.andThen_ok, Sem.run_pure, h2, newRow, run_newObj]
    rfl

theorem run_method {T : TypeId} {name : String} {g : FuncId} (h : methodW P T name = some g) (x : Value) (d : Nat) (w : World) : (method (d + 1) T x name).run P w = .ok (g, x) w := by
  unfold methodW at h
  split at h
  case h_2 => cases h
  rename_i i hi
  split at h
  case h_2 => cases h
  rename_i m hm
  have hp : ∀ e, P.underlying T = some (.pointer e) → e = e := fun _ _ => rfl
  split at h
  · rename_i f e hpath hf hu
    simp only [Option.some.injEq] at h; subst h
    unfold method
    simp only [Sem.run_bind, run_typeInfo' hi, Result.andThen_ok, hm, hpath, follow, Sem.run_pure, hf]
    unfold receiverAt
    simp only [Sem.run_bind, run_underlying hu, Result.andThen_ok, Place.get, Sem.run_pure]
  · cases h
  · rename_i f u hne hpath hf hu
    simp only [Option.some.injEq] at h; subst h
    unfold method
    simp only [Sem.run_bind, run_typeInfo' hi, Result.andThen_ok, hm, hpath, follow, Sem.run_pure, hf]
    unfold receiverAt
    simp only [Sem.run_bind, run_underlying hu, Result.andThen_ok]
    cases u <;> first | (simp only [Place.get, Sem.run_pure, Result.andThen_ok]; done) | skip
  · cases h

theorem callsW {n : Nat} {f : FuncId} {args : Array Value} {R : Ending → World → Prop} (h : Calls P f args w R) : CallsIn (fW ro) n P f args w R := by
  cases ro with
  | none => exact callsIn_wide.2 h
  | some l => exact CallsIn.inRound l (callsIn_wide.2 h)
theorem roundW {n : Nat} {l : Nat} {f : FuncId} {tmps : Array Value} {assign body : Code} {R : Ending → World → Prop} (h : RoundIn Fence.wide n P l f tmps assign body w R) : RoundIn (fW ro) n P l f tmps assign body w R := h

set_option maxHeartbeats 1000000 in
theorem opW_sound (hcall : CallOK Ω P callW) (hΩ : okR Ω w0 mu ρ) {o : Oper} (hR : Rel w0 mu S.bx S.E ρ w) (hF : FrRel ρ S.fr a.tmps) (h : opW P callW o.op S K) (hk : NextOK o.op S o.dst a ρ w0 mu K next) :
    o.uponIn (fW ro) 0 P a next Q ((execOp a.eval o).run P w) := by
  obtain ⟨dst, op, type, pos, after, guard⟩ := o
  have done : ∀ {s : SV} {x : Value}, s.den ρ = some x → K s S.bx S.E → next (a.put dst x) w := fun {s x} h1 h2 => hk _ _ _ _ ρ w (List.prefix_refl _) h1 hR (fun _ => ⟨List.prefix_refl _, Mem.le_refl _⟩) h2
  cases op with
  | move x =>
    simp only [opW] at h
    split at h
    · rename_i s hs; exact done (opd_den hF hs) h
    · exact h.elim
  | assign x =>
    simp only [opW] at h
    split at h
    · rename_i s hs; exact done (opd_den hF hs) h
    · exact h.elim
  | pick c x y =>
    simp only [opW] at h
    have hb : ∀ {t : Bool}, opd S c = some (.raw (.bool t)) → a.eval c = .bool t := fun hc => by have := opd_den hF hc; simpa [SV.den] using this.symm
    split at h
    · rename_i t b1 b2 hc h1 h2
      have e1 : a.eval x = .bool b1 := by have := opd_den hF h1; simpa [SV.den] using this.symm
      have e2 : a.eval y = .bool b2 := by have := opd_den hF h2; simpa [SV.den] using this.symm
      have : (execOp a.eval ⟨dst, .pick c x y, type, pos, after, guard⟩).run P w = .ok (.value (.bool (cond t b1 b2))) w := by
        cases t <;> simp [execOp, hb hc, asBool, e1, e2]
      rw [this]; exact done (s := .raw (.bool (cond t b1 b2))) rfl h
    · rename_i t s1 s2 _ hc h1 h2
      cases t with
      | true =>
        have : (execOp a.eval ⟨dst, .pick c x y, type, pos, after, guard⟩).run P w = .ok (.value (a.eval x)) w := by simp [execOp, hb hc, asBool]
        rw [this]; exact done (opd_den hF h1) h
      | false =>
        have : (execOp a.eval ⟨dst, .pick c x y, type, pos, after, guard⟩).run P w = .ok (.value (a.eval y)) w := by simp [execOp, hb hc, asBool]
        rw [this]; exact done (opd_den hF h2) h
    · rename_i s1 hc h1 h2
      have : (execOp a.eval ⟨dst, .pick c x y, type, pos, after, guard⟩).run P w = .ok (.value (a.eval x)) w := by simp [execOp, hb hc, asBool]
      rw [this]; exact done (opd_den hF h1) h
    · rename_i s1 hc h1 h2
      have : (execOp a.eval ⟨dst, .pick c x y, type, pos, after, guard⟩).run P w = .ok (.value (a.eval y)) w := by simp [execOp, hb hc, asBool]
      rw [this]; exact done (opd_den hF h2) h
    · exact h.elim
  | alloc T =>
    simp only [opW] at h
    split at h
    case h_2 => exact h.elim
    rename_i i hi
    split at h
    case h_2 => exact h.elim
    rename_i z hz
    split at h
    case isFalse => exact h.elim
    rename_i hone
    refine allocOp_sound hR hk hone rfl ?_ h
    show Sem.run P (do pure (Next.value (← Instr.alloc T true (.tuple #[])))) w = _
    simp only [Instr.alloc, Sem.run_bind, run_zeroValue' hi hz, Result.andThen_ok, run_newVar', Sem.run_pure]
  | box T x =>
    simp only [opW] at h
    split at h
    case h_2 => exact h.elim
    rename_i s hs
    split at h
    case isFalse => exact h.elim
    rename_i hone
    refine allocOp_sound hR hk hone (opd_den hF hs) ?_ h
    show Sem.run P (do pure (Next.value (← Instr.box T (a.eval x)))) w = _
    simp only [Instr.box, Sem.run_bind, Result.andThen_ok, run_newVar', Sem.run_pure]
  | build T ps =>
    simp only [opW] at h
    have hp : ∀ {ss}, parts S ps.toList = some ss → PartsDen ρ ss (ps.map fun (i, x) => (i, a.eval x)).toList := fun hs => by
      simpa using parts_den hF hs
    split at h
    · rename_i i fs ss hi hu hs
      split at h
      case h_2 => exact h.elim
      rename_i z places hz hpl
      split at h
      case h_2 => exact h.elim
      rename_i zs hzs
      split at h
      case h_2 => exact h.elim
      rename_i cs hcs
      obtain ⟨hz1, rfl⟩ := asCells_raw hzs
      obtain ⟨ws, h1, h2⟩ := fill_den (hp hs) (denL_raw (ρ := ρ) z.cells.toList) hcs
      refine upon_val (s := Instr.build T (ps.map fun (i, x) => (i, a.eval x))) rfl (run_build w T _ ws.toArray ?_) (done (s := .agg cs) (by simp only [SV.den, h1, Option.map_some]) h)
      simp only [Program.built, hi, hu, hz, hpl]
      simpa using h2
    · rename_i i n e ss hi hu hs
      split at h
      case h_2 => exact h.elim
      rename_i z ie hz hie
      split at h
      case h_2 => exact h.elim
      rename_i zs hzs
      split at h
      case h_2 => exact h.elim
      rename_i cs hcs
      obtain ⟨hz1, rfl⟩ := asCells_raw hzs
      obtain ⟨ws, h1, h2⟩ := fill_den (hp hs) (denL_raw (ρ := ρ) z.cells.toList) hcs
      refine upon_val (s := Instr.build T (ps.map fun (i, x) => (i, a.eval x))) rfl (run_build w T _ ws.toArray ?_) (done (s := .agg cs) (by simp only [SV.den, h1, Option.map_some]) h)
      simp only [Program.built, hi, hu, hz, hie]
      simpa using h2
    · exact h.elim
  | buildSlice T n ps =>
    simp only [opW] at h
    split at h
    case h_2 => exact h.elim
    rename_i e ss hu hs
    split at h
    case h_2 => exact h.elim
    rename_i m zs hm hzs
    split at h
    case isFalse => exact h.elim
    rename_i hle
    split at h
    case h_2 => exact h.elim
    rename_i cs hcs
    have hp : PartsDen ρ ss (ps.map fun (i, x) => (i, a.eval x)).toList := by
      have := parts_den hF hs
      rw [Array.toList_map]; exact this
    obtain ⟨ws, h1, h2⟩ := run_buildSlice (P := P) (ρ := ρ) w hu hm hzs hle hp hcs
    have hal := hR.alloc e (.lst cs) ws [] cs.length h1 (by simpa using denL_length h1)
    simp only [List.append_nil] at hal
    refine upon_val (s := Instr.buildSlice T n (ps.map fun (i, x) => (i, a.eval x))) rfl h2 (hk (.slc S.bx.length 0 n n) _ _ _ _ _ (List.prefix_append _ _) ?_ hal (fun _ => ⟨List.prefix_append _ _, Mem.le_refl _⟩) h)
    simp only [SV.den, slcDen, ← hR.len, List.getElem?_append_right (Nat.le_refl _), Nat.sub_self, List.getElem?_cons_zero]
    rfl
  | load T x =>
    simp only [opW] at h
    split at h
    · rename_i b off hs
      split at h
      case h_2 => exact h.elim
      rename_i y hy
      split at h
      · rename_i cells hc
        split at h
        case h_2 => exact h.elim
        rename_i r hr
        obtain ⟨v, h1, h2⟩ := load_sound (P := P) hR hy (r := r) (by simpa [Box.cells, hc, Row.cells] using hr) (by simpa [SV.den] using opd_den hF hs)
        exact upon_val (s := Instr.loadAt T (a.eval x)) rfl h2 (done h1 h)
      · rename_i us hc
        obtain ⟨r, hl, h⟩ := loadRel_elim h
        obtain ⟨v, h1, h2⟩ := load_sound (P := P) hR hy (r := r) (by simpa [Box.cells, hc, Row.cells, LoadV] using hl) (by simpa [SV.den] using opd_den hF hs)
        exact upon_val (s := Instr.loadAt T (a.eval x)) rfl h2 (done h1 h)
    · rename_i v off hs
      obtain ⟨r, hl, h⟩ := loadRel_elim h
      obtain ⟨v, h1, h2⟩ := loadE_sound (P := P) hR hl (by simpa [SV.den] using opd_den hF hs)
      exact upon_val (s := Instr.loadAt T (a.eval x)) rfl h2 (done h1 h)
    · exact h.elim
  | store T x y =>
    simp only [opW] at h
    split at h
    case h_2 => exact h.elim
    rename_i b off s hx hy
    obtain ⟨w', bx', h1, h2, h⟩ := store_sound hR h (opd_den hF hy) (by simpa [SV.den] using opd_den hF hx)
    have : (execOp a.eval ⟨dst, .store T x y, type, pos, after, guard⟩).run P w = .ok .skip w' := by
      show Sem.run P (do Instr.storeAt T (a.eval x) (a.eval y); pure Next.skip) w = _
      simp only [Sem.run_bind, h1, Result.andThen_ok, Sem.run_pure]
    rw [this]
    exact hk _ _ _ _ ρ w' (List.prefix_refl _) rfl h2 (fun hg => by simp [growOp] at hg) h
  | nilCheck x =>
    simp only [opW] at h
    split at h
    · rename_i b off hs
      have hd := opd_den hF hs
      simp only [SV.den] at hd
      obtain ⟨c, hc, e⟩ := locDen_some hd
      have : (execOp a.eval ⟨dst, .nilCheck x, type, pos, after, guard⟩).run P w = .ok (.value (a.eval x)) w := by
        simp [execOp, e]
      rw [this]; exact done (opd_den hF hs) h
    · rename_i v off hs
      have hd := opd_den hF hs
      simp only [SV.den] at hd
      obtain ⟨c, _, _, _, e, _⟩ := rpDen_some hd
      have : (execOp a.eval ⟨dst, .nilCheck x, type, pos, after, guard⟩).run P w = .ok (.value (a.eval x)) w := by
        simp [execOp, e]
      rw [this]; exact done (opd_den hF hs) h
    · rename_i f m l hs
      have hd := opd_den hF hs
      have e : ∃ us vs, a.eval x = .func (.func f) us vs := by
        simp only [SV.den] at hd
        split at hd
        · simp only [Option.some.injEq] at hd; exact ⟨_, _, hd.symm⟩
        · cases hd
      obtain ⟨us, vs, e⟩ := e
      have : (execOp a.eval ⟨dst, .nilCheck x, type, pos, after, guard⟩).run P w = .ok (.value (a.eval x)) w := by
        simp [execOp, e]
      rw [this]; exact done (opd_den hF hs) h
    · rename_i t v hs
      have hd := opd_den hF hs
      simp only [SV.den, Option.map_eq_some_iff] at hd
      obtain ⟨vs, _, e⟩ := hd
      have : (execOp a.eval ⟨dst, .nilCheck x, type, pos, after, guard⟩).run P w = .ok (.value (a.eval x)) w := by
        simp [execOp, ← e]
      rw [this]; exact done (opd_den hF hs) h
    · exact h.elim
  | binOp op T x y yt =>
    simp only [opW] at h
    split at h
    case h_2 => exact h.elim
    rename_i s t hs ht
    have es := opd_den hF hs
    have et := opd_den hF ht
    have hx : execOp a.eval ⟨dst, .binOp op T x y yt, type, pos, after, guard⟩ = (do pure (Next.value (← (do eqGuard op T x y (a.eval x) (a.eval y); binOp op T (a.eval x) (a.eval y))))) := rfl
    have hnil : ∀ {r}, isNilCmp s t = some r → ∀ {e}, P.underlying T = some (.pointer e) → r = false ∧ ∀ w, (eqGuard op T x y (a.eval x) (a.eval y)).run P w = .ok () w ∧ (Op.equal T (a.eval x) (a.eval y)).run P w = .ok false w := by
      intro r hr e he
      obtain ⟨h1, h2⟩ := nilCmp hr es et
      refine ⟨h1, fun w => ?_⟩
      rcases h2 with ⟨b, e1, e2⟩ | ⟨b, e1, e2⟩ <;> rw [e1, e2]
      · exact ⟨by cases op <;> rfl, (equalIn_ptr he 9999 b w).1⟩
      · exact ⟨by cases op <;> rfl, (equalIn_ptr he 9999 b w).2⟩
    split at h
    · rename_i r e hr he
      obtain ⟨rfl, hw⟩ := hnil hr he
      refine upon_val hx ?_ (done (s := .raw (.bool false)) rfl h)
      have hb : binOp .eql T (a.eval x) (a.eval y) = (do pure (.bool (← Op.equal T (a.eval x) (a.eval y)))) := by
        obtain ⟨_, h2⟩ := nilCmp hr es et
        rcases h2 with ⟨b, e1, e2⟩ | ⟨b, e1, e2⟩ <;> rw [e1, e2] <;> rfl
      simp only [Sem.run_bind, (hw w).1, Result.andThen_ok, hb, (hw w).2, Sem.run_pure]
    · rename_i r e hr he
      obtain ⟨rfl, hw⟩ := hnil hr he
      refine upon_val hx ?_ (done (s := .raw (.bool true)) rfl h)
      have hb : binOp .neq T (a.eval x) (a.eval y) = (do pure (.bool (!(← Op.equal T (a.eval x) (a.eval y))))) := by
        obtain ⟨_, h2⟩ := nilCmp hr es et
        rcases h2 with ⟨b, e1, e2⟩ | ⟨b, e1, e2⟩ <;> rw [e1, e2] <;> rfl
      simp only [Sem.run_bind, (hw w).1, Result.andThen_ok, hb, (hw w).2, Sem.run_pure, Bool.not_false]
    · rename_i e hr he
      obtain ⟨r, h, g1, _, g2, _⟩ := nilSlcW_sound (P := P) (ρ := ρ) he h es et
      refine upon_val hx ?_ (done (s := .raw (.bool r)) rfl h)
      simp only [Sem.run_bind, g1, Result.andThen_ok, g2]
    · rename_i e hr he
      obtain ⟨r, h, _, g1, _, g2⟩ := nilSlcW_sound (P := P) (ρ := ρ) he h es et
      refine upon_val hx ?_ (done (s := .raw (.bool !r)) rfl h)
      simp only [Sem.run_bind, g1, Result.andThen_ok, g2]
    · rename_i e hr he
      split at h
      case isFalse => exact h.elim
      rename_i hg
      split at h
      case h_2 => exact h.elim
      rename_i r hr
      obtain ⟨g1, _, g2, _⟩ := eqStruct_sound (P := P) (ρ := ρ) he hg hr es et
      refine upon_val hx ?_ (done (s := .raw (.bool r)) rfl h)
      simp only [Sem.run_bind, g1, Result.andThen_ok, g2]
    · rename_i e hr he
      split at h
      case isFalse => exact h.elim
      rename_i hg
      split at h
      case h_2 => exact h.elim
      rename_i r hr
      obtain ⟨_, g1, _, g2⟩ := eqStruct_sound (P := P) (ρ := ρ) he hg hr es et
      refine upon_val hx ?_ (done (s := .raw (.bool !r)) rfl h)
      simp only [Sem.run_bind, g1, Result.andThen_ok, g2]
    · split at h
      case h_2 => exact h.elim
      rename_i v u hv hu
      have e1 := SV.den_of_val ρ s hv
      have e2 := SV.den_of_val ρ t hu
      rw [es] at e1; rw [et] at e2
      cases e1; cases e2
      obtain ⟨_, rfl, h⟩ := binW_pure h
      exact pureOp_sound hR hk hx h
  | unOp op T x =>
    simp only [opW] at h
    split at h
    case h_2 => exact h.elim
    rename_i v hs
    have es := opd_den hF hs
    simp only [SV.den, Option.some.injEq] at es; subst es
    exact pureOp_sound hR hk rfl h
  | convert src d x =>
    simp only [opW] at h
    split at h
    case h_2 => exact h.elim
    rename_i s hs
    split at h
    case h_2 => exact h.elim
    rename_i v hv
    have es := opd_den hF hs
    rw [SV.den_of_val ρ s hv] at es; cases es
    exact pureOp_sound hR hk rfl h
  | makeInterface T x =>
    simp only [opW] at h
    split at h
    · exact h.elim
    · rename_i s d hne hs hu
      have es := opd_den hF hs
      refine upon_val (s := Instr.makeInterface T (a.eval x)) (v := .iface T (a.eval x)) (w' := w) rfl ?_ (done (s := .ifc T s) (by simp only [SV.den, es, Option.map_some]) h)
      unfold Instr.makeInterface
      simp only [Sem.run_bind, run_underlying hu, Result.andThen_ok]
      cases d <;> first | rfl | exact (hne _ rfl).elim
    · exact h.elim
  | makeFunc fn first caps =>
    cases fn with
    | func f =>
      simp only [opW] at h
      split at h
      · rename_i m l hm hl
        have el := opds_den hF hl
        have em := opds_den hF hm
        refine upon_val (s := Instr.makeFunc (.func f) (first.map a.eval) (caps.map a.eval)) (v := .func (.func f) (first.map a.eval) (caps.map a.eval)) (w' := w) rfl (by simp [Instr.makeFunc]) (done (s := .clo f m l) ?_ h)
        simp only [SV.den, el, em]
        congr 2 <;> (apply Array.ext'; simp)
      · exact h.elim
    | _ => exact h.elim
  | makeSlice T l c =>
    simp only [opW] at h
    split at h
    case h_2 => exact h.elim
    rename_i kl l' kc c' e hl hc hu
    have el := opd_den hF hl
    have ec := opd_den hF hc
    simp only [SV.den, Option.some.injEq] at el ec
    obtain ⟨v, w', s', bx', ρ', h1, h2, h3, h4, h5, h6⟩ := makeW_sound (P := P) (kl := kl) (kc := kc) hu h hR
    refine upon_val (s := Instr.makeSlice T (a.eval l) (a.eval c)) rfl (by rw [← el, ← ec]; exact h1) (hk _ _ _ _ _ _ h2 h3 h4 (fun _ => ⟨h5, Mem.le_refl _⟩) h6)
  | slice T x lo hi mx =>
    simp only [opW] at h
    have hx : execOp a.eval ⟨dst, .slice T x lo hi mx, type, pos, after, guard⟩ = (do pure (Next.value (← Instr.sliceAt T (a.eval x) (lo.map a.eval) (hi.map a.eval) (mx.map a.eval)))) := rfl
    split at h
    · rename_i b off l hh m n e hs h1 h2 h3 hu
      split at h
      case h_2 => exact h.elim
      rename_i z hz
      simp only [sizeW, Option.map_eq_some_iff] at hz
      obtain ⟨i, hi', rfl⟩ := hz
      have es := opd_den hF hs
      simp only [SV.den] at es
      obtain ⟨c, hc, e1⟩ := locDen_some es
      obtain ⟨hr, hK⟩ := run_sliceBounds (P := P) hF h1 h2 h3 h false w
      refine upon_val hx (v := .slice (some (c.add (if toN m n = toN l 0 then off else off + toN l 0 * i.size))) (toN hh n - toN l 0) (toN m n - toN l 0)) (w' := w) ?_ (done ?_ hK)
      · unfold Instr.sliceAt
        simp only [Sem.run_bind, run_underlying hu, Result.andThen_ok, e1, Instr.sureAddr, Sem.run_pure, hr, run_sizeOf' hi']
        congr 3
        split
        · rfl
        · rw [add_add (hR.spot hc)]
      · simp only [SV.den, slcDen, hc]
    · rename_i b off len cap l hh m e hs h1 h2 h3 hu
      split at h
      case h_2 => exact h.elim
      rename_i z hz
      simp only [sizeW, Option.map_eq_some_iff] at hz
      obtain ⟨i, hi', rfl⟩ := hz
      have es := opd_den hF hs
      simp only [SV.den] at es
      obtain ⟨hr, hK⟩ := run_sliceBounds (P := P) hF h1 h2 h3 h true w
      rcases slcDen_some es with ⟨c, hc, e1⟩ | ⟨hc, rfl, rfl, rfl, e1⟩
      · refine upon_val hx (v := .slice (some (c.add (if toN m cap = toN l 0 then off else off + toN l 0 * i.size))) (toN hh len - toN l 0) (toN m cap - toN l 0)) (w' := w) ?_ (done ?_ hK)
        · unfold Instr.sliceAt Instr.slice
          simp only [Sem.run_bind, run_underlying hu, Result.andThen_ok, e1, hr, run_sizeOf' hi', Sem.run_pure]
          congr 2
          split
          · rfl
          · simp only [Option.map_some]; rw [add_add (hR.spot hc)]
        · simp only [SV.den, slcDen, hc]
      · obtain ⟨_, g1, g2, g3, _⟩ := sliceNums_elim h
        have z3 : toN m 0 = 0 := by
          cases m with
          | none => rfl
          | some j => have := g1 j rfl; simp only [toN]; omega
        have z2 : toN hh 0 = 0 := by
          cases hh with
          | none => rfl
          | some j => have := g2 j rfl; rw [z3] at this; simp only [toN]; omega
        have z1 : toN l 0 = 0 := by
          cases l with
          | none => rfl
          | some j => have := g3 j rfl; rw [z2] at this; simp only [toN]; omega
        rw [z1, z2, z3] at hK hr
        refine upon_val hx (v := .slice none 0 0) (w' := w) ?_ (done ?_ hK)
        · unfold Instr.sliceAt Instr.slice
          simp only [Sem.run_bind, run_underlying hu, Result.andThen_ok, e1, hr, run_sizeOf' hi', Sem.run_pure]
          rfl
        · simp only [SV.den, slcDen, hc]; rfl
    · rename_i base len cap l hh m e hs h1 h2 h3 hu
      split at h
      case h_2 => exact h.elim
      rename_i z hz
      simp only [sizeW, Option.map_eq_some_iff] at hz
      obtain ⟨i, hi', rfl⟩ := hz
      have es := opd_den hF hs
      simp only [SV.den, Option.some.injEq] at es
      obtain ⟨hlc, h⟩ := req_elim h
      obtain ⟨hr, hK⟩ := run_sliceBounds (P := P) hF h1 h2 h3 h true w
      let v' : Value := .slice (if toN m cap = toN l 0 then base else base.map (·.add (toN l 0 * i.size))) (toN hh len - toN l 0) (toN m cap - toN l 0)
      let E' : Mem := fun v cs => S.E v cs ∨ ∃ cs0, S.E (.slice base len cap) cs0 ∧ v = v' ∧ cs = (cs0.drop (toN l 0 * i.size)).take ((toN hh len - toN l 0) * i.size)
      have hE := hK (if toN m cap = toN l 0 then base else base.map (·.add (toN l 0 * i.size))) E' (fun _ _ g => .inl g) (fun cs g => .inr ⟨cs, g, rfl, rfl⟩) (by split <;> simp)
      obtain ⟨_, g1, g2, g3, _⟩ := sliceNums_elim h
      have hle : toN m cap = toN l 0 → toN hh len - toN l 0 = 0 := by
        intro e0
        have a1 : toN hh len ≤ toN m cap ∨ hh = none := by
          cases hh with
          | none => exact .inr rfl
          | some j => have := g2 j rfl; left; simp only [toN] at *; omega
        rcases a1 with a1 | rfl
        · omega
        · cases m with
          | none => simp only [toN] at *; omega
          | some j => have h0 := (sliceNums_elim h).1 rfl; cases h0
      have hrow : ∀ cs0, S.E (.slice base len cap) cs0 → RowAt w v' ((cs0.drop (toN l 0 * i.size)).take ((toN hh len - toN l 0) * i.size)) := by
        intro cs0 g
        by_cases e0 : toN m cap = toN l 0
        · left; rw [hle e0]; simp
        · rcases hR.hold _ _ g with rfl | ⟨c, len', cap', e2, hsp, hcell⟩
          · left; simp
          · cases e2
            right
            refine ⟨c.add (toN l 0 * i.size), toN hh len - toN l 0, toN m cap - toN l 0, by simp only [v', if_neg e0, Option.map_some], by rw [add_eq hsp], fun j x hj => ?_⟩
            rw [add_eq hsp]
            simp only
            have hj' : j < (toN hh len - toN l 0) * i.size := by
              rcases Nat.lt_or_ge j ((toN hh len - toN l 0) * i.size) with q | q
              · exact q
              · rw [List.getElem?_eq_none (by simp; omega)] at hj; cases hj
            rw [List.getElem?_take_of_lt hj', List.getElem?_drop] at hj
            rw [Nat.add_assoc]
            exact hcell _ _ hj
      have hR' : Rel w0 mu S.bx E' ρ w := hR.addE (fun v cs g => by
          rcases g with g | ⟨cs0, g, rfl, rfl⟩
          · exact hR.hold v cs g
          · exact hrow cs0 g) (fun v cs g hne => by
          rcases g with g | ⟨cs0, g, rfl, rfl⟩
          · exact .inl g
          · right
            intro j b c b1 b2 b3
            have hne0 : cs0 ≠ [] := by rintro rfl; simp at hne
            have := (hR.sep j b c b1 b2 b3).2.2 _ _ g hne0
            have e0 : ¬ toN m cap = toN l 0 := by intro e0; rw [hle e0] at hne; simp at hne
            rcases hR.hold _ _ g with rfl | ⟨c', len', cap', e2, hsp, _⟩
            · exact absurd rfl hne0
            · cases e2
              simp only [v', if_neg e0, Option.map_some, blk] at this ⊢
              rw [add_eq hsp]; exact this) (fun v cs g hne => by
          rcases g with g | ⟨cs0, g, rfl, rfl⟩
          · exact hR.src _ _ g hne
          · have hne0 : cs0 ≠ [] := by rintro rfl; simp at hne
            have e0 : ¬ toN m cap = toN l 0 := by intro e0; rw [hle e0] at hne; simp at hne
            have := hR.src _ _ g hne0
            rcases hR.hold _ _ g with rfl | ⟨c', len', cap', e2, hsp, _⟩
            · exact absurd rfl hne0
            · cases e2
              simp only [v', if_neg e0, Option.map_some, blk] at this ⊢
              rw [add_eq hsp]; exact this)
      refine upon_val hx (v := v') (w' := w) ?_ (hk (.raw v') _ _ _ ρ w (List.prefix_refl _) rfl hR' (fun _ => ⟨List.prefix_refl _, fun _ _ g => .inl g⟩) hE)
      unfold Instr.sliceAt Instr.slice
      simp only [Sem.run_bind, run_underlying hu, Result.andThen_ok, ← es, hr, run_sizeOf' hi', Sem.run_pure]
      rfl
    · exact h.elim
  | fieldAddr T x f =>
    simp only [opW] at h
    split at h
    case h_2 => exact h.elim
    rename_i fs hu
    split at h
    case h_2 => exact h.elim
    rename_i fld hf
    have key : ∀ {n off : Nat} {c : Addr}, sizeW P fld.type = some n → n ≠ 0 → c.spot = none → a.eval x = .pointer (some (c.add off)) →
        (Instr.fieldAt T (a.eval x) f).run P w = .ok (.pointer (some (c.add (off + fld.offset)))) w := by
      intro n off c hn h0 hc e1
      simp only [sizeW, Option.map_eq_some_iff] at hn
      obtain ⟨i, hi', rfl⟩ := hn
      unfold Instr.fieldAt
      simp only [Sem.run_bind, run_underlying hu, Result.andThen_ok, hf, e1, Instr.sureAddr, Sem.run_pure]
      unfold fieldPlace
      simp only [Sem.run_bind, run_sizeOf' hi', Result.andThen_ok, if_neg h0, Sem.run_pure, add_add hc]
    split at h
    · rename_i n b off hn hs
      split at h
      case isTrue => exact h.elim
      rename_i h0
      have es := opd_den hF hs
      simp only [SV.den] at es
      obtain ⟨c, hc, e1⟩ := locDen_some es
      exact upon_val (s := Instr.fieldAt T (a.eval x) f) rfl (key hn h0 (hR.spot hc) e1) (done (by simp only [SV.den, locDen, hc]) h)
    · rename_i n v off hn hs
      split at h
      case isTrue => exact h.elim
      rename_i h0
      have es := opd_den hF hs
      simp only [SV.den] at es
      obtain ⟨c, len, cap, rfl, e1, hsp⟩ := rpDen_some es
      exact upon_val (s := Instr.fieldAt T (a.eval x) f) rfl (key hn h0 hsp e1) (done (by simp only [SV.den, rpDen, hsp, if_true]) h)
    · exact h.elim
  | field T x f =>
    simp only [opW] at h
    split at h
    case h_2 => exact h.elim
    rename_i fs hu
    split at h
    case h_2 => exact h.elim
    rename_i fld s hf hs
    split at h
    case h_2 => exact h.elim
    rename_i cs hcs
    split at h
    case h_2 => exact h.elim
    rename_i r hr
    obtain ⟨vs, e1, e2⟩ := asCells_den hcs (opd_den hF hs)
    obtain ⟨v, e3, e4⟩ := run_part (P := P) (w := w) hr e2
    refine upon_val (s := Instr.field T (a.eval x) f) rfl ?_ (done e3 h)
    unfold Instr.field
    simp only [Sem.run_bind, run_underlying hu, Result.andThen_ok, hf, e1, asAgg, Sem.run_pure, e4]
  | extract x i =>
    simp only [opW] at h
    split at h
    · rename_i l hs
      split at h
      case h_2 => exact h.elim
      rename_i s hl
      have es := opd_den hF hs
      simp only [SV.den, Option.map_eq_some_iff] at es
      obtain ⟨vs, e1, e2⟩ := es
      obtain ⟨v, e3, e4⟩ := denL_get e1 hl
      refine upon_val (s := Instr.extract (a.eval x) i) (v := v) (w' := w) rfl ?_ (done e4 h)
      rw [← e2]
      simp [Instr.extract, e3]
    · rename_i vs hs
      split at h
      case h_2 => exact h.elim
      rename_i v hl
      have es := opd_den hF hs
      simp only [SV.den, Option.some.injEq] at es
      refine upon_val (s := Instr.extract (a.eval x) i) (v := v) (w' := w) rfl ?_ (done rfl h)
      rw [← es]
      have : vs[i]? = some v := by simpa using hl
      simp [Instr.extract, this]
    · exact h.elim
  | typeAssert x T U ok =>
    simp only [opW] at h
    split at h
    case h_2 => exact h.elim
    rename_i s hs
    split at h
    case h_2 => exact h.elim
    rename_i v hv
    have es := opd_den hF hs
    rw [SV.den_of_val ρ s hv] at es; cases es
    exact pureOp_sound hR hk rfl h
  | indexAddr T x i =>
    simp only [opW] at h
    have hx : execOp a.eval ⟨dst, .indexAddr T x i, type, pos, after, guard⟩ = (do pure (Next.value (← Instr.indexAt T (a.eval x) (a.eval i)))) := rfl
    split at h
    · rename_i b off k n len e hs hi hu
      split at h
      case h_2 => exact h.elim
      rename_i z hz
      obtain ⟨hn, h⟩ := req_elim h
      simp only [sizeW, Option.map_eq_some_iff] at hz
      obtain ⟨inf, hi', rfl⟩ := hz
      have es := opd_den hF hs
      have ei := opd_den hF hi
      simp only [SV.den, Option.some.injEq] at es ei
      obtain ⟨c, hc, e1⟩ := locDen_some es
      refine upon_val hx (v := .pointer (some (c.add (off + n.toNat * inf.size)))) (w' := w) ?_ (done (by simp only [SV.den, locDen, hc]) h)
      unfold Instr.indexAt
      simp only [← ei, asIntOf, Sem.run_bind, Sem.run_pure, Result.andThen_ok, run_underlying hu, e1, Instr.sureAddr]
      simp only [if_pos hn, Sem.run_bind, run_sizeOf' hi', Result.andThen_ok, Sem.run_pure, add_add (hR.spot hc)]
    · rename_i v off k n len e hs hi hu
      split at h
      case h_2 => exact h.elim
      rename_i z hz
      obtain ⟨hn, h⟩ := req_elim h
      simp only [sizeW, Option.map_eq_some_iff] at hz
      obtain ⟨inf, hi', rfl⟩ := hz
      have es := opd_den hF hs
      have ei := opd_den hF hi
      simp only [SV.den, Option.some.injEq] at es ei
      obtain ⟨c, l', cap', rfl, e1, hsp⟩ := rpDen_some es
      refine upon_val hx (v := .pointer (some (c.add (off + n.toNat * inf.size)))) (w' := w) ?_ (done (by simp only [SV.den, rpDen, hsp, if_true]) h)
      unfold Instr.indexAt
      simp only [← ei, asIntOf, Sem.run_bind, Sem.run_pure, Result.andThen_ok, run_underlying hu, e1, Instr.sureAddr]
      simp only [if_pos hn, Sem.run_bind, run_sizeOf' hi', Result.andThen_ok, Sem.run_pure, add_add hsp]
    · rename_i b off len cap k n e hs hi hu
      split at h
      case h_2 => exact h.elim
      rename_i z hz
      obtain ⟨hn, h⟩ := req_elim h
      simp only [sizeW, Option.map_eq_some_iff] at hz
      obtain ⟨inf, hi', rfl⟩ := hz
      have es := opd_den hF hs
      have ei := opd_den hF hi
      simp only [SV.den, Option.some.injEq] at es ei
      rcases slcDen_some es with ⟨c, hc, e1⟩ | ⟨hc, rfl, rfl, rfl, e1⟩
      · refine upon_val hx (v := .pointer (some (c.add (off + n.toNat * inf.size)))) (w' := w) ?_ (done (by simp only [SV.den, locDen, hc]) h)
        unfold Instr.indexAt
        simp only [← ei, asIntOf, Sem.run_bind, Sem.run_pure, Result.andThen_ok, run_underlying hu, e1]
        simp only [if_pos hn, Sem.run_bind, run_sizeOf' hi', Result.andThen_ok, Sem.run_pure, add_add (hR.spot hc)]
      · omega
    · rename_i base len cap k n e hs hi hu
      split at h
      case h_2 => exact h.elim
      rename_i z hz
      obtain ⟨hn, ⟨cs, hE, hne⟩, h⟩ := req_elim h
      simp only [sizeW, Option.map_eq_some_iff] at hz
      obtain ⟨inf, hi', rfl⟩ := hz
      have es := opd_den hF hs
      have ei := opd_den hF hi
      simp only [SV.den, Option.some.injEq] at es ei
      rcases hR.hold _ _ hE with rfl | ⟨c, l', cap', e2, hsp, _⟩
      · exact absurd rfl hne
      · cases e2
        refine upon_val hx (v := .pointer (some (c.add (n.toNat * inf.size)))) (w' := w) ?_ (done (by simp only [SV.den, rpDen, hsp, if_true]) h)
        unfold Instr.indexAt
        simp only [← ei, asIntOf, Sem.run_bind, Sem.run_pure, Result.andThen_ok, run_underlying hu, ← es]
        simp only [if_pos hn, Sem.run_bind, run_sizeOf' hi', Result.andThen_ok, Sem.run_pure]
    · exact h.elim
  | index T x i =>
    simp only [opW] at h
    have hx : execOp a.eval ⟨dst, .index T x i, type, pos, after, guard⟩ = (do pure (Next.value (← Instr.index T (a.eval x) (a.eval i)))) := rfl
    split at h
    · rename_i s k n len e hs hi hu
      split at h
      case h_2 => exact h.elim
      rename_i cs z hcs hz
      obtain ⟨hn, h2⟩ := req_elim h
      clear h
      split at h2
      case h_2 => exact h2.elim
      rename_i r hr
      simp only [sizeW, Option.map_eq_some_iff] at hz
      obtain ⟨inf, hi', rfl⟩ := hz
      have ei := opd_den hF hi
      simp only [SV.den, Option.some.injEq] at ei
      obtain ⟨vs, e1, e2⟩ := asCells_den hcs (opd_den hF hs)
      obtain ⟨v, e3, e4⟩ := run_part (P := P) (w := w) hr e2
      refine upon_val hx ?_ (done e3 h2)
      unfold Instr.index
      simp only [← ei, asIntOf, Sem.run_bind, Sem.run_pure, Result.andThen_ok, run_underlying hu, e1]
      simp only [if_pos hn, Sem.run_bind, run_sizeOf' hi', Result.andThen_ok, e4]
    · rename_i v j hs hi _
      have es := opd_den hF hs
      have ei := opd_den hF hi
      simp only [SV.den, Option.some.injEq] at es ei
      rw [es, ei] at h
      exact pureOp_sound hR hk hx h
    · exact h.elim
  | call c =>
    simp only [opW] at h
    split at h
    case h_2 => exact h.elim
    rename_i args hargs
    have ea := opds_den hF hargs
    have eaA : ∀ vs : List Value, SV.denL ρ args = some vs → c.args.map a.eval = vs.toArray := by
      intro vs hv
      rw [ea] at hv; cases hv
      apply Array.ext'; simp
    -- a call of a function of the program
    have key : ∀ {g : FuncId} {ss : List SV} {vs : List Value}, SV.denL ρ ss = some vs → callG callW g ss S.bx S.E K → (growOp (.call c) S = true → (SV.valL ss).isSome = true) →
        (execOp a.eval ⟨dst, .call c, type, pos, after, guard⟩).run P w = (callFunc g vs.toArray).run P w →
        Oper.uponIn (fW ro) 0 P ⟨dst, .call c, type, pos, after, guard⟩ a next Q ((execOp a.eval ⟨dst, .call c, type, pos, after, guard⟩).run P w) := by
      intro g ss vs hv hc hgrow hrun
      unfold callG at hc
      split at hc
      · exact hc.elim
      rename_i hne
      split at hc
      · rename_i us hus
        have h0 := hcall g ss [] S.E _ hc
        rw [if_neg hne] at h0
        have hcalls := frame0 (K := fun s bx E' => (S.bx <+: bx ∧ Mem.le S.E E') ∧ K s bx E') (bx := S.bx) hus h0 (fun s bxs' E' x => ⟨⟨List.prefix_append _ _, x.1⟩, x.2⟩)
        rw [hrun]
        rcases hcalls w0 mu ρ w vs hR hv with ⟨henter, hcalls⟩ | ⟨v, w', hval, he⟩
        · rw [henter]
          refine ⟨(fun q => by cases q), callsW (hcalls.mono fun e w' he => ?_)⟩
          obtain ⟨v, s, bx', E', ρ', rfl, h1, h2, h3, h5, h4⟩ := he
          exact hk _ _ _ _ _ _ h1 h2 h3 (fun _ => h5) h4
        · rw [hval]
          obtain ⟨v', s, bx', E', ρ', q, h1, h2, h3, h5, h4⟩ := he
          cases q
          exact hk _ _ _ _ _ _ h1 h2 h3 (fun _ => h5) h4
      · rename_i hus
        have h0 := hcall g ss S.bx S.E K hc
        rw [if_neg hne] at h0
        rw [hrun]
        rcases h0 w0 mu ρ w vs hR hv with ⟨henter, hcalls⟩ | ⟨v, w', hval, he⟩
        · rw [henter]
          refine ⟨(fun q => by cases q), callsW (hcalls.mono fun e w' he => ?_)⟩
          obtain ⟨v, s, bx', E', ρ', rfl, h1, h2, h3, h4⟩ := he
          exact hk _ _ _ _ _ _ h1 h2 h3 (fun hg => by have := hgrow hg; rw [hus] at this; cases this) h4
        · rw [hval]
          obtain ⟨v', s, bx', E', ρ', q, h1, h2, h3, h4⟩ := he
          cases q
          exact hk _ _ _ _ _ _ h1 h2 h3 (fun hg => by have := hgrow hg; rw [hus] at this; cases this) h4
    split at h
    · rename_i f hf
      split at h
      case h_3 => exact h.elim
      case h_2 =>
        rename_i l m b hg
        have eg := opd_den hF hg
        simp only [SV.den, Option.some.injEq] at eg
        have h0 := hcall YID _ S.bx S.E K h
        rw [if_pos rfl] at h0
        obtain ⟨l', m', b', rest, e1, h0⟩ := h0
        simp only [List.cons.injEq, SV.raw.injEq, Value.func.injEq, Fn.yield.injEq] at e1
        obtain ⟨⟨rfl, rfl, rfl⟩, rfl⟩ := e1
        obtain ⟨fn', tmps, assign, body, hy, hround⟩ := h0 w0 mu ρ w _ hΩ hR ea
        have hrun : (execOp a.eval ⟨dst, .call c, type, pos, after, guard⟩).run P w = .ok (.round l fn' tmps assign body) w := by
          rw [← hy]
          show Sem.run P (do let d ← resolve a.eval c type; invoke d.target d.args) w = _
          have hargs' : c.args.map a.eval = (c.args.toList.map a.eval).toArray := by apply Array.ext'; simp
          simp only [resolve, hf, ← eg, Deferred.ofValue, Sem.run_bind, Sem.run_pure, Result.andThen_ok, invoke, hargs']
        rw [hrun]
        refine ⟨(fun q => by cases q), roundW (hround.mono fun e w' he => ?_)⟩
        obtain ⟨v, s, bx', E', ρ', rfl, h1, h2, h3, h4⟩ := he
        exact hk _ _ _ _ _ _ h1 h2 h3 (fun hg2 => by simp [growOp, hargs, hf, hg] at hg2) h4
      rename_i g first caps hg
      have eg := opd_den hF hg
      have eg' : ∃ us vs, SV.denL ρ first = some us ∧ SV.denL ρ caps = some vs ∧ .func (.func g) us.toArray vs.toArray = a.eval f := by
        simp only [SV.den] at eg
        split at eg
        · rename_i us vs e1 e2
          simp only [Option.some.injEq] at eg; exact ⟨us, vs, e1, e2, eg⟩
        · cases eg
      obtain ⟨fv, cv, e0, e1, e2⟩ := eg'
      refine key (denL_append (denL_append e0 ea) e1) h (fun hg2 => by simpa [growOp, hargs, hf, hg] using hg2) ?_
      show Sem.run P (do let d ← resolve a.eval c type; invoke d.target d.args) w = _
      have hargs' : c.args.map a.eval = (c.args.toList.map a.eval).toArray := by apply Array.ext'; simp
      simp only [resolve, hf, ← e2, Deferred.ofValue, Sem.run_bind, Sem.run_pure, Result.andThen_ok, invoke, hargs']
      simp
    · rename_i r name hr
      split at h
      case h_2 => exact h.elim
      rename_i T v hv
      split at h
      case h_2 => exact h.elim
      rename_i g hg
      have er := opd_den hF hv
      simp only [SV.den, Option.map_eq_some_iff] at er
      obtain ⟨x, e1, e2⟩ := er
      refine key (vs := x :: c.args.toList.map a.eval) (by simp only [SV.denL, e1, ea]) h (fun hg2 => by simpa [growOp, hargs, hr, hv] using hg2) ?_
      show Sem.run P (do let d ← resolve a.eval c type; invoke d.target d.args) w = _
      have hargs' : c.args.map a.eval = (c.args.toList.map a.eval).toArray := by apply Array.ext'; simp
      have hm := run_method (P := P) hg x (P.types.size + Made.depth - 1) w
      have hd : P.types.size + Made.depth - 1 + 1 = P.types.size + Made.depth := by unfold Made.depth; omega
      rw [hd] at hm
      simp only [resolve, hr, ← e2, Sem.run_bind, Sem.run_pure, Result.andThen_ok, invoke, hargs']
      have hx0 : (#[Value.iface T x] ++ (c.args.toList.map a.eval).toArray)[0]? = some (Value.iface T x) := by simp
      have hx1 : (#[Value.iface T x] ++ (c.args.toList.map a.eval).toArray).extract 1 (#[Value.iface T x] ++ (c.args.toList.map a.eval).toArray).size = (c.args.toList.map a.eval).toArray := by
        apply Array.ext'; simp [List.take_of_length_le]
      simp only [hx0, hx1, callMethod, Sem.run_bind, run_program, Result.andThen_ok, hm]
      congr 2
      apply Array.ext'; simp
    · rename_i hc
      have hx : execOp a.eval ⟨dst, .call c, type, pos, after, guard⟩ = (do pure (Next.value (← Builtin.len_ c.argTypes type (c.args.map a.eval)))) := by
        simp only [execOp, resolve, hc]; rfl
      have ht : ∀ {d}, (c.argTypes[0]?).bind P.underlying = some d → ∃ t, c.argTypes[0]? = some t ∧ P.underlying t = some d := fun {d} e => by
        simpa [Option.bind_eq_some_iff] using e
      split at h
      · rename_i base n cap e hu
        obtain ⟨t, ht1, ht2⟩ := ht hu
        have ev : c.args.map a.eval = #[.slice base n cap] := eaA _ rfl
        refine upon_val hx (v := .int .i64 n) (w' := w) ?_ (done rfl h)
        unfold Builtin.len_
        simp [ev, ht1, run_underlying ht2, goInt]
      · rename_i b off n cap e hu
        obtain ⟨t, ht1, ht2⟩ := ht hu
        refine upon_val hx (v := .int .i64 n) (w' := w) ?_ (done rfl h)
        have hd : ∃ base, c.args.map a.eval = #[.slice base n cap] := by
          have ea2 := ea
          simp only [SV.denL, SV.den] at ea2
          cases hsd : slcDen ρ b off n cap with
          | none => rw [hsd] at ea2; simp at ea2
          | some v =>
            rw [hsd] at ea2
            have := eaA [v] (by simp only [SV.denL, SV.den, hsd])
            rcases slcDen_some hsd with ⟨c', _, rfl⟩ | ⟨_, rfl, rfl, rfl, rfl⟩
            · exact ⟨_, this⟩
            · exact ⟨_, this⟩
        obtain ⟨base, ev⟩ := hd
        unfold Builtin.len_
        simp [ev, ht1, run_underlying ht2, goInt]
      · rename_i s hu
        obtain ⟨t, ht1, ht2⟩ := ht hu
        have ev : c.args.map a.eval = #[.string s] := eaA _ rfl
        refine upon_val hx (v := .int .i64 s.size) (w' := w) ?_ (done rfl h)
        unfold Builtin.len_
        simp [ev, ht1, run_underlying ht2, goInt]
      · rename_i s0 n e hu
        obtain ⟨t, ht1, ht2⟩ := ht hu
        refine upon_val hx (v := .int .i64 n) (w' := w) ?_ (done rfl h)
        have hd : ∃ x, c.args.map a.eval = #[x] := by
          have hl := denL_length ea
          have hsz : (c.args.map a.eval).size = 1 := by simpa using hl
          refine ⟨(c.args.map a.eval)[0], ?_⟩
          apply Array.ext <;> simp [hsz]
          intro i h1; have : i = 0 := by omega
          subst this; simp
        obtain ⟨x, ev⟩ := hd
        unfold Builtin.len_
        simp [ev, ht1, run_underlying ht2, goInt]
      · exact h.elim
    · rename_i hc
      have hx : execOp a.eval ⟨dst, .call c, type, pos, after, guard⟩ = (do pure (Next.value (← Builtin.cap_ c.argTypes type (c.args.map a.eval)))) := by
        simp only [execOp, resolve, hc]; rfl
      have ht : ∀ {d}, (c.argTypes[0]?).bind P.underlying = some d → ∃ t, c.argTypes[0]? = some t ∧ P.underlying t = some d := fun {d} e => by
        simpa [Option.bind_eq_some_iff] using e
      split at h
      · rename_i base n cap e hu
        obtain ⟨t, ht1, ht2⟩ := ht hu
        have ev : c.args.map a.eval = #[.slice base n cap] := eaA _ rfl
        refine upon_val hx (v := .int .i64 cap) (w' := w) ?_ (done rfl h)
        unfold Builtin.cap_
        simp [ev, ht1, run_underlying ht2, goInt]
      · rename_i b off n cap e hu
        obtain ⟨t, ht1, ht2⟩ := ht hu
        refine upon_val hx (v := .int .i64 cap) (w' := w) ?_ (done rfl h)
        have hd : ∃ base, c.args.map a.eval = #[.slice base n cap] := by
          have ea2 := ea
          simp only [SV.denL, SV.den] at ea2
          cases hsd : slcDen ρ b off n cap with
          | none => rw [hsd] at ea2; simp at ea2
          | some v =>
            rw [hsd] at ea2
            have := eaA [v] (by simp only [SV.denL, SV.den, hsd])
            rcases slcDen_some hsd with ⟨c', _, rfl⟩ | ⟨_, rfl, rfl, rfl, rfl⟩
            · exact ⟨_, this⟩
            · exact ⟨_, this⟩
        obtain ⟨base, ev⟩ := hd
        unfold Builtin.cap_
        simp [ev, ht1, run_underlying ht2, goInt]
      · exact h.elim
    · rename_i hc
      have hx : execOp a.eval ⟨dst, .call c, type, pos, after, guard⟩ = (do pure (Next.value (← Builtin.append_ c.argTypes type (c.args.map a.eval)))) := by
        simp only [execOp, resolve, hc]; rfl
      split at h
      case h_2 => exact h.elim
      rename_i s x t u hty
      have hat : c.argTypes = #[t, u] := by apply Array.ext'; simpa using hty
      simp only [SV.denL] at ea
      split at ea
      case h_2 => cases ea
      rename_i sv us hsv hus
      split at hus
      case h_2 => cases hus
      rename_i xv vs hxv hvs
      simp only [Option.some.injEq] at hvs hus; subst hvs; subst hus
      have hav : c.args.map a.eval = #[sv, xv] := eaA [sv, xv] (by simp only [SV.denL, hsv, hxv])
      split at h
      · rename_i e f ht hu
        obtain ⟨v, w', s', bx', E', ρ', h1, h2, h3, h4, h5⟩ := appendW_sound (P := P) (ty := type) ht hu h hR hsv hxv
        exact upon_val hx (by rw [hat, hav]; exact h1) (hk _ _ _ _ _ _ h2 h3 h4 (fun hg => by simp [growOp, hargs, hc] at hg) h5)
      · rename_i e kn ht hu
        obtain ⟨v, w', s', bx', ρ', h1, h2, h3, h4, h5⟩ := appendZ_sound (P := P) (ty := type) ht hu h hR hsv hxv
        exact upon_val hx (by rw [hat, hav]; exact h1) (hk _ _ _ _ _ _ h2 h3 h4 (fun hg => by simp [growOp, hargs, hc] at hg) h5)
      · exact h.elim
    · rename_i hc
      have hx : execOp a.eval ⟨dst, .call c, type, pos, after, guard⟩ = (do pure (Next.value (← Builtin.copy_ c.argTypes type (c.args.map a.eval)))) := by
        simp only [execOp, resolve, hc]; rfl
      split at h
      case h_2 => exact h.elim
      rename_i s x t u hty
      split at h
      case h_2 => exact h.elim
      rename_i e f ht hu
      have hat : c.argTypes = #[t, u] := by apply Array.ext'; simpa using hty
      simp only [SV.denL] at ea
      split at ea
      case h_2 => cases ea
      rename_i sv us hsv hus
      split at hus
      case h_2 => cases hus
      rename_i xv vs hxv hvs
      simp only [Option.some.injEq] at hvs hus; subst hvs; subst hus
      have hav : c.args.map a.eval = #[sv, xv] := eaA [sv, xv] (by simp only [SV.denL, hsv, hxv])
      obtain ⟨v, w', s', bx', h1, h3, h4, h5⟩ := copyW_sound (P := P) (ty := type) ht hu h hR hsv hxv
      exact upon_val hx (by rw [hat, hav]; exact h1) (hk _ _ _ _ _ _ (List.prefix_refl _) h3 h4 (fun hg => by simp [growOp, hargs, hc] at hg) h5)
    · rename_i hc
      split at h
      case h_2 => exact h.elim
      rename_i vs hv
      have hx : execOp a.eval ⟨dst, .call c, type, pos, after, guard⟩ = (do pure (Next.value (← Builtin.min_ #[] 0 vs.toArray))) := by
        have := eaA vs (SV.denL_of_val ρ args hv)
        simp only [execOp, resolve, hc, this]; rfl
      exact pureOp_sound hR hk hx h
    · rename_i hc
      split at h
      case h_2 => exact h.elim
      rename_i vs hv
      have hx : execOp a.eval ⟨dst, .call c, type, pos, after, guard⟩ = (do pure (Next.value (← Builtin.max_ #[] 0 vs.toArray))) := by
        have := eaA vs (SV.denL_of_val ρ args hv)
        simp only [execOp, resolve, hc, this]; rfl
      exact pureOp_sound hR hk hx h
    · exact h.elim
  | _ => exact h.elim

end
end Go.Sx
