/- The symbolic evaluator, part M: calls in place, contracts, and their soundness. Conditions: none; generic over programs. -/
import Derived.Test.YtjibgfihfbdcaaaSyL
import Derived.Test.YtjibgfihfbdcaaaSyT
namespace Go.Sx
open Go.RowKit (Below)

section
variable {P : Program} {callW : CallT}

def resOf (tmps : Array Value) : ResultVar → Sem Value
  | .tmp t => pure (tmps.getD t undef)
  | .cell t T => do loadVar T (← asAddr (tmps.getD t undef))

theorem retVar_den {S : St} {a : Act} {w w0 : World} {mu : Fm} {ρ : Env} (hR : Rel w0 mu S.bx S.E ρ w) (hF : FrRel ρ S.fr a.tmps) {x : ResultVar} {s : SV} (h : retVar P S x = some s) :
    ∃ v, s.den ρ = some v ∧ (resOf a.tmps x).run P w = .ok v w := by
  cases x with
  | tmp t => exact ⟨_, opd_den hF (x := .tmp t) h, rfl⟩
  | cell t T =>
    simp only [retVar] at h
    split at h
    case h_2 => cases h
    rename_i b off hs
    split at h
    case h_2 => cases h
    rename_i y hy
    have hd := opd_den hF hs
    simp only [SV.den] at hd
    obtain ⟨c, hc, e⟩ := locDen_some hd
    obtain ⟨v, h1, h2⟩ := load_sound (P := P) hR hy h hd
    refine ⟨v, h1, ?_⟩
    have e' : a.tmps.getD t undef = .pointer (some (c.add off)) := e
    simp only [resOf, e', asAddr, Sem.run_bind, Sem.run_pure, Result.andThen_ok]
    simp only [Instr.loadAt, Instr.sureAddr, Sem.run_bind] at h2
    rw [show a.eval (.tmp t) = .pointer (some (c.add off)) from e] at h2
    simpa using h2

theorem retVars_den {S : St} {a : Act} {w w0 : World} {mu : Fm} {ρ : Env} (hR : Rel w0 mu S.bx S.E ρ w) (hF : FrRel ρ S.fr a.tmps) : ∀ {l : List ResultVar} {ss : List SV}, retVars P S l = some ss →
    ∃ vs, SV.denL ρ ss = some vs ∧ (l.mapM (resOf a.tmps)).run P w = .ok vs w
  | [], _, h => by simp only [retVars, Option.some.injEq] at h; subst h; exact ⟨[], rfl, by simp⟩
  | x :: l, _, h => by
    simp only [retVars] at h
    split at h
    case h_2 => cases h
    rename_i s ss h1 h2
    simp only [Option.some.injEq] at h; subst h
    obtain ⟨v, h3, h4⟩ := retVar_den (P := P) hR hF h1
    obtain ⟨vs, h5, h6⟩ := retVars_den hR hF h2
    refine ⟨v :: vs, by simp only [SV.denL, h3, h5], ?_⟩
    simp only [List.mapM_cons, Sem.run_bind, h4, h6, Result.andThen_ok, Sem.run_pure]

theorem retW_sound {fn : Func} {S : St} {a : Act} {w w0 : World} {mu : Fm} {ρ : Env} {K : KT} (hR : Rel w0 mu S.bx S.E ρ w) (hF : FrRel ρ S.fr a.tmps) (h : retW P fn S K) :
    ∃ v s, (results fn a.tmps).run P w = .ok v w ∧ s.den ρ = some v ∧ K s S.bx S.E := by
  have hres : ∀ {vs : List Value}, (fn.results.toList.mapM (resOf a.tmps)).run P w = .ok vs w →
      (results fn a.tmps).run P w = .ok (if h : vs.toArray.size = 1 then vs.toArray[0] else .tuple vs.toArray) w := by
    intro vs hvs
    have hm : (fn.results.mapM (resOf a.tmps)).run P w = .ok vs.toArray w := by
      rw [Array.mapM_eq_mapM_toList]
      simp only [Sem.run_map, hvs, Result.andThen_ok]
    have he : results fn a.tmps = (do
        let vs ← fn.results.mapM (resOf a.tmps)
        pure (if h : vs.size = 1 then vs[0] else .tuple vs)) := by
      unfold results
      congr 1
      try congr 1
      try (funext x; cases x <;> rfl)
    rw [he, Sem.run_bind, hm]
    rfl
  unfold retW at h
  split at h
  · rename_i s hs
    obtain ⟨vs, h1, h2⟩ := retVars_den (P := P) hR hF hs
    have h3 := hres h2
    have hl := denL_length h1
    match vs, hl, h1, h3 with
    | [v], _, h1, h3 =>
      refine ⟨v, s, by simpa using h3, ?_, h⟩
      simp only [SV.denL] at h1
      split at h1
      · rename_i x ys e1 e2
        simp only [Option.some.injEq, List.cons.injEq] at e2 h1
        rw [e1, h1.1]
      · cases h1
  · rename_i ss hne hs
    obtain ⟨vs, h1, h2⟩ := retVars_den (P := P) hR hF hs
    have h3 := hres h2
    have hl := denL_length h1
    have hsz : vs.toArray.size ≠ 1 := by
      intro e
      simp only [List.size_toArray] at e
      rw [hl] at e
      match ss, e with
      | [s], _ => exact hne s rfl
    rw [dif_neg hsz] at h3
    exact ⟨_, .tup ss, h3, by simp only [SV.den, h1, Option.map_some], h⟩
  · exact h.elim

/-- Blocks that hold no cells lie in no live box. -/
def Obj.flat : Obj → Bool
  | .cells _ _ _ => false
  | _ => true

theorem cell_flat {w : World} {l : Nat} {o : Obj} (h : w.heap[l]? = some o) (ho : Obj.flat o = true) (off : Nat) : w.cell? ⟨l, off, none⟩ = none := by
  unfold World.cell?
  simp only [h]
  cases o <;> first | rfl | cases ho

theorem BoxAt.flat {w : World} {ρ : Env} {a : Addr} {b : Box} (h : BoxAt w ρ (some a) b) (hl : b.live = true) {l : Nat} {o : Obj} (hw : w.heap[l]? = some o) (ho : Obj.flat o = true) : a.block ≠ l := by
  rintro rfl
  obtain ⟨h1, vs, h2, h3⟩ := h
  by_cases hb : b.own = true
  · rw [if_pos hb] at h3
    obtain ⟨_, junk, h4, _⟩ := h3
    rw [hw] at h4; cases h4; cases ho
  · rw [if_neg hb] at h3
    have hne : b.cells ≠ [] := by
      intro e; simp [Box.live, hb, e] at hl
    have hlen := denL_length h2
    cases vs with
    | nil => exact hne (List.eq_nil_of_length_eq_zero hlen.symm)
    | cons x vs =>
      have := h3 0 x rfl
      rw [cell_flat hw ho] at this; cases this

theorem RowAt.flat {w : World} {v : Value} {cs : List Value} (h : RowAt w v cs) (hne : cs ≠ []) {l : Nat} {o : Obj} (hw : w.heap[l]? = some o) (ho : Obj.flat o = true) : blk v ≠ some l := by
  rcases h with h | ⟨a, len, cap, rfl, hs, h⟩
  · exact absurd h hne
  · intro e
    simp only [blk, Option.some.injEq] at e
    cases cs with
    | nil => exact hne rfl
    | cons x cs =>
      have := h 0 x rfl
      rw [e, cell_flat hw ho] at this; cases this

theorem lvB_flat {w0 w : World} {mu : Fm} {bx : List Box} {E : Mem} {ρ : Env} (h : Rel w0 mu bx E ρ w) {l : Nat} {o : Obj} (hw : w.heap[l]? = some o) (ho : Obj.flat o = true) : l ∉ lvB bx ρ := by
  intro hg
  obtain ⟨j, b, a, h1, h2, h3, rfl⟩ := lvB_of hg
  exact (h.box j b _ h1 h2).flat h3 hw ho rfl

/-- A block without cells, written. -/
theorem Rel.putObj {w0 w : World} {mu : Fm} {bx : List Box} {E : Mem} {ρ : Env} (h : Rel w0 mu bx E ρ w) {l : Nat} {o : Obj} (hw : w.heap[l]? = some o) (ho : Obj.flat o = true) (hl : w0.heap.size ≤ l) (o' : Obj) : Rel w0 mu bx E ρ (w.putObj l o') := by
  have hk := h.keep
  refine ⟨⟨hk.os, hk.tape, hk.output, by rw [World.putObj_size]; exact hk.size, fun k h1 h2 => ?_⟩, h.len, fun i b oa h1 h2 => (h.box i b oa h1 h2).of_block fun a ha hl' => ?_, h.sep, fun v cs hE => (h.hold v cs hE).of_block fun b hne hb => ?_, h.bsrc, h.src⟩
  · rw [World.putObj_heap_other (by omega)]; exact hk.block k h1 h2
  · subst ha
    exact World.putObj_heap_other ((h.box i b _ h1 h2).flat hl' hw ho)
  · refine World.putObj_heap_other ?_
    rintro rfl
    exact (h.hold v cs hE).flat hne hw ho hb

/-- A block without cells, written, before and now. -/
theorem Rel.putBoth {w0 w : World} {mu : Fm} {bx : List Box} {E : Mem} {ρ : Env} (h : Rel w0 mu bx E ρ w) {l : Nat} {o : Obj} (h0 : l < w0.heap.size) (hw : w.heap[l]? = some o) (ho : Obj.flat o = true) (o' : Obj) : Rel (w0.putObj l o') mu bx E ρ (w.putObj l o') := by
  have hk := h.keep
  have hlw : l < w.heap.size := (Array.getElem?_eq_some_iff.1 hw).1
  refine ⟨⟨hk.os, hk.tape, hk.output, by rw [World.putObj_size, World.putObj_size]; exact hk.size, fun k h1 h2 => ?_⟩, h.len, fun i b oa h1 h2 => (h.box i b oa h1 h2).of_block fun a ha hl' => ?_, by simpa using h.sep, fun v cs hE => (h.hold v cs hE).of_block fun b hne hb => ?_, by simpa using h.bsrc, by simpa using h.src⟩
  · by_cases hkl : k = l
    · subst hkl
      rw [World.putObj_heap_same hlw, World.putObj_heap_same h0]
    · rw [World.putObj_heap_other hkl, World.putObj_heap_other hkl]
      exact hk.block k (by simpa using h1) h2
  · subst ha
    exact World.putObj_heap_other ((h.box i b _ h1 h2).flat hl' hw ho)
  · refine World.putObj_heap_other ?_
    rintro rfl
    exact (h.hold v cs hE).flat hne hw ho hb

/-- The marks of an activation that is left. -/
theorem leaves_marks {fn : Func} {tmps : Array Value} {R : Ending → World → Prop} {w0 : World} {mu : Fm} {bx : List Box} {E : Mem} {ρ : Env}
    (hR : ∀ w, Rel w0 mu bx E ρ w → ∃ v, (results fn tmps).run P w = .ok v w ∧ R (.returned v) w) :
    ∀ (ds : List Deferred) (w : World), ds.Nodup → (∀ d ∈ ds, ∃ D, d = { target := .collected D, args := #[] } ∧ w.heap[D]? = some (.deferred (some [])) ∧ w0.heap.size ≤ D) → Rel w0 mu bx E ρ w →
      LeavesInM Fence.wide 0 P fn tmps R ds .returning w
  | [], w, _, _, h => hR w h
  | d :: ds, w, hn, hd, h => by
    obtain ⟨D, rfl, h1, h2⟩ := hd d (by simp)
    refine ⟨(fun e => by cases e), .inl ⟨D, _, rfl, run_takeDeferred h1, ?_⟩⟩
    refine leaves_marks hR ds _ (List.nodup_cons.1 hn).2 (fun d' hd' => ?_) (h.putObj h1 rfl h2 _)
    obtain ⟨D', rfl, g1, g2⟩ := hd d' (List.mem_cons_of_mem _ hd')
    refine ⟨D', rfl, ?_, g2⟩
    rw [World.putObj_heap_other]
    · exact g1
    · rintro rfl; exact (List.nodup_cons.1 hn).1 hd'

theorem bodyQ_sound {fn : Func} {w0 : World} {mu : Fm} {ρ : Env} {K : KT} (hmu : mu.ds = []) (hres : mu.om.isSome = true → fn.results.toList = []) (e : Exit) (a : Act) (w : World) (h : LiftQ w0 mu ρ (bodyQ P fn K) e a w) :
    bodyPostM Fence.wide 0 P fn (fun e w => CallPost w0 mu ρ K e w ∨ QuitPost mu.om w0 mu ρ e w) e a w := by
  have key : LiftR w0 mu ρ (fun S => retW P fn S K) a w → LeavesInM Fence.wide 0 P fn a.tmps (fun e w => CallPost w0 mu ρ K e w ∨ QuitPost mu.om w0 mu ρ e w) a.defers .returning w := by
    rintro ⟨w1, mu1, hB, hd, S, ρ', hp, hR, hF, h⟩
    have hD := hB.mark ⟨by rw [hmu]; exact List.nodup_nil, by rw [hmu]; simp⟩
    have hR0 := hB.back _ _ _ _ hR
    refine leaves_marks (fun w' hR' => ?_) a.defers w (by rw [hd.1]; exact hD.1) (fun d hdm => ?_) hR0
    · obtain ⟨v, s, h1, h2, h3⟩ := retW_sound hR' hF h
      exact ⟨v, h1, .inl ⟨v, s, S.bx, S.E, ρ', rfl, hp, h2, hR', h3⟩⟩
    · rw [hd.1] at hdm
      obtain ⟨D, e1, e2, e3⟩ := hD.2 d hdm
      refine ⟨D, e1, ?_, ?_⟩
      · rw [hR.keep.block D (Array.getElem?_eq_some_iff.1 e2).1 e3]; exact e2
      · rcases hB.fresh d hdm with q | ⟨D', q1, q2⟩
        · rw [hmu] at q; cases q
        · rw [e1] at q1; cases q1; exact q2
  have keyX : LiftX w0 mu ρ a w → LeavesInM Fence.wide 0 P fn a.tmps (fun e w => CallPost w0 mu ρ K e w ∨ QuitPost mu.om w0 mu ρ e w) a.defers .returning w := by
    rintro ⟨c, hc, ho, w1, mu1, hB, hd, bx, E, ρ', hp, hR, hq⟩
    have hD := hB.mark ⟨by rw [hmu]; exact List.nodup_nil, by rw [hmu]; simp⟩
    have hR0 := hB.backX c _ _ _ _ _ hc ho hR
    have ho1 := hB.okX ho
    unfold okO at ho1
    rw [hB.om.trans hc] at ho1
    have hrs := hres (by rw [hc]; rfl)
    refine leaves_marks (fun w' hR' => ?_) a.defers w (by rw [hd]; exact hD.1) (fun d hdm => ?_) hR0
    · refine ⟨.tuple #[], ?_, .inr ⟨c, hc, _, bx, E, ρ', rfl, hp, hR', hq⟩⟩
      have hr : fn.results = #[] := by rw [← Array.toList_inj]; exact hrs
      unfold results
      rw [hr]
      simp
    · rw [hd] at hdm
      obtain ⟨D, e1, e2, e3⟩ := hD.2 d hdm
      have hne : D ≠ c.l := by
        rintro rfl
        rw [ho1.1] at e2; cases e2
      refine ⟨D, e1, ?_, ?_⟩
      · rw [hR.keep.block D (by rw [World.putObj_size]; exact (Array.getElem?_eq_some_iff.1 e2).1) e3, World.putObj_heap_other hne]; exact e2
      · rw [World.putObj_size]
        rcases hB.fresh d hdm with q | ⟨D', q1, q2⟩
        · rw [hmu] at q; cases q
        · rw [e1] at q1; cases q1; exact q2
  cases e with
  | normal => exact key h
  | ret => exact h.elim key keyX
  | exit _ => obtain ⟨_, _, _, _, _, _, _, _, _, h⟩ := h; exact h.elim
  | goto _ => exact h.elim
  | panic _ => exact h.elim
  | outgrown => exact h.elim

/-- The name and the body of a function that is entered. -/
def okFn (fn : Func) : Prop := (fn.name == "runtime.NumGoroutine") = false ∧ fn.body.isNone = false

theorem enterW_sound {un : Opt} (hcall : CallOK un.om P callW) (hm : P.follows .mixedOrders = true) {inl : Op → Bool} {f : FuncId} {fn : Func} (hf : P.funcs[f]? = some fn) (hok : okFn fn)
    {args : List SV} {bx : List Box} {E : Mem} {K : KT} (h : enterW P callW inl un fn args bx E K) : CallSemO un.om P f args bx E K := by
  refine ⟨⟨fn, hf, hok.1, hok.2⟩, ?_⟩
  intro w0 mu0 ρ w vs hΩ hR hd
  have hR := Rel.cast (mu := mu0) (mu' := ⟨mu0.mu, mu0.E0, mu0.om, []⟩) rfl rfl hR
  have hpost : ∀ e w', CallPost w0 ⟨mu0.mu, mu0.E0, mu0.om, []⟩ ρ K e w' ∨ QuitPost mu0.om w0 ⟨mu0.mu, mu0.E0, mu0.om, []⟩ ρ e w' → CallPost w0 mu0 ρ K e w' ∨ QuitPost un.om w0 mu0 ρ e w' := by
    rintro e w' (⟨v, s, bx', E', ρ', rfl, h1, h2, h3, h4⟩ | ⟨c, q, v, bx', E', ρ', rfl, h1, h2, h3⟩)
    · exact .inl ⟨v, s, bx', E', ρ', rfl, h1, h2, Rel.cast (mu := ⟨mu0.mu, mu0.E0, mu0.om, []⟩) rfl rfl h3, h4⟩
    · exact .inr ⟨c, hΩ.1.1 ▸ q, v, bx', E', ρ', rfl, h1, Rel.cast (mu := ⟨mu0.mu, mu0.E0, mu0.om, []⟩) rfl rfl h2, h3⟩
  refine Calls.mono ?_ hpost
  have hO : okO w0 ⟨mu0.mu, mu0.E0, mu0.om, []⟩ := hΩ.2
  have hom := hΩ.1
  generalize hmu : (⟨mu0.mu, mu0.E0, mu0.om, []⟩ : Fm) = mu at *
  have hds : mu.ds = [] := by rw [← hmu]
  have hmo : mu0.om = mu.om := by rw [← hmu]
  rw [hmo]
  have hom' : mu.om = un.om ∧ okE un.om ρ := by rw [← hmu]; exact hom
  unfold enterW at h
  split at h
  case h_2 => exact h.elim
  rename_i c hc
  split at h
  case isFalse => exact h.elim
  rename_i hle
  have hrs : mu.om.isSome = true → fn.results.toList = [] := fun q => by
    have h2 := hle.2
    rw [hom'.1] at q
    cases ho : un.om with
    | none => rw [ho] at q; cases q
    | some c => rw [ho] at h2; simpa using h2
  have hle := hle.1
  refine (callsIn_wide (n := 0)).1 (callsIn_of_wp_marks hf hc trivial (Code.wpIn_mono (bodyQ_sound hds hrs) (codeW_sound (ro := none) (inl := inl) (un := { un with base := bx.length, rnd := false }) hcall hm (fun _ => rfl) c _ w0 mu ρ _ w (Nat.le_of_eq hR.len) hom' ⟨⟨hds.symm, hO⟩, _, ρ, List.prefix_refl _, ?_, ?_, h⟩)))
  · exact hR
  · have hl := denL_length hd
    refine ⟨by simp; omega, fun i s hs => ?_⟩
    simp only at hs ⊢
    by_cases hi : i < args.length
    · rw [List.getElem?_append_left (by simpa using hi), List.getElem?_map] at hs
      cases hai : args[i]? with
      | none => rw [hai] at hs; cases hs
      | some s' =>
        rw [hai] at hs
        simp only [Option.map_some, Option.some.injEq] at hs; subst hs
        obtain ⟨v, h1, h2⟩ := denL_get hd hai
        exact ⟨v, by rw [Array.getElem?_append_left (by simp; omega)]; simpa using h1, h2⟩
    · rw [List.getElem?_append_right (by simpa using Nat.le_of_not_lt hi)] at hs
      have := List.mem_of_getElem? hs
      simp at this

/-- Whatever is handed out, something lies there. -/
theorem pubW_some {K : List SV → List Box → Mem → Prop} : ∀ (n : Nat) (ss : List SV) (bx : List Box) (E : Mem), pubW n ss bx E K → ∃ ss' bx' E', K ss' bx' E'
  | 0, _, _, _, h => h.elim
  | n + 1, ss, bx, E, h => by
    unfold pubW at h
    split at h
    · exact ⟨_, _, _, h⟩
    · rename_i b0 hb0
      obtain ⟨b, hbd⟩ : ∃ b, deep bx 4 b0 = b := ⟨_, rfl⟩
      rw [hbd] at h
      simp only at h
      split at h
      case h_2 => exact h.elim
      split at h
      case h_2 => exact h.elim
      exact pubW_some n _ _ _ (h (some ⟨0, 0, none⟩) (fun _ _ => True) (fun _ _ _ => trivial) ⟨(fun e => by cases e), fun _ _ _ _ _ => trivial⟩)

structure CxOK (C : Cx) : Prop where
  tab : TabOK C.P C.tab
  wide : C.P.follows .mixedOrders = true
  inl : ∀ f fn, C.inl f = true → C.P.funcs[f]? = some fn → okFn fn
  tabB : ∀ f args bx E K, C.tabB f args bx E K → CallSem C.P f args bx E K
  tabY : ∀ c args bx E K, C.opt.om = some c → C.tabY args bx E K → YieldSem (some c) C.P args bx E K := by intro c args bx E K h; cases h

theorem tabF_sound {C : Cx} (hC : CxOK C) : CallOK C.opt.om C.P (tabF C) := by
  intro f args bx E K h
  unfold tabF at h
  split at h
  · rename_i hf
    rw [if_pos hf]
    cases hc : C.opt.om with
    | none => rw [hc] at h; exact h.elim
    | some c => rw [hc] at h; exact hC.tabY c args bx E K hc h
  rename_i hf
  rw [if_neg hf]
  split at h
  · exact hC.tabB f args bx E K h
  · intro w0 mu ρ w vs hR hd
    obtain ⟨args', bx2, E2, h1, h2, h3⟩ := pubW_sound 16 args bx E vs h hR hd
    exact (TabSem.call (bx := bx2) (hC.tab f args' E2 _ h3)) w0 mu ρ w vs h2 h1

theorem noY_P (C : Cx) : C.noY.P = C.P := by unfold Cx.noY; split <;> rfl
theorem noY_om (C : Cx) : C.noY.opt.om = none := by unfold Cx.noY; split <;> simp_all
theorem CxOK.noY {C : Cx} (hC : CxOK C) : CxOK C.noY := by
  unfold Cx.noY
  split
  · exact hC
  · exact ⟨hC.tab, hC.wide, hC.inl, hC.tabB, fun c args bx E K h => by cases h⟩

theorem callF_sound : ∀ (n : Nat) {C : Cx}, CxOK C → CallOK C.opt.om C.P (callF C n)
  | 0, C, hC, f, args, bx, E, K, h => tabF_sound hC f args bx E K h
  | n + 1, C, hC, f, args, bx, E, K, h => by
    unfold callF at h
    split at h
    · rename_i hi
      simp only [Bool.and_eq_true, bne_iff_ne] at hi
      split at h
      · rename_i fn hf
        have h1 : CallOK none C.P (callF C.noY n) := by
          have := callF_sound n hC.noY
          rw [noY_P, noY_om] at this; exact this
        rw [if_neg hi.2]
        exact (enterW_sound (un := { C.opt with cuts := [], om := none }) h1 hC.wide hf (hC.inl f fn hi.1 hf) h).out
      · exact h.elim
    · exact tabF_sound hC f args bx E K h

/-- A function's text, entered with boxes that it may write. -/
def EntB (C : Cx) (n : Nat) (fn : Func) (args : List SV) (bx : List Box) (E : Mem) (K : KT) : Prop := enterN C.P (callN C n) C.muts C.opt fn args bx E K

/-- A function's text, entered with values. -/
def Ent (C : Cx) (n : Nat) (fn : Func) (args : List SV) (E : Mem) (K : SV → Mem → Prop) : Prop := enterN C.P (callN C n) C.muts C.opt fn args [] E (pubK E K)

/-- A loop of a function's text, by its path. -/
def Lp (C : Cx) (n : Nat) (fn : Func) (p : List Nat) (n0 : Nat) (K : KT) (S : St) : Prop :=
  LoopP C.P C.opt.om n0 (sub (bodyOf fn) (p ++ [0])) (contN C.P (callN C n) C.muts { C.opt with base := n0 } (bodyOf fn) p (bodyN C.P fn K)) S

/-- One round of it. -/
def Rnd (C : Cx) (n : Nat) (fn : Func) (p : List Nat) (n0 : Nat) (K : KT) (S : St) : Prop :=
  codeN C.P (callN C n) C.muts { C.opt with base := n0 } (sub (bodyOf fn) (p ++ [0])) (fun e S' => match e with
    | .normal => nSt (S'.forget (dropOf C.opt (sub (bodyOf fn) (p ++ [0])))) (Lp C n fn p n0 K)
    | .exit id => contN C.P (callN C n) C.muts { C.opt with base := n0 } (bodyOf fn) p (bodyN C.P fn K) (.exit id) S'
    | .ret => contN C.P (callN C n) C.muts { C.opt with base := n0 } (bodyOf fn) p (bodyN C.P fn K) .ret S') S

/-- What is left of a function's text where it is cut, by its path. -/
def Ct (C : Cx) (n : Nat) (fn : Func) (p : List Nat) (n0 : Nat) (K : KT) (S : St) : Prop :=
  CutP C.P C.opt.om n0 (sub (bodyOf fn) p) (contN C.P (callN C n) C.muts { C.opt with base := n0 } (bodyOf fn) p (bodyN C.P fn K)) S
/-- It, walked. -/
def Pc (C : Cx) (n : Nat) (fn : Func) (p : List Nat) (n0 : Nat) (K : KT) (S : St) : Prop :=
  codeN C.P (callN C n) C.muts { C.opt with base := n0 } (sub (bodyOf fn) p) (contN C.P (callN C n) C.muts { C.opt with base := n0 } (bodyOf fn) p (bodyN C.P fn K)) S

theorem EntB.semO {C : Cx} (hC : CxOK C) {n : Nat} {f : FuncId} {fn : Func} (hf : C.P.funcs[f]? = some fn) (hok : okFn fn) {args : List SV} {bx : List Box} {E : Mem} {K : KT}
    (h : EntB C n fn args bx E K) : CallSemO C.opt.om C.P f args bx E K := by
  unfold EntB at h
  rw [enterN_eq, callN_eq] at h
  exact enterW_sound (callF_sound n hC) hC.wide hf hok h

theorem EntB.sem {C : Cx} (hC : CxOK C) {n : Nat} {f : FuncId} {fn : Func} (hf : C.P.funcs[f]? = some fn) (hok : okFn fn) {args : List SV} {bx : List Box} {E : Mem} {K : KT}
    (h : EntB C n fn args bx E K) (ho : C.opt.om = none := by rfl) : CallSem C.P f args bx E K := by
  have := EntB.semO hC hf hok h
  rw [ho] at this
  exact this.out

theorem Ent.sem {C : Cx} (hC : CxOK C) {n : Nat} {f : FuncId} {fn : Func} (hf : C.P.funcs[f]? = some fn) (hok : okFn fn) {args : List SV} {vs : List Value} {E : Mem} {K : SV → Mem → Prop}
    (hv : SV.valL args = some vs) (h : Ent C n fn args E K) (ho : C.opt.om = none := by rfl) : TabSem C.P f args E K := by
  unfold Ent at h
  rw [enterN_eq, callN_eq] at h
  have := enterW_sound (callF_sound n hC) hC.wide hf hok h
  rw [ho] at this
  exact TabSem.intro hv this

/-- As a function that keeps its own rows: what it makes is handed to the caller. -/
theorem Ent.own {C : Cx} (hC : CxOK C) {n : Nat} {f : FuncId} {fn : Func} (hf : C.P.funcs[f]? = some fn) (hok : okFn fn) {args : List SV} {E : Mem} {K : KT}
    (h : EntB C n fn args [] E K) (ho : C.opt.om = none := by rfl) : CallSem C.P f args [] E K := EntB.sem hC hf hok h ho

theorem Lp_ind {C : Cx} (hC : CxOK C) {n : Nat} {fn : Func} {p : List Nat} {n0 : Nat} {K : KT} {ι : Type} (Sh : ι → St) (μ : ι → Nat)
    (h : ∀ i, (∀ j, μ j < μ i → Lp C n fn p n0 K (Sh j)) → Rnd C n fn p n0 K (Sh i)) : ∀ i, Lp C n fn p n0 K (Sh i) := by
  simp only [Lp, Rnd, contN_eq, callN_eq, bodyN_eq, codeN_eq, nSt_eq] at h ⊢
  exact LoopP_ind (callF_sound n hC) hC.wide (inl := C.muts) (un := { C.opt with base := n0 }) Sh μ h

theorem Ct_intro {C : Cx} (hC : CxOK C) {n : Nat} {fn : Func} {p : List Nat} {n0 : Nat} {K : KT} {S : St} (h : Pc C n fn p n0 K S) : Ct C n fn p n0 K S := by
  unfold Pc at h
  rw [codeN_eq] at h
  have h2 : codeW C.P (callF C n) C.muts { C.opt with base := n0 } (sub (bodyOf fn) p) (contN C.P (callN C n) C.muts { C.opt with base := n0 } (bodyOf fn) p (bodyN C.P fn K)) S := by
    rw [callN_eq C n] at h ⊢; exact h
  exact CutP_intro (callF_sound n hC) hC.wide (inl := C.muts) (un := { C.opt with base := n0 }) h2
theorem Ct_weak {C : Cx} {n : Nat} {fn : Func} {p : List Nat} {n0 : Nat} {K : KT} {S T : St} (hw : S.weak T) (h : Ct C n fn p n0 K T) : Ct C n fn p n0 K S := CutP_weak hw h
theorem Ct_wk {C : Cx} {n : Nat} {fn : Func} {p : List Nat} {n0 : Nat} {K : KT} {S T : St} (τ : Tau) (hw : S.wk n0 τ T) (h : Ct C n fn p n0 K T) : Ct C n fn p n0 K S := CutP_wk hw h
theorem Lp_weak {C : Cx} {n : Nat} {fn : Func} {p : List Nat} {n0 : Nat} {K : KT} {S T : St} (hw : S.weak T) (h : Lp C n fn p n0 K T) : Lp C n fn p n0 K S := LoopP_weak hw h

theorem Lp_wk {C : Cx} {n : Nat} {fn : Func} {p : List Nat} {n0 : Nat} {K : KT} {S T : St} (τ : Tau) (hw : S.wk n0 τ T) (h : Lp C n fn p n0 K T) : Lp C n fn p n0 K S := LoopP_wk hw h

/-- A goal, in another form that the kernel takes for the same. -/
theorem same {p q : Prop} (e : p = q) (h : q) : p := e.mpr h

attribute [irreducible] Ent EntB Lp Rnd Ct Pc

end
end Go.Sx
