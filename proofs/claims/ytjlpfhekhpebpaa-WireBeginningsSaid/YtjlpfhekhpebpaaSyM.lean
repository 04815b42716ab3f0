/- The symbolic evaluator, part M: calls in place, contracts, and their soundness. Conditions: none; generic over programs. -/
import Derived.Test.YtjlpfhekhpebpaaSyL
import Derived.Test.YtjlpfhekhpebpaaSyT
namespace Go.Sx
open Go.RowKit (Below)

section
variable {P : Program} {callW : CallT}

def resOf (tmps : Array Value) : ResultVar → Sem Value
  | .tmp t => pure (tmps.getD t undef)
  | .cell t T => do loadVar T (← asAddr (tmps.getD t undef))

theorem retVar_den {S : St} {a : Act} {w w0 : World} {mu : Fm} {ρ : Env} (hR : Rel w0 mu S.bx S.E ρ w) (hF : FrRel ρ S.fr a.tmps) {x : ResultVar} {s : SV} (h : retVar P S x = some s) :
    ∃ v, s.den ρ = some v ∧ (resOf a.tmps x).run P w = .ok v w := by
  cases x with
  | tmp t => exact ⟨_, opd_den hF (x := .tmp t) h, rfl⟩
  | cell t T =>
    simp only [retVar] at h
    split at h
    case h_2 => cases h
    rename_i b off hs
    split at h
    case h_2 => cases h
    rename_i y hy
    have hd := opd_den hF hs
    simp only [SV.den] at hd
    obtain ⟨c, hc, e⟩ := locDen_some hd
    obtain ⟨v, h1, h2⟩ := load_sound (P := P) hR hy h hd
    refine ⟨v, h1, ?_⟩
    have e' : a.tmps.getD t undef = .pointer (some (c.add off)) := e
    simp only [resOf, e', asAddr, Sem.run_bind, Sem.run_pure, Result.andThen_ok]
    simp only [Instr.loadAt, Instr.sureAddr, Sem.run_bind] at h2
    rw [show a.eval (.tmp t) = .pointer (some (c.add off)) from e] at h2
    simpa using h2

theorem retVars_den {S : St} {a : Act} {w w0 : World} {mu : Fm} {ρ : Env} (hR : Rel w0 mu S.bx S.E ρ w) (hF : FrRel ρ S.fr a.tmps) : ∀ {l : List ResultVar} {ss : List SV}, retVars P S l = some ss →
    ∃ vs, SV.denL ρ ss = some vs ∧ (l.mapM (resOf a.tmps)).run P w = .ok vs w
  | [], _, h => by simp only [retVars, Option.some.injEq] at h; subst h; exact ⟨[], rfl, by simp⟩
  | x :: l, _, h => by
    simp only [retVars] at h
    split at h
    case h_2 => cases h
    rename_i s ss h1 h2
    simp only [Option.some.injEq] at h; subst h
    obtain ⟨v, h3, h4⟩ := retVar_den (P := P) hR hF h1
    obtain ⟨vs, h5, h6⟩ := retVars_den hR hF h2
    refine ⟨v :: vs, by simp only [SV.denL, h3, h5], ?_⟩
    simp only [List.mapM_cons, Sem.run_bind, h4, h6, Result.andThen_ok, Sem.run_pure]

theorem retW_sound {fn : Func} {S : St} {a : Act} {w w0 : World} {mu : Fm} {ρ : Env} {K : KT} (hR : Rel w0 mu S.bx S.E ρ w) (hF : FrRel ρ S.fr a.tmps) (h : retW P fn S K) :
    ∃ v s, (results fn a.tmps).run P w = .ok v w ∧ s.den ρ = some v ∧ K s S.bx S.E := by
  have hres : ∀ {vs : List Value}, (fn.results.toList.mapM (resOf a.tmps)).run P w = .ok vs w →
      (results fn a.tmps).run P w = .ok (if h : vs.toArray.size = 1 then vs.toArray[0] else .tuple vs.toArray) w := by
    intro vs hvs
    have hm : (fn.results.mapM (resOf a.tmps)).run P w = .ok vs.toArray w := by
      rw [Array.mapM_eq_mapM_toList]
      simp only [Sem.run_map, hvs, Result.andThen_ok]
    have he : results fn a.tmps = (do
        let vs ← fn.results.mapM (resOf a.tmps)
        pure (if h : vs.size = 1 then vs[0] else .tuple vs)) := by
      unfold results
      congr 1
      try congr 1
      try (funext x; cases x <;> rfl)
    rw [he, Sem.run_bind, hm]
    rfl
  unfold retW at h
  split at h
  · rename_i s hs
    obtain ⟨vs, h1, h2⟩ := retVars_den (P := P) hR hF hs
    have h3 := hres h2
    have hl := denL_length h1
    match vs, hl, h1, h3 with
    | [v], _, h1, h3 =>
      refine ⟨v, s, by simpa using h3, ?_, h⟩
      simp only [SV.denL] at h1
      split at h1
      · rename_i x ys e1 e2
        simp only [Option.some.injEq, List.cons.injEq] at e2 h1
        rw [e1, h1.1]
      · cases h1
  · rename_i ss hne hs
    obtain ⟨vs, h1, h2⟩ := retVars_den (P := P) hR hF hs
    have h3 := hres h2
    have hl := denL_length h1
    have hsz : vs.toArray.size ≠ 1 := by
      intro e
      simp only [List.size_toArray] at e
      rw [hl] at e
      match ss, e with
      | [s], _ => exact hne s rfl
    rw [dif_neg hsz] at h3
    exact ⟨_, .tup ss, h3, by simp only [SV.den, h1, Option.map_some], h⟩
  · exact h.elim

theorem bodyQ_sound {fn : Func} {w0 : World} {mu : Fm} {ρ : Env} {K : KT} : ∀ (e : Exit) (a : Act) (w : World), LiftQ w0 mu ρ (bodyQ P fn K) e a w → bodyPost P fn (CallPost w0 mu ρ K) e a w
  | .normal, a, w, h => by
    obtain ⟨hd, S, ρ', hp, hR, hF, h⟩ := h
    obtain ⟨v, s, h1, h2, h3⟩ := retW_sound hR hF h
    exact ⟨hd, v, h1, v, s, S.bx, S.E, ρ', rfl, hp, h2, hR, h3⟩
  | .ret, a, w, h => by
    obtain ⟨hd, S, ρ', hp, hR, hF, h⟩ := h
    obtain ⟨v, s, h1, h2, h3⟩ := retW_sound hR hF h
    exact ⟨hd, v, h1, v, s, S.bx, S.E, ρ', rfl, hp, h2, hR, h3⟩
  | .exit _, a, w, h => by obtain ⟨_, _, _, _, _, _, h⟩ := h; exact h.elim
  | .goto _, a, w, h => h.elim
  | .panic _, a, w, h => h.elim
  | .outgrown, a, w, h => h.elim

/-- The name and the body of a function that is entered. -/
def okFn (fn : Func) : Prop := (fn.name == "runtime.NumGoroutine") = false ∧ fn.body.isNone = false

theorem enterW_sound (hcall : CallOK P callW) (hm : P.follows .mixedOrders = true) {inl : Op → Bool} {un : Opt} {f : FuncId} {fn : Func} (hf : P.funcs[f]? = some fn) (hok : okFn fn)
    {args : List SV} {bx : List Box} {E : Mem} {K : KT} (h : enterW P callW inl un fn args bx E K) : CallSem P f args bx E K := by
  refine ⟨⟨fn, hf, hok.1, hok.2⟩, ?_⟩
  intro w0 mu ρ w vs hR hd
  unfold enterW at h
  split at h
  case h_2 => exact h.elim
  rename_i c hc
  split at h
  case isFalse => exact h.elim
  rename_i hle
  refine calls_of_wp hf hc (Code.wp_mono bodyQ_sound (codeW_sound hcall hm (inl := inl) (un := { un with base := bx.length }) c _ w0 mu ρ _ w (Nat.le_of_eq hR.len) ⟨rfl, _, ρ, List.prefix_refl _, ?_, ?_, h⟩))
  · exact hR
  · have hl := denL_length hd
    refine ⟨by simp; omega, fun i s hs => ?_⟩
    simp only at hs ⊢
    by_cases hi : i < args.length
    · rw [List.getElem?_append_left (by simpa using hi), List.getElem?_map] at hs
      cases hai : args[i]? with
      | none => rw [hai] at hs; cases hs
      | some s' =>
        rw [hai] at hs
        simp only [Option.map_some, Option.some.injEq] at hs; subst hs
        obtain ⟨v, h1, h2⟩ := denL_get hd hai
        exact ⟨v, by rw [Array.getElem?_append_left (by simp; omega)]; simpa using h1, h2⟩
    · rw [List.getElem?_append_right (by simpa using Nat.le_of_not_lt hi)] at hs
      have := List.mem_of_getElem? hs
      simp at this

/-- Whatever is handed out, something lies there. -/
theorem pubW_some {K : List SV → List Box → Mem → Prop} : ∀ (n : Nat) (ss : List SV) (bx : List Box) (E : Mem), pubW n ss bx E K → ∃ ss' bx' E', K ss' bx' E'
  | 0, _, _, _, h => h.elim
  | n + 1, ss, bx, E, h => by
    unfold pubW at h
    split at h
    · exact ⟨_, _, _, h⟩
    · rename_i b0 hb0
      obtain ⟨b, hbd⟩ : ∃ b, deep bx 4 b0 = b := ⟨_, rfl⟩
      rw [hbd] at h
      simp only at h
      split at h
      case h_2 => exact h.elim
      split at h
      case h_2 => exact h.elim
      exact pubW_some n _ _ _ (h (some ⟨0, 0, none⟩) (fun _ _ => True) (fun _ _ _ => trivial) ⟨(fun e => by cases e), fun _ _ _ _ _ => trivial⟩)

structure CxOK (C : Cx) : Prop where
  tab : TabOK C.P C.tab
  wide : C.P.follows .mixedOrders = true
  inl : ∀ f fn, C.inl f = true → C.P.funcs[f]? = some fn → okFn fn
  tabB : ∀ f args bx E K, C.tabB f args bx E K → CallSem C.P f args bx E K

theorem tabF_sound {C : Cx} (hC : CxOK C) : CallOK C.P (tabF C) := by
  intro f args bx E K h
  unfold tabF at h
  split at h
  · exact hC.tabB f args bx E K h
  · obtain ⟨ss', bx', E', h0⟩ := pubW_some _ _ _ _ h
    refine ⟨(hC.tab f ss' E' _ h0).1, ?_⟩
    intro w0 mu ρ w vs hR hd
    obtain ⟨args', bx2, E2, h1, h2, h3⟩ := pubW_sound 16 args bx E vs h hR hd
    exact (TabSem.call (bx := bx2) (hC.tab f args' E2 _ h3)).2 w0 mu ρ w vs h2 h1

theorem callF_sound {C : Cx} (hC : CxOK C) : ∀ n, CallOK C.P (callF C n)
  | 0, f, args, bx, E, K, h => tabF_sound hC f args bx E K h
  | n + 1, f, args, bx, E, K, h => by
    unfold callF at h
    split at h
    · rename_i hi
      split at h
      · rename_i fn hf
        exact enterW_sound (callF_sound hC n) hC.wide hf (hC.inl f fn hi hf) h
      · exact h.elim
    · exact tabF_sound hC f args bx E K h

/-- A function's text, entered with boxes that it may write. -/
def EntB (C : Cx) (n : Nat) (fn : Func) (args : List SV) (bx : List Box) (E : Mem) (K : KT) : Prop := enterN C.P (callN C n) C.muts C.opt fn args bx E K

/-- A function's text, entered with values. -/
def Ent (C : Cx) (n : Nat) (fn : Func) (args : List SV) (E : Mem) (K : SV → Mem → Prop) : Prop := enterN C.P (callN C n) C.muts C.opt fn args [] E (pubK E K)

/-- A loop of a function's text, by its path. -/
def Lp (C : Cx) (n : Nat) (fn : Func) (p : List Nat) (n0 : Nat) (K : KT) (S : St) : Prop :=
  LoopP C.P n0 (sub (bodyOf fn) (p ++ [0])) (contN C.P (callN C n) C.muts { C.opt with base := n0 } (bodyOf fn) p (bodyN C.P fn K)) S

/-- One round of it. -/
def Rnd (C : Cx) (n : Nat) (fn : Func) (p : List Nat) (n0 : Nat) (K : KT) (S : St) : Prop :=
  codeN C.P (callN C n) C.muts { C.opt with base := n0 } (sub (bodyOf fn) (p ++ [0])) (fun e S' => match e with
    | .normal => nSt (S'.forget (dropOf C.opt (sub (bodyOf fn) (p ++ [0])))) (Lp C n fn p n0 K)
    | .exit id => contN C.P (callN C n) C.muts { C.opt with base := n0 } (bodyOf fn) p (bodyN C.P fn K) (.exit id) S'
    | .ret => contN C.P (callN C n) C.muts { C.opt with base := n0 } (bodyOf fn) p (bodyN C.P fn K) .ret S') S

/-- What is left of a function's text where it is cut, by its path. -/
def Ct (C : Cx) (n : Nat) (fn : Func) (p : List Nat) (n0 : Nat) (K : KT) (S : St) : Prop :=
  CutP C.P n0 (sub (bodyOf fn) p) (contN C.P (callN C n) C.muts { C.opt with base := n0 } (bodyOf fn) p (bodyN C.P fn K)) S
/-- It, walked. -/
def Pc (C : Cx) (n : Nat) (fn : Func) (p : List Nat) (n0 : Nat) (K : KT) (S : St) : Prop :=
  codeN C.P (callN C n) C.muts { C.opt with base := n0 } (sub (bodyOf fn) p) (contN C.P (callN C n) C.muts { C.opt with base := n0 } (bodyOf fn) p (bodyN C.P fn K)) S

theorem EntB.sem {C : Cx} (hC : CxOK C) {n : Nat} {f : FuncId} {fn : Func} (hf : C.P.funcs[f]? = some fn) (hok : okFn fn) {args : List SV} {bx : List Box} {E : Mem} {K : KT}
    (h : EntB C n fn args bx E K) : CallSem C.P f args bx E K := by
  unfold EntB at h
  rw [enterN_eq, callN_eq] at h
  exact enterW_sound (callF_sound hC n) hC.wide hf hok h

theorem Ent.sem {C : Cx} (hC : CxOK C) {n : Nat} {f : FuncId} {fn : Func} (hf : C.P.funcs[f]? = some fn) (hok : okFn fn) {args : List SV} {vs : List Value} {E : Mem} {K : SV → Mem → Prop}
    (hv : SV.valL args = some vs) (h : Ent C n fn args E K) : TabSem C.P f args E K := by
  unfold Ent at h
  rw [enterN_eq, callN_eq] at h
  exact TabSem.intro hv (enterW_sound (callF_sound hC n) hC.wide hf hok h)

/-- As a function that keeps its own rows: what it makes is handed to the caller. -/
theorem Ent.own {C : Cx} (hC : CxOK C) {n : Nat} {f : FuncId} {fn : Func} (hf : C.P.funcs[f]? = some fn) (hok : okFn fn) {args : List SV} {E : Mem} {K : KT}
    (h : EntB C n fn args [] E K) : CallSem C.P f args [] E K := EntB.sem hC hf hok h

theorem Lp_ind {C : Cx} (hC : CxOK C) {n : Nat} {fn : Func} {p : List Nat} {n0 : Nat} {K : KT} {ι : Type} (Sh : ι → St) (μ : ι → Nat)
    (h : ∀ i, (∀ j, μ j < μ i → Lp C n fn p n0 K (Sh j)) → Rnd C n fn p n0 K (Sh i)) : ∀ i, Lp C n fn p n0 K (Sh i) := by
  simp only [Lp, Rnd, contN_eq, callN_eq, bodyN_eq, codeN_eq, nSt_eq] at h ⊢
  exact LoopP_ind (callF_sound hC n) hC.wide (inl := C.muts) (un := { C.opt with base := n0 }) Sh μ h

theorem Ct_intro {C : Cx} (hC : CxOK C) {n : Nat} {fn : Func} {p : List Nat} {n0 : Nat} {K : KT} {S : St} (h : Pc C n fn p n0 K S) : Ct C n fn p n0 K S := by
  unfold Pc at h
  rw [codeN_eq] at h
  have h2 : codeW C.P (callF C n) C.muts { C.opt with base := n0 } (sub (bodyOf fn) p) (contN C.P (callN C n) C.muts { C.opt with base := n0 } (bodyOf fn) p (bodyN C.P fn K)) S := by
    rw [callN_eq C n] at h ⊢; exact h
  exact CutP_intro (callF_sound hC n) hC.wide (inl := C.muts) (un := { C.opt with base := n0 }) h2
theorem Ct_weak {C : Cx} {n : Nat} {fn : Func} {p : List Nat} {n0 : Nat} {K : KT} {S T : St} (hw : S.weak T) (h : Ct C n fn p n0 K T) : Ct C n fn p n0 K S := CutP_weak hw h
theorem Ct_wk {C : Cx} {n : Nat} {fn : Func} {p : List Nat} {n0 : Nat} {K : KT} {S T : St} (τ : Tau) (hw : S.wk n0 τ T) (h : Ct C n fn p n0 K T) : Ct C n fn p n0 K S := CutP_wk hw h
theorem Lp_weak {C : Cx} {n : Nat} {fn : Func} {p : List Nat} {n0 : Nat} {K : KT} {S T : St} (hw : S.weak T) (h : Lp C n fn p n0 K T) : Lp C n fn p n0 K S := LoopP_weak hw h

theorem Lp_wk {C : Cx} {n : Nat} {fn : Func} {p : List Nat} {n0 : Nat} {K : KT} {S T : St} (τ : Tau) (hw : S.wk n0 τ T) (h : Lp C n fn p n0 K T) : Lp C n fn p n0 K S := LoopP_wk hw h

/-- A goal, in another form that the kernel takes for the same. -/
theorem same {p q : Prop} (e : p = q) (h : q) : p := e.mpr h

attribute [irreducible] Ent EntB Lp Rnd Ct Pc

end
end Go.Sx
