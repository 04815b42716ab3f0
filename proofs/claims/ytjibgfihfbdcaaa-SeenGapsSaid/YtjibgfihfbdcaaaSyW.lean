/- The symbolic evaluator, part W: results whose boxes are chosen anew; contracts of functions that are handed boxes. Conditions: none; generic over programs. -/
import Derived.Test.YtjibgfihfbdcaaaSyV
namespace Go.Sx
open Go
/-- A result, with its boxes chosen anew. -/
def cloK (n0 : Nat) (K : KT) : KT := fun s bx E => ∃ τ s' bx' E', St.wk n0 τ ⟨[some s], bx, E⟩ ⟨[some s'], bx', E'⟩ ∧ K s' bx' E'

theorem Lift_wk {n0 : Nat} {τ : Tau} {S T : St} (hw : S.wk n0 τ T) {w0 : World} {mu : Fm} {ρ0 : Env} {a : Act} {w : World} (hn : ρ0.length ≤ n0)
    (h : Lift w0 mu ρ0 (fun S' => S' = S) a w) : Lift w0 mu ρ0 (fun S' => S' = T) a w :=
  (AtP_wk (n0 := n0) (Φ := fun w0 mu ρ0 a w => Lift w0 mu ρ0 (fun S' => S' = T) a w) hw ⟨fun _ _ _ _ _ _ h => h⟩).out w0 mu ρ0 a w hn h

theorem CallSem.clo {P : Program} {f : FuncId} {args : List SV} {bx : List Box} {E : Mem} {K : KT} (h : CallSem P f args bx E (cloK bx.length K)) : CallSem P f args bx E K := by
  refine fun w0 mu ρ w vs hR hv => ?_
  refine (h w0 mu ρ w vs hR hv).mono fun e w' hp => ?_
  obtain ⟨v, s, bx', E', ρ', rfl, hpre, hs, hR', τ, s', bx'', E'', hw, hK⟩ := hp
  have hl : Lift w0 ⟨mu.mu, mu.E0, none, []⟩ ρ (fun S' => S' = (⟨[some s], bx', E'⟩ : St)) { tmps := #[v], defers := [] } w' :=
    ⟨⟨rfl, trivial⟩, _, ρ', hpre, Rel.cast (mu := mu) rfl rfl hR', ⟨rfl, fun i t ht => by
      match i, ht with
      | 0, ht => simp at ht; subst ht; exact ⟨v, rfl, hs⟩⟩, rfl⟩
  obtain ⟨_, _, ρ2, hp2, hR2, hF2, rfl⟩ := Lift_wk hw (by rw [hR.len]; exact Nat.le_refl _) hl
  obtain ⟨v2, h1, h2⟩ := hF2.2 0 s' rfl
  simp at h1; subst h1
  exact ⟨v, s', bx'', E'', ρ2, rfl, hp2, h2, Rel.cast (mu := ⟨mu.mu, mu.E0, none, []⟩) rfl rfl hR2, hK⟩
theorem cloK_intro {n0 : Nat} {K : KT} (τ : Tau) {s s' : SV} {bx bx' : List Box} {E E' : Mem} (h : K s' bx' E') (hw : St.wk n0 τ ⟨[some s], bx, E⟩ ⟨[some s'], bx', E'⟩) : cloK n0 K s bx E := ⟨τ, s', bx', E', hw, h⟩
/-- A row of the caller's own, handed over and given up; a new one comes back. -/
theorem CallSem.own1 {P : Program} {f : FuncId} {bx : List Box} {b : Nat} {e : TypeId} {vs : List Value} {tot n cap : Nat} {rest : List SV} {restv : List Value} {E : Mem} {K : KT} (hb : bx[b]? = some ⟨e, .vals vs, tot, true⟩) (hr : SV.valL rest = some restv)
    (h : CallSem P f (.slc 0 0 n cap :: rest) [⟨e, .vals vs, tot, true⟩] E (cloK 1 fun s bx' E' => ∃ n' cap' vs' tot', s = .slc 1 0 n' cap' ∧ bx' = [⟨e, .lst [], 0, false⟩, ⟨e, .vals vs', tot', true⟩] ∧ K (.slc bx.length 0 n' cap') (bx.set b ⟨e, .lst [], 0, false⟩ ++ [⟨e, .vals vs', tot', true⟩]) E')) :
    CallSem P f (.slc b 0 n cap :: rest) bx E K := by
  refine frame (σ := [b]) ⟨by simp, rfl, fun i y hy => ?_⟩ ?_ h.clo ?_
  · match i, hy with
    | 0, hy =>
      simp only [List.getElem?_cons_zero, Option.some.injEq] at hy; subst hy
      exact ⟨rfl, b, rfl, hb⟩
  · simp only [SV.renL, SV.ren, renF, List.getElem?_cons_zero, renL_of_val _ _ _ hr]
  · rintro s bxs' E' ⟨n', cap', vs', tot', rfl, rfl, hK⟩
    simpa [merge, setAll, SV.ren, renF, Box.ren, Row.ren, SV.renL] using hK
/-- Nothing is handed over; a new row comes back. -/
theorem CallSem.own0 {P : Program} {f : FuncId} {bx : List Box} {args : List SV} {argv : List Value} {E : Mem} {K : KT} (hr : SV.valL args = some argv)
    (h : CallSem P f args [] E (cloK 0 fun s bx' E' => ∃ n' cap' e vs' tot', s = .slc 0 0 n' cap' ∧ bx' = [⟨e, .vals vs', tot', true⟩] ∧ K (.slc bx.length 0 n' cap') (bx ++ [⟨e, .vals vs', tot', true⟩]) E')) :
    CallSem P f args bx E K := by
  refine frame0 hr h.clo ?_
  rintro s bxs' E' ⟨n', cap', e, vs', tot', rfl, rfl, hK⟩
  simpa [SV.ren, renF, Box.ren, Row.ren] using hK
/-- A byte string that nobody writes: a slice of its bytes. -/
def Bs (E : Mem) (b : Option Addr) (l c : Nat) (zs : List Int) : Prop := (zs = [] ∨ E (.slice b l c) (zs.map (.int .u8))) ∧ zs.length = l ∧ l ≤ c ∧ (∀ z ∈ zs, 0 ≤ z ∧ z ≤ 255) ∧ (b = none → zs = [])
theorem Bs.mono {E E' : Mem} {b : Option Addr} {l c : Nat} {zs : List Int} (h : Bs E b l c zs) (he : Mem.le E E') : Bs E' b l c zs := ⟨h.1.imp_right (he _ _), h.2⟩
theorem Bs.nil (E : Mem) : Bs E none 0 0 [] := ⟨.inl rfl, rfl, Nat.le_refl _, (fun z hz => by cases hz), fun _ => rfl⟩
theorem Bs.src {E : Mem} {b : Option Addr} {l c : Nat} {zs : List Int} (h : Bs E b l c zs) : (zs.map (Value.int .u8) = [] ∨ E (.slice b l c) (zs.map (.int .u8))) ∧ l * 1 ≤ (zs.map (Value.int .u8)).length ∧ ∀ x : Value, List.Mem x (zs.map (.int .u8)) → x.oneCell' = true :=
  ⟨h.1.imp_left fun e => by rw [e]; rfl, by simp [h.2.1], fun x hx => by
    obtain ⟨z, _, rfl⟩ := List.mem_map.1 hx
    rfl⟩
/-- What is handed out: a window of it. -/
theorem Bs.win {E : Mem} {base : Option Addr} {cs : List Value} (h : WinE E base cs) {zs : List Int} (e : cs = zs.map (.int .u8)) {l c : Nat} (hl : zs.length = l) (hc : l ≤ c) (hz : ∀ z ∈ zs, 0 ≤ z ∧ z ≤ 255) : Bs E (base.map fun x => x.add 0) l c zs := by
  subst e
  have := h.2 0 zs.length l c (by simp)
  simp only [List.drop_zero] at this
  rw [List.take_of_length_le (by simp)] at this
  exact ⟨.inr this, hl, hc, hz, fun e => by
    cases base with
    | none => have := h.1 rfl; rw [List.map_eq_nil_iff] at this; exact this
    | some a => cases e⟩
theorem Bs.load {E : Mem} {b : Option Addr} {l c : Nat} {zs : List Int} (h : Bs E b l c zs) {P : Program} {T : TypeId} (ht : P.underlying T = some (.int .u8)) {i : Nat} (hi : i < l) : LoadE P E T (.slice b l c) (i * 1) (.raw (.int .u8 (zs.getD i 0))) := by
  have hl : i < zs.length := by rw [h.2.1]; exact hi
  refine ⟨_, h.1.resolve_left (fun e => by rw [e] at hl; cases hl), ?_⟩
  unfold loadW
  rw [ht]
  simp [hl]
theorem Bs.ne {E : Mem} {b : Option Addr} {l c : Nat} {zs : List Int} (h : Bs E b l c zs) {i : Nat} (hi : i < l) : ∃ cs, E (.slice b l c) cs ∧ (cs = [] → False) := by
  have hl : i < zs.length := by rw [h.2.1]; exact hi
  exact ⟨_, h.1.resolve_left (fun e => by rw [e] at hl; cases hl), fun e => by rw [List.map_eq_nil_iff] at e; rw [e] at hl; cases hl⟩
/-- A byte string that a law is handed. -/
theorem Bs.of {W : World} {b : Option Addr} {l c : Nat} {zs : List Int} (hl : l ≤ c) (hb : b = none → c = 0) (hz : zs.length = c) (hw : ∀ x ∈ zs, (Lit.int .u8 x).wf = true) (hE : RowAt W (.slice b l c) (zs.map (.int .u8))) :
    Bs (fun v cs => RowAt W v cs) b l c (zs.take l) := by
  refine ⟨?_, by rw [List.length_take, hz]; omega, hl, fun z hz' => ?_, fun e => ?_⟩
  · rcases hE with h | ⟨a, len, cap, e, hs, h⟩
    · rw [List.map_eq_nil_iff] at h; exact .inl (by rw [h]; simp)
    · refine .inr (.inr ⟨a, len, cap, e, hs, fun i x hx => h i x ?_⟩)
      rw [List.map_take, List.getElem?_take] at hx
      split at hx
      · exact hx
      · cases hx
  · have := hw z (List.take_subset _ _ hz')
    simpa [Lit.wf, IntKind.min, IntKind.max, IntKind.signed, IntKind.bits] using this
  · have := hb e
    rw [this] at hz
    rw [List.length_eq_zero_iff.1 hz]; simp
end Go.Sx
