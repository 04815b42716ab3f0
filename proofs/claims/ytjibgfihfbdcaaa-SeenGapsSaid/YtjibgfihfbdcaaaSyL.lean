/- The symbolic evaluator, part L: code, calls in place, contracts, and their soundness. Conditions: none; generic over programs. -/
import Derived.Test.YtjibgfihfbdcaaaSyK
namespace Go.Sx
open Go.RowKit (Below)

section
variable {P : Program} {callW : CallT}

theorem LiftQ_mono {w0 : World} {mu : Fm} {ρ0 : Env} {Q Q' : Ex → St → Prop} (h : ∀ e S, Q e S → Q' e S) : ∀ (e : Exit) (a : Act) (w : World), LiftQ w0 mu ρ0 Q e a w → LiftQ w0 mu ρ0 Q' e a w
  | .normal, _, _, x => LiftR.mono x (h _)
  | .exit _, _, _, x => LiftR.mono x (h _)
  | .ret, _, _, x => x.imp_left fun y => LiftR.mono y (h _)
  | .panic _, _, _, x => x
  | .goto _, _, _, x => x
  | .outgrown, _, _, x => x

theorem LiftX.base {w0 w1 : World} {mu mu1 : Fm} {ρ0 : Env} {a : Act} {w : World} (hb : Base w0 mu w1 mu1) (ho : okO w0 mu) (h : LiftX w1 mu1 ρ0 a w) : LiftX w0 mu ρ0 a w :=
  let ⟨c, h1, _, w2, mu2, h2, h3⟩ := h; ⟨c, hb.om ▸ h1, ho, w2, mu2, hb.trans h2, h3⟩
theorem LiftQ_base {w0 w1 : World} {mu mu1 : Fm} {ρ0 : Env} {Q : Ex → St → Prop} (hb : Base w0 mu w1 mu1) (ho : okO w0 mu) : ∀ (e : Exit) (a : Act) (w : World), LiftQ w1 mu1 ρ0 Q e a w → LiftQ w0 mu ρ0 Q e a w
  | .normal, _, _, x => LiftR.base hb x
  | .exit _, _, _, x => LiftR.base hb x
  | .ret, _, _, x => x.imp (LiftR.base hb) (LiftX.base hb ho)
  | .panic _, _, _, x => x
  | .goto _, _, _, x => x
  | .outgrown, _, _, x => x

theorem thenQ {w0 : World} {mu : Fm} {ρ0 : Env} {Q : Ex → St → Prop} {M : St → Prop} {N : Act → World → Prop} (hN : ∀ a w, LiftR w0 mu ρ0 M a w → N a w) :
    ∀ (e : Exit) (a : Act) (w : World), LiftQ w0 mu ρ0 (fun e S' => match e with | .normal => M S' | .exit id => Q (.exit id) S' | .ret => Q .ret S') e a w → Exit.then N (LiftQ w0 mu ρ0 Q) e a w
  | .normal, a, w, x => hN a w x
  | .exit _, _, _, x => x
  | .ret, _, _, x => x
  | .panic _, _, _, x => x
  | .goto _, _, _, x => x
  | .outgrown, _, _, x => x

theorem then_mono {N N' : Act → World → Prop} {R : Exit → Act → World → Prop} (h : ∀ a w, N a w → N' a w) : ∀ (e : Exit) (a : Act) (w : World), Exit.then N R e a w → Exit.then N' R e a w
  | .normal, a, w, x => h a w x
  | .exit _, _, _, x => x
  | .ret, _, _, x => x
  | .panic _, _, _, x => x
  | .goto _, _, _, x => x
  | .outgrown, _, _, x => x

theorem then_mono2 {N : Act → World → Prop} {R R' : Exit → Act → World → Prop} (h : ∀ e a w, R e a w → R' e a w) : ∀ (e : Exit) (a : Act) (w : World), Exit.then N R e a w → Exit.then N R' e a w
  | .normal, _, _, x => x
  | .exit _, _, _, x => h _ _ _ x
  | .ret, _, _, x => h _ _ _ x
  | .panic _, _, _, x => h _ _ _ x
  | .goto _, _, _, x => h _ _ _ x
  | .outgrown, _, _, x => h _ _ _ x

theorem LoopLfp.fold {body : Code} {R : Exit → Act → World → Prop} {a : Act} {w : World} (h : body.wpIn Fence.wide 0 P (Exit.then (LoopLfp P body R) R) a w) : LoopLfp P body R a w :=
  fun I hI => hI a w (Code.wpIn_mono (then_mono fun _ _ x => x I hI) h)

theorem LoopLfp.unfold {body : Code} {R : Exit → Act → World → Prop} {a : Act} {w : World} (h : LoopLfp P body R a w) : body.wpIn Fence.wide 0 P (Exit.then (LoopLfp P body R) R) a w :=
  h (fun a w => body.wpIn Fence.wide 0 P (Exit.then (LoopLfp P body R) R) a w) fun _ _ x => Code.wpIn_mono (then_mono fun _ _ y => LoopLfp.fold y) x

theorem LoopLfp.mono {body : Code} {R R' : Exit → Act → World → Prop} (hR : ∀ e a w, R e a w → R' e a w) {a : Act} {w : World} (h : LoopLfp P body R a w) : LoopLfp P body R' a w :=
  fun I hI => h I fun a w x => hI a w (Code.wpIn_mono (then_mono2 hR) x)

/-- One round, and then what is known of the loop from its second round on. -/
theorem round_arrives {body : Code} {R : Exit → Act → World → Prop} {I : Act → World → Prop}
    (hI : ∀ a w, I a w → ∀ (b : Frame) (k : List Item) (cs : List Frame), ∃ e a' w', R e a' w' ∧ Arrives P (lone (b.at a (.inLoop body :: k)) cs w) b k cs e a' w')
    {a : Act} {w : World} (h : body.wp P (Exit.then I R) a w) (b : Frame) (k : List Item) (cs : List Frame) :
    ∃ e a' w', R e a' w' ∧ Arrives P (lone (b.at a (.code body :: .inLoop body :: k)) cs w) b k cs e a' w' := by
  obtain ⟨e, a₁, w₁, hq, harr⟩ := h b (.inLoop body :: k) cs
  cases e with
  | normal =>
    obtain ⟨e₂, a₂, w₂, hq₂, harr₂⟩ := hI _ _ hq b k cs
    exact ⟨e₂, a₂, w₂, hq₂, .of_steps harr harr₂⟩
  | exit id => exact ⟨_, a₁, w₁, hq, .pass (x := .inLoop body) rfl (fun _ _ => .inl (by simp)) harr⟩
  | goto l => exact ⟨_, a₁, w₁, hq, .pass (x := .inLoop body) rfl (fun _ _ => .inl (by simp)) harr⟩
  | ret => exact ⟨_, a₁, w₁, hq, .pass (x := .inLoop body) rfl (fun _ _ => .inl (by simp)) harr⟩
  | panic ch => exact ⟨_, a₁, w₁, hq, .pass (x := .inLoop body) rfl (fun _ _ => .inl (by simp)) harr⟩
  | outgrown => exact ⟨_, a₁, w₁, hq, .pass (x := .inLoop body) rfl (fun _ _ => .inl (by simp)) harr⟩

theorem LoopLfp.wp {body : Code} {R : Exit → Act → World → Prop} {a : Act} {w : World} (h : LoopLfp P body R a w) : (Code.loop body).wpIn Fence.wide 0 P R a w := by
  have key : ∀ a w, LoopLfp P body R a w → ∀ (b : Frame) (k : List Item) (cs : List Frame), ∃ e a' w', R e a' w' ∧ Arrives P (lone (b.at a (.inLoop body :: k)) cs w) b k cs e a' w' := by
    intro a w h
    refine h (fun a w => ∀ (b : Frame) (k : List Item) (cs : List Frame), ∃ e a' w', R e a' w' ∧ Arrives P (lone (b.at a (.inLoop body :: k)) cs w) b k cs e a' w') ?_
    intro a w hb b k cs
    obtain ⟨e, a', w', h1, h2⟩ := round_arrives (I := fun a w => ∀ (b : Frame) (k : List Item) (cs : List Frame), ∃ e a' w', R e a' w' ∧ Arrives P (lone (b.at a (.inLoop body :: k)) cs w) b k cs e a' w') (fun _ _ x => x) (wpIn_wide.1 hb) b k cs
    exact ⟨e, a', w', h1, .of_steps (.one step_inLoop) h2⟩
  refine wpIn_wide.2 fun b k cs => ?_
  obtain ⟨e, a', w', h1, h2⟩ := round_arrives key (wpIn_wide.1 h.unfold) b k cs
  exact ⟨e, a', w', h1, .of_steps (.one step_loop) h2⟩

/-! ### loops, for the prover -/
/-- Weaker: fewer slots and facts of memory are known. -/
def St.weak (S T : St) : Prop := S.bx = T.bx ∧ Mem.le T.E S.E ∧ S.fr.length = T.fr.length ∧ ∀ (i : Nat) s, T.fr[i]? = some (some s) → S.fr[i]? = some (some s)

/-- What holds of a state, wherever it stands. -/
structure AtP (n0 : Nat) (Φ : World → Fm → Env → Act → World → Prop) (S : St) : Prop where
  out : ∀ w0 mu (ρ0 : Env) a w, ρ0.length ≤ n0 → Lift w0 mu ρ0 (fun S' => S' = S) a w → Φ w0 mu ρ0 a w

theorem AtP_weak {n0 : Nat} {Φ : World → Fm → Env → Act → World → Prop} {S T : St} (hw : S.weak T) (h : AtP n0 Φ T) : AtP n0 Φ S := by
  refine ⟨fun w0 mu ρ0 a w hn hl => ?_⟩
  obtain ⟨hd, S', ρ, hp, hR, hF, rfl⟩ := hl
  obtain ⟨h1, h2, h3, h4⟩ := hw
  refine h.out w0 mu ρ0 a w hn ⟨hd, T, ρ, hp, ?_, ?_, rfl⟩
  · rw [← h1]; exact hR.weakE h2
  · exact ⟨h3 ▸ hF.1, fun i s hs => hF.2 i s (h4 i s hs)⟩

theorem LoopP_weak {Ω : Option Rc} {n0 : Nat} {body : Code} {Q : Ex → St → Prop} {S T : St} (hw : S.weak T) (h : LoopP P Ω n0 body Q T) : LoopP P Ω n0 body Q S :=
  ⟨(AtP_weak (Φ := fun w0 mu ρ0 a w => mu.om = Ω ∧ okE Ω ρ0 → LoopLfp P body (LiftQ w0 mu ρ0 Q) a w) hw ⟨h.out⟩).out⟩
theorem CutP_weak {Ω : Option Rc} {n0 : Nat} {c : Code} {Q : Ex → St → Prop} {S T : St} (hw : S.weak T) (h : CutP P Ω n0 c Q T) : CutP P Ω n0 c Q S :=
  ⟨(AtP_weak (Φ := fun w0 mu ρ0 a w => mu.om = Ω ∧ okE Ω ρ0 → c.wpIn Fence.wide 0 P (LiftQ w0 mu ρ0 Q) a w) hw ⟨h.out⟩).out⟩

/-! ### boxes chosen anew at the head of a loop -/
/-- Where a box of the later state comes from: a box of the earlier one, or nowhere (a nil slice). -/
abbrev Tau := List (Option Nat)

def tauN (τ : Tau) (N : Nat) : List Nat := τ.map (·.getD N)

def wkV (τ : Tau) (N : Nat) (s t : SV) : Prop :=
  s = t.ren (tauN τ N) N ∨ (s = .raw (.slice none 0 0) ∧ match t with
    | .slc j 0 0 0 => τ[j]? = some none
    | _ => False)

def wkFr (τ : Tau) (N : Nat) : List (Option SV) → List (Option SV) → Prop
  | [], [] => True
  | _ :: xs, none :: ys => wkFr τ N xs ys
  | some x :: xs, some y :: ys => wkV τ N x y ∧ wkFr τ N xs ys
  | _, _ => False

def wkCells (τ : Tau) (N : Nat) : List SV → List SV → Prop
  | [], [] => True
  | x :: xs, y :: ys => wkV τ N x y ∧ wkCells τ N xs ys
  | _, _ => False

def wkRow (τ : Tau) (N : Nat) (r q : Row) : Prop :=
  match q with
  | .vals vs => r.cells = vs.map .raw
  | .lst l => wkCells τ N r.cells l

def isDead (b : Box) : Bool :=
  match b.own, b.row, b.total with
  | false, .lst [], 0 => true
  | _, _, _ => false

def wkBx (τ : Tau) (N : Nat) (Sbx : List Box) : Nat → List Box → Prop
  | _, [] => True
  | j, b :: l => (match τ[j]? with
    | some (some k) => match isDead b with
      | true => k < N
      | false => match Sbx[k]? with
        | some c => c.elem = b.elem ∧ c.total = b.total ∧ c.own = b.own ∧ wkRow τ N c.row b.row
        | none => False
    | some none => b.row.cells = [] ∧ b.total = 0
    | none => False) ∧ wkBx τ N Sbx (j + 1) l

def liveSrc : Tau → List Box → List Nat
  | some k :: τ, b :: l => match isDead b with
    | true => liveSrc τ l
    | false => k :: liveSrc τ l
  | _ :: τ, _ :: l => liveSrc τ l
  | _, _ => []

/-- The later state knows less, and its boxes are those of τ. -/
structure St.wk (n0 : Nat) (τ : Tau) (S T : St) : Prop where
  base : n0 ≤ S.bx.length ∧ n0 ≤ τ.length ∧ ∀ j, j < n0 → τ[j]? = some (some j)
  len : T.bx.length = τ.length
  fr : wkFr τ S.bx.length S.fr T.fr
  bx : wkBx τ S.bx.length S.bx 0 T.bx
  live : (liveSrc τ T.bx).Nodup
  E : Mem.le T.E S.E

mutual
theorem ren_den1 {ρ ρ' : Env} {σ : List Nat} {n : Nat} (h : ∀ i x, ρ[renF σ n i]? = some x → ρ'[i]? = some x) : ∀ (s : SV) {v : Value}, (s.ren σ n).den ρ = some v → s.den ρ' = some v
  | .raw v, _, e => by simpa only [SV.ren, SV.den] using e
  | .loc b off, v, e => by
    simp only [SV.ren, SV.den] at e ⊢
    obtain ⟨a, h1, rfl⟩ := locDen_some e
    simp only [locDen, h _ _ h1]
  | .slc b off len cap, v, e => by
    simp only [SV.ren, SV.den] at e ⊢
    rcases slcDen_some e with ⟨c, h1, rfl⟩ | ⟨h1, rfl, rfl, rfl, rfl⟩
    · simp only [slcDen, h _ _ h1]
    · simp [slcDen, h _ _ h1]
  | .rp v off, _, e => by simpa only [SV.ren, SV.den] using e
  | .agg l, v, e => by
    simp only [SV.ren, SV.den, Option.map_eq_some_iff] at e ⊢
    obtain ⟨vs, h1, h2⟩ := e; exact ⟨vs, renL_den1 h l h1, h2⟩
  | .tup l, v, e => by
    simp only [SV.ren, SV.den, Option.map_eq_some_iff] at e ⊢
    obtain ⟨vs, h1, h2⟩ := e; exact ⟨vs, renL_den1 h l h1, h2⟩
  | .clo f m l, v, e => by
    simp only [SV.ren, SV.den] at e
    split at e
    · rename_i us vs h1 h2
      simp only [SV.den, renL_den1 h m h1, renL_den1 h l h2]; exact e
    · cases e
  | .ifc t x, v, e => by
    simp only [SV.ren, SV.den, Option.map_eq_some_iff] at e ⊢
    obtain ⟨vs, h1, h2⟩ := e; exact ⟨vs, ren_den1 h x h1, h2⟩
theorem renL_den1 {ρ ρ' : Env} {σ : List Nat} {n : Nat} (h : ∀ i x, ρ[renF σ n i]? = some x → ρ'[i]? = some x) : ∀ (l : List SV) {vs : List Value}, SV.denL ρ (SV.renL σ n l) = some vs → SV.denL ρ' l = some vs
  | [], _, e => by simpa only [SV.renL, SV.denL] using e
  | x :: l, vs, e => by
    simp only [SV.renL, SV.denL] at e
    split at e
    · rename_i v ws h1 h2
      simp only [SV.denL, ren_den1 h x h1, renL_den1 h l h2]; exact e
    · cases e
end

theorem wkFr_get {τ : Tau} {N : Nat} : ∀ {xs ys : List (Option SV)}, wkFr τ N xs ys → xs.length = ys.length ∧ ∀ (i : Nat) t, ys[i]? = some (some t) → ∃ s, xs[i]? = some (some s) ∧ wkV τ N s t
  | [], [], _ => ⟨rfl, fun i s h => by simp at h⟩
  | x :: xs, none :: ys, h => by
    have h' : wkFr τ N xs ys := by cases x <;> exact h
    obtain ⟨h1, h2⟩ := wkFr_get h'
    exact ⟨by simp [h1], fun i s hs => by cases i with
      | zero => simp at hs
      | succ i => simpa using h2 i s (by simpa using hs)⟩
  | some x :: xs, some y :: ys, h => by
    obtain ⟨hv, h'⟩ := h
    obtain ⟨h1, h2⟩ := wkFr_get h'
    exact ⟨by simp [h1], fun i s hs => by cases i with
      | zero => simp at hs; subst hs; exact ⟨x, by simp, hv⟩
      | succ i => simpa using h2 i s (by simpa using hs)⟩
  | [], _ :: _, h => h.elim
  | none :: _, some _ :: _, h => h.elim
  | _ :: _, [], h => by rename_i x _; cases x <;> exact h.elim

theorem wkBx_get {τ : Tau} {N : Nat} {Sbx : List Box} : ∀ {l : List Box} {j : Nat}, wkBx τ N Sbx j l → ∀ (i : Nat) b, l[i]? = some b →
    (∃ k, τ[j + i]? = some (some k) ∧ ((isDead b = true ∧ k < N) ∨ (isDead b = false ∧ ∃ c, Sbx[k]? = some c ∧ c.elem = b.elem ∧ c.total = b.total ∧ c.own = b.own ∧ wkRow τ N c.row b.row))) ∨
    (τ[j + i]? = some none ∧ b.row.cells = [] ∧ b.total = 0)
  | [], _, _, i, b, h => by simp at h
  | y :: l, j, h, 0, b, hb => by
    simp only [List.getElem?_cons_zero, Option.some.injEq] at hb
    subst hb
    have h1 := h.1
    rw [Nat.add_zero]
    split at h1
    · rename_i k hk
      left
      refine ⟨k, hk, ?_⟩
      split at h1
      · rename_i hd; exact .inl ⟨hd, h1⟩
      · rename_i hd
        split at h1
        · rename_i c hc; exact .inr ⟨hd, c, hc, h1⟩
        · exact h1.elim
    · rename_i hk; exact .inr ⟨hk, h1⟩
    · exact h1.elim
  | y :: l, j, h, i + 1, b, hb => by
    simp only [List.getElem?_cons_succ] at hb
    have := wkBx_get h.2 i b hb
    rwa [show j + 1 + i = j + (i + 1) by omega] at this

theorem liveSrc_mem : ∀ {τ : Tau} {l : List Box} (i k : Nat) (b : Box), τ[i]? = some (some k) → l[i]? = some b → isDead b = false → k ∈ liveSrc τ l
  | [], _, i, k, b, h, _, _ => by simp at h
  | _ :: _, [], i, k, b, _, h, _ => by simp at h
  | o :: τ, y :: l, 0, k, b, h1, h2, h3 => by
    simp only [List.getElem?_cons_zero, Option.some.injEq] at h1 h2
    subst h1; subst h2
    simp [liveSrc, h3]
  | o :: τ, y :: l, i + 1, k, b, h1, h2, h3 => by
    simp only [List.getElem?_cons_succ] at h1 h2
    have := liveSrc_mem i k b h1 h2 h3
    cases o with
    | none => simpa [liveSrc] using this
    | some k' =>
      simp only [liveSrc]
      split
      · exact this
      · exact List.mem_cons_of_mem _ this

theorem liveSrc_inj : ∀ {τ : Tau} {l : List Box}, (liveSrc τ l).Nodup → ∀ (i j k : Nat) (b c : Box), τ[i]? = some (some k) → l[i]? = some b → isDead b = false → τ[j]? = some (some k) → l[j]? = some c → isDead c = false → i = j
  | [], _, _, i, j, k, b, c, h, _, _, _, _, _ => by simp at h
  | _ :: _, [], _, i, j, k, b, c, _, h, _, _, _, _ => by simp at h
  | o :: τ, y :: l, hn, i, j, k, b, c, h1, h2, h3, g1, g2, g3 => by
    have hn' : (liveSrc τ l).Nodup := by
      cases o with
      | none => simpa [liveSrc] using hn
      | some k' =>
        simp only [liveSrc] at hn
        split at hn
        · exact hn
        · exact (List.nodup_cons.1 hn).2
    cases i with
    | zero =>
      cases j with
      | zero => rfl
      | succ j =>
        simp only [List.getElem?_cons_zero, List.getElem?_cons_succ, Option.some.injEq] at h1 h2 g1 g2
        subst h1; subst h2
        have := liveSrc_mem j k c g1 g2 g3
        simp only [liveSrc, h3] at hn
        exact absurd this (List.nodup_cons.1 hn).1
    | succ i =>
      cases j with
      | zero =>
        simp only [List.getElem?_cons_zero, List.getElem?_cons_succ, Option.some.injEq] at h1 h2 g1 g2
        subst g1; subst g2
        have := liveSrc_mem i k b h1 h2 h3
        simp only [liveSrc, g3] at hn
        exact absurd this (List.nodup_cons.1 hn).1
      | succ j =>
        simp only [List.getElem?_cons_succ] at h1 h2 g1 g2
        rw [liveSrc_inj hn' i j k b c h1 h2 h3 g1 g2 g3]

theorem isDead_live {b : Box} (h : isDead b = true) : b.own = false ∧ b.cells = [] ∧ b.total = 0 := by
  obtain ⟨e, r, t, o⟩ := b
  unfold isDead at h
  split at h
  · rename_i h1 h2 h3; simp only at h1 h2 h3; subst h1; subst h2; subst h3; exact ⟨rfl, rfl, rfl⟩
  · cases h

theorem wkCells_len {τ : Tau} {N : Nat} : ∀ {xs ys : List SV}, wkCells τ N xs ys → xs.length = ys.length
  | [], [], _ => rfl
  | x :: xs, y :: ys, h => by simp [wkCells_len h.2]
  | [], _ :: _, h => h.elim
  | _ :: _, [], h => h.elim

theorem AtP_wk {n0 : Nat} {τ : Tau} {Φ : World → Fm → Env → Act → World → Prop} {S T : St} (hw : S.wk n0 τ T) (h : AtP n0 Φ T) : AtP n0 Φ S := by
  refine ⟨fun w0 mu ρ0 a w hn hl => ?_⟩
  obtain ⟨hd, S', ρ, hp, hR, hF, rfl⟩ := hl
  obtain ⟨⟨hb1, hb2, hb3⟩, hlen, hfr, hbx, hlive, hE⟩ := hw
  have hρl := hR.len
  let src : Option Nat → Option Addr := fun o => match o with
    | some k => (ρ[k]?).getD none
    | none => none
  let ρT : Env := τ.map src
  have hρT : ∀ j : Nat, ρT[j]? = (τ[j]?).map src := fun j => List.getElem?_map
  have hρTs : ∀ (j k : Nat) o, τ[j]? = some (some k) → ρ[k]? = some o → ρT[j]? = some o := by
    intro j k o h1 h2
    rw [hρT, h1]
    simp [src, h2]
  have hpre : ρ0 <+: ρT := by
    obtain ⟨t, rfl⟩ := hp
    refine List.prefix_iff_getElem?.2 fun i hi => ?_
    refine hρTs i i _ (hb3 i (by omega)) ?_
    rw [List.getElem?_append_left hi, List.getElem?_eq_getElem hi]
  have hren : ∀ i x, ρ[renF (tauN τ S'.bx.length) S'.bx.length i]? = some x → ρT[i]? = some x := by
    intro i x hx
    unfold renF at hx
    cases hi : τ[i]? with
    | none =>
      have h1 : (tauN τ S'.bx.length)[i]? = none := by simp [tauN, hi]
      rw [h1] at hx
      simp only at hx
      rw [List.getElem?_eq_none (by omega)] at hx; cases hx
    | some o =>
      have h1 : (tauN τ S'.bx.length)[i]? = some (o.getD S'.bx.length) := by simp [tauN, hi]
      rw [h1] at hx
      simp only at hx
      cases o with
      | none => simp only [Option.getD_none] at hx; rw [List.getElem?_eq_none (by omega)] at hx; cases hx
      | some k => exact hρTs i k x hi hx
  have hwkV : ∀ {s t : SV} {v : Value}, wkV τ S'.bx.length s t → s.den ρ = some v → t.den ρT = some v := by
    intro s t v hv hs
    rcases hv with rfl | ⟨rfl, ht⟩
    · exact ren_den1 hren t hs
    · simp only [SV.den, Option.some.injEq] at hs; subst hs
      split at ht
      · rename_i j
        simp only [SV.den, slcDen, hρT, ht, Option.map_some, src]
        simp
      · exact ht.elim
  have hwkC : ∀ {xs ys : List SV} {vs : List Value}, wkCells τ S'.bx.length xs ys → SV.denL ρ xs = some vs → SV.denL ρT ys = some vs := by
    intro xs
    induction xs with
    | nil =>
      intro ys vs hc hs
      cases ys with
      | nil => exact hs
      | cons => exact hc.elim
    | cons x xs ih =>
      intro ys vs hc hs
      cases ys with
      | nil => exact hc.elim
      | cons y ys =>
        simp only [SV.denL] at hs
        split at hs
        · rename_i v ws h1 h2
          simp only [SV.denL, hwkV hc.1 h1, ih hc.2 h2]; exact hs
        · cases hs
  have hrow : ∀ {r q : Row} {vs : List Value}, wkRow τ S'.bx.length r q → SV.denL ρ r.cells = some vs → SV.denL ρT q.cells = some vs := by
    intro r q vs hr hs
    cases q with
    | vals us =>
      simp only [wkRow] at hr
      rw [hr, denL_raw] at hs
      exact (denL_raw us).trans hs
    | lst l => exact hwkC hr hs
  have hrowl : ∀ {r q : Row}, wkRow τ S'.bx.length r q → r.cells.length = q.cells.length := by
    intro r q hr
    cases q with
    | vals us => simp only [wkRow] at hr; rw [hr]; rfl
    | lst l => exact wkCells_len hr
  -- a box of the later state
  have hfrom : ∀ (j : Nat) b, T.bx[j]? = some b → (∃ k, τ[j]? = some (some k) ∧ k < ρ.length ∧ isDead b = true) ∨
      (∃ k c, τ[j]? = some (some k) ∧ isDead b = false ∧ S'.bx[k]? = some c ∧ c.elem = b.elem ∧ c.total = b.total ∧ c.own = b.own ∧ wkRow τ S'.bx.length c.row b.row ∧ c.live = b.live) ∨
      (τ[j]? = some none ∧ b.row.cells = [] ∧ b.total = 0) := by
    intro j b hj
    have := wkBx_get hbx j b hj
    rw [Nat.zero_add] at this
    rcases this with ⟨k, h1, ⟨h2, h3⟩ | ⟨h2, c, h3, h4, h5, h6, h7⟩⟩ | h1
    · exact .inl ⟨k, h1, by omega, h2⟩
    · refine .inr (.inl ⟨k, c, h1, h2, h3, h4, h5, h6, h7, ?_⟩)
      have := hrowl h7
      simp only [Box.live, Box.cells, h6]
      cases hc : c.row.cells <;> cases hb : b.row.cells <;> simp_all
    · exact .inr (.inr h1)
  refine h.out w0 mu ρ0 a w hn ⟨hd, T, ρT, hpre, ?_, ?_, rfl⟩
  · refine ⟨hR.keep, by simp [ρT, hlen], ?_, ?_, fun v cs g => hR.hold v cs (hE v cs g), ?_, fun v cs g hne => hR.src v cs (hE v cs g) hne⟩
    · intro j b oa h1 h2
      rcases hfrom j b h1 with ⟨k, g1, g2, g3⟩ | ⟨k, c, g1, g2, g3, g4, g5, g6, g7, g8⟩ | ⟨g1, g2, g3⟩
      · obtain ⟨d1, d2⟩ := isDead_live g3
        have hk : ρ[k]? = some ρ[k] := List.getElem?_eq_getElem g2
        rw [hρTs j k _ g1 hk] at h2
        simp only [Option.some.injEq] at h2
        have hkb : k < S'.bx.length := by omega
        have hbox := hR.box k _ _ (List.getElem?_eq_getElem hkb) hk
        cases oa with
        | none =>
          exact d2
        | some ad =>
          rw [h2] at hbox
          refine ⟨hbox.1, [], by rw [d2.1]; rfl, ?_⟩
          rw [d1]; simp
      · have hk : k < ρ.length := by rw [hρl]; exact get_lt g3
        have hk' : ρ[k]? = some ρ[k] := List.getElem?_eq_getElem hk
        rw [hρTs j k _ g1 hk'] at h2
        simp only [Option.some.injEq] at h2
        rw [h2] at hk'
        have hbox := hR.box k c oa g3 hk'
        cases oa with
        | none =>
          have := hrowl g7
          refine ⟨List.eq_nil_of_length_eq_zero ?_, by rw [← g5]; exact hbox.2⟩
          rw [show b.cells.length = b.row.cells.length from rfl, ← this, show c.row.cells = [] from hbox.1]; rfl
        | some ad =>
          obtain ⟨q1, vs, q2, q3⟩ := hbox
          refine ⟨q1, vs, hrow g7 q2, ?_⟩
          rw [← g6, ← g4, ← g5]; exact q3
      · rw [hρT, g1] at h2
        simp only [Option.map_some, src, Option.some.injEq] at h2
        subst h2
        exact ⟨g2, g3⟩
    · intro j b ad h1 ho h2
      rcases hfrom j b h1 with ⟨k, g1, g2, g3⟩ | ⟨k, c, g1, g2, g3, g4, g5, g6, g7, g8⟩ | ⟨g1, g2, g3⟩
      · rw [(isDead_live g3).1] at ho; cases ho
      · have hk : k < ρ.length := by rw [hρl]; exact get_lt g3
        have hk' : ρ[k]? = some ρ[k] := List.getElem?_eq_getElem hk
        rw [hρTs j k _ g1 hk'] at h2
        simp only [Option.some.injEq] at h2
        rw [h2] at hk'
        obtain ⟨t1, t2, t3⟩ := hR.sep k c ad g3 (g6.trans ho) hk'
        refine ⟨t1, ?_, fun v cs g => t3 v cs (hE v cs g)⟩
        intro j' b' a' hne hj1 hl hj2
        rcases hfrom j' b' hj1 with ⟨k', q1, q2, q3⟩ | ⟨k', c', q1, q2, q3, q4, q5, q6, q7, q8⟩ | ⟨q1, q2, q3⟩
        · obtain ⟨d1, d2⟩ := isDead_live q3
          simp [Box.live, d1, d2.1] at hl
        · have hkk : k' < ρ.length := by rw [hρl]; exact get_lt q3
          have hkk' : ρ[k']? = some ρ[k'] := List.getElem?_eq_getElem hkk
          rw [hρTs j' k' _ q1 hkk'] at hj2
          simp only [Option.some.injEq] at hj2
          rw [hj2] at hkk'
          refine t2 k' c' a' ?_ q3 (q8.trans hl) hkk'
          rintro rfl
          exact hne (liveSrc_inj hlive j' j k' b' b q1 hj1 q2 g1 h1 g2)
        · rw [hρT, q1] at hj2
          simp [src] at hj2
      · rw [hρT, g1] at h2
        simp [src] at h2
    · intro j b ad h1 hl h2
      rcases hfrom j b h1 with ⟨k, g1, g2, g3⟩ | ⟨k, c, g1, g2, g3, g4, g5, g6, g7, g8⟩ | ⟨g1, g2, g3⟩
      · obtain ⟨d1, d2⟩ := isDead_live g3
        simp [Box.live, d1, d2.1] at hl
      · have hk : k < ρ.length := by rw [hρl]; exact get_lt g3
        have hk' : ρ[k]? = some ρ[k] := List.getElem?_eq_getElem hk
        rw [hρTs j k _ g1 hk'] at h2
        simp only [Option.some.injEq] at h2
        rw [h2] at hk'
        exact hR.bsrc k c ad g3 (g8.trans hl) hk'
      · rw [hρT, g1] at h2
        simp [src] at h2
  · obtain ⟨f1, f2⟩ := wkFr_get hfr
    refine ⟨by rw [← f1]; exact hF.1, fun i t ht => ?_⟩
    obtain ⟨s, hs, hv⟩ := f2 i t ht
    obtain ⟨v, v1, v2⟩ := hF.2 i s hs
    exact ⟨v, v1, hwkV hv v2⟩

theorem LoopP_wk {Ω : Option Rc} {n0 : Nat} {τ : Tau} {body : Code} {Q : Ex → St → Prop} {S T : St} (hw : S.wk n0 τ T) (h : LoopP P Ω n0 body Q T) : LoopP P Ω n0 body Q S :=
  ⟨(AtP_wk (Φ := fun w0 mu ρ0 a w => mu.om = Ω ∧ okE Ω ρ0 → LoopLfp P body (LiftQ w0 mu ρ0 Q) a w) hw ⟨h.out⟩).out⟩
theorem CutP_wk {Ω : Option Rc} {n0 : Nat} {τ : Tau} {c : Code} {Q : Ex → St → Prop} {S T : St} (hw : S.wk n0 τ T) (h : CutP P Ω n0 c Q T) : CutP P Ω n0 c Q S :=
  ⟨(AtP_wk (Φ := fun w0 mu ρ0 a w => mu.om = Ω ∧ okE Ω ρ0 → c.wpIn Fence.wide 0 P (LiftQ w0 mu ρ0 Q) a w) hw ⟨h.out⟩).out⟩

theorem forgetL_len (ds : List Nat) : ∀ (k : Nat) (l : List (Option SV)), (forgetL ds k l).length = l.length
  | _, [] => rfl
  | k, _ :: l => by simp [forgetL, forgetL_len ds (k + 1) l]

theorem forgetL_get (ds : List Nat) : ∀ (k : Nat) (l : List (Option SV)) (i : Nat) (s : SV), (forgetL ds k l)[i]? = some (some s) → l[i]? = some (some s)
  | _, [], i, s, h => by simp [forgetL] at h
  | k, o :: l, 0, s, h => by
    simp only [forgetL, List.getElem?_cons_zero, Option.some.injEq] at h ⊢
    split at h
    · cases h
    · exact h
  | k, o :: l, i + 1, s, h => by
    simp only [forgetL, List.getElem?_cons_succ] at h ⊢
    exact forgetL_get ds (k + 1) l i s h

theorem St.weak_forget (S : St) (ds : List Nat) : S.weak (S.forget ds) :=
  ⟨rfl, Mem.le_refl _, (forgetL_len ds 0 S.fr).symm, fun i s h => forgetL_get ds 0 S.fr i s h⟩

/-- What a body shows of one round, for the loop around it. -/
theorem iterW_sound {Ω : Option Rc} {n0 : Nat} {body : Code} {ds : List Nat} (bodyW : (Ex → St → Prop) → St → Prop)
    (hb : ∀ (Q : Ex → St → Prop) w0 mu (ρ0 : Env) a w, ρ0.length ≤ n0 → mu.om = Ω ∧ okE Ω ρ0 → Lift w0 mu ρ0 (fun S => bodyW Q S) a w → body.wpIn Fence.wide 0 P (LiftQ w0 mu ρ0 Q) a w) :
    ∀ (n : Nat) (Q : Ex → St → Prop) w0 mu (ρ0 : Env) a w, ρ0.length ≤ n0 → mu.om = Ω ∧ okE Ω ρ0 → Lift w0 mu ρ0 (fun S => iterW bodyW (fun Q S => LoopP P Ω n0 body Q (S.forget ds)) n Q S) a w → LoopLfp P body (LiftQ w0 mu ρ0 Q) a w := by
  intro n
  induction n with
  | zero =>
    intro Q w0 mu ρ0 a w hn ho h
    obtain ⟨hd, S, ρ, hp, hR, hF, h⟩ := h
    exact (LoopP_weak (St.weak_forget S ds) h).out w0 mu ρ0 a w hn ⟨hd, S, ρ, hp, hR, hF, rfl⟩ ho
  | succ n ih =>
    intro Q w0 mu ρ0 a w hn ho h
    refine LoopLfp.fold (Code.wpIn_mono (thenQ fun a w hl => ?_) (hb _ w0 mu ρ0 a w hn ho h))
    obtain ⟨w1, mu1, hB, hl⟩ := hl
    exact LoopLfp.mono (LiftQ_base hB h.1.2) (ih Q w1 mu1 ρ0 a w hn ⟨hB.om.trans ho.1, ho.2⟩ hl)

theorem blockQ {w0 : World} {mu : Fm} {ρ0 : Env} {Q : Ex → St → Prop} {id : Nat} :
    ∀ (e : Exit) (a : Act) (w : World), LiftQ w0 mu ρ0 (fun e S' => match e with | .normal => Q .normal S' | .exit i => if i = id then Q .normal S' else Q (.exit i) S' | .ret => Q .ret S') e a w → Exit.inBlock id (LiftQ w0 mu ρ0 Q) e a w
  | .normal, _, _, x => x
  | .exit i, a, w, x => by
    simp only [Exit.inBlock]
    by_cases hi : i = id
    · rw [if_pos hi]; exact LiftR.mono x fun S h => by simpa [hi] using h
    · rw [if_neg hi]; exact LiftR.mono x fun S h => by simpa [hi] using h
  | .ret, _, _, x => x
  | .panic _, _, _, x => x
  | .goto _, _, _, x => x
  | .outgrown, _, _, x => x

theorem Lift.no {w0 : World} {mu : Fm} {ρ0 : Env} {a : Act} {w : World} {K : St → Prop} {p : Prop} (h : Lift w0 mu ρ0 K a w) (hk : ∀ S, ¬ K S) : p := by
  obtain ⟨_, S, _, _, _, _, h⟩ := h; exact (hk S h).elim

theorem codeW_sound {un : Opt} (hcall : CallOK un.om P callW) (hm : P.follows .mixedOrders = true) {inl : Op → Bool} {ro : Option Nat} (hro : un.rnd = false → ro = none) : ∀ (c : Code) (Q : Ex → St → Prop) (w0 : World) (mu : Fm) (ρ0 : Env) (a : Act) (w : World), ρ0.length ≤ un.base → mu.om = un.om ∧ okE un.om ρ0 →
    Lift w0 mu ρ0 (fun S => codeW P callW inl un c Q S) a w → c.wpIn (fW ro) 0 P (LiftQ w0 mu ρ0 Q) a w
  | .skip, Q, w0, mu, ρ0, a, w, hn, ho, h => wpIn_skip (LiftR.of h)
  | .region id ops false, Q, w0, mu, ρ0, a, w, hn, ho, h => wpIn_region_list (opsW_sound hcall ho (fun a w x => LiftR.of x) _ a w h)
  | .region id ops true, Q, w0, mu, ρ0, a, w, hn, ho, h => by
    by_cases hr : (un.rnd && !noDefer ops) = true
    · exact h.no fun S x => by simp only [codeW, hr, cond] at x
    · by_cases hs : Region.noSelect ops = true
      · have hr' : (un.rnd && !noDefer ops) = false := by simpa using hr
        simp only [codeW, hr', hs, if_true, cond] at h
        exact drawW_sound (ro := ro) hcall ho hm hs (fun e => by
          cases hu : un.rnd with
          | false => exact absurd (hro hu) e
          | true => rw [hu] at hr'; simpa using hr') (fun a w x => LiftR.of x) h
      · exact h.no fun S x => by
          have hr' : (un.rnd && !noDefer ops) = false := by simpa using hr
          simp [codeW, hr', hs] at x
  | .seq x y, Q, w0, mu, ρ0, a, w, hn, ho, h => wpIn_seq (Code.wpIn_mono (thenQ fun a w hl => by
      obtain ⟨w1, mu1, hB, hl⟩ := hl
      have ho1 : mu1.om = un.om ∧ okE un.om ρ0 := ⟨hB.om.trans ho.1, ho.2⟩
      refine Code.wpIn_mono (LiftQ_base hB h.1.2) ?_
      cases hc : (cutAt un y && !un.rnd) with
      | true =>
        have hr : un.rnd = false := by simp at hc; exact hc.2
        rw [hc] at hl
        obtain ⟨hd, S, ρ, hp, hR, hF, hl⟩ := hl
        rw [hro hr]
        exact hl.out w1 mu1 ρ0 a w hn ⟨hd, S, ρ, hp, hR, hF, rfl⟩ ho1
      | false =>
        rw [hc] at hl
        exact codeW_sound hcall hm hro y Q w1 mu1 ρ0 a w hn ho1 hl) (codeW_sound hcall hm hro x _ w0 mu ρ0 a w hn ho h))
  | .cond c x y, Q, w0, mu, ρ0, a, w, hn, ho, h => by
    obtain ⟨hd, S, ρ, hp, hR, hF, h⟩ := h
    simp only [codeW] at h
    split at h
    case h_2 => exact h.elim
    rename_i b hb
    have he : a.eval c = .bool b := by have := opd_den hF hb; simpa [SV.den] using this.symm
    refine wpIn_cond he ?_
    cases b with
    | true =>
      simp only [cond_true] at h
      cases hc : cutC un x with
      | true =>
        rw [hc] at h
        simp only [cond_true] at h
        have hr : un.rnd = false := by simp [cutC] at hc; exact hc.1.2
        rw [hro hr]
        exact h.out w0 mu ρ0 a w hn ⟨hd, S, ρ, hp, hR, hF, rfl⟩ ho
      | false =>
        rw [hc] at h
        exact codeW_sound hcall hm hro x Q w0 mu ρ0 a w hn ho ⟨hd, S, ρ, hp, hR, hF, h⟩
    | false => exact codeW_sound hcall hm hro y Q w0 mu ρ0 a w hn ho ⟨hd, S, ρ, hp, hR, hF, h⟩
  | .block id body, Q, w0, mu, ρ0, a, w, hn, ho, h => wpIn_block (Code.wpIn_mono blockQ (codeW_sound hcall hm hro body _ w0 mu ρ0 a w hn ho h))
  | .loop body, Q, w0, mu, ρ0, a, w, hn, ho, h => by
    cases hr : un.rnd with
    | true => exact h.no fun S x => by simp only [codeW, hr, cond] at x
    | false =>
      simp only [codeW, hr, cond] at h
      have := hro hr
      subst this
      exact (iterW_sound (codeW P callW inl un body) (fun Q w0 mu ρ0 a w hn ho h => codeW_sound hcall hm hro body Q w0 mu ρ0 a w hn ho h) un.unroll Q w0 mu ρ0 a w hn ho h).wp
  | .exit id, Q, w0, mu, ρ0, a, w, hn, ho, h => wpIn_exit (LiftR.of h)
  | .ret, Q, w0, mu, ρ0, a, w, hn, ho, h => wpIn_ret (.inl (LiftR.of h))
  | .rangeFunc g ps assign body, Q, w0, mu, ρ0, a, w, hn, ho, h => by
    cases hr : un.rnd with
    | true => exact h.no fun S x => by simp only [codeW, hr, cond] at x
    | false =>
      simp only [codeW, hr, cond] at h
      rw [hro hr]
      obtain ⟨hd, S, ρ, hp, hR, hF, h⟩ := h
      exact h.out w0 mu ρ0 a w hn ⟨hd, S, ρ, hp, hR, hF, rfl⟩ ho
  | .scope .., _, _, _, _, _, _, _, _, h => h.no fun _ x => x
  | .label .., _, _, _, _, _, _, _, _, h => h.no fun _ x => x
  | .goto .., _, _, _, _, _, _, _, _, h => h.no fun _ x => x
  | .refuse .., _, _, _, _, _, _, _, _, h => h.no fun _ x => x

theorem LoopP_round {un : Opt} (hcall : CallOK un.om P callW) (hm : P.follows .mixedOrders = true) {inl : Op → Bool} {body : Code} {Q : Ex → St → Prop} {S : St}
    (h : codeW P callW inl un body (fun e S' => match e with | .normal => LoopP P un.om un.base body Q (S'.forget (dropOf un body)) | .exit id => Q (.exit id) S' | .ret => Q .ret S') S) : LoopP P un.om un.base body Q S := by
  refine ⟨fun w0 mu ρ0 a w hn hl ho => ?_⟩
  have hoo := hl.1.2
  refine LoopLfp.fold (Code.wpIn_mono (thenQ (M := fun S' => LoopP P un.om un.base body Q (S'.forget (dropOf un body))) fun a w hl => ?_) (codeW_sound (ro := none) hcall hm (fun _ => rfl) (inl := inl) (un := un) body _ w0 mu ρ0 a w hn ho (hl.mono fun S' e => e ▸ h)))
  obtain ⟨w1, mu1, hB, hl⟩ := hl
  obtain ⟨hd, S', ρ, hp, hR, hF, hL⟩ := hl
  exact LoopLfp.mono (LiftQ_base hB hoo) ((LoopP_weak (St.weak_forget S' _) hL).out w1 mu1 ρ0 a w hn ⟨hd, S', ρ, hp, hR, hF, rfl⟩ ⟨hB.om.trans ho.1, ho.2⟩)

theorem CutP_intro {un : Opt} (hcall : CallOK un.om P callW) (hm : P.follows .mixedOrders = true) {inl : Op → Bool} {c : Code} {Q : Ex → St → Prop} {S : St} (h : codeW P callW inl un c Q S) : CutP P un.om un.base c Q S :=
  ⟨fun w0 mu ρ0 a w hn ⟨hd, S', ρ, hp, hR, hF, e⟩ ho => codeW_sound (ro := none) hcall hm (fun _ => rfl) c Q w0 mu ρ0 a w hn ho ⟨hd, S', ρ, hp, hR, hF, e ▸ h⟩⟩

/-- A loop, by a measure. -/
theorem LoopP_ind {un : Opt} (hcall : CallOK un.om P callW) (hm : P.follows .mixedOrders = true) {inl : Op → Bool} {body : Code} {Q : Ex → St → Prop} {ι : Type} (Sh : ι → St) (μ : ι → Nat)
    (h : ∀ i, (∀ j, μ j < μ i → LoopP P un.om un.base body Q (Sh j)) → codeW P callW inl un body (fun e S' => match e with | .normal => LoopP P un.om un.base body Q (S'.forget (dropOf un body)) | .exit id => Q (.exit id) S' | .ret => Q .ret S') (Sh i)) : ∀ i, LoopP P un.om un.base body Q (Sh i) := by
  have key : ∀ n i, μ i = n → LoopP P un.om un.base body Q (Sh i) := by
    intro n
    induction n using Nat.strongRecOn with
    | _ n ih =>
      intro i hi
      exact LoopP_round hcall hm (h i fun j hj => ih (μ j) (hi ▸ hj) j rfl)
  exact fun i => key _ i rfl

end
end Go.Sx
