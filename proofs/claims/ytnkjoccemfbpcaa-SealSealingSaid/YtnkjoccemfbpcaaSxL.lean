/- The symbolic evaluator, part L: code, calls in place, contracts, and their soundness. Conditions: none; generic over programs. -/
import Derived.Test.YtnkjoccemfbpcaaSxK
namespace Go.Sx
open Go.RowKit (Below)

section
variable {P : Program} {callW : CallT}

theorem LiftQ_mono {w0 : World} {mu : Fm} {ρ0 : Env} {Q Q' : Ex → St → Prop} (h : ∀ e S, Q e S → Q' e S) : ∀ (e : Exit) (a : Act) (w : World), LiftQ w0 mu ρ0 Q e a w → LiftQ w0 mu ρ0 Q' e a w
  | .normal, _, _, x => Lift.mono x (h _)
  | .exit _, _, _, x => Lift.mono x (h _)
  | .ret, _, _, x => Lift.mono x (h _)
  | .panic _, _, _, x => x
  | .goto _, _, _, x => x
  | .outgrown, _, _, x => x

theorem thenQ {w0 : World} {mu : Fm} {ρ0 : Env} {Q : Ex → St → Prop} {M : St → Prop} {N : Act → World → Prop} (hN : ∀ a w, Lift w0 mu ρ0 M a w → N a w) :
    ∀ (e : Exit) (a : Act) (w : World), LiftQ w0 mu ρ0 (fun e S' => match e with | .normal => M S' | .exit id => Q (.exit id) S' | .ret => Q .ret S') e a w → Exit.then N (LiftQ w0 mu ρ0 Q) e a w
  | .normal, a, w, x => hN a w x
  | .exit _, _, _, x => x
  | .ret, _, _, x => x
  | .panic _, _, _, x => x
  | .goto _, _, _, x => x
  | .outgrown, _, _, x => x

theorem then_mono {N N' : Act → World → Prop} {R : Exit → Act → World → Prop} (h : ∀ a w, N a w → N' a w) : ∀ (e : Exit) (a : Act) (w : World), Exit.then N R e a w → Exit.then N' R e a w
  | .normal, a, w, x => h a w x
  | .exit _, _, _, x => x
  | .ret, _, _, x => x
  | .panic _, _, _, x => x
  | .goto _, _, _, x => x
  | .outgrown, _, _, x => x

theorem LoopLfp.fold {body : Code} {R : Exit → Act → World → Prop} {a : Act} {w : World} (h : body.wp P (Exit.then (LoopLfp P body R) R) a w) : LoopLfp P body R a w :=
  fun I hI => hI a w (Code.wp_mono (then_mono fun _ _ x => x I hI) h)

theorem LoopLfp.unfold {body : Code} {R : Exit → Act → World → Prop} {a : Act} {w : World} (h : LoopLfp P body R a w) : body.wp P (Exit.then (LoopLfp P body R) R) a w :=
  h (fun a w => body.wp P (Exit.then (LoopLfp P body R) R) a w) fun _ _ x => Code.wp_mono (then_mono fun _ _ y => LoopLfp.fold y) x

/-- One round, and then what is known of the loop from its second round on. -/
theorem round_arrives {body : Code} {R : Exit → Act → World → Prop} {I : Act → World → Prop}
    (hI : ∀ a w, I a w → ∀ (b : Frame) (k : List Item) (cs : List Frame), ∃ e a' w', R e a' w' ∧ Arrives P (lone (b.at a (.inLoop body :: k)) cs w) b k cs e a' w')
    {a : Act} {w : World} (h : body.wp P (Exit.then I R) a w) (b : Frame) (k : List Item) (cs : List Frame) :
    ∃ e a' w', R e a' w' ∧ Arrives P (lone (b.at a (.code body :: .inLoop body :: k)) cs w) b k cs e a' w' := by
  obtain ⟨e, a₁, w₁, hq, harr⟩ := h b (.inLoop body :: k) cs
  cases e with
  | normal =>
    obtain ⟨e₂, a₂, w₂, hq₂, harr₂⟩ := hI _ _ hq b k cs
    exact ⟨e₂, a₂, w₂, hq₂, .of_steps harr harr₂⟩
  | exit id => exact ⟨_, a₁, w₁, hq, .pass (x := .inLoop body) rfl (fun _ _ => .inl (by simp)) harr⟩
  | goto l => exact ⟨_, a₁, w₁, hq, .pass (x := .inLoop body) rfl (fun _ _ => .inl (by simp)) harr⟩
  | ret => exact ⟨_, a₁, w₁, hq, .pass (x := .inLoop body) rfl (fun _ _ => .inl (by simp)) harr⟩
  | panic ch => exact ⟨_, a₁, w₁, hq, .pass (x := .inLoop body) rfl (fun _ _ => .inl (by simp)) harr⟩
  | outgrown => exact ⟨_, a₁, w₁, hq, .pass (x := .inLoop body) rfl (fun _ _ => .inl (by simp)) harr⟩

theorem LoopLfp.wp {body : Code} {R : Exit → Act → World → Prop} {a : Act} {w : World} (h : LoopLfp P body R a w) : (Code.loop body).wp P R a w := by
  have key : ∀ a w, LoopLfp P body R a w → ∀ (b : Frame) (k : List Item) (cs : List Frame), ∃ e a' w', R e a' w' ∧ Arrives P (lone (b.at a (.inLoop body :: k)) cs w) b k cs e a' w' := by
    intro a w h
    refine h (fun a w => ∀ (b : Frame) (k : List Item) (cs : List Frame), ∃ e a' w', R e a' w' ∧ Arrives P (lone (b.at a (.inLoop body :: k)) cs w) b k cs e a' w') ?_
    intro a w hb b k cs
    obtain ⟨e, a', w', h1, h2⟩ := round_arrives (I := fun a w => ∀ (b : Frame) (k : List Item) (cs : List Frame), ∃ e a' w', R e a' w' ∧ Arrives P (lone (b.at a (.inLoop body :: k)) cs w) b k cs e a' w') (fun _ _ x => x) hb b k cs
    exact ⟨e, a', w', h1, .of_steps (.one step_inLoop) h2⟩
  intro b k cs
  obtain ⟨e, a', w', h1, h2⟩ := round_arrives key h.unfold b k cs
  exact ⟨e, a', w', h1, .of_steps (.one step_loop) h2⟩

/-! ### loops, for the prover -/
/-- Weaker: fewer slots and facts of memory are known. -/
def St.weak (S T : St) : Prop := S.bx = T.bx ∧ Mem.le T.E S.E ∧ S.fr.length = T.fr.length ∧ ∀ (i : Nat) s, T.fr[i]? = some (some s) → S.fr[i]? = some (some s)

theorem LoopP_weak {body : Code} {Q : Ex → St → Prop} {S T : St} (hw : S.weak T) (h : LoopP P body Q T) : LoopP P body Q S := by
  refine ⟨fun w0 mu ρ0 a w hl => ?_⟩
  obtain ⟨hd, S', ρ, hp, hR, hF, rfl⟩ := hl
  obtain ⟨h1, h2, h3, h4⟩ := hw
  refine h.out w0 mu ρ0 a w ⟨hd, T, ρ, hp, ?_, ?_, rfl⟩
  · rw [← h1]; exact hR.weakE h2
  · exact ⟨h3 ▸ hF.1, fun i s hs => hF.2 i s (h4 i s hs)⟩

theorem forgetL_len (ds : List Nat) : ∀ (k : Nat) (l : List (Option SV)), (forgetL ds k l).length = l.length
  | _, [] => rfl
  | k, _ :: l => by simp [forgetL, forgetL_len ds (k + 1) l]

theorem forgetL_get (ds : List Nat) : ∀ (k : Nat) (l : List (Option SV)) (i : Nat) (s : SV), (forgetL ds k l)[i]? = some (some s) → l[i]? = some (some s)
  | _, [], i, s, h => by simp [forgetL] at h
  | k, o :: l, 0, s, h => by
    simp only [forgetL, List.getElem?_cons_zero, Option.some.injEq] at h ⊢
    split at h
    · cases h
    · exact h
  | k, o :: l, i + 1, s, h => by
    simp only [forgetL, List.getElem?_cons_succ] at h ⊢
    exact forgetL_get ds (k + 1) l i s h

theorem St.weak_forget (S : St) (ds : List Nat) : S.weak (S.forget ds) :=
  ⟨rfl, Mem.le_refl _, (forgetL_len ds 0 S.fr).symm, fun i s h => forgetL_get ds 0 S.fr i s h⟩

/-- What a body shows of one round, for the loop around it. -/
theorem iterW_sound {body : Code} {ds : List Nat} (bodyW : (Ex → St → Prop) → St → Prop)
    (hb : ∀ (Q : Ex → St → Prop) w0 mu ρ0 a w, Lift w0 mu ρ0 (fun S => bodyW Q S) a w → body.wp P (LiftQ w0 mu ρ0 Q) a w) :
    ∀ (n : Nat) (Q : Ex → St → Prop) w0 mu ρ0 a w, Lift w0 mu ρ0 (fun S => iterW bodyW (fun Q S => LoopP P body Q (S.forget ds)) n Q S) a w → LoopLfp P body (LiftQ w0 mu ρ0 Q) a w := by
  intro n
  induction n with
  | zero =>
    intro Q w0 mu ρ0 a w h
    obtain ⟨hd, S, ρ, hp, hR, hF, h⟩ := h
    exact (LoopP_weak (St.weak_forget S ds) h).out w0 mu ρ0 a w ⟨hd, S, ρ, hp, hR, hF, rfl⟩
  | succ n ih =>
    intro Q w0 mu ρ0 a w h
    exact LoopLfp.fold (Code.wp_mono (thenQ (fun a w hl => ih Q w0 mu ρ0 a w hl)) (hb _ w0 mu ρ0 a w h))

theorem blockQ {w0 : World} {mu : Fm} {ρ0 : Env} {Q : Ex → St → Prop} {id : Nat} :
    ∀ (e : Exit) (a : Act) (w : World), LiftQ w0 mu ρ0 (fun e S' => match e with | .normal => Q .normal S' | .exit i => if i = id then Q .normal S' else Q (.exit i) S' | .ret => Q .ret S') e a w → Exit.inBlock id (LiftQ w0 mu ρ0 Q) e a w
  | .normal, _, _, x => x
  | .exit i, a, w, x => by
    simp only [Exit.inBlock]
    by_cases hi : i = id
    · rw [if_pos hi]; exact Lift.mono x fun S h => by simpa [hi] using h
    · rw [if_neg hi]; exact Lift.mono x fun S h => by simpa [hi] using h
  | .ret, _, _, x => x
  | .panic _, _, _, x => x
  | .goto _, _, _, x => x
  | .outgrown, _, _, x => x

theorem codeW_sound (hcall : CallOK P callW) (hm : P.follows .mixedOrders = true) {inl : Op → Bool} {un : Opt} : ∀ (c : Code) (Q : Ex → St → Prop) (w0 : World) (mu : Fm) (ρ0 : Env) (a : Act) (w : World),
    Lift w0 mu ρ0 (fun S => codeW P callW inl un c Q S) a w → c.wp P (LiftQ w0 mu ρ0 Q) a w
  | .skip, Q, w0, mu, ρ0, a, w, h => wp_skip h
  | .region id ops false, Q, w0, mu, ρ0, a, w, h => wp_region_list (opsW_sound hcall (fun a w x => x) _ a w h)
  | .region id ops true, Q, w0, mu, ρ0, a, w, h => by
    by_cases hs : Region.noSelect ops = true
    · simp only [codeW, hs, if_true] at h
      exact drawW_sound hcall hm hs (fun a w x => x) h
    · simp only [codeW, hs] at h
      obtain ⟨_, _, _, _, _, _, h⟩ := h; exact h.elim
  | .seq x y, Q, w0, mu, ρ0, a, w, h => wp_seq (Code.wp_mono (thenQ fun a w hl => codeW_sound hcall hm y Q w0 mu ρ0 a w hl) (codeW_sound hcall hm x _ w0 mu ρ0 a w h))
  | .cond c x y, Q, w0, mu, ρ0, a, w, h => by
    obtain ⟨hd, S, ρ, hp, hR, hF, h⟩ := h
    simp only [codeW] at h
    split at h
    case h_2 => exact h.elim
    rename_i b hb
    have he : a.eval c = .bool b := by have := opd_den hF hb; simpa [SV.den] using this.symm
    refine wp_cond he ?_
    cases b with
    | true => exact codeW_sound hcall hm x Q w0 mu ρ0 a w ⟨hd, S, ρ, hp, hR, hF, h⟩
    | false => exact codeW_sound hcall hm y Q w0 mu ρ0 a w ⟨hd, S, ρ, hp, hR, hF, h⟩
  | .block id body, Q, w0, mu, ρ0, a, w, h => wp_block (Code.wp_mono blockQ (codeW_sound hcall hm body _ w0 mu ρ0 a w h))
  | .loop body, Q, w0, mu, ρ0, a, w, h => (iterW_sound (codeW P callW inl un body) (fun Q w0 mu ρ0 a w h => codeW_sound hcall hm body Q w0 mu ρ0 a w h) un.unroll Q w0 mu ρ0 a w h).wp
  | .exit id, Q, w0, mu, ρ0, a, w, h => wp_exit h
  | .ret, Q, w0, mu, ρ0, a, w, h => wp_ret h
  | .rangeFunc .., _, _, _, _, _, _, h => by obtain ⟨_, _, _, _, _, _, h⟩ := h; exact h.elim
  | .scope .., _, _, _, _, _, _, h => by obtain ⟨_, _, _, _, _, _, h⟩ := h; exact h.elim
  | .label .., _, _, _, _, _, _, h => by obtain ⟨_, _, _, _, _, _, h⟩ := h; exact h.elim
  | .goto .., _, _, _, _, _, _, h => by obtain ⟨_, _, _, _, _, _, h⟩ := h; exact h.elim
  | .refuse .., _, _, _, _, _, _, h => by obtain ⟨_, _, _, _, _, _, h⟩ := h; exact h.elim

theorem LoopP_round (hcall : CallOK P callW) (hm : P.follows .mixedOrders = true) {inl : Op → Bool} {un : Opt} {body : Code} {Q : Ex → St → Prop} {S : St}
    (h : codeW P callW inl un body (fun e S' => match e with | .normal => LoopP P body Q (S'.forget (dropOf un body)) | .exit id => Q (.exit id) S' | .ret => Q .ret S') S) : LoopP P body Q S := by
  refine ⟨fun w0 mu ρ0 a w hl => ?_⟩
  refine LoopLfp.fold (Code.wp_mono (thenQ (M := fun S' => LoopP P body Q (S'.forget (dropOf un body))) fun a w hl => ?_) (codeW_sound hcall hm (inl := inl) (un := un) body _ w0 mu ρ0 a w (hl.mono fun S' e => e ▸ h)))
  obtain ⟨hd, S', ρ, hp, hR, hF, hL⟩ := hl
  exact (LoopP_weak (St.weak_forget S' _) hL).out w0 mu ρ0 a w ⟨hd, S', ρ, hp, hR, hF, rfl⟩

/-- A loop, by a measure. -/
theorem LoopP_ind (hcall : CallOK P callW) (hm : P.follows .mixedOrders = true) {inl : Op → Bool} {un : Opt} {body : Code} {Q : Ex → St → Prop} {ι : Type} (Sh : ι → St) (μ : ι → Nat)
    (h : ∀ i, (∀ j, μ j < μ i → LoopP P body Q (Sh j)) → codeW P callW inl un body (fun e S' => match e with | .normal => LoopP P body Q (S'.forget (dropOf un body)) | .exit id => Q (.exit id) S' | .ret => Q .ret S') (Sh i)) : ∀ i, LoopP P body Q (Sh i) := by
  have key : ∀ n i, μ i = n → LoopP P body Q (Sh i) := by
    intro n
    induction n using Nat.strongRecOn with
    | _ n ih =>
      intro i hi
      exact LoopP_round hcall hm (h i fun j hj => ih (μ j) (hi ▸ hj) j rfl)
  exact fun i => key _ i rfl

end
end Go.Sx
