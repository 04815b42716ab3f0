/- The symbolic evaluator, part K: regions in whatever order. Conditions: none; generic over programs. -/
import Derived.Test.YtjibgfihfbdcaaaSyJ
import Derived.Test.YtjibgfihfbdcaaaSyN
import Derived.OrdersHeld
import Derived.OrdersIn
namespace Go.Sx
open Go.RowKit (Below)

section
variable {P : Program} {ops : Array Oper} {Q : Exit → Act → World → Prop} {T D : Nat → Bool}

theorem YieldsIf.isCall {S : World → Prop} {o : Oper} {v : Value} {a : Act} (hy : YieldsIf P ops S o v a) {w : World} (hS : S w) (hw : Region.wanted o (yielded ops a.tmps) = true) : (execOp a.eval o).run P w = .ok (.value v) w := by
  rcases hy with ⟨_, h⟩ | ⟨h, _⟩
  · exact h w hS
  · rw [hw] at h; cases h
theorem YieldsIf.wpOpW {S : World → Prop} {i : Nat} {o : Oper} {v : Value} {a : Act} (hi : ops[i]? = some o) (hy : YieldsIf P ops S o v a)
    {K : Act → World → Prop} {w : World} (hS : S w) (h : K (a.put o.dst v) w) : wpOpIn Fence.wide 0 P ops Q i K a w := by
  unfold wpOpIn
  simp only [hi]
  rcases hy with ⟨hw, hv⟩ | ⟨hw, rfl⟩
  · simp only [hw, if_true]
    refine ⟨fun _ _ => trivial, ?_⟩
    show o.uponIn Fence.wide 0 P a K Q ((execOp a.eval o).run P w)
    rw [hv w hS]; exact h
  · simp only [hw, Bool.false_eq_true, if_false]; exact ⟨fun _ _ => trivial, h⟩
theorem wpOpIn_putIf {S : World → Prop} {j : Nat} {oi oj : Oper} {v : Value} (hj : ops[j]? = some oj) (hap : oi.apart ops oj = true)
    (hsi : ∀ cs b, oi.op ≠ .select cs b) (hsj : ∀ cs b, oj.op ≠ .select cs b)
    (hQ : ∀ c a w, Q (.panic c) (a.put oi.dst v) w → Q (.panic c) a w) {K : Act → World → Prop} {a : Act} {w : World}
    (hy : YieldsIf P ops S oi v a) (h : wpOpIn Fence.wide 0 P ops Q j K (a.put oi.dst v) w) :
    wpOpIn Fence.wide 0 P ops Q j (fun a' w' => YieldsIf P ops S oi v a' ∧ K (a'.put oi.dst v) w') a w := by
  obtain ⟨h1, h2, h3⟩ := Oper.apart_spec hap
  have kp : ∀ (b : Act), YieldsIf P ops S oi v b → ∀ u, YieldsIf P ops S oi v (b.put oj.dst u) := fun b hb u =>
    hb.of_same (execOp_put oi hsi b oj.dst u h3) (wanted_put oi b oj.dst u h3)
  have kd : ∀ d, YieldsIf P ops S oi v { a with defers := d :: a.defers } := fun d => hy.of_same rfl rfl
  unfold wpOpIn at *
  simp only [hj] at *
  rw [wanted_put oj a oi.dst v h1] at h
  split
  · rename_i hw
    simp only [hw, if_true] at h
    refine ⟨fun _ _ => trivial, ?_⟩
    have h := h.2
    replace h : oj.uponIn Fence.wide 0 P (a.put oi.dst v) K Q ((execOp (a.put oi.dst v).eval oj).run P w) := h
    show oj.uponIn Fence.wide 0 P a _ Q ((execOp a.eval oj).run P w)
    rw [execOp_put oj hsj a oi.dst v h1] at h
    generalize (execOp a.eval oj).run P w = r at *
    cases r with
    | ok n w' =>
      cases n <;> simp only [Oper.uponIn] at h ⊢
      case value u => exact ⟨kp a hy u, by rw [← Act.put_comm a v u h2]; exact h⟩
      case skip => exact ⟨kp a hy _, by rw [← Act.put_comm a v undef h2]; exact h⟩
      case defer d =>
        refine ⟨kp _ (kd d) _, ?_⟩
        rw [← Act.put_comm _ v undef h2, ← Act.put_defers]
        exact h
      case enter f args =>
        refine ⟨h.1, h.2.mono fun e w'' he => ?_⟩
        cases e with
        | returned u => exact ⟨kp a hy u, by rw [← Act.put_comm a v u h2]; exact he⟩
        | panicked c => exact hQ _ _ _ he
        | outgrown => exact he
      case round l f tmps assign body =>
        refine ⟨h.1, h.2.mono fun e w'' he => ?_⟩
        cases e with
        | returned u => exact ⟨kp a hy u, by rw [← Act.put_comm a v u h2]; exact he⟩
        | panicked c => exact hQ _ _ _ he
        | outgrown => exact he
      case row row args => exact ⟨h.1, h.2.mono fun u w'' he => ⟨kp a hy u, by rw [← Act.put_comm a v u h2]; exact he⟩⟩
    | halt x w' =>
      cases x <;> simp only [Oper.uponIn] at h ⊢
      case panic u => exact hQ _ _ _ h
  · rename_i hw
    simp only [hw] at h
    exact ⟨fun _ _ => trivial, kp a hy _, by rw [← Act.put_comm a v undef h2]; exact h.2⟩

/-- Whatever order is picked from here on; behind the operations that T names S holds; those that D names change nothing. -/
def wpT (P : Program) (ops : Array Oper) (Q : Exit → Act → World → Prop) (T D : Nat → Bool) (S : World → Prop) : Nat → Array Bool → Act → World → Prop
  | 0, listed, a, w => Region.ready .any ops listed = [] ∧ Q .normal a w
  | n + 1, listed, a, w => (Region.ready .any ops listed = [] → Q .normal a w) ∧
    ∀ i ∈ Region.ready .any ops listed, wpOpIn Fence.wide 0 P ops Q i (fun a' w' => (T i = true → S w') ∧ (D i = true → w' = w) ∧ wpT P ops Q T D S n (listed.setIfInBounds i true) a' w') a w

theorem wpT_any {S : World → Prop} : ∀ (n : Nat) (listed : Array Bool) (a : Act) (w : World), wpT P ops Q T D S n listed a w → wpAnyIn Fence.wide 0 P .any ops Q n listed a w
  | 0, _, _, _, h => h
  | n + 1, _, _, _, h => ⟨h.1, fun i hi => wpOpIn_mono (fun a' w' h' => wpT_any n _ a' w' h'.2.2) (h.2 i hi)⟩

theorem wpT_mono {S S' : World → Prop} (hS : ∀ w, S w → S' w) : ∀ (n : Nat) (listed : Array Bool) (a : Act) (w : World), wpT P ops Q T D S n listed a w → wpT P ops Q T D S' n listed a w
  | 0, _, _, _, h => h
  | n + 1, _, _, _, h => ⟨h.1, fun i hi => wpOpIn_mono (fun a' w' h' => ⟨fun t => hS w' (h'.1 t), h'.2.1, wpT_mono hS n _ a' w' h'.2.2⟩) (h.2 i hi)⟩

theorem ready_unlisted {listed : Array Bool} {i : Nat} (h : i ∈ Region.ready .any ops listed) : listed.getD i true = false := by
  simpa using (mem_ready.1 h).1

theorem getD_set_true {listed : Array Bool} {i j : Nat} (h : (listed.setIfInBounds i true).getD j true = false) : listed.getD j true = false := by
  by_cases hij : i = j
  · subst hij
    rcases Nat.lt_or_ge i listed.size with h' | h'
    · simp [h'] at h
    · simp at h
  · rw [getD_set_ne true hij] at h; exact h

/-- Where only operations are left that T does not name, S does not matter. -/
theorem wpT_tail {S S' : World → Prop} : ∀ (n : Nat) (listed : Array Bool) (a : Act) (w : World), (∀ j, listed.getD j true = false → T j = false) → wpT P ops Q T D S n listed a w → wpT P ops Q T D S' n listed a w
  | 0, _, _, _, _, h => h
  | n + 1, listed, _, _, ht, h => ⟨h.1, fun i hi => wpOpIn_mono (fun a' w' h' => ⟨fun t => absurd t (by rw [ht i (ready_unlisted hi)]; simp), h'.2.1, wpT_tail n _ a' w' (fun j hj => ht j (getD_set_true hj)) h'.2.2⟩) (h.2 i hi)⟩

theorem wpT_first {S S1 : World → Prop} {i : Nat} {oi : Oper} {v : Value} {B : List Nat} (hi : ops[i]? = some oi) (hsel : ∀ (j : Nat) (o : Oper) cs b, ops[j]? = some o → o.op ≠ .select cs b)
    (hQ : ∀ c a w, Q (.panic c) (a.put oi.dst v) w → Q (.panic c) a w) (hTi : T i = false) (hS1 : ∀ w, S w → S1 w)
    (hBe : ∀ j ∈ B, ∃ oj, ops[j]? = some oj ∧ ∃ e ∈ oj.after, Region.binds .any e = true ∧ (e.on = i ∨ e.on ∈ B)) :
    ∀ (fuel : Nat) (listed : Array Bool) (a : Act) (w : World),
      (∀ j oj, ops[j]? = some oj → j ≠ i → listed.getD j true = false → (∀ e ∈ oj.after, Region.binds .any e = true → e.on ≠ i) → oi.apart ops oj = true) →
      ((∀ w, S1 w) ∨ ∀ j, listed.getD j true = false → T j = false → D j = false → j ≠ i → j ∈ B) → (∀ j ∈ B, listed.getD j true = false) →
      i ∈ Region.ready .any ops listed → YieldsIf P ops S1 oi v a → S1 w →
      wpT P ops Q T D S fuel (listed.setIfInBounds i true) (a.put oi.dst v) w → wpT P ops Q T D S (fuel + 1) listed a w := by
  intro fuel
  induction fuel with
  | zero =>
    intro listed a w _ _ _ hr hy hS H
    refine ⟨fun h => (by rw [h] at hr; cases hr), fun j hj => ?_⟩
    by_cases hji : j = i
    · subst hji; exact YieldsIf.wpOpW hi hy hS ⟨fun t => (by rw [hTi] at t; cases t), fun _ => rfl, H⟩
    · have := ready_mono hj hji
      rw [H.1] at this
      cases this
  | succ fuel ih =>
    intro listed a w hfree hT hBu hr hy hS H
    refine ⟨fun h => (by rw [h] at hr; cases hr), fun j hj => ?_⟩
    by_cases hji : j = i
    · subst hji; exact YieldsIf.wpOpW hi hy hS ⟨fun t => (by rw [hTi] at t; cases t), fun _ => rfl, H⟩
    · have h1 := H.2 j (ready_mono hj hji)
      obtain ⟨hjun, oj, hoj, hall⟩ := mem_ready.1 hj
      have hiu := ready_unlisted hr
      have contra : ∀ k, listed.getD k true = false → listed.getD k false = true → False := by
        intro k h1 h0
        rcases Nat.lt_or_ge k listed.size with h' | h'
        · simp [h'] at h0 h1; rw [h0] at h1; cases h1
        · simp [Array.getElem?_eq_none h'] at h1
      have hnot : ∀ e ∈ oj.after, Region.binds .any e = true → e.on ≠ i := fun e he hb heq => by
        have h2 := hall e he hb
        rw [heq] at h2
        exact contra i hiu h2
      have hjB : j ∉ B := by
        intro hB
        obtain ⟨oj', h2, e, he, hb, hon⟩ := hBe j hB
        rw [hoj] at h2; cases h2
        have h3 := hall e he hb
        rcases hon with hon | hon
        · exact hnot e he hb hon
        · exact contra _ (hBu _ hon) h3
      have hTj : (∀ w, S1 w) ∨ T j = true ∨ D j = true := by
        rcases hT with hT | hT
        · exact .inl hT
        · cases hT' : T j with
          | true => exact .inr (.inl rfl)
          | false =>
            cases hD' : D j with
            | true => exact .inr (.inr rfl)
            | false => exact absurd (hT j (ready_unlisted hj) hT' hD' hji) hjB
      have h2 := wpOpIn_putIf hoj (hfree j oj hoj hji hjun hnot) (fun cs b => hsel i oi cs b hi) (fun cs b => hsel j oj cs b hoj) hQ hy h1
      have hfree' : ∀ k ok, ops[k]? = some ok → k ≠ i → (listed.setIfInBounds j true).getD k true = false →
          (∀ e ∈ ok.after, Region.binds .any e = true → e.on ≠ i) → oi.apart ops ok = true := fun k ok hk hki hun hno => by
        exact hfree k ok hk hki (getD_set_true hun) hno
      refine wpOpIn_mono (fun a' w' h3 => ?_) h2
      have hS' : S1 w' := by
        rcases hTj with t | t | t
        · exact t w'
        · exact hS1 _ (h3.2.1 t)
        · rw [h3.2.2.1 t]; exact hS
      refine ⟨h3.2.1, h3.2.2.1, ih (listed.setIfInBounds j true) a' w' hfree' (hT.imp id fun hT k hk hTk hDk hki => hT k (getD_set_true hk) hTk hDk hki) (fun k hk => ?_) (ready_mono hr (Ne.symm hji)) h3.1 hS' ?_⟩
      · rw [getD_set_ne true (by rintro rfl; exact hjB hk)]; exact hBu k hk
      · rw [Array.setIfInBounds_comm _ _ hji]
        exact h3.2.2.2

/-- What an operation leaves of the temporaries. -/
theorem wpOp_tmps {j : Nat} {oj : Oper} (hj : ops[j]? = some oj) {K : Act → World → Prop} {a : Act} {w : World} (h : wpOpIn Fence.wide 0 P ops Q j K a w) :
    wpOpIn Fence.wide 0 P ops Q j (fun a' w' => K a' w' ∧ ∀ t : Nat, oj.dst ≠ some t → a'.tmps[t]? = a.tmps[t]?) a w := by
  have put : ∀ (b : Act) (v : Value), b.tmps = a.tmps → ∀ t : Nat, oj.dst ≠ some t → (b.put oj.dst v).tmps[t]? = a.tmps[t]? := by
    intro b v hb t ht
    unfold Act.put
    cases hd : oj.dst with
    | none => simp only [hb]
    | some d =>
      have : d ≠ t := by rintro rfl; exact ht hd
      simp only [hb, Array.getElem?_setIfInBounds_ne this]
  unfold wpOpIn at *
  simp only [hj] at *
  split
  · rename_i hw
    simp only [hw, if_true] at h
    refine ⟨fun _ _ => trivial, ?_⟩
    have h := h.2
    replace h : oj.uponIn Fence.wide 0 P a K Q ((execOp a.eval oj).run P w) := h
    show oj.uponIn Fence.wide 0 P a _ Q ((execOp a.eval oj).run P w)
    generalize (execOp a.eval oj).run P w = r at *
    cases r with
    | ok n w' =>
      cases n <;> simp only [Oper.uponIn] at h ⊢
      case value u => exact ⟨h, put a u rfl⟩
      case skip => exact ⟨h, put a _ rfl⟩
      case defer d => exact ⟨h, put _ _ rfl⟩
      case enter f args =>
        refine ⟨h.1, h.2.mono fun e w'' he => ?_⟩
        cases e with
        | returned u => exact ⟨he, put a u rfl⟩
        | panicked c => exact he
        | outgrown => exact he
      case round l f tmps assign body =>
        refine ⟨h.1, h.2.mono fun e w'' he => ?_⟩
        cases e with
        | returned u => exact ⟨he, put a u rfl⟩
        | panicked c => exact he
        | outgrown => exact he
      case row row args => exact ⟨h.1, h.2.mono fun u w'' he => ⟨he, put a u rfl⟩⟩
    | halt x w' =>
      cases x <;> simp only [Oper.uponIn] at h ⊢
      case panic u => exact h
  · rename_i hw
    simp only [hw] at h
    exact ⟨fun _ _ => trivial, h.2, put a _ rfl⟩

end

/-- What 'waitsOn' gives waits. -/
theorem waitsOn_spec {ops : Array Oper} {listed : Array Bool} {k : Nat} : ∀ (n : Nat) (acc : List Nat),
    ((∀ j ∈ acc, listed.getD j true = false ∧ ∃ oj, ops[j]? = some oj ∧ ∃ e ∈ oj.after, Region.binds .any e = true ∧ (e.on = k ∨ e.on ∈ acc))) →
    ∀ j ∈ waitsOn ops listed k n acc, listed.getD j true = false ∧ ∃ oj, ops[j]? = some oj ∧ ∃ e ∈ oj.after, Region.binds .any e = true ∧ (e.on = k ∨ e.on ∈ waitsOn ops listed k n acc)
  | 0, acc, h => by simpa [waitsOn] using h
  | n + 1, acc, h => by
    simp only [waitsOn]
    split
    · rename_i j hj
      refine waitsOn_spec n (j :: acc) ?_
      have hp := List.find?_some hj
      simp only [Bool.and_eq_true, Bool.not_eq_true'] at hp
      obtain ⟨⟨⟨h1, h2⟩, h3⟩, h4⟩ := hp
      intro m hm
      rcases List.mem_cons.1 hm with rfl | hm
      · refine ⟨h1, ?_⟩
        cases ho : ops[m]? with
        | none => rw [ho] at h4; simp at h4
        | some oj =>
          rw [ho] at h4
          simp only [Option.map_some, Option.getD_some, Array.any_eq_true] at h4
          obtain ⟨i, hi, h4⟩ := h4
          simp only [Bool.and_eq_true, Bool.or_eq_true, beq_iff_eq, List.contains_iff_mem] at h4
          exact ⟨oj, rfl, _, Array.getElem_mem hi, h4.1, h4.2.imp id (fun x => List.mem_cons_of_mem _ x)⟩
      · obtain ⟨g1, oj, g2, e, g3, g4, g5⟩ := h m hm
        exact ⟨g1, oj, g2, e, g3, g4, g5.imp id (fun x => List.mem_cons_of_mem _ x)⟩
    · exact h

/-- What held of more boxes and facts holds of fewer. -/
theorem Rel.fewer {w0 : World} {mu : Fm} {bx bx' : List Box} {E E' : Mem} {ρ ρ' : Env} {w w' : World} (h : Rel w0 mu bx E ρ w) (hp : ρ <+: ρ') (hb : bx <+: bx') (hE : Mem.le E E') (h' : Rel w0 mu bx' E' ρ' w') : Rel w0 mu bx E ρ w' where
  keep := h'.keep
  len := h.len
  box i b oa h1 h2 := by
    have hx := h'.box i b oa (get_prefix hb h1) (get_prefix hp h2)
    have h0 := h.box i b oa h1 h2
    cases oa with
    | none => exact hx
    | some a =>
      obtain ⟨g1, vs, g2, g3⟩ := hx
      obtain ⟨_, vs0, k2, _⟩ := h0
      have := SV.denL_mono hp _ k2
      rw [g2] at this; cases this
      exact ⟨g1, vs, k2, g3⟩
  sep i b a h1 h2 h3 := by
    obtain ⟨t1, t2, t3⟩ := h'.sep i b a (get_prefix hb h1) h2 (get_prefix hp h3)
    exact ⟨t1, fun j b' a' hji g1 g2 g3 => t2 j b' a' hji (get_prefix hb g1) g2 (get_prefix hp g3), fun v cs g hne => t3 v cs (hE v cs g) hne⟩
  hold v cs g := h'.hold v cs (hE v cs g)
  bsrc i b a h1 h2 h3 := h'.bsrc i b a (get_prefix hb h1) h2 (get_prefix hp h3)
  src v cs g hne := h'.src v cs (hE v cs g) hne

section
variable {Ω : Option Rc} {P : Program} {callW : CallT} {all : Array Oper} {tail : List Nat} {w0 : World} {mu : Fm} {ρ0 : Env} {K : St → Prop} {Q : Exit → Act → World → Prop}

/-- One quiet operation, wanted or not. -/
theorem quiet_step {o : Oper} {S : St} {ρ : Env} {a : Act} {w : World} {M : St → Prop} {G : Prop} (hdet : isDet o.op = true) (hR : Rel w0 mu S.bx S.E ρ w) (hF : FrRel ρ S.fr a.tmps) (h : stepW P callW all o S M)
    (key : ∀ (v : Value) (S' : St), S'.bx = S.bx → Mem.le S.E S'.E → (∀ w, Rel w0 mu S.bx S.E ρ w → Rel w0 mu S.bx S'.E ρ w) → (∀ v cs, S'.E v cs → cs ≠ [] → ∃ v0 cs0, S.E v0 cs0 ∧ cs0 ≠ [] ∧ blk v = blk v0) → FrRel ρ S'.fr (a.put o.dst v).tmps → (∀ t : Nat, o.dst ≠ some t → S.fr[t]? = some none → S'.fr[t]? = some none) →
      YieldsIf P all (fun w => isLoad o.op = true → Rel w0 mu S.bx S.E ρ w) o v a → M S' → G) : G := by
  have hput : ∀ (S1 : St) (s : SV) (t : Nat), o.dst ≠ some t → S1.fr[t]? = some none → (S1.put o.dst s).fr[t]? = some none := by
    intro S1 s t ht h1
    unfold St.put
    cases hd : o.dst with
    | none => exact h1
    | some d =>
      have : d ≠ t := by rintro rfl; exact ht hd
      simp only [List.getElem?_set_ne this]; exact h1
  have hex : ∀ S1 : St, S1.bx = S.bx → S1.E = S.E → (∀ t : Nat, S.fr[t]? = some none → S1.fr[t]? = some none) → FrRel ρ S1.fr a.tmps → Region.wanted o (yielded all a.tmps) = true →
      (opW P callW o.op S1 fun s bx E => M (({ S1 with bx := bx, E := E } : St).put o.dst s)) → G := by
    intro S1 e1 e2 e3 hF1 hw hop
    refine detW_sound (S := S1) (w0 := w0) (mu := mu) (ρ := ρ) (w1 := w) hdet (by rw [e1, e2]; exact hR) hF1 hop (fun s v E' g1 g2 g3 g6 g4 g5 => ?_)
    rw [e2] at g2 g6
    rw [e1, e2] at g3
    rw [e1, e2] at g5
    refine key v _ ?_ ?_ ?_ ?_ ?_ ?_ (.inl ⟨hw, g5⟩) g4
    · rw [St.put_bx]; exact e1
    · rw [St.put_E]; exact g2
    · rw [St.put_E]; exact g3
    · rw [St.put_E]; exact g6
    · exact FrRel.put (S := { S1 with bx := S1.bx, E := E' }) hF1 o.dst g1
    · exact fun t ht hs => hput { S1 with bx := S1.bx, E := E' } s t ht (e3 t hs)
  have hsk : ∀ S1 : St, S1.bx = S.bx → S1.E = S.E → (∀ t : Nat, S.fr[t]? = some none → S1.fr[t]? = some none) → FrRel ρ S1.fr a.tmps → Region.wanted o (yielded all a.tmps) = false → M (S1.put o.dst (.raw undef)) → G := by
    intro S1 e1 e2 e3 hF1 hw hdr
    refine key undef _ ?_ ?_ ?_ ?_ ?_ ?_ (.inr ⟨hw, rfl⟩) hdr
    · rw [St.put_bx]; exact e1
    · rw [St.put_E, e2]; exact Mem.le_refl _
    · rw [St.put_E, e2]; exact fun _ g => g
    · rw [St.put_E, e2]; exact fun v cs g hne => ⟨v, cs, g, hne, rfl⟩
    · exact FrRel.put hF1 o.dst rfl
    · exact fun t ht hs => hput S1 _ t ht (e3 t hs)
  unfold stepW guardW at h
  split at h
  · rename_i hg
    exact hex S rfl rfl (fun _ x => x) hF (by simp [Region.wanted, hg]) h
  · rename_i j want hg
    split at h
    · exact h.elim
    · rename_i d hj
      split at h
      · rename_i b hb
        obtain ⟨v, h1, h2⟩ := hF.2 d _ hb
        simp only [SV.den, Option.some.injEq] at h2; subst h2
        have hy : yielded all a.tmps j = some b := by simp [yielded, hj, h1]
        have hset : ∀ c : Bool, b = c → FrRel ρ (S.put (some d) (.raw (.bool c))).fr a.tmps := fun c e => FrRel.lit hF h1 e
        have hnn : ∀ c : Bool, ∀ t : Nat, S.fr[t]? = some none → (S.put (some d) (.raw (.bool c))).fr[t]? = some none := by
          intro c t ht
          have : d ≠ t := by rintro rfl; rw [hb] at ht; cases ht
          simp only [St.put, List.getElem?_set_ne this]; exact ht
        cases want <;> cases b <;> simp only [cond] at h
        · exact hex (S.put (some d) (.raw (.bool false))) rfl rfl (hnn false) (hset false rfl) (by simp [Region.wanted, hg, hy]) h
        · exact hsk (S.put (some d) (.raw (.bool true))) rfl rfl (hnn true) (hset true rfl) (by simp [Region.wanted, hg, hy]) h
        · exact hsk (S.put (some d) (.raw (.bool false))) rfl rfl (hnn false) (hset false rfl) (by simp [Region.wanted, hg, hy]) h
        · exact hex (S.put (some d) (.raw (.bool true))) rfl rfl (hnn true) (hset true rfl) (by simp [Region.wanted, hg, hy]) h
      · rename_i vs hb
        obtain ⟨v, h1, h2⟩ := hF.2 d _ hb
        simp only [SV.den, Option.some.injEq] at h2; subst h2
        have hy : yielded all a.tmps j = none := by simp [yielded, hj, h1]
        exact hsk S rfl rfl (fun _ x => x) hF (by simp [Region.wanted, hg, hy]) h
      · exact h.elim

/-- The blocks that a state's boxes lie in. -/
def lvB (bx : List Box) (ρ : Env) : List Nat := (List.range bx.length).filterMap fun j => match bx[j]?, ρ[j]? with
  | some b, some (some a) => if b.live = true then some a.block else none
  | _, _ => none

theorem lvB_mem {bx : List Box} {ρ : Env} {j : Nat} {b : Box} {a : Addr} (h1 : bx[j]? = some b) (h2 : ρ[j]? = some (some a)) (h3 : b.live = true) : a.block ∈ lvB bx ρ := by
  refine List.mem_filterMap.2 ⟨j, List.mem_range.2 (get_lt h1), ?_⟩
  simp only [h1, h2, h3, if_true]

theorem lvB_of {bx : List Box} {ρ : Env} {g : Nat} (h : g ∈ lvB bx ρ) : ∃ (j : Nat) (b : Box) (a : Addr), bx[j]? = some b ∧ ρ[j]? = some (some a) ∧ b.live = true ∧ a.block = g := by
  obtain ⟨j, _, hj⟩ := List.mem_filterMap.1 h
  split at hj
  · rename_i b a h1 h2
    split at hj
    · rename_i hl
      simp only [Option.some.injEq] at hj
      exact ⟨j, b, a, h1, h2, hl, hj⟩
    · cases hj
  · cases hj

/-- A state, as one that an activation begins with. -/
theorem Rel.here {bx : List Box} {E : Mem} {ρ : Env} {w : World} {om : Option Rc} {ds : List Deferred} (h : Rel w0 mu bx E ρ w) : Rel w ⟨lvB bx ρ, E, om, ds⟩ bx E ρ w :=
  ⟨Keep.refl _ _, h.len, h.box, fun i b a h1 ho h2 => ⟨.inr (lvB_mem h1 h2 (by simp [Box.live, ho])), (h.sep i b a h1 ho h2).2⟩, h.hold, fun i b a h1 hl h2 => .inr (lvB_mem h1 h2 hl), fun v cs g hne => .inr ⟨v, cs, g, hne, rfl⟩⟩

/-- What went on from there, as part of the whole. -/
theorem Rel.compose {bx bx' : List Box} {E E' : Mem} {ρ ρ' : Env} {w w' : World} {om : Option Rc} {ds : List Deferred} (h : Rel w0 mu bx E ρ w) (h' : Rel w ⟨lvB bx ρ, E, om, ds⟩ bx' E' ρ' w') : Rel w0 mu bx' E' ρ' w' := by
  have hsrc : ∀ g, g ∈ lvB bx ρ → w0.heap.size ≤ g ∨ g ∈ mu.mu := by
    intro g hg
    obtain ⟨j, b, a, h1, h2, h3, rfl⟩ := lvB_of hg
    exact h.bsrc j b a h1 h3 h2
  have hsrc2 : ∀ g, (w.heap.size ≤ g ∨ g ∈ lvB bx ρ) → w0.heap.size ≤ g ∨ g ∈ mu.mu := by
    rintro g (hg | hg)
    · exact .inl (Nat.le_trans h.keep.size hg)
    · exact hsrc g hg
  have hk := h'.keep
  refine ⟨⟨hk.os.trans h.keep.os, hk.tape.trans h.keep.tape, hk.output.trans h.keep.output, Nat.le_trans h.keep.size hk.size, fun k h1 h2 => ?_⟩, h'.len, h'.box, ?_, h'.hold, ?_, ?_⟩
  · rw [hk.block k (Nat.lt_of_lt_of_le h1 h.keep.size) (fun hg => by
      rcases hsrc k hg with q | q
      · omega
      · exact h2 q)]
    exact h.keep.block k h1 h2
  · intro i b a h1 ho h2
    obtain ⟨t1, t2, t3⟩ := h'.sep i b a h1 ho h2
    exact ⟨hsrc2 _ t1, t2, t3⟩
  · intro i b a h1 hl h2
    exact hsrc2 _ (h'.bsrc i b a h1 hl h2)
  · intro v cs g hne
    rcases h'.src v cs g hne with ⟨b, e1, e2⟩ | ⟨v0, cs0, e1, e2, e3⟩
    · exact .inl ⟨b, e1, hsrc2 b e2⟩
    · rw [e3]; exact h.src v0 cs0 e1 e2

/-- A variable that has been made already, though it comes later in the order that is walked: operation r's, in block g. -/
structure Hid (P : Program) (all : Array Oper) (w0 : World) (bx : List Box) (E : Mem) (ρ : Env) (a : Act) (w : World) (r g : Nat) : Prop where
  op : ∃ d T type pos after i z, all[r]? = some ⟨some d, .alloc T, type, pos, after, none⟩ ∧ P.info? T = some i ∧ i.zero = some z ∧ oneOrAgg (.raw z) = true ∧ w.heap[g]? = some (.cells z.cells T (0, 0)) ∧ (a.tmps[d]? = some (.pointer (some ⟨g, 0, none⟩)) ∨ a.tmps[d]? = none)
  new : w0.heap.size ≤ g
  apart : (∀ (j : Nat) b' a', bx[j]? = some b' → b'.live = true → ρ[j]? = some (some a') → a'.block ≠ g) ∧ (∀ v cs, E v cs → cs ≠ [] → blk v ≠ some g)

theorem allocAt_spec {okT : TypeId → Bool} {r : Nat} (h : allocAt okT all r = true) : ∃ d T type pos after, all[r]? = some ⟨some d, .alloc T, type, pos, after, none⟩ ∧ okT T = true ∧ ∀ k o, all[k]? = some o → k ≠ r → o.dst ≠ some d := by
  unfold allocAt at h
  split at h
  · rename_i d T type pos after ho
    simp only [Bool.and_eq_true, List.all_eq_true, List.mem_range, Bool.or_eq_true, beq_iff_eq, decide_eq_true_eq] at h
    refine ⟨d, T, type, pos, after, ho, h.1, fun k o hk hne => ?_⟩
    have hks : k < all.size := (Array.getElem?_eq_some_iff.1 hk).1
    rcases h.2 k hks with q | q
    · exact absurd q hne
    · rw [hk] at q; exact q
  · cases h

theorem okTy_spec {P : Program} {T : TypeId} (h : okTy P T = true) : ∃ i z, P.info? T = some i ∧ i.zero = some z ∧ oneOrAgg (.raw z) = true := by
  unfold okTy at h
  split at h
  · rename_i i hi
    split at h
    · rename_i z hz; exact ⟨i, z, hi, hz, h⟩
    · cases h
  · cases h

theorem setAllB_getD : ∀ (l : List Nat) (listed : Array Bool) (k : Nat), (setAllB listed l).getD k true = (listed.getD k true || l.contains k)
  | [], listed, k => by simp [setAllB]
  | i :: l, listed, k => by
    rw [setAllB, setAllB_getD l]
    by_cases hik : i = k
    · subst hik
      rcases Nat.lt_or_ge i listed.size with h' | h'
      · simp [h']
      · simp [h']
    · rw [getD_set_ne true hik]
      simp [Ne.symm hik]

theorem setAllB_size : ∀ (l : List Nat) (listed : Array Bool), (setAllB listed l).size = listed.size
  | [], _ => rfl
  | i :: l, listed => by rw [setAllB, setAllB_size l]; simp

theorem getD_true_false {l : Array Bool} {k : Nat} (h : k < l.size) : l.getD k false = l.getD k true := by simp [h]

/-- Ready where fewer are listed: ready where more are, or listed there. -/
theorem ready_more {l l' : Array Bool} (hs : l.size = l'.size) (h : ∀ k, l.getD k true = true → l'.getD k true = true) {k : Nat} (hk : k ∈ Region.ready .any all l) (hu : l'.getD k true = false) : k ∈ Region.ready .any all l' := by
  obtain ⟨_, o, ho, hall⟩ := mem_ready.1 hk
  refine mem_ready.2 ⟨by simpa using hu, o, ho, fun e he hb => ?_⟩
  have h1 := hall e he hb
  have hsz : e.on < l.size := by
    rcases Nat.lt_or_ge e.on l.size with q | q
    · exact q
    · simp [q] at h1
  rw [getD_true_false hsz] at h1
  rw [getD_true_false (by omega)]
  exact h _ h1

/-- Slots of which nothing is known, but for an operation's own. -/
def frOK (S S' : St) (dst : Option Tmp) : Prop := ∀ t : Nat, dst ≠ some t → S.fr[t]? = some none ∨ S.fr[t]? = none → S'.fr[t]? = some none ∨ S'.fr[t]? = none

theorem frOK_set {l : List (Option SV)} {d : Nat} {x : Option SV} {t : Nat} (hne : d ≠ t) (h : l[t]? = some none ∨ l[t]? = none) : (l.set d x)[t]? = some none ∨ (l.set d x)[t]? = none := by
  rw [List.getElem?_set_ne hne]; exact h

theorem frOK_put (S S1 : St) (o : Option Tmp) (s : SV) (h : ∀ t : Nat, S.fr[t]? = some none ∨ S.fr[t]? = none → S1.fr[t]? = some none ∨ S1.fr[t]? = none) : frOK S (S1.put o s) o := by
  intro t ht hs
  have h1 := h t hs
  unfold St.put
  cases o with
  | none => exact h1
  | some d =>
    have : d ≠ t := by rintro rfl; exact ht rfl
    simp only [List.getElem?_set_ne this]; exact h1

theorem guardW_fr {o : Oper} {S : St} {exec skip exec' skip' : St → Prop}
    (he : ∀ S1 : St, (∀ t : Nat, S.fr[t]? = some none ∨ S.fr[t]? = none → S1.fr[t]? = some none ∨ S1.fr[t]? = none) → exec S1 = exec' S1)
    (hs : ∀ S1 : St, (∀ t : Nat, S.fr[t]? = some none ∨ S.fr[t]? = none → S1.fr[t]? = some none ∨ S1.fr[t]? = none) → skip S1 = skip' S1) : guardW all o S exec skip = guardW all o S exec' skip' := by
  unfold guardW
  split
  · exact he S (fun _ x => x)
  · split
    · rfl
    · rename_i d hj
      split
      · rename_i b hb
        have hn : ∀ c : Bool, ∀ t : Nat, S.fr[t]? = some none ∨ S.fr[t]? = none → (S.put (some d) (.raw (.bool c))).fr[t]? = some none ∨ (S.put (some d) (.raw (.bool c))).fr[t]? = none := by
          intro c t ht
          have : d ≠ t := by rintro rfl; rw [hb] at ht; rcases ht with q | q <;> cases q
          simp only [St.put, List.getElem?_set_ne this]; exact ht
        rw [he _ (hn true), he _ (hn false), hs _ (hn true), hs _ (hn false)]
      · exact hs S (fun _ x => x)
      · rfl

theorem stepW_fr {o : Oper} {S : St} {M : St → Prop} : stepW P callW all o S M = stepW P callW all o S (fun S' => frOK S S' o.dst ∧ M S') := by
  unfold stepW
  refine guardW_fr (fun S1 h1 => ?_) (fun S1 h1 => ?_)
  · congr 1
    funext s bx E
    exact propext ⟨fun x => ⟨frOK_put S { S1 with bx := bx, E := E } o.dst s h1, x⟩, fun x => x.2⟩
  · exact propext ⟨fun x => ⟨frOK_put S S1 o.dst _ h1, x⟩, fun x => x.2⟩

theorem stepGW_fr {o : Oper} {S : St} {M : St → Prop} : stepGW P callW all o S M = stepGW P callW all o S (fun S' => frOK S S' o.dst ∧ M S') := by
  unfold stepGW
  refine guardW_fr (fun S1 h1 => ?_) (fun S1 h1 => ?_)
  · congr 1
    congr 1
    funext s bx E
    exact propext ⟨fun x => ⟨frOK_put S { S1 with bx := bx, E := E } o.dst s h1, x⟩, fun x => x.2⟩
  · exact propext ⟨fun x => ⟨frOK_put S S1 o.dst _ h1, x⟩, fun x => x.2⟩

theorem nodup_map_inj {α β : Type} {f : α → β} : ∀ {l : List α}, (l.map f).Nodup → ∀ {x y : α}, x ∈ l → y ∈ l → f x = f y → x = y
  | [], _, _, _, h, _, _ => by cases h
  | z :: l, hn, x, y, hx, hy, e => by
    simp only [List.map_cons, List.nodup_cons] at hn
    rcases List.mem_cons.1 hx with rfl | hx
    · rcases List.mem_cons.1 hy with rfl | hy
      · rfl
      · exact absurd (List.mem_map.2 ⟨y, hy, e.symm⟩) hn.1
    · rcases List.mem_cons.1 hy with e2 | hy
      · rw [e2] at e; exact absurd (List.mem_map.2 ⟨x, hx, e⟩) hn.1
      · exact nodup_map_inj hn.2 hx hy e

theorem filter_ne_length : ∀ {H : List (Nat × Nat)}, (H.map (·.1)).Nodup → ∀ {z : Nat × Nat}, z ∈ H → (H.filter fun y => y.1 != z.1).length + 1 = H.length
  | [], _, _, h => by cases h
  | y :: H, hn, z, hz => by
    simp only [List.map_cons, List.nodup_cons] at hn
    rcases List.mem_cons.1 hz with rfl | hz
    · have : (z :: H).filter (fun y => y.1 != z.1) = H := by
        rw [List.filter_cons_of_neg (by simp)]
        refine List.filter_eq_self.2 fun u hu => ?_
        simp only [bne_iff_ne]
        intro e
        exact hn.1 (List.mem_map.2 ⟨u, hu, e⟩)
      rw [this]; rfl
    · have hne : y.1 ≠ z.1 := fun e => hn.1 (List.mem_map.2 ⟨z, hz, e.symm⟩)
      rw [List.filter_cons_of_pos (by simpa using hne)]
      simp only [List.length_cons]
      have := filter_ne_length hn.2 hz
      omega

theorem FrRel.learn {ρ : Env} {fr : List (Option SV)} {tmps : Array Value} (h : FrRel ρ fr tmps) (d : Nat) {s : SV} {v : Value} (hv : s.den ρ = some v) (ht : tmps[d]? = some v) : FrRel ρ (fr.set d (some s)) tmps := by
  refine ⟨by simp [h.1], fun i t hi => ?_⟩
  by_cases hid : d = i
  · subst hid
    rw [List.getElem?_set_self'] at hi
    cases hf : fr[d]? with
    | none => simp [hf] at hi
    | some o => simp [hf] at hi; subst hi; exact ⟨v, ht, hv⟩
  · rw [List.getElem?_set_ne hid] at hi
    exact h.2 i t hi

theorem FrRel.skip {ρ : Env} {fr : List (Option SV)} {tmps : Array Value} (h : FrRel ρ fr tmps) (d : Nat) (v : Value) (hd : fr[d]? = some none ∨ fr[d]? = none) : FrRel ρ fr (tmps.setIfInBounds d v) := by
  refine ⟨by simp [h.1], fun i t hi => ?_⟩
  have hid : d ≠ i := by
    rintro rfl
    rcases hd with q | q <;> rw [q] at hi <;> cases hi
  obtain ⟨u, h1, h2⟩ := h.2 i t hi
  exact ⟨u, by rw [Array.getElem?_setIfInBounds_ne hid]; exact h1, h2⟩

theorem getD_inj {l l' : Array Bool} (hs : l.size = l'.size) (h : ∀ k, l.getD k true = l'.getD k true) : l = l' := by
  apply Array.ext hs
  intro i h1 h2
  have := h i
  simpa [h1, h2] using this

theorem getD_set {l : Array Bool} {i k : Nat} : (l.setIfInBounds i true).getD k true = (l.getD k true || decide (i = k)) := by
  by_cases hik : i = k
  · subst hik
    rcases Nat.lt_or_ge i l.size with h' | h' <;> simp [h']
  · rw [getD_set_ne true hik]; simp [hik]

theorem drawW_wpT (hcall : CallOK Ω P callW) (hom : mu.om = Ω ∧ okE Ω ρ0) (hsel : Region.noSelect all = true) (hQ : ∀ a w, Lift w0 mu ρ0 K a w → Q .normal a w) (hpan : ∀ c a w, ¬ Q (.panic c) a w)
    (m n : Nat) (listed lc : Array Bool) (H : List (Nat × Nat)) (S : St) (ρ : Env) (a : Act) (w : World) (h : runW P callW all (planW (okTy P) all tail m listed) S K) (hls : listed.size = all.size) (hlc : lc.size = all.size)
    (hset : ∀ k, lc.getD k true = (listed.getD k true || (H.map (·.1)).contains k)) (hH : ∀ x ∈ H, x.1 ∈ Region.ready .any all listed ∧ allocAt (okTy P) all x.1 = true ∧ Hid P all w0 S.bx S.E ρ a w x.1 x.2) (hHt : ∀ x ∈ H, tail.contains x.1 = false) (hnd : (H.map (·.1)).Nodup ∧ (H.map (·.2)).Nodup)
    (hfr : ∀ r d, allocAt (okTy P) all r = true → listed.getD r true = false → (all[r]?).bind (·.dst) = some d → S.fr[d]? = some none ∨ S.fr[d]? = none)
    (hm : m = n + H.length) (hU : ∃ U : List Nat, (∀ k, lc.getD k true = false → k ∈ U) ∧ U.length ≤ n) (hd : a.defers = mu.ds ∧ okO w0 mu) (hp : ρ0 <+: ρ) (hR : Rel w0 mu S.bx S.E ρ w) (hF : FrRel ρ S.fr a.tmps) :
      wpT P all Q (fun j => !tail.contains j && !detAt all j) (fun j => !tail.contains j && detAt all j) (fun w => Rel w0 mu S.bx S.E ρ w) n lc a w := by
  have hsz : ∀ (l : Array Bool) i, l.size = all.size → (l.setIfInBounds i true).size = all.size := fun l i hl => by simpa using hl
  -- what is hidden is not listed
  have hHu : ∀ x ∈ H, listed.getD x.1 true = false := fun x hx => ready_unlisted (hH x hx).1
  have hHlt : ∀ x ∈ H, x.2 < w.heap.size := fun x hx => by
    obtain ⟨_, _, _, _, _, _, _, _, _, _, _, hg, _⟩ := (hH x hx).2.2.op
    exact (Array.getElem?_eq_some_iff.1 hg).1
  -- nothing hidden: as it stands
  have hnil : H = [] → lc = listed := fun e => getD_inj (by rw [hls, hlc]) (fun k => by rw [hset, e]; simp)
  -- the count of what is left
  have hUset : ∀ i, lc.getD i true = false → ∃ n', n = n' + 1 ∧ ∃ U : List Nat, (∀ k, (lc.setIfInBounds i true).getD k true = false → k ∈ U) ∧ U.length ≤ n' := by
    intro i hi
    obtain ⟨U, h1, h2⟩ := hU
    have hiU := h1 i hi
    have hpos : 0 < U.length := List.length_pos_of_mem hiU
    refine ⟨n - 1, by omega, U.erase i, fun k hk => ?_, ?_⟩
    · rw [getD_set] at hk
      simp only [Bool.or_eq_false_iff, decide_eq_false_iff_not] at hk
      exact (List.mem_erase_of_ne (Ne.symm hk.2)).2 (h1 k hk.1)
    · rw [List.length_erase_of_mem hiU]; omega
  -- a step that the plan takes: what is hidden stays hidden
  have hstepH : ∀ (i : Nat) (oi : Oper), all[i]? = some oi → i ∈ Region.ready .any all listed → (∀ x ∈ H, x.1 ≠ i) → ∀ (S' : St) (ρ' : Env) (a' : Act) (w' : World),
      (∀ t : Nat, oi.dst ≠ some t → a'.tmps[t]? = a.tmps[t]?) → (∀ x ∈ H, w'.heap[x.2]? = w.heap[x.2]?) →
      (∀ x ∈ H, (∀ (j : Nat) b' a', S'.bx[j]? = some b' → b'.live = true → ρ'[j]? = some (some a') → a'.block ≠ x.2) ∧ (∀ v cs, S'.E v cs → cs ≠ [] → blk v ≠ some x.2)) →
      ∀ x ∈ H, x.1 ∈ Region.ready .any all (listed.setIfInBounds i true) ∧ allocAt (okTy P) all x.1 = true ∧ Hid P all w0 S'.bx S'.E ρ' a' w' x.1 x.2 := by
    intro i oi hoi hi hne S' ρ' a' w' ht hh hap x hx
    obtain ⟨h1, h2, h3⟩ := hH x hx
    refine ⟨ready_mono h1 (hne x hx), h2, ?_⟩
    obtain ⟨d, T, type, pos, after, ii, z, e1, e2, e3, e4, e5, e6⟩ := h3.op
    refine ⟨⟨d, T, type, pos, after, ii, z, e1, e2, e3, e4, by rw [hh x hx]; exact e5, ?_⟩, h3.new, hap x hx⟩
    obtain ⟨d', T', type', pos', after', f1, _, f3⟩ := allocAt_spec h2
    rw [e1] at f1
    simp only [Option.some.injEq, Oper.mk.injEq] at f1
    obtain ⟨rfl, _⟩ := f1
    rw [ht d (f3 i oi hoi (fun e => hne x hx e.symm))]; exact e6
  have hsetStep : ∀ i, (∀ x ∈ H, x.1 ≠ i) → ∀ k, (lc.setIfInBounds i true).getD k true = ((listed.setIfInBounds i true).getD k true || (H.map (·.1)).contains k) := by
    intro i _ k
    rw [getD_set, getD_set, hset]
    cases listed.getD k true <;> cases (H.map (·.1)).contains k <;> cases decide (i = k) <;> rfl
  have hfrStep : ∀ (i : Nat) (oi : Oper) (S' : St), all[i]? = some oi → (∀ t : Nat, oi.dst ≠ some t → S.fr[t]? = some none ∨ S.fr[t]? = none → S'.fr[t]? = some none ∨ S'.fr[t]? = none) →
      ∀ r d, allocAt (okTy P) all r = true → (listed.setIfInBounds i true).getD r true = false → (all[r]?).bind (·.dst) = some d → S'.fr[d]? = some none ∨ S'.fr[d]? = none := by
    intro i oi S' hoi hS r d hr hl hdst
    rw [getD_set] at hl
    simp only [Bool.or_eq_false_iff, decide_eq_false_iff_not] at hl
    obtain ⟨d', T', type', pos', after', f1, _, f3⟩ := allocAt_spec hr
    rw [f1] at hdst
    simp only [Option.bind_some, Option.some.injEq] at hdst
    subst hdst
    exact hS d' (f3 i oi hoi hl.2) (hfr r d' hr hl.1 (by rw [f1]; rfl))
  -- one more is hidden
  have hide : ∀ i, i ∈ Region.ready .any all listed → allocAt (okTy P) all i = true → tail.contains i = false → (∀ x ∈ H, x.1 ≠ i) → ∀ n', n = n' + 1 → (∃ U : List Nat, (∀ k, (lc.setIfInBounds i true).getD k true = false → k ∈ U) ∧ U.length ≤ n') →
      wpOpIn Fence.wide 0 P all Q i (fun a' w' => ((fun j => !tail.contains j && !detAt all j) i = true → Rel w0 mu S.bx S.E ρ w') ∧ ((fun j => !tail.contains j && detAt all j) i = true → w' = w) ∧
        wpT P all Q (fun j => !tail.contains j && !detAt all j) (fun j => !tail.contains j && detAt all j) (fun w => Rel w0 mu S.bx S.E ρ w) n' (lc.setIfInBounds i true) a' w') a w := by
    intro i hi hal htl hne n' hn' hU'
    obtain ⟨d, T, type, pos, after, ho, hok, huniq⟩ := allocAt_spec hal
    obtain ⟨ii, z, hi1, hi2, hi3⟩ := okTy_spec hok
    have hrun : (execOp a.eval ⟨some d, .alloc T, type, pos, after, none⟩).run P w = .ok (.value (.pointer (some ⟨w.heap.size, 0, none⟩))) (w.alloc (.cells z.cells T)) := by
      show Sem.run P (do pure (Next.value (← Instr.alloc T true (.tuple #[])))) w = _
      simp only [Instr.alloc, Sem.run_bind, run_zeroValue' hi1 hi2, Result.andThen_ok, run_newVar', Sem.run_pure]
    have hnd' : detAt all i = false := by simp [detAt, ho, isDet]
    have hgrow : Rel w0 mu S.bx S.E ρ (w.alloc (.cells z.cells T)) := hR.grow (Keep.alloc [] w _)
    unfold wpOpIn
    rw [ho]
    dsimp only
    rw [if_pos (by simp [Region.wanted])]
    refine ⟨fun _ _ => trivial, ?_⟩
    rw [Oper.semAt_eq _ _ _ (by intro c e; cases e), hrun, Oper.uponIn_value]
    refine ⟨fun _ => hgrow, fun e => (by rw [hnd'] at e; simp at e), ?_⟩
    have hdn := hfr i d hal (ready_unlisted hi) (by rw [ho]; rfl)
    have htm : ∀ (t : Nat), d ≠ t → (a.put (some d) (.pointer (some ⟨w.heap.size, 0, none⟩))).tmps[t]? = a.tmps[t]? := fun t ht => by
      simp only [Act.put, Array.getElem?_setIfInBounds_ne ht]
    refine drawW_wpT hcall hom hsel hQ hpan m n' listed (lc.setIfInBounds i true) ((i, w.heap.size) :: H) S ρ _ _ h hls (hsz _ _ hlc) ?_ ?_ (by intro x hx; rcases List.mem_cons.1 hx with rfl | hx; exact htl; exact hHt x hx) ?_ hfr (by simp only [List.length_cons]; omega) hU' (by rw [put_defers]; exact hd) hp hgrow ?_
    · intro k
      rw [getD_set, hset]
      simp only [List.map_cons, List.contains_cons]
      by_cases hik : i = k
      · subst hik; simp
      · have : (k == i) = false := by simpa using Ne.symm hik
        simp [hik, this]
    · intro x hx
      rcases List.mem_cons.1 hx with rfl | hx
      · refine ⟨hi, hal, ⟨⟨d, T, type, pos, after, ii, z, ho, hi1, hi2, hi3, heap_alloc_new w _, ?_⟩, hR.keep.size, ?_, ?_⟩⟩
        · rcases Nat.lt_or_ge d a.tmps.size with hdz | hdz
          · left; simp [Act.put, hdz]
          · right; simp [Act.put, hdz]
        · intro j b' a' g1 g2 g3
          have := (hR.box j b' _ g1 g3).lt g2
          simp only; omega
        · intro v cs hE hcs hb
          obtain ⟨b2, q1, q2⟩ := (hR.hold v cs hE).lt hcs
          rw [hb] at q1; cases q1
          exact absurd q2 (Nat.lt_irrefl _)
      · obtain ⟨h1, h2, h3⟩ := hH x hx
        refine ⟨h1, h2, ?_⟩
        obtain ⟨d2, T2, type2, pos2, after2, ii2, z2, e1, e2, e3, e4, e5, e6⟩ := h3.op
        refine ⟨⟨d2, T2, type2, pos2, after2, ii2, z2, e1, e2, e3, e4, by rw [heap_alloc_old w _ _ (hHlt x hx)]; exact e5, ?_⟩, h3.new, h3.apart⟩
        have hdd : d ≠ d2 := by
          intro e
          exact huniq x.1 _ e1 (hne x hx) (by rw [e])
        rw [htm d2 hdd]; exact e6
    · refine ⟨?_, ?_⟩
      · simp only [List.map_cons, List.nodup_cons]
        refine ⟨fun hm => ?_, hnd.1⟩
        obtain ⟨x, hx, e⟩ := List.mem_map.1 hm
        exact hne x hx e
      · simp only [List.map_cons, List.nodup_cons]
        refine ⟨fun hm => ?_, hnd.2⟩
        obtain ⟨x, hx, e⟩ := List.mem_map.1 hm
        have := hHlt x hx
        omega
    · exact FrRel.skip hF d _ hdn

  cases m with
  | zero =>
    have hn0 : n = 0 := by omega
    have hH0 : H = [] := List.eq_nil_of_length_eq_zero (by omega)
    subst hn0
    rw [hnil hH0]
    simp only [planW] at h
    split at h
    · rename_i hr; exact ⟨hr, hQ a w ⟨hd, S, ρ, hp, hR, hF, h⟩⟩
    · exact h.elim
  | succ m =>
    simp only [planW] at h
    split at h
    · rename_i hr
      have hH0 : H = [] := by
        cases H with
        | nil => rfl
        | cons x H => have := (hH x (by simp)).1; rw [hr] at this; cases this
      subst hH0
      rw [hnil rfl]
      simp only [List.length_nil, Nat.add_zero] at hm
      subst hm
      exact ⟨fun _ => hQ a w ⟨hd, S, ρ, hp, hR, hF, h⟩, fun i hi => by rw [hr] at hi; cases hi⟩
    · rename_i r rs hr
      split at h
      · -- a quiet operation is taken first
        rename_i i hfind
        simp only [runW] at h
        split at h
        case h_2 => exact h.elim
        rename_i o ho
        have hp1 := List.find?_some hfind
        simp only [quietFirst, Bool.and_eq_true, Bool.not_eq_true', detAt, ho, Option.map_some, Option.getD_some, Bool.or_eq_true] at hp1
        obtain ⟨⟨⟨hdet, hnt⟩, hfree⟩, htail⟩ := hp1
        have hir : i ∈ Region.ready .any all listed := by rw [hr]; exact List.mem_of_find?_eq_some hfind
        have hiH : ∀ x ∈ H, x.1 ≠ i := by
          rintro x hx rfl
          obtain ⟨d, T, type, pos, after, f1, _, _⟩ := allocAt_spec (hH x hx).2.1
          rw [f1] at ho; cases ho
          simp [isDet] at hdet
        have hiu : lc.getD i true = false := by
          rw [hset, ready_unlisted hir]
          simp only [Bool.false_or, List.contains_eq_mem, decide_eq_false_iff_not]
          intro hm
          obtain ⟨x, hx, e⟩ := List.mem_map.1 hm
          exact hiH x hx e
        have hirc : i ∈ Region.ready .any all lc := ready_more (by rw [hls, hlc]) (fun k hk => by rw [hset, hk]; rfl) hir hiu
        obtain ⟨n', rfl, hU'⟩ := hUset i hiu
        have hB := waitsOn_spec (ops := all) (listed := listed) (k := i) all.size [] (by simp)
        have hBl : ∀ j ∈ waitsOn all listed i all.size [], lc.getD j true = false := by
          intro j hj
          obtain ⟨q1, oj, q2, e, q3, q4, q5⟩ := hB j hj
          cases hq : lc.getD j true with
          | false => rfl
          | true =>
            exfalso
            rw [hset, q1] at hq
            simp only [Bool.false_or, List.contains_eq_mem, decide_eq_true_eq] at hq
            obtain ⟨x, hx, rfl⟩ := List.mem_map.1 hq
            obtain ⟨_, o2, g2, hall⟩ := mem_ready.1 (hH x hx).1
            rw [q2] at g2; cases g2
            have hon := hall e q3 q4
            have hfalse : listed.getD e.on true = false := by
              rcases q5 with q5 | q5
              · rw [q5]; exact ready_unlisted hir
              · exact (hB _ q5).1
            rcases Nat.lt_or_ge e.on listed.size with h' | h'
            · simp [h'] at hfalse hon; rw [hfalse] at hon; cases hon
            · simp [h'] at hon
        refine quiet_step hdet hR hF h (fun v S' e1 hle hrel hsub hF' hnone hy hdraw => ?_)
        have hrest := drawW_wpT hcall hom hsel hQ hpan m n' (listed.setIfInBounds i true) (lc.setIfInBounds i true) H S' ρ (a.put o.dst v) w hdraw (hsz _ _ hls) (hsz _ _ hlc) (hsetStep i hiH)
          (hstepH i o ho hir hiH S' ρ _ w (fun t ht => by
            unfold Act.put
            cases hdo : o.dst with
            | none => rfl
            | some d0 =>
              have : d0 ≠ t := by rintro rfl; exact ht hdo
              simp only [Array.getElem?_setIfInBounds_ne this]) (fun _ _ => rfl) (fun x hx => by
            rw [e1]
            refine ⟨(hH x hx).2.2.apart.1, fun v cs hE hne => ?_⟩
            obtain ⟨v0, cs0, q1, q2, q3⟩ := hsub v cs hE hne
            rw [q3]; exact (hH x hx).2.2.apart.2 v0 cs0 q1 q2)) hHt hnd
          (hfrStep i o S' ho (fun t ht hs => hs.imp (fun q => hnone t ht q) (fun q => by
            have hl1 := hF.1
            have hl2 := hF'.1
            have hput : (a.put o.dst v).tmps.size = a.tmps.size := by unfold Act.put; split <;> simp
            rw [List.getElem?_eq_none_iff] at q ⊢
            omega))) (by omega) hU' (by rw [put_defers]; exact hd) hp (by rw [e1]; exact hrel w hR) hF'
        refine wpT_first (S1 := fun w => isLoad o.op = true → Rel w0 mu S.bx S.E ρ w) (B := if isLoad o.op = true then waitsOn all listed i all.size [] else []) ho (Region.noSelect_spec hsel) (fun c a w hq => (hpan _ _ _ hq).elim) (by simp [detAt, ho, hdet]) (fun w hw _ => hw) ?_ n' lc a w ?_ ?_ ?_ hirc hy (fun _ => hR) ?_
        · intro j hj
          by_cases hld : isLoad o.op = true
          · rw [if_pos hld] at hj ⊢; exact (hB j hj).2
          · rw [if_neg hld] at hj; cases hj
        · intro j oj hoj hji hun hno
          exact Region.free_spec ho hfree j oj hoj hji (by
            cases hq : listed.getD j true with
            | false => rfl
            | true => rw [hset, hq] at hun; simp at hun) hno
        · by_cases hld : isLoad o.op = true
          · right
            intro j hj hTj hDj hji
            rw [if_pos hld]
            have hmem : j ∈ tail := by
              cases hc : tail.contains j with
              | true => simpa using hc
              | false =>
                rw [hc] at hTj hDj
                cases hdj : detAt all j <;> simp [hdj] at hTj hDj
            rcases htail with hq | hq
            · simp [loadAtI, ho, hld] at hq
            · have := List.all_eq_true.1 hq j hmem
              have hjl : listed.getD j true = false := by
                cases hx : listed.getD j true with
                | false => rfl
                | true => rw [hset, hx] at hj; simp at hj
              rw [hjl] at this
              simpa using this
          · left; intro w hw; exact absurd hw hld
        · intro j hj
          by_cases hld : isLoad o.op = true
          · rw [if_pos hld] at hj; exact hBl j hj
          · rw [if_neg hld] at hj; cases hj
        · refine wpT_mono (fun w' hw' => ?_) n' _ _ _ hrest
          rw [e1] at hw'
          exact hw'.weakE hle
      · rename_i hfind
        have hHmem : ∀ x ∈ H, x.1 ∈ (r :: rs).filter (allocAt (okTy P) all) := fun x hx => List.mem_filter.2 ⟨by rw [← hr]; exact (hH x hx).1, (hH x hx).2.1⟩
        split at h
        · -- what is left changes no memory, or lies behind what does: every order
          rename_i hall
          have hH0 : H = [] := by
            cases H with
            | nil => rfl
            | cons x H =>
              exfalso
              have h1 := (hH x (by simp)).1
              have h2 := hHt x (by simp)
              have h3 := (hH x (by simp)).2.1
              have hl := ready_unlisted h1
              have hlt : x.1 < all.size := by
                rcases Nat.lt_or_ge x.1 all.size with q | q
                · exact q
                · obtain ⟨d, T, type, pos, after, e1, _⟩ := allocAt_spec h3
                  rw [Array.getElem?_eq_none_iff.2 q] at e1; cases e1
              have h4 := List.all_eq_true.1 hall x.1 (List.mem_range.2 hlt)
              obtain ⟨d, T, type, pos, after, e1, _⟩ := allocAt_spec h3
              have h5 : detAt all x.1 = false := by simp [detAt, e1, isDet]
              rw [hl, h2, h5] at h4
              cases h4
          subst hH0
          have hlce := hnil rfl
          subst hlce
          simp only [List.length_nil, Nat.add_zero] at hm
          subst hm
          have hno : ∀ x ∈ ([] : List (Nat × Nat)), x.1 ≠ (0 : Nat) → False := by simp
          have rec0 : ∀ (i : Nat) (oi : Oper) (S' : St) (ρ' : Env) (a' : Act) (w' : World), all[i]? = some oi → lc.getD i true = false → runW P callW all (planW (okTy P) all tail m (lc.setIfInBounds i true)) S' K → (a'.defers = mu.ds ∧ okO w0 mu) → ρ0 <+: ρ' → Rel w0 mu S'.bx S'.E ρ' w' → FrRel ρ' S'.fr a'.tmps →
              (∀ t : Nat, oi.dst ≠ some t → S.fr[t]? = some none ∨ S.fr[t]? = none → S'.fr[t]? = some none ∨ S'.fr[t]? = none) →
              wpT P all Q (fun j => !tail.contains j && !detAt all j) (fun j => !tail.contains j && detAt all j) (fun w => Rel w0 mu S'.bx S'.E ρ' w) m (lc.setIfInBounds i true) a' w' := by
            intro i oi S' ρ' a' w' hoi hiu hdraw hd' hp' hR' hF' hfr'
            obtain ⟨n', hn', hU'⟩ := hUset i hiu
            have : n' = m := by omega
            subst this
            exact drawW_wpT hcall hom hsel hQ hpan n' n' (lc.setIfInBounds i true) (lc.setIfInBounds i true) [] S' ρ' a' w' hdraw (hsz _ _ hls) (hsz _ _ hls) (fun k => by simp) (by simp) (by simp) (by simp) (hfrStep i oi S' hoi hfr') (by simp) hU' hd' hp' hR' hF'
          refine ⟨fun e => (by rw [hr] at e; cases e), fun i hi => ?_⟩
          rw [hr] at hi
          obtain ⟨o, ho, h1⟩ := runW_branches h i hi
          have hT : ∀ j, lc.getD j true = false → (!tail.contains j && !detAt all j) = false := by
            intro j hj
            by_cases hjs : j < all.size
            · have := List.all_eq_true.1 hall j (List.mem_range.2 hjs)
              rw [hj] at this
              simp only [Bool.false_or, Bool.or_eq_true] at this
              rcases this with q | q
              · rw [q]; rfl
              · rw [q]; simp
            · exfalso
              have : ¬ j < lc.size := by omega
              simp [Array.getElem?_eq_none (Nat.le_of_not_lt this)] at hj
          have hir : i ∈ Region.ready .any all lc := by rw [hr]; exact hi
          have hTi := hT i (ready_unlisted hir)
          by_cases hdi : (!tail.contains i && detAt all i) = true
          · -- a quiet one
            have hdet : isDet o.op = true := by
              simp only [Bool.and_eq_true, detAt, ho, Option.map_some, Option.getD_some] at hdi
              exact hdi.2
            refine quiet_step hdet hR hF h1 (fun v S' e1 hle hrel hsub hF' hnone hy hdraw => ?_)
            refine YieldsIf.wpOpW ho hy (fun _ => hR) ⟨fun _ => hR, fun _ => rfl, ?_⟩
            have hrest := rec0 i o S' ρ (a.put o.dst v) w ho (ready_unlisted hir) hdraw (by rw [put_defers]; exact hd) hp (by rw [e1]; exact hrel w hR) hF' (fun t ht hs => hs.imp (fun q => hnone t ht q) (fun q => by
              have hl1 := hF.1
              have hl2 := hF'.1
              have hput : (a.put o.dst v).tmps.size = a.tmps.size := by unfold Act.put; split <;> simp
              rw [List.getElem?_eq_none_iff] at q ⊢
              omega))
            exact wpT_tail m _ _ _ (fun j hj => hT j (getD_set_true hj)) hrest
          · rw [stepW_fr] at h1
            have hst := stepW_sound (P := P) (all := all) (Q := Q) hcall (o := o) (K := fun S' => frOK S S' o.dst ∧ runW P callW all (planW (okTy P) all tail m (lc.setIfInBounds i true)) S' K) (w0 := w0) (mu := mu) (ρ0 := ρ) (a := a) (w := w) (ro := none) ⟨hom.1, hom.2.mono hp⟩ ⟨hd, S, ρ, List.prefix_refl _, hR, hF, h1⟩
            have hnext : ∀ a' w', Lift w0 mu ρ (fun S' => frOK S S' o.dst ∧ runW P callW all (planW (okTy P) all tail m (lc.setIfInBounds i true)) S' K) a' w' →
                ((!tail.contains i && !detAt all i) = true → Rel w0 mu S.bx S.E ρ w') ∧ ((!tail.contains i && detAt all i) = true → w' = w) ∧
                wpT P all Q (fun j => !tail.contains j && !detAt all j) (fun j => !tail.contains j && detAt all j) (fun w => Rel w0 mu S.bx S.E ρ w) m (lc.setIfInBounds i true) a' w' := by
              intro a' w' hl
              obtain ⟨hd', S', ρ', hp', hR', hF', hfo, hdr⟩ := hl
              refine ⟨fun e => (by rw [hTi] at e; cases e), fun e => absurd e hdi, ?_⟩
              exact wpT_tail (S := fun w => Rel w0 mu S'.bx S'.E ρ' w) m _ a' w' (fun j hj => hT j (getD_set_true hj)) (rec0 i o S' ρ' a' w' ho (ready_unlisted hir) hdr hd' (hp.trans hp') hR' hF' hfo)
            unfold wpOpIn
            rw [ho]
            dsimp only
            split
            · rename_i hw
              rw [if_pos hw] at hst
              exact Oper.wpIn_mono hnext hst
            · rename_i hw
              rw [if_neg hw] at hst
              exact ⟨fun _ _ => trivial, hnext _ _ hst⟩
        split at h
        · -- no variable waits to be made
          rename_i hfil
          have hH0 : H = [] := by
            cases H with
            | nil => rfl
            | cons x H => have := hHmem x (by simp); rw [hfil] at this; cases this
          subst hH0
          have hlce := hnil rfl
          subst hlce
          simp only [List.length_nil, Nat.add_zero] at hm
          subst hm
          have hno : ∀ x ∈ ([] : List (Nat × Nat)), x.1 ≠ (0 : Nat) → False := by simp
          have rec0 : ∀ (i : Nat) (oi : Oper) (S' : St) (ρ' : Env) (a' : Act) (w' : World), all[i]? = some oi → lc.getD i true = false → runW P callW all (planW (okTy P) all tail m (lc.setIfInBounds i true)) S' K → (a'.defers = mu.ds ∧ okO w0 mu) → ρ0 <+: ρ' → Rel w0 mu S'.bx S'.E ρ' w' → FrRel ρ' S'.fr a'.tmps →
              (∀ t : Nat, oi.dst ≠ some t → S.fr[t]? = some none ∨ S.fr[t]? = none → S'.fr[t]? = some none ∨ S'.fr[t]? = none) →
              wpT P all Q (fun j => !tail.contains j && !detAt all j) (fun j => !tail.contains j && detAt all j) (fun w => Rel w0 mu S'.bx S'.E ρ' w) m (lc.setIfInBounds i true) a' w' := by
            intro i oi S' ρ' a' w' hoi hiu hdraw hd' hp' hR' hF' hfr'
            obtain ⟨n', hn', hU'⟩ := hUset i hiu
            have : n' = m := by omega
            subst this
            exact drawW_wpT hcall hom hsel hQ hpan n' n' (lc.setIfInBounds i true) (lc.setIfInBounds i true) [] S' ρ' a' w' hdraw (hsz _ _ hls) (hsz _ _ hls) (fun k => by simp) (by simp) (by simp) (by simp) (hfrStep i oi S' hoi hfr') (by simp) hU' hd' hp' hR' hF'
          split at h
          case h_2 => exact h.elim
          split at h
          · exact h.elim
          rename_i htd
          simp only [runW] at h
          split at h
          case h_2 => exact h.elim
          rename_i o ho
          refine ⟨fun e => (by rw [hr] at e; cases e), fun i hi => ?_⟩
          have hir := hi
          rw [hr] at hi
          simp only [List.mem_singleton] at hi; subst hi
          have hndt : (!tail.contains i && detAt all i) = false := by
            simp only [Bool.or_eq_true, not_or, Bool.not_eq_true] at htd
            simp [htd.2]
          rw [stepGW_fr] at h
          have hst := stepGW_sound (P := P) (all := all) (Q := Q) hcall (o := o) (K := fun S' => frOK S S' o.dst ∧ runW P callW all (planW (okTy P) all tail m (lc.setIfInBounds i true)) S' K) (w0 := w0) (mu := mu) (ρ0 := ρ) (a := a) (w := w) (ro := none) ⟨hom.1, hom.2.mono hp⟩ hd (List.prefix_refl _) hR hF h
          have hnext : ∀ a' w', Lift w0 mu ρ (fun S' => (S.bx <+: S'.bx ∧ Mem.le S.E S'.E) ∧ frOK S S' o.dst ∧ runW P callW all (planW (okTy P) all tail m (lc.setIfInBounds i true)) S' K) a' w' →
              ((!tail.contains i && !detAt all i) = true → Rel w0 mu S.bx S.E ρ w') ∧ ((!tail.contains i && detAt all i) = true → w' = w) ∧
              wpT P all Q (fun j => !tail.contains j && !detAt all j) (fun j => !tail.contains j && detAt all j) (fun w => Rel w0 mu S.bx S.E ρ w) m (lc.setIfInBounds i true) a' w' := by
            intro a' w' hl
            obtain ⟨hd', S', ρ', hp', hR', hF', ⟨hb, hE⟩, hfo, hdr⟩ := hl
            exact ⟨fun _ => hR.fewer hp' hb hE hR', fun e => (by rw [hndt] at e; cases e), wpT_mono (fun w2 hw2 => hR.fewer hp' hb hE hw2) m _ a' w' (rec0 i o S' ρ' a' w' ho (ready_unlisted hir) hdr hd' (hp.trans hp') hR' hF' hfo)⟩
          unfold wpOpIn
          rw [ho]
          dsimp only
          split
          · rename_i hw
            rw [if_pos hw] at hst
            exact Oper.wpIn_mono hnext hst
          · rename_i hw
            rw [if_neg hw] at hst
            exact ⟨fun _ _ => trivial, hnext _ _ hst⟩
        · rename_i x xs hfil
          have hxmem : ∀ y ∈ x :: xs, y ∈ Region.ready .any all listed ∧ allocAt (okTy P) all y = true := fun y hy => by
            rw [← hfil] at hy
            have := List.mem_filter.1 hy
            exact ⟨by rw [hr]; exact this.1, this.2⟩
          have hHx : ∀ z ∈ H, z.1 ∈ x :: xs := fun z hz => by rw [← hfil]; exact hHmem z hz
          split at h
          · -- variables alone are ready
            split at h
            case isFalse => exact h.elim
            rename_i hcond
            simp only [runW] at h
            split at h
            case h_2 => exact h.elim
            rename_i o ho
            simp only [List.all_eq_true, Bool.and_eq_true, Bool.not_eq_true', beq_iff_eq] at hcond
            have hxr := (hxmem x (by simp)).1
            by_cases hxH : ∃ z ∈ H, z.1 = x
            · -- it has been made already
              obtain ⟨⟨x', g⟩, hz, rfl⟩ := hxH
              obtain ⟨h1, h2, h3⟩ := hH _ hz
              obtain ⟨d, T, type, pos, after, ii, zv, e1, e2, e3, e4, e5, e6⟩ := h3.op
              simp only at e1 e5 e6 h1 h2 hxr ho h hfil hcond hxmem hHx
              rw [ho] at e1
              simp only [Option.some.injEq] at e1
              subst e1
              simp only [opW, e2, e3, if_pos e4] at h
              have hR' := hR.addBox ⟨T, .lst (svCells (.raw zv)), (svCells (.raw zv)).length, true⟩ (some ⟨g, 0, none⟩) (fun ρ' _ => by
                have hv := svCells_den (ρ := ρ') e4 (v := zv) rfl
                refine ⟨rfl, zv.cells.toList, hv, ?_⟩
                simp only [if_true]
                refine ⟨trivial, [], ?_, by simpa using denL_length hv⟩
                simpa using e5) (fun ad ha => by
                cases ha
                exact ⟨.inl h3.new, h3.apart.1, h3.apart.2⟩)
              have hpp : ρ <+: ρ ++ [some ⟨g, 0, none⟩] := List.prefix_append _ _
              refine wpT_mono (S := fun w2 => Rel w0 mu (S.bx ++ [⟨T, .lst (svCells (.raw zv)), (svCells (.raw zv)).length, true⟩]) S.E (ρ ++ [some ⟨g, 0, none⟩]) w2) (fun w2 hw2 => hR.fewer hpp (List.prefix_append _ _) (Mem.le_refl _) hw2) n lc a w ?_
              have hinj : ∀ y ∈ H, y.1 = x' → y = (x', g) := fun y hy e => nodup_map_inj (f := fun z : Nat × Nat => z.1) hnd.1 hy hz e
              have hinj2 : ∀ y ∈ H, y.2 = g → y = (x', g) := fun y hy e => nodup_map_inj (f := fun z : Nat × Nat => z.2) hnd.2 hy hz e
              refine drawW_wpT hcall hom hsel hQ hpan m n (listed.setIfInBounds x' true) lc (H.filter fun y => y.1 != x') _ (ρ ++ [some ⟨g, 0, none⟩]) a w h (hsz _ _ hls) hlc ?_ ?_ (fun y hy => hHt y (List.mem_filter.1 hy).1) ?_ (hfrStep x' _ _ ho (frOK_put S _ (some d) _ (fun _ q => q))) ?_ hU hd (hp.trans hpp) (by rw [St.put_bx, St.put_E]; exact hR') ?_
              · intro k
                rw [getD_set, hset]
                by_cases hk : x' = k
                · subst hk
                  have : (H.map (·.1)).contains x' = true := by simp only [List.contains_eq_mem, decide_eq_true_eq]; exact List.mem_map.2 ⟨_, hz, rfl⟩
                  rw [this]; simp
                · have : (H.map (·.1)).contains k = ((H.filter fun y => y.1 != x').map (·.1)).contains k := by
                    rw [Bool.eq_iff_iff]
                    simp only [List.contains_eq_mem, decide_eq_true_eq, List.mem_map, List.mem_filter, bne_iff_ne]
                    constructor
                    · rintro ⟨y, hy, rfl⟩; exact ⟨y, ⟨hy, Ne.symm hk⟩, rfl⟩
                    · rintro ⟨y, ⟨hy, _⟩, rfl⟩; exact ⟨y, hy, rfl⟩
                  rw [this]; simp [hk]
              · intro y hy
                have hy' := List.mem_filter.1 hy
                have hne : y.1 ≠ x' := by simpa using hy'.2
                obtain ⟨q1, q2, q3⟩ := hH y hy'.1
                refine ⟨ready_mono q1 hne, q2, ⟨q3.op, q3.new, ?_, ?_⟩⟩
                · intro j b' ad g1 g2 g3
                  rw [St.put_bx] at g1
                  rcases getElem?_snoc g1 with ⟨gi, g1⟩ | ⟨rfl, rfl⟩
                  · rcases getElem?_snoc g3 with ⟨_, g3⟩ | ⟨q, _⟩
                    · exact q3.apart.1 j b' ad g1 g2 g3
                    · have := hR.len; omega
                  · rcases getElem?_snoc g3 with ⟨q, _⟩ | ⟨_, q⟩
                    · have := hR.len; omega
                    · cases q
                      intro e
                      exact hne (by rw [hinj2 y hy'.1 e.symm])
                · rw [St.put_E]; exact q3.apart.2
              · exact ⟨hnd.1.sublist (List.filter_sublist.map _), hnd.2.sublist (List.filter_sublist.map _)⟩
              · have := filter_ne_length hnd.1 hz
                simp only at this; omega
              · have hl1 := hF.1
                have hden : SV.den (ρ ++ [some ⟨g, 0, none⟩]) (.loc S.bx.length 0) = some (.pointer (some ⟨g, 0, none⟩)) := by
                  simp only [SV.den, locDen, ← hR.len, List.getElem?_append_right (Nat.le_refl _), Nat.sub_self, List.getElem?_cons_zero]
                  rfl
                rcases e6 with e6 | e6
                · exact FrRel.learn (hF.mono hpp) d hden e6
                · have : S.fr.length ≤ d := by rw [hl1]; exact Array.getElem?_eq_none_iff.1 e6
                  show FrRel _ (S.fr.set d _) a.tmps
                  rw [List.set_eq_of_length_le this]
                  exact hF.mono hpp
            · -- one of them is made now
              have hxu : lc.getD x true = false := by
                rw [hset, ready_unlisted hxr]
                simp only [Bool.false_or, List.contains_eq_mem, decide_eq_false_iff_not]
                intro hm
                obtain ⟨z, hz, e⟩ := List.mem_map.1 hm
                exact hxH ⟨z, hz, e⟩
              obtain ⟨n', rfl, hU'⟩ := hUset x hxu
              refine ⟨fun e => ?_, fun i hi => ?_⟩
              · have := ready_more (by rw [hls, hlc]) (fun k hk => by rw [hset, hk]; rfl) hxr hxu
                rw [e] at this; cases this
              have hiu := ready_unlisted hi
              have hix : i ∈ x :: xs := by
                by_cases hix : i ∈ x :: xs
                · exact hix
                · have := (hcond x (by simp)).2 i (ready_more (by rw [setAllB_size, hls, hlc]) (fun k hk => ?_) hi ?_)
                  · rw [this]; simp
                  · rw [setAllB_getD]
                    rw [hset] at hk
                    simp only [Bool.or_eq_true] at hk ⊢
                    rcases hk with q | q
                    · exact .inl q
                    · right
                      simp only [List.contains_eq_mem, decide_eq_true_eq] at q ⊢
                      obtain ⟨z, hz, rfl⟩ := List.mem_map.1 q
                      refine List.mem_filter.2 ⟨hHx z hz, ?_⟩
                      simp only [bne_iff_ne]
                      intro e; exact hxH ⟨z, hz, e⟩
                  · rw [setAllB_getD]
                    rw [hset] at hiu
                    simp only [Bool.or_eq_false_iff] at hiu ⊢
                    refine ⟨hiu.1, ?_⟩
                    simp only [List.contains_eq_mem, decide_eq_false_iff_not]
                    intro hm; exact hix (List.mem_filter.1 hm).1
              have hiH : ∀ z ∈ H, z.1 ≠ i := by
                rintro z hz rfl
                rw [hset] at hiu
                have : (H.map (·.1)).contains z.1 = true := by
                  simp only [List.contains_eq_mem, decide_eq_true_eq]; exact List.mem_map.2 ⟨z, hz, rfl⟩
                rw [this] at hiu; simp at hiu
              obtain ⟨n2, hn2, hU2⟩ := hUset i hiu
              have : n2 = n' := by omega
              subst this
              exact hide i (hxmem i hix).1 (hxmem i hix).2 (hcond i hix).1 hiH n2 rfl hU2
          · -- one other operation is ready
            rename_i g hg
            split at h
            case isFalse => exact h.elim
            rename_i hcond
            simp only [runW] at h
            split at h
            case h_2 => exact h.elim
            rename_i o ho
            simp only [Bool.and_eq_true, Bool.not_eq_true', Bool.or_eq_false_iff, List.all_eq_true, beq_iff_eq] at hcond
            obtain ⟨⟨⟨hgt, hgd⟩, htl⟩, hafter⟩ := hcond
            have hgmem : g ∈ (r :: rs).filter (fun i => !allocAt (okTy P) all i) := by rw [hg]; simp
            have hgr : g ∈ Region.ready .any all listed := by rw [hr]; exact (List.mem_filter.1 hgmem).1
            have hgna : allocAt (okTy P) all g = false := by simpa using (List.mem_filter.1 hgmem).2
            have hgH : ∀ z ∈ H, z.1 ≠ g := by rintro z hz rfl; rw [(hH z hz).2.1] at hgna; cases hgna
            have hgu : lc.getD g true = false := by
              rw [hset, ready_unlisted hgr]
              simp only [Bool.false_or, List.contains_eq_mem, decide_eq_false_iff_not]
              intro hm
              obtain ⟨z, hz, e⟩ := List.mem_map.1 hm
              exact hgH z hz e
            obtain ⟨n', rfl, hU'⟩ := hUset g hgu
            refine ⟨fun e => ?_, fun i hi => ?_⟩
            · have := ready_more (by rw [hls, hlc]) (fun k hk => by rw [hset, hk]; rfl) hgr hgu
              rw [e] at this; cases this
            -- what may come up
            have hcase : i = g ∨ (i ∈ x :: xs ∧ ∀ z ∈ H, z.1 ≠ i) := by
              have hiu := ready_unlisted hi
              by_cases hix : i ∈ x :: xs
              · refine .inr ⟨hix, ?_⟩
                rintro z hz rfl
                rw [hset] at hiu
                have : (H.map (·.1)).contains z.1 = true := by
                  simp only [List.contains_eq_mem, decide_eq_true_eq]; exact List.mem_map.2 ⟨z, hz, rfl⟩
                rw [this] at hiu; simp at hiu
              · left
                refine hafter i (ready_more (by rw [setAllB_size, hls, hlc]) (fun k hk => ?_) hi ?_)
                · rw [setAllB_getD]
                  rw [hset] at hk
                  simp only [Bool.or_eq_true] at hk ⊢
                  rcases hk with q | q
                  · exact .inl q
                  · right
                    simp only [List.contains_eq_mem, decide_eq_true_eq] at q ⊢
                    obtain ⟨z, hz, rfl⟩ := List.mem_map.1 q
                    exact hHx z hz
                · rw [setAllB_getD]
                  rw [hset] at hiu
                  simp only [Bool.or_eq_false_iff] at hiu ⊢
                  refine ⟨hiu.1, ?_⟩
                  simp only [List.contains_eq_mem, decide_eq_false_iff_not]; exact hix
            rcases hcase with rfl | ⟨hix, hiH⟩
            · have hndt : (!tail.contains i && detAt all i) = false := by rw [hgd]; simp
              rw [stepGW_fr] at h
              have hst := stepGW_sound (P := P) (all := all) (Q := Q) hcall (o := o) (K := fun S' => frOK S S' o.dst ∧ runW P callW all (planW (okTy P) all tail m (listed.setIfInBounds i true)) S' K) (w0 := w) (mu := ⟨lvB S.bx ρ, S.E, Ω, mu.ds⟩) (ρ0 := ρ) (a := a) (w := w) (ro := none) ⟨rfl, hom.2.mono hp⟩ ⟨hd.1, hom.1 ▸ okO.at (E := S.E) (ds := mu.ds) hd.2 hR.keep (fun g hg => by
                obtain ⟨j, b, ad, q1, q2, q3, rfl⟩ := lvB_of hg
                exact hR.bsrc j b ad q1 q3 q2)⟩ (List.prefix_refl _) hR.here hF h
              have hnext : ∀ a' w', (Lift w ⟨lvB S.bx ρ, S.E, Ω, mu.ds⟩ ρ (fun S' => (S.bx <+: S'.bx ∧ Mem.le S.E S'.E) ∧ frOK S S' o.dst ∧ runW P callW all (planW (okTy P) all tail m (listed.setIfInBounds i true)) S' K) a' w' ∧ ∀ t : Nat, o.dst ≠ some t → a'.tmps[t]? = a.tmps[t]?) →
                  ((!tail.contains i && !detAt all i) = true → Rel w0 mu S.bx S.E ρ w') ∧ ((!tail.contains i && detAt all i) = true → w' = w) ∧
                  wpT P all Q (fun j => !tail.contains j && !detAt all j) (fun j => !tail.contains j && detAt all j) (fun w => Rel w0 mu S.bx S.E ρ w) n' (lc.setIfInBounds i true) a' w' := by
                rintro a' w' ⟨hl, htm⟩
                obtain ⟨hd', S', ρ', hp', hR2, hF', ⟨hb, hE⟩, hfo, hdr⟩ := hl
                have hR' := hR.compose hR2
                have hglv : ∀ z ∈ H, z.2 ∉ lvB S.bx ρ := fun z hz hm => by
                  obtain ⟨j, b, ad, q1, q2, q3, q4⟩ := lvB_of hm
                  exact (hH z hz).2.2.apart.1 j b ad q1 q3 q2 q4
                refine ⟨fun _ => hR.fewer hp' hb hE hR', fun e => (by rw [hndt] at e; cases e), wpT_mono (fun w2 hw2 => hR.fewer hp' hb hE hw2) n' _ a' w' ?_⟩
                refine drawW_wpT hcall hom hsel hQ hpan m n' (listed.setIfInBounds i true) (lc.setIfInBounds i true) H S' ρ' a' w' hdr (hsz _ _ hls) (hsz _ _ hlc) (hsetStep i hgH) (hstepH i o ho hgr hgH S' ρ' a' w' htm (fun z hz => hR2.keep.block _ (hHlt z hz) (hglv z hz)) (fun z hz => ⟨fun j b' ad q1 q2 q3 => ?_, fun v cs q1 q2 => ?_⟩)) hHt hnd (hfrStep i o S' ho hfo) (by omega) hU' ⟨hd'.1, hd.2⟩ (hp.trans hp') hR' hF'
                · rcases hR2.bsrc j b' ad q1 q2 q3 with q | q
                  · have := hHlt z hz; omega
                  · rintro e; rw [e] at q; exact hglv z hz q
                · rcases hR2.src v cs q1 q2 with ⟨bb, e1, e2⟩ | ⟨v0, cs0, e1, e2, e3⟩
                  · rw [e1]
                    rintro e
                    simp only [Option.some.injEq] at e
                    rcases e2 with q | q
                    · have := hHlt z hz; omega
                    · rw [e] at q; exact hglv z hz q
                  · rw [e3]; exact (hH z hz).2.2.apart.2 v0 cs0 e1 e2
              have hw0 : wpOpIn Fence.wide 0 P all Q i (Lift w ⟨lvB S.bx ρ, S.E, Ω, mu.ds⟩ ρ (fun S' => (S.bx <+: S'.bx ∧ Mem.le S.E S'.E) ∧ frOK S S' o.dst ∧ runW P callW all (planW (okTy P) all tail m (listed.setIfInBounds i true)) S' K)) a w := by
                unfold wpOpIn
                rw [ho]
                dsimp only
                split
                · rename_i hw
                  rw [if_pos hw] at hst
                  exact hst
                · rename_i hw
                  rw [if_neg hw] at hst
                  exact ⟨fun _ _ => trivial, hst⟩
              exact wpOpIn_mono hnext (wpOp_tmps ho hw0)
            · have hiu := ready_unlisted hi
              obtain ⟨n2, hn2, hU2⟩ := hUset i hiu
              have : n2 = n' := by omega
              subst this
              exact hide i (hxmem i hix).1 (hxmem i hix).2 (htl i hix) hiH n2 rfl hU2
          · exact h.elim
termination_by m + n

/-- The same, as long as no variable has been made out of order. -/
theorem drawF_wpT (hcall : CallOK Ω P callW) (hom : mu.om = Ω ∧ okE Ω ρ0) (hsel : Region.noSelect all = true) (hQ : ∀ a w, Lift w0 mu ρ0 K a w → Q .normal a w) (hpan : ∀ c a w, ¬ Q (.panic c) a w)
    (n : Nat) (listed : Array Bool) (S : St) (ρ : Env) (a : Act) (w : World) (h : runW P callW all (planF (okTy P) all tail n listed) S K) (hls : listed.size = all.size)
    (hfr : ∀ r d, allocAt (okTy P) all r = true → listed.getD r true = false → (all[r]?).bind (·.dst) = some d → S.fr[d]? = some none ∨ S.fr[d]? = none)
    (hU : ∃ U : List Nat, (∀ k, listed.getD k true = false → k ∈ U) ∧ U.length ≤ n) (hd : a.defers = mu.ds ∧ okO w0 mu) (hp : ρ0 <+: ρ) (hR : Rel w0 mu S.bx S.E ρ w) (hF : FrRel ρ S.fr a.tmps) :
      wpT P all Q (fun j => !tail.contains j && !detAt all j) (fun j => !tail.contains j && detAt all j) (fun w => Rel w0 mu S.bx S.E ρ w) n listed a w := by
  have hsz : ∀ (l : Array Bool) i, l.size = all.size → (l.setIfInBounds i true).size = all.size := fun l i hl => by simpa using hl
  have hUset : ∀ i, listed.getD i true = false → ∃ n', n = n' + 1 ∧ ∃ U : List Nat, (∀ k, (listed.setIfInBounds i true).getD k true = false → k ∈ U) ∧ U.length ≤ n' := by
    intro i hi
    obtain ⟨U, h1, h2⟩ := hU
    have hiU := h1 i hi
    have hpos : 0 < U.length := List.length_pos_of_mem hiU
    refine ⟨n - 1, by omega, U.erase i, fun k hk => ?_, ?_⟩
    · rw [getD_set] at hk
      simp only [Bool.or_eq_false_iff, decide_eq_false_iff_not] at hk
      exact (List.mem_erase_of_ne (Ne.symm hk.2)).2 (h1 k hk.1)
    · rw [List.length_erase_of_mem hiU]; omega
  have hfrStep : ∀ (i : Nat) (oi : Oper) (S' : St), all[i]? = some oi → (∀ t : Nat, oi.dst ≠ some t → S.fr[t]? = some none ∨ S.fr[t]? = none → S'.fr[t]? = some none ∨ S'.fr[t]? = none) →
      ∀ r d, allocAt (okTy P) all r = true → (listed.setIfInBounds i true).getD r true = false → (all[r]?).bind (·.dst) = some d → S'.fr[d]? = some none ∨ S'.fr[d]? = none := by
    intro i oi S' hoi hS r d hr hl hdst
    rw [getD_set] at hl
    simp only [Bool.or_eq_false_iff, decide_eq_false_iff_not] at hl
    obtain ⟨d', T', type', pos', after', f1, _, f3⟩ := allocAt_spec hr
    rw [f1] at hdst
    simp only [Option.bind_some, Option.some.injEq] at hdst
    subst hdst
    exact hS d' (f3 i oi hoi hl.2) (hfr r d' hr hl.1 (by rw [f1]; rfl))
  cases n with
  | zero =>
    simp only [planF] at h
    split at h
    · rename_i hr; exact ⟨hr, hQ a w ⟨hd, S, ρ, hp, hR, hF, h⟩⟩
    · exact h.elim
  | succ m =>
    have h0 := h
    simp only [planF] at h
    split at h
    · rename_i hr
      exact ⟨fun _ => hQ a w ⟨hd, S, ρ, hp, hR, hF, h⟩, fun i hi => by rw [hr] at hi; cases hi⟩
    · rename_i r rs hr
      have rec0 : ∀ (i : Nat) (oi : Oper) (S' : St) (ρ' : Env) (a' : Act) (w' : World), all[i]? = some oi → listed.getD i true = false → runW P callW all (planF (okTy P) all tail m (listed.setIfInBounds i true)) S' K → (a'.defers = mu.ds ∧ okO w0 mu) → ρ0 <+: ρ' → Rel w0 mu S'.bx S'.E ρ' w' → FrRel ρ' S'.fr a'.tmps →
          (∀ t : Nat, oi.dst ≠ some t → S.fr[t]? = some none ∨ S.fr[t]? = none → S'.fr[t]? = some none ∨ S'.fr[t]? = none) →
          wpT P all Q (fun j => !tail.contains j && !detAt all j) (fun j => !tail.contains j && detAt all j) (fun w => Rel w0 mu S'.bx S'.E ρ' w) m (listed.setIfInBounds i true) a' w' := by
        intro i oi S' ρ' a' w' hoi hiu hdraw hd' hp' hR' hF' hfr'
        obtain ⟨n', hn', hU'⟩ := hUset i hiu
        have : n' = m := by omega
        subst this
        exact drawF_wpT hcall hom hsel hQ hpan n' (listed.setIfInBounds i true) S' ρ' a' w' hdraw (hsz _ _ hls) (hfrStep i oi S' hoi hfr') hU' hd' hp' hR' hF'
      have frQ : ∀ (o : Oper) (v : Value) (S' : St), FrRel ρ S'.fr (a.put o.dst v).tmps → (∀ t : Nat, o.dst ≠ some t → S.fr[t]? = some none → S'.fr[t]? = some none) →
          (∀ t : Nat, o.dst ≠ some t → S.fr[t]? = some none ∨ S.fr[t]? = none → S'.fr[t]? = some none ∨ S'.fr[t]? = none) := fun o v S' hF' hnone t ht hs => hs.imp (fun q => hnone t ht q) (fun q => by
        have hl1 := hF.1
        have hl2 := hF'.1
        have hput : (a.put o.dst v).tmps.size = a.tmps.size := by unfold Act.put; split <;> simp
        rw [List.getElem?_eq_none_iff] at q ⊢
        omega)
      split at h
      · -- a quiet operation is taken first
        rename_i i hfind
        simp only [runW] at h
        split at h
        case h_2 => exact h.elim
        rename_i o ho
        have hp1 := List.find?_some hfind
        simp only [quietFirst, Bool.and_eq_true, Bool.not_eq_true', detAt, ho, Option.map_some, Option.getD_some, Bool.or_eq_true] at hp1
        obtain ⟨⟨⟨hdet, hnt⟩, hfree⟩, htail⟩ := hp1
        have hir : i ∈ Region.ready .any all listed := by rw [hr]; exact List.mem_of_find?_eq_some hfind
        have hiu := ready_unlisted hir
        have hB := waitsOn_spec (ops := all) (listed := listed) (k := i) all.size [] (by simp)
        have hBl : ∀ j ∈ waitsOn all listed i all.size [], listed.getD j true = false := fun j hj => (hB j hj).1
        refine quiet_step hdet hR hF h (fun v S' e1 hle hrel hsub hF' hnone hy hdraw => ?_)
        have hrest := rec0 i o S' ρ (a.put o.dst v) w ho hiu hdraw (by rw [put_defers]; exact hd) hp (by rw [e1]; exact hrel w hR) hF' (frQ o v S' hF' hnone)
        refine wpT_first (S1 := fun w => isLoad o.op = true → Rel w0 mu S.bx S.E ρ w) (B := if isLoad o.op = true then waitsOn all listed i all.size [] else []) ho (Region.noSelect_spec hsel) (fun c a w hq => (hpan _ _ _ hq).elim) (by simp [detAt, ho, hdet]) (fun w hw _ => hw) ?_ m listed a w ?_ ?_ ?_ hir hy (fun _ => hR) ?_
        · intro j hj
          by_cases hld : isLoad o.op = true
          · rw [if_pos hld] at hj ⊢; exact (hB j hj).2
          · rw [if_neg hld] at hj; cases hj
        · intro j oj hoj hji hun hno
          exact Region.free_spec ho hfree j oj hoj hji hun hno
        · by_cases hld : isLoad o.op = true
          · right
            intro j hj hTj hDj hji
            rw [if_pos hld]
            have hmem : j ∈ tail := by
              cases hc : tail.contains j with
              | true => simpa using hc
              | false =>
                rw [hc] at hTj hDj
                cases hdj : detAt all j <;> simp [hdj] at hTj hDj
            rcases htail with hq | hq
            · simp [loadAtI, ho, hld] at hq
            · have := List.all_eq_true.1 hq j hmem
              rw [hj] at this
              simpa using this
          · left; intro w hw; exact absurd hw hld
        · intro j hj
          by_cases hld : isLoad o.op = true
          · rw [if_pos hld] at hj; exact hBl j hj
          · rw [if_neg hld] at hj; cases hj
        · refine wpT_mono (fun w' hw' => ?_) m _ _ _ hrest
          rw [e1] at hw'
          exact hw'.weakE hle
      · rename_i hfind
        split at h
        · -- what is left changes no memory, or lies behind what does: every order
          rename_i hall
          refine ⟨fun e => (by rw [hr] at e; cases e), fun i hi => ?_⟩
          rw [hr] at hi
          obtain ⟨o, ho, h1⟩ := runW_branches h i hi
          have hT : ∀ j, listed.getD j true = false → (!tail.contains j && !detAt all j) = false := by
            intro j hj
            by_cases hjs : j < all.size
            · have := List.all_eq_true.1 hall j (List.mem_range.2 hjs)
              rw [hj] at this
              simp only [Bool.false_or, Bool.or_eq_true] at this
              rcases this with q | q
              · rw [q]; rfl
              · rw [q]; simp
            · exfalso
              have : ¬ j < listed.size := by omega
              simp [Array.getElem?_eq_none (Nat.le_of_not_lt this)] at hj
          have hir : i ∈ Region.ready .any all listed := by rw [hr]; exact hi
          have hTi := hT i (ready_unlisted hir)
          by_cases hdi : (!tail.contains i && detAt all i) = true
          · -- a quiet one
            have hdet : isDet o.op = true := by
              simp only [Bool.and_eq_true, detAt, ho, Option.map_some, Option.getD_some] at hdi
              exact hdi.2
            refine quiet_step hdet hR hF h1 (fun v S' e1 hle hrel hsub hF' hnone hy hdraw => ?_)
            refine YieldsIf.wpOpW ho hy (fun _ => hR) ⟨fun _ => hR, fun _ => rfl, ?_⟩
            have hrest := rec0 i o S' ρ (a.put o.dst v) w ho (ready_unlisted hir) hdraw (by rw [put_defers]; exact hd) hp (by rw [e1]; exact hrel w hR) hF' (frQ o v S' hF' hnone)
            exact wpT_tail m _ _ _ (fun j hj => hT j (getD_set_true hj)) hrest
          · rw [stepW_fr] at h1
            have hst := stepW_sound (P := P) (all := all) (Q := Q) hcall (o := o) (K := fun S' => frOK S S' o.dst ∧ runW P callW all (planF (okTy P) all tail m (listed.setIfInBounds i true)) S' K) (w0 := w0) (mu := mu) (ρ0 := ρ) (a := a) (w := w) (ro := none) ⟨hom.1, hom.2.mono hp⟩ ⟨hd, S, ρ, List.prefix_refl _, hR, hF, h1⟩
            have hnext : ∀ a' w', Lift w0 mu ρ (fun S' => frOK S S' o.dst ∧ runW P callW all (planF (okTy P) all tail m (listed.setIfInBounds i true)) S' K) a' w' →
                ((!tail.contains i && !detAt all i) = true → Rel w0 mu S.bx S.E ρ w') ∧ ((!tail.contains i && detAt all i) = true → w' = w) ∧
                wpT P all Q (fun j => !tail.contains j && !detAt all j) (fun j => !tail.contains j && detAt all j) (fun w => Rel w0 mu S.bx S.E ρ w) m (listed.setIfInBounds i true) a' w' := by
              intro a' w' hl
              obtain ⟨hd', S', ρ', hp', hR', hF', hfo, hdr⟩ := hl
              refine ⟨fun e => (by rw [hTi] at e; cases e), fun e => absurd e hdi, ?_⟩
              exact wpT_tail (S := fun w => Rel w0 mu S'.bx S'.E ρ' w) m _ a' w' (fun j hj => hT j (getD_set_true hj)) (rec0 i o S' ρ' a' w' ho (ready_unlisted hir) hdr hd' (hp.trans hp') hR' hF' hfo)
            unfold wpOpIn
            rw [ho]
            dsimp only
            split
            · rename_i hw
              rw [if_pos hw] at hst
              exact Oper.wpIn_mono hnext hst
            · rename_i hw
              rw [if_neg hw] at hst
              exact ⟨fun _ _ => trivial, hnext _ _ hst⟩
        split at h
        · -- every order of what only adds
          rename_i hcond
          simp only [Bool.and_eq_true, List.all_eq_true, Bool.not_eq_true'] at hcond
          refine ⟨fun e => (by rw [hr] at e; cases e), fun i hi => ?_⟩
          have hir := hi
          rw [hr] at hi
          have hnt : tail.contains i = false := hcond.1 i hi
          obtain ⟨o, ho, h1, h2⟩ := runW_branchesG h i hi
          cases hD : detAt all i with
          | true =>
            have hdet : isDet o.op = true := by
              simp only [detAt, ho, Option.map_some, Option.getD_some] at hD
              exact hD
            refine quiet_step hdet hR hF (h1 hD) (fun v S' e1 hle hrel hsub hF' hnone hy hdraw => ?_)
            refine YieldsIf.wpOpW ho hy (fun _ => hR) ⟨fun _ => hR, fun _ => rfl, ?_⟩
            have hrest := rec0 i o S' ρ (a.put o.dst v) w ho (ready_unlisted hir) hdraw (by rw [put_defers]; exact hd) hp (by rw [e1]; exact hrel w hR) hF' (frQ o v S' hF' hnone)
            refine wpT_mono (fun w' hw' => ?_) m _ _ _ hrest
            rw [e1] at hw'
            exact hw'.weakE hle
          | false =>
            have h2 := h2 hD
            have hndt : (!tail.contains i && detAt all i) = false := by rw [hD]; simp
            rw [stepGW_fr] at h2
            have hst := stepGW_sound (P := P) (all := all) (Q := Q) hcall (o := o) (K := fun S' => frOK S S' o.dst ∧ runW P callW all (planF (okTy P) all tail m (listed.setIfInBounds i true)) S' K) (w0 := w0) (mu := mu) (ρ0 := ρ) (a := a) (w := w) (ro := none) ⟨hom.1, hom.2.mono hp⟩ hd (List.prefix_refl _) hR hF h2
            have hnext : ∀ a' w', Lift w0 mu ρ (fun S' => (S.bx <+: S'.bx ∧ Mem.le S.E S'.E) ∧ frOK S S' o.dst ∧ runW P callW all (planF (okTy P) all tail m (listed.setIfInBounds i true)) S' K) a' w' →
                ((!tail.contains i && !detAt all i) = true → Rel w0 mu S.bx S.E ρ w') ∧ ((!tail.contains i && detAt all i) = true → w' = w) ∧
                wpT P all Q (fun j => !tail.contains j && !detAt all j) (fun j => !tail.contains j && detAt all j) (fun w => Rel w0 mu S.bx S.E ρ w) m (listed.setIfInBounds i true) a' w' := by
              intro a' w' hl
              obtain ⟨hd', S', ρ', hp', hR', hF', ⟨hb, hE⟩, hfo, hdr⟩ := hl
              exact ⟨fun _ => hR.fewer hp' hb hE hR', fun e => (by rw [hndt] at e; cases e), wpT_mono (fun w2 hw2 => hR.fewer hp' hb hE hw2) m _ a' w' (rec0 i o S' ρ' a' w' ho (ready_unlisted hir) hdr hd' (hp.trans hp') hR' hF' hfo)⟩
            unfold wpOpIn
            rw [ho]
            dsimp only
            split
            · rename_i hw
              rw [if_pos hw] at hst
              exact Oper.wpIn_mono hnext hst
            · rename_i hw
              rw [if_neg hw] at hst
              exact ⟨fun _ _ => trivial, hnext _ _ hst⟩
        · exact drawW_wpT hcall hom hsel hQ hpan (m + 1) (m + 1) listed listed [] S ρ a w h hls hls (fun k => by simp) (by simp) (by simp) (by simp) hfr (by simp) hU hd hp hR hF

/-- Slots of which nothing is known any longer. -/
theorem forgetL_some (ds : List Nat) : ∀ (k : Nat) (l : List (Option SV)) (i : Nat) (s : SV), (forgetL ds k l)[i]? = some (some s) → l[i]? = some (some s) ∧ (k + i) ∉ ds
  | _, [], i, s, h => by simp [forgetL] at h
  | k, o :: l, 0, s, h => by
    simp only [forgetL, List.getElem?_cons_zero, Option.some.injEq] at h ⊢
    split at h
    · cases h
    · rename_i hc; exact ⟨h, by simpa using hc⟩
  | k, o :: l, i + 1, s, h => by
    simp only [forgetL, List.getElem?_cons_succ] at h ⊢
    have := forgetL_some ds (k + 1) l i s h
    rwa [show k + 1 + i = k + (i + 1) by omega] at this

theorem forgetL_length (ds : List Nat) : ∀ (k : Nat) (l : List (Option SV)), (forgetL ds k l).length = l.length
  | _, [] => rfl
  | k, _ :: l => by simp [forgetL, forgetL_length ds (k + 1) l]

/-- In a round the same, where no call is put off. -/
theorem wpOpW {ro : Option Nat} {ops : Array Oper} {Q : Exit → Act → World → Prop} {i : Nat} (hnd : ∀ (o : Oper), ops[i]? = some o → ∀ c, o.op ≠ .defer c) {K K' : Act → World → Prop} (hK : ∀ a w, K a w → K' a w) {a : Act} {w : World}
    (h : wpOpIn Fence.wide 0 P ops Q i K a w) : wpOpIn (fW ro) 0 P ops Q i K' a w := by
  unfold wpOpIn at *
  split
  · rename_i ho; rw [ho] at h; exact hK _ _ h
  · rename_i o ho
    rw [ho] at h
    simp only at h
    split
    · rename_i hw
      rw [if_pos hw] at h
      have h := Oper.wpIn_mono hK h
      unfold Oper.wpIn at *
      refine ⟨fun _ _ => trivial, ?_⟩
      have h2 := h.2
      rw [Oper.semAt_eq _ _ _ (hnd o ho)] at h2 ⊢
      exact h2
    · rename_i hw
      rw [if_neg hw] at h
      exact ⟨fun _ _ => trivial, hK _ _ h.2⟩
theorem wpAnyW {ro : Option Nat} {ops : Array Oper} {Q : Exit → Act → World → Prop} (hnd : ∀ (i : Nat) (o : Oper), ops[i]? = some o → ∀ c, o.op ≠ .defer c) : ∀ (n : Nat) (listed : Array Bool) (a : Act) (w : World), wpAnyIn Fence.wide 0 P .any ops Q n listed a w → wpAnyIn (fW ro) 0 P .any ops Q n listed a w
  | 0, _, _, _, h => h
  | n + 1, _, _, _, h => ⟨h.1, fun i hi => wpOpW (hnd i) (fun a w x => wpAnyW hnd n _ a w x) (h.2 i hi)⟩
theorem noDefer_spec {ops : Array Oper} (h : noDefer ops = true) (i : Nat) (o : Oper) (ho : ops[i]? = some o) (c : Call) : o.op ≠ .defer c := by
  intro e
  have h1 := List.all_eq_true.1 h o (List.mem_of_getElem? (by rw [Array.getElem?_toList]; exact ho))
  rw [e] at h1; cases h1

theorem drawW_sound {ro : Option Nat} (hcall : CallOK Ω P callW) (hom : mu.om = Ω ∧ okE Ω ρ0) (hm : P.follows .mixedOrders = true) (hsel : Region.noSelect all = true) (hnd : ro ≠ none → noDefer all = true) {id : Nat} (hQ : ∀ a w, Lift w0 mu ρ0 K a w → Q .normal a w) {a : Act} {w : World}
    (h : Lift w0 mu ρ0 (fun S => drawW P callW all tail all.size (Array.replicate all.size false) S K) a w) : (Code.region id all true).wpIn (fW ro) 0 P Q a w := by
  obtain ⟨hd, S, ρ, hp, hR, hF, h⟩ := h
  have hF' : FrRel ρ (S.forget (allocDsts P all)).fr a.tmps := ⟨by rw [← hF.1]; exact forgetL_length _ _ _, fun i s hs => hF.2 i s (forgetL_some _ 0 _ i s hs).1⟩
  have hfr : ∀ r d, allocAt (okTy P) all r = true → (Array.replicate all.size false).getD r true = false → (all[r]?).bind (·.dst) = some d → (S.forget (allocDsts P all)).fr[d]? = some none ∨ (S.forget (allocDsts P all)).fr[d]? = none := by
    intro r d hr _ hdst
    have hrs : r < all.size := by
      rcases Nat.lt_or_ge r all.size with q | q
      · exact q
      · rw [Array.getElem?_eq_none q] at hdst; cases hdst
    have hmem : d ∈ allocDsts P all := List.mem_filterMap.2 ⟨r, List.mem_range.2 hrs, by rw [if_pos hr]; exact hdst⟩
    cases hx : (S.forget (allocDsts P all)).fr[d]? with
    | none => exact .inr rfl
    | some o =>
      cases o with
      | none => exact .inl rfl
      | some s =>
        have := (forgetL_some _ 0 _ d s hx).2
        rw [Nat.zero_add] at this
        exact absurd hmem this
  have h1 : (Code.region id all true).wpIn (fW ro) 0 P (fun e a w => match e with | .normal => Lift w0 mu ρ0 K a w | _ => False) a w := by
    refine wpIn_region_any hm ?_
    have h2 : wpAnyIn Fence.wide 0 P .any all (fun e a w => match e with | .normal => Lift w0 mu ρ0 K a w | _ => False) all.size (Array.replicate all.size false) a { w with drawn := w.drawn + 1 } := wpT_any _ _ _ _ (drawF_wpT hcall hom hsel (fun a w x => x) (fun c a w x => x) all.size (Array.replicate all.size false) (S.forget (allocDsts P all)) ρ a _ h (by simp) hfr ⟨List.range all.size, fun k hk => by
      rcases Nat.lt_or_ge k all.size with q | q
      · exact List.mem_range.2 q
      · simp [Nat.not_lt.2 q] at hk, by simp⟩ hd hp (hR.drew _) hF')
    cases ro with
    | none => exact h2
    | some l => exact wpAnyW (noDefer_spec (hnd (fun e => by cases e))) _ _ _ _ h2
  exact Code.wpIn_mono (fun e a w x => by cases e <;> first | exact hQ a w x | exact x.elim) h1

end
end Go.Sx
