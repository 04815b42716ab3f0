/- The symbolic evaluator, part K: regions in whatever order. Conditions: none; generic over programs. -/
import Derived.Test.YtnkjoccemfbpcaaSxJ
import Derived.Test.YtnkjoccemfbpcaaSxN
import Derived.OrdersHeld
namespace Go.Sx
open Go.RowKit (Below)

section
variable {P : Program} {ops : Array Oper} {Q : Exit → Act → World → Prop} {T : Nat → Bool}

/-- Whatever order is picked from here on; behind the operations that T names S holds. -/
def wpT (P : Program) (ops : Array Oper) (Q : Exit → Act → World → Prop) (T : Nat → Bool) (S : World → Prop) : Nat → Array Bool → Act → World → Prop
  | 0, listed, a, w => Region.ready .any ops listed = [] ∧ Q .normal a w
  | n + 1, listed, a, w => (Region.ready .any ops listed = [] → Q .normal a w) ∧
    ∀ i ∈ Region.ready .any ops listed, wpOp P ops Q i (fun a' w' => (T i = true → S w') ∧ wpT P ops Q T S n (listed.setIfInBounds i true) a' w') a w

theorem wpT_any {S : World → Prop} : ∀ (n : Nat) (listed : Array Bool) (a : Act) (w : World), wpT P ops Q T S n listed a w → wpAny P .any ops Q n listed a w
  | 0, _, _, _, h => h
  | n + 1, _, _, _, h => ⟨h.1, fun i hi => wpOp_mono (fun a' w' h' => wpT_any n _ a' w' h'.2) (h.2 i hi)⟩

theorem wpT_mono {S S' : World → Prop} (hS : ∀ w, S w → S' w) : ∀ (n : Nat) (listed : Array Bool) (a : Act) (w : World), wpT P ops Q T S n listed a w → wpT P ops Q T S' n listed a w
  | 0, _, _, _, h => h
  | n + 1, _, _, _, h => ⟨h.1, fun i hi => wpOp_mono (fun a' w' h' => ⟨fun t => hS w' (h'.1 t), wpT_mono hS n _ a' w' h'.2⟩) (h.2 i hi)⟩

theorem ready_unlisted {listed : Array Bool} {i : Nat} (h : i ∈ Region.ready .any ops listed) : listed.getD i true = false := by
  simpa using (mem_ready.1 h).1

theorem getD_set_true {listed : Array Bool} {i j : Nat} (h : (listed.setIfInBounds i true).getD j true = false) : listed.getD j true = false := by
  by_cases hij : i = j
  · subst hij
    rcases Nat.lt_or_ge i listed.size with h' | h'
    · simp [h'] at h
    · simp at h
  · rw [getD_set_ne true hij] at h; exact h

/-- Where only operations are left that T does not name, S does not matter. -/
theorem wpT_tail {S S' : World → Prop} : ∀ (n : Nat) (listed : Array Bool) (a : Act) (w : World), (∀ j, listed.getD j true = false → T j = false) → wpT P ops Q T S n listed a w → wpT P ops Q T S' n listed a w
  | 0, _, _, _, _, h => h
  | n + 1, listed, _, _, ht, h => ⟨h.1, fun i hi => wpOp_mono (fun a' w' h' => ⟨fun t => absurd t (by rw [ht i (ready_unlisted hi)]; simp), wpT_tail n _ a' w' (fun j hj => ht j (getD_set_true hj)) h'.2⟩) (h.2 i hi)⟩

theorem wpT_first {S : World → Prop} {i : Nat} {oi : Oper} {v : Value} {B : List Nat} (hi : ops[i]? = some oi) (hsel : ∀ (j : Nat) (o : Oper) cs b, ops[j]? = some o → o.op ≠ .select cs b)
    (hQ : ∀ c a w, Q (.panic c) (a.put oi.dst v) w → Q (.panic c) a w)
    (hBe : ∀ j ∈ B, ∃ oj, ops[j]? = some oj ∧ ∃ e ∈ oj.after, Region.binds .any e = true ∧ (e.on = i ∨ e.on ∈ B)) :
    ∀ (fuel : Nat) (listed : Array Bool) (a : Act) (w : World),
      (∀ j oj, ops[j]? = some oj → j ≠ i → listed.getD j true = false → (∀ e ∈ oj.after, Region.binds .any e = true → e.on ≠ i) → oi.apart ops oj = true) →
      (∀ j, listed.getD j true = false → T j = false → j ≠ i → j ∈ B) → (∀ j ∈ B, listed.getD j true = false) →
      i ∈ Region.ready .any ops listed → YieldsIf P ops S oi v a → S w →
      wpT P ops Q T S fuel (listed.setIfInBounds i true) (a.put oi.dst v) w → wpT P ops Q T S (fuel + 1) listed a w := by
  intro fuel
  induction fuel with
  | zero =>
    intro listed a w _ _ _ hr hy hS H
    refine ⟨fun h => (by rw [h] at hr; cases hr), fun j hj => ?_⟩
    by_cases hji : j = i
    · subst hji; exact hy.wpOp hi hS ⟨fun _ => hS, H⟩
    · have := ready_mono hj hji
      rw [H.1] at this
      cases this
  | succ fuel ih =>
    intro listed a w hfree hT hBu hr hy hS H
    refine ⟨fun h => (by rw [h] at hr; cases hr), fun j hj => ?_⟩
    by_cases hji : j = i
    · subst hji; exact hy.wpOp hi hS ⟨fun _ => hS, H⟩
    · have h1 := H.2 j (ready_mono hj hji)
      obtain ⟨hjun, oj, hoj, hall⟩ := mem_ready.1 hj
      have hiu := ready_unlisted hr
      have contra : ∀ k, listed.getD k true = false → listed.getD k false = true → False := by
        intro k h1 h0
        rcases Nat.lt_or_ge k listed.size with h' | h'
        · simp [h'] at h0 h1; rw [h0] at h1; cases h1
        · simp [Array.getElem?_eq_none h'] at h1
      have hnot : ∀ e ∈ oj.after, Region.binds .any e = true → e.on ≠ i := fun e he hb heq => by
        have h2 := hall e he hb
        rw [heq] at h2
        exact contra i hiu h2
      have hjB : j ∉ B := by
        intro hB
        obtain ⟨oj', h2, e, he, hb, hon⟩ := hBe j hB
        rw [hoj] at h2; cases h2
        have h3 := hall e he hb
        rcases hon with hon | hon
        · exact hnot e he hb hon
        · exact contra _ (hBu _ hon) h3
      have hTj : T j = true := by
        cases hT' : T j with
        | true => rfl
        | false => exact absurd (hT j (ready_unlisted hj) hT' hji) hjB
      have h2 := wpOp_putIf hoj (hfree j oj hoj hji hjun hnot) (fun cs b => hsel i oi cs b hi) (fun cs b => hsel j oj cs b hoj) hQ hy h1
      have hfree' : ∀ k ok, ops[k]? = some ok → k ≠ i → (listed.setIfInBounds j true).getD k true = false →
          (∀ e ∈ ok.after, Region.binds .any e = true → e.on ≠ i) → oi.apart ops ok = true := fun k ok hk hki hun hno => by
        exact hfree k ok hk hki (getD_set_true hun) hno
      refine wpOp_mono (fun a' w' h3 => ?_) h2
      have hS' := h3.2.1 hTj
      refine ⟨fun _ => hS', ih (listed.setIfInBounds j true) a' w' hfree' (fun k hk hTk hki => hT k (getD_set_true hk) hTk hki) (fun k hk => ?_) (ready_mono hr (Ne.symm hji)) h3.1 hS' ?_⟩
      · rw [getD_set_ne true (by rintro rfl; exact hjB hk)]; exact hBu k hk
      · rw [Array.setIfInBounds_comm _ _ hji]
        exact h3.2.2

end

/-- What 'waitsOn' gives waits. -/
theorem waitsOn_spec {ops : Array Oper} {listed : Array Bool} {k : Nat} : ∀ (n : Nat) (acc : List Nat),
    ((∀ j ∈ acc, listed.getD j true = false ∧ ∃ oj, ops[j]? = some oj ∧ ∃ e ∈ oj.after, Region.binds .any e = true ∧ (e.on = k ∨ e.on ∈ acc))) →
    ∀ j ∈ waitsOn ops listed k n acc, listed.getD j true = false ∧ ∃ oj, ops[j]? = some oj ∧ ∃ e ∈ oj.after, Region.binds .any e = true ∧ (e.on = k ∨ e.on ∈ waitsOn ops listed k n acc)
  | 0, acc, h => by simpa [waitsOn] using h
  | n + 1, acc, h => by
    simp only [waitsOn]
    split
    · rename_i j hj
      refine waitsOn_spec n (j :: acc) ?_
      have hp := List.find?_some hj
      simp only [Bool.and_eq_true, Bool.not_eq_true'] at hp
      obtain ⟨⟨⟨h1, h2⟩, h3⟩, h4⟩ := hp
      intro m hm
      rcases List.mem_cons.1 hm with rfl | hm
      · refine ⟨h1, ?_⟩
        cases ho : ops[m]? with
        | none => rw [ho] at h4; simp at h4
        | some oj =>
          rw [ho] at h4
          simp only [Option.map_some, Option.getD_some, Array.any_eq_true] at h4
          obtain ⟨i, hi, h4⟩ := h4
          simp only [Bool.and_eq_true, Bool.or_eq_true, beq_iff_eq, List.contains_iff_mem] at h4
          exact ⟨oj, rfl, _, Array.getElem_mem hi, h4.1, h4.2.imp id (fun x => List.mem_cons_of_mem _ x)⟩
      · obtain ⟨g1, oj, g2, e, g3, g4, g5⟩ := h m hm
        exact ⟨g1, oj, g2, e, g3, g4, g5.imp id (fun x => List.mem_cons_of_mem _ x)⟩
    · exact h

/-- What held of more boxes and facts holds of fewer. -/
theorem Rel.fewer {w0 : World} {mu : Fm} {bx bx' : List Box} {E E' : Mem} {ρ ρ' : Env} {w w' : World} (h : Rel w0 mu bx E ρ w) (hp : ρ <+: ρ') (hb : bx <+: bx') (hE : Mem.le E E') (h' : Rel w0 mu bx' E' ρ' w') : Rel w0 mu bx E ρ w' where
  keep := h'.keep
  len := h.len
  box i b oa h1 h2 := by
    have hx := h'.box i b oa (get_prefix hb h1) (get_prefix hp h2)
    have h0 := h.box i b oa h1 h2
    cases oa with
    | none => exact hx
    | some a =>
      obtain ⟨g1, vs, g2, g3⟩ := hx
      obtain ⟨_, vs0, k2, _⟩ := h0
      have := SV.denL_mono hp _ k2
      rw [g2] at this; cases this
      exact ⟨g1, vs, k2, g3⟩
  sep i b a h1 h2 h3 := by
    obtain ⟨t1, t2, t3⟩ := h'.sep i b a (get_prefix hb h1) h2 (get_prefix hp h3)
    exact ⟨t1, fun j b' a' hji g1 g2 g3 => t2 j b' a' hji (get_prefix hb g1) g2 (get_prefix hp g3), fun v cs g hne => t3 v cs (hE v cs g) hne⟩
  hold v cs g := h'.hold v cs (hE v cs g)
  bsrc i b a h1 h2 h3 := h'.bsrc i b a (get_prefix hb h1) h2 (get_prefix hp h3)
  src v cs g hne := h'.src v cs (hE v cs g) hne

section
variable {P : Program} {callW : CallT} {all : Array Oper} {tail : List Nat} {w0 : World} {mu : Fm} {ρ0 : Env} {K : St → Prop} {Q : Exit → Act → World → Prop}

theorem drawW_wpT (hcall : CallOK P callW) (hsel : Region.noSelect all = true) (hQ : ∀ a w, Lift w0 mu ρ0 K a w → Q .normal a w) (hpan : ∀ c a w, ¬ Q (.panic c) a w) :
    ∀ (n : Nat) (listed : Array Bool) (S : St) (ρ : Env) (a : Act) (w : World), drawW P callW all tail n listed S K → listed.size = all.size → a.defers = [] → ρ0 <+: ρ → Rel w0 mu S.bx S.E ρ w → FrRel ρ S.fr a.tmps →
      wpT P all Q (fun j => !tail.contains j) (fun w => Rel w0 mu S.bx S.E ρ w) n listed a w
  | 0, listed, S, ρ, a, w, h, _, hd, hp, hR, hF => by
    simp only [drawW] at h
    split at h
    · rename_i hr; exact ⟨hr, hQ a w ⟨hd, S, ρ, hp, hR, hF, h⟩⟩
    · exact h.elim
  | n + 1, listed, S, ρ, a, w, h, hls, hd, hp, hR, hF => by
    have hls' : ∀ i, (listed.setIfInBounds i true).size = all.size := fun i => by simpa using hls
    simp only [drawW] at h
    split at h
    · rename_i hr
      exact ⟨fun _ => hQ a w ⟨hd, S, ρ, hp, hR, hF, h⟩, fun i hi => by rw [hr] at hi; cases hi⟩
    · rename_i r rs hr
      split at h
      · -- a quiet operation is taken first
        rename_i i hfind
        split at h
        case h_2 => exact h.elim
        rename_i o ho
        split at h
        case isFalse => exact h.elim
        rename_i hcond
        simp only [Bool.and_eq_true] at hcond
        obtain ⟨hfree, htail⟩ := hcond
        have hir : i ∈ Region.ready .any all listed := by rw [hr]; exact List.mem_of_find?_eq_some hfind
        have hp1 := List.find?_some hfind
        simp only [Bool.and_eq_true, Bool.not_eq_true', ho, Option.map_some, Option.getD_some] at hp1
        obtain ⟨hdet, hnt⟩ := hp1
        have hB := waitsOn_spec (ops := all) (listed := listed) (k := i) all.size [] (by simp)
        have key : ∀ (v : Value) (S' : St) (E' : Mem), S'.bx = S.bx → S'.E = E' → Mem.le S.E E' → (∀ w, Rel w0 mu S.bx S.E ρ w → Rel w0 mu S.bx E' ρ w) → FrRel ρ S'.fr (a.put o.dst v).tmps →
            YieldsIf P all (fun w => Rel w0 mu S.bx S.E ρ w) o v a → drawW P callW all tail n (listed.setIfInBounds i true) S' K →
            wpT P all Q (fun j => !tail.contains j) (fun w => Rel w0 mu S.bx S.E ρ w) (n + 1) listed a w := by
          intro v S' E' e1 e2 hle hrel hF' hy hdraw
          have hrest := drawW_wpT hcall hsel hQ hpan n (listed.setIfInBounds i true) S' ρ (a.put o.dst v) w hdraw (hls' i) (by rw [put_defers]; exact hd) hp (by rw [e1, e2]; exact hrel w hR) hF'
          refine wpT_first (B := waitsOn all listed i all.size []) ho (Region.noSelect_spec hsel) (fun c a w hq => (hpan _ _ _ hq).elim) (fun j hj => (hB j hj).2) n listed a w (Region.free_spec ho hfree) ?_ (fun j hj => (hB j hj).1) hir hy hR ?_
          · intro j hj hTj hji
            have hmem : j ∈ tail := by simpa using hTj
            have := List.all_eq_true.1 htail j hmem
            rw [hj] at this
            simpa using this
          · refine wpT_mono (fun w' hw' => ?_) n _ _ _ hrest
            rw [e1, e2] at hw'
            exact hw'.weakE hle
        have hex : ∀ S1 : St, S1.bx = S.bx → S1.E = S.E → FrRel ρ S1.fr a.tmps → Region.wanted o (yielded all a.tmps) = true →
            (opW P callW o.op S1 fun s bx E => drawW P callW all tail n (listed.setIfInBounds i true) (({ S1 with bx := bx, E := E } : St).put o.dst s) K) →
            wpT P all Q (fun j => !tail.contains j) (fun w => Rel w0 mu S.bx S.E ρ w) (n + 1) listed a w := by
          intro S1 e1 e2 hF1 hw hop
          refine detW_sound (S := S1) (w0 := w0) (mu := mu) (ρ := ρ) (w1 := w) hdet (by rw [e1, e2]; exact hR) hF1 hop (fun s v E' g1 g2 g3 g4 g5 => ?_)
          rw [e2] at g2
          rw [e1, e2] at g3
          rw [e1, e2] at g5
          refine key v _ E' ?_ ?_ g2 g3 ?_ (.inl ⟨hw, g5⟩) g4
          · rw [St.put_bx]; exact e1
          · rw [St.put_E]
          · exact FrRel.put (S := { S1 with bx := S1.bx, E := E' }) hF1 o.dst g1
        have hsk : ∀ S1 : St, S1.bx = S.bx → S1.E = S.E → FrRel ρ S1.fr a.tmps → Region.wanted o (yielded all a.tmps) = false →
            drawW P callW all tail n (listed.setIfInBounds i true) (S1.put o.dst (.raw undef)) K →
            wpT P all Q (fun j => !tail.contains j) (fun w => Rel w0 mu S.bx S.E ρ w) (n + 1) listed a w := by
          intro S1 e1 e2 hF1 hw hdr
          refine key undef _ S.E ?_ ?_ (Mem.le_refl _) (fun _ g => g) ?_ (.inr ⟨hw, rfl⟩) hdr
          · rw [St.put_bx]; exact e1
          · rw [St.put_E]; exact e2
          · exact FrRel.put hF1 o.dst rfl
        unfold stepW guardW at h
        split at h
        · rename_i hg
          exact hex S rfl rfl hF (by simp [Region.wanted, hg]) h
        · rename_i j want hg
          split at h
          · exact h.elim
          · rename_i d hj
            split at h
            · rename_i b hb
              obtain ⟨v, h1, h2⟩ := hF.2 d _ hb
              simp only [SV.den, Option.some.injEq] at h2; subst h2
              have hy : yielded all a.tmps j = some b := by simp [yielded, hj, h1]
              have hset : ∀ c : Bool, b = c → FrRel ρ (S.put (some d) (.raw (.bool c))).fr a.tmps := fun c e => FrRel.lit hF h1 e
              cases want <;> cases b <;> simp only [cond] at h
              · exact hex (S.put (some d) (.raw (.bool false))) rfl rfl (hset false rfl) (by simp [Region.wanted, hg, hy]) h
              · exact hsk (S.put (some d) (.raw (.bool true))) rfl rfl (hset true rfl) (by simp [Region.wanted, hg, hy]) h
              · exact hsk (S.put (some d) (.raw (.bool false))) rfl rfl (hset false rfl) (by simp [Region.wanted, hg, hy]) h
              · exact hex (S.put (some d) (.raw (.bool true))) rfl rfl (hset true rfl) (by simp [Region.wanted, hg, hy]) h
            · rename_i vs hb
              obtain ⟨v, h1, h2⟩ := hF.2 d _ hb
              simp only [SV.den, Option.some.injEq] at h2; subst h2
              have hy : yielded all a.tmps j = none := by simp [yielded, hj, h1]
              exact hsk S rfl rfl hF (by simp [Region.wanted, hg, hy]) h
            · exact h.elim
      · -- the one operation that may come up
        rename_i hfind
        split at h
        case h_2 => exact h.elim
        rename_i o ho
        refine ⟨fun e => (by rw [hr] at e; cases e), fun i hi => ?_⟩
        rw [hr] at hi
        simp only [List.mem_singleton] at hi; subst hi
        split at h
        · rename_i htl
          split at h
          case isFalse => exact h.elim
          rename_i hall
          have hst := stepW_sound (P := P) (all := all) (Q := Q) hcall (o := o) (K := fun S' => drawW P callW all tail n (listed.setIfInBounds i true) S' K) (w0 := w0) (mu := mu) (ρ0 := ρ) (a := a) (w := w) ⟨hd, S, ρ, List.prefix_refl _, hR, hF, h⟩
          have hnext : ∀ a' w', Lift w0 mu ρ (fun S' => drawW P callW all tail n (listed.setIfInBounds i true) S' K) a' w' →
              ((!tail.contains i) = true → Rel w0 mu S.bx S.E ρ w') ∧ wpT P all Q (fun j => !tail.contains j) (fun w => Rel w0 mu S.bx S.E ρ w) n (listed.setIfInBounds i true) a' w' := by
            intro a' w' hl
            obtain ⟨hd', S', ρ', hp', hR', hF', hdr⟩ := hl
            refine ⟨fun e => (by rw [htl] at e; cases e), ?_⟩
            refine wpT_tail (S := fun w => Rel w0 mu S'.bx S'.E ρ' w) n _ a' w' (fun j hj => ?_) (drawW_wpT hcall hsel hQ hpan n _ S' ρ' a' w' hdr (hls' i) hd' (hp.trans hp') hR' hF')
            have hj' := getD_set_true hj
            by_cases hjs : j < all.size
            · have := List.all_eq_true.1 hall j (List.mem_range.2 hjs)
              rw [hj'] at this
              simpa using this
            · exfalso
              have : ¬ j < listed.size := by omega
              simp [Array.getElem?_eq_none (Nat.le_of_not_lt this)] at hj'
          unfold wpOp
          simp only [ho]
          split
          · rename_i hw
            rw [if_pos hw] at hst
            exact .inl (Oper.wp_mono hnext hst)
          · rename_i hw
            rw [if_neg hw] at hst
            exact hnext _ _ hst
        · rename_i htl
          have hst := stepGW_sound (P := P) (all := all) (Q := Q) hcall (o := o) (K := fun S' => drawW P callW all tail n (listed.setIfInBounds i true) S' K) (w0 := w0) (mu := mu) (ρ0 := ρ) (a := a) (w := w) hd (List.prefix_refl _) hR hF h
          have hnext : ∀ a' w', Lift w0 mu ρ (fun S' => (S.bx <+: S'.bx ∧ Mem.le S.E S'.E) ∧ drawW P callW all tail n (listed.setIfInBounds i true) S' K) a' w' →
              ((!tail.contains i) = true → Rel w0 mu S.bx S.E ρ w') ∧ wpT P all Q (fun j => !tail.contains j) (fun w => Rel w0 mu S.bx S.E ρ w) n (listed.setIfInBounds i true) a' w' := by
            intro a' w' hl
            obtain ⟨hd', S', ρ', hp', hR', hF', ⟨hb, hE⟩, hdr⟩ := hl
            exact ⟨fun _ => hR.fewer hp' hb hE hR', wpT_mono (fun w2 hw2 => hR.fewer hp' hb hE hw2) n _ a' w' (drawW_wpT hcall hsel hQ hpan n _ S' ρ' a' w' hdr (hls' i) hd' (hp.trans hp') hR' hF')⟩
          unfold wpOp
          simp only [ho]
          split
          · rename_i hw
            rw [if_pos hw] at hst
            exact .inl (Oper.wp_mono hnext hst)
          · rename_i hw
            rw [if_neg hw] at hst
            exact hnext _ _ hst

theorem drawW_sound (hcall : CallOK P callW) (hm : P.follows .mixedOrders = true) (hsel : Region.noSelect all = true) {id : Nat} (hQ : ∀ a w, Lift w0 mu ρ0 K a w → Q .normal a w) {a : Act} {w : World}
    (h : Lift w0 mu ρ0 (fun S => drawW P callW all tail all.size (Array.replicate all.size false) S K) a w) : (Code.region id all true).wp P Q a w := by
  obtain ⟨hd, S, ρ, hp, hR, hF, h⟩ := h
  have h1 : (Code.region id all true).wp P (fun e a w => match e with | .normal => Lift w0 mu ρ0 K a w | _ => False) a w :=
    wp_region_any hm (wpT_any _ _ _ _ (drawW_wpT hcall hsel (fun a w x => x) (fun c a w x => x) all.size _ S ρ a _ h (by simp) hd hp (hR.drew _) hF))
  exact Code.wp_mono (fun e a w x => by cases e <;> first | exact hQ a w x | exact x.elim) h1

end
end Go.Sx
