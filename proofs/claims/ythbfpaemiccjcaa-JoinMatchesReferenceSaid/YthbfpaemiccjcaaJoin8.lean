/- The join package: what its functions answer. -/
import Derived.Test.YthbfpaemiccjcaaJoin5
import Derived.Test.YthbfpaemiccjcaaJoin6
namespace Go.Proofs.Ythbfpaemiccjcaa.JoinOwn
open Go Go.Sx
set_option maxRecDepth 100000
set_option maxHeartbeats 4000000
set_option linter.unusedVariables false
set_option linter.unusedSimpArgs false
variable {E : Mem} {K : SV → Mem → Prop}

structure JS where
  p : Int
  s : Int
  n : Int
  t : Int
  r : Int
structure WS where
  k : Int
  x : Int
  y : Int
  m : Int
  c : Int
  q : Int
  f : Int
  g : Int
def J0s : JS := ⟨0, 0, 0, 0, 0⟩
def W0s : WS := ⟨0, 0, 0, 0, 0, 0, 0, 0⟩
abbrev eJ (j : JS) : SV := .agg [I j.p, I j.s, I j.n, I j.t, I j.r]
abbrev eW (w : WS) : SV := .agg [I w.k, I w.x, I w.y, I w.m, I w.c, I w.q, I w.f, I w.g]
instance (p s n t r : Int) : Decidable (VJ p s n t r) := inferInstanceAs (Decidable (_ ∧ _))
instance (k x y m c : Int) : Decidable (FW k x y m c) := inferInstanceAs (Decidable (_ ∧ _))
instance (p s n t r me boot sp fr : Int) : Decidable (AskOK p s n t r me boot sp fr) := inferInstanceAs (Decidable (_ ∧ _))
instance (p s n t r me K X Y M C fr : Int) : Decidable (Meant p s n t r me K X Y M C fr) := inferInstanceAs (Decidable (_ ∧ _))
instance (K X Y M C F G : Int) : Decidable (JudgeOK K X Y M C F G) := inferInstanceAs (Decidable (_ ∧ _))
def ask (j : JS) (me boot sp fr : Int) : JS × WS × Int :=
  if AskOK j.p j.s j.n j.t j.r me boot sp fr then
    if j.p = 0 then
      if j.r = 255 then (J0s, W0s, 2) else (⟨1, sp, 256 * boot + j.r + 1, fr, j.r + 1⟩, ⟨1, me, sp, 256 * boot + j.r + 1, 0, 0, 0, 0⟩, 0)
    else (J0s, W0s, 6)
  else (J0s, W0s, 1)
def hear (j : JS) (me : Int) (w : WS) (fr : Int) : JS × WS × Bool :=
  if Meant j.p j.s j.n j.t j.r me w.k w.x w.y w.m w.c fr then
    if w.k = 2 ∧ (j.p = 1 ∨ j.p = 2) then (⟨2, j.s, j.n, j.t, j.r⟩, ⟨3, w.x, w.y, w.m, w.c, me + 1000000, 0, 0⟩, true)
    else if w.k = 4 ∧ j.p = 2 ∧ w.q = me + 1000000 then (⟨3, j.s, j.n, j.t, j.r⟩, W0s, true)
    else (j, W0s, false)
  else (j, W0s, false)
def late (j : JS) (fr : Int) : JS :=
  if VJ j.p j.s j.n j.t j.r ∧ (j.p = 1 ∨ j.p = 2) ∧ j.t + 12 ≤ fr then ⟨0, -1, 0, 0, j.r⟩ else j
def judge (w : WS) (F G : Int) : WS × Int :=
  if JudgeOK w.k w.x w.y w.m w.c F G then
    if w.k = 3 then
      if w.q = w.x + 1000000 then (⟨4, w.x, w.y, w.m, 0, w.q, F, G⟩, 0) else (W0s, 13)
    else (W0s, 9)
  else (W0s, 1)
theorem ask_det {p s n t r me boot sp fr p' s' n' t' r' k x y m c q f g e : Int} (h : Hyp (AskR p s n t r me boot sp fr p' s' n' t' r' k x y m c q f g e)) :
    ask ⟨p, s, n, t, r⟩ me boot sp fr = (⟨p', s', n', t', r'⟩, ⟨k, x, y, m, c, q, f, g⟩, e) := by
  unfold ask
  rcases h with ⟨h, rfl, ⟨rfl, rfl, rfl, rfl, rfl⟩, ⟨rfl, rfl, rfl, rfl, rfl, rfl, rfl, rfl⟩⟩ | ⟨h, h2, rfl, ⟨rfl, rfl, rfl, rfl, rfl⟩, ⟨rfl, rfl, rfl, rfl, rfl, rfl, rfl, rfl⟩⟩ | ⟨h, rfl, rfl, rfl, ⟨rfl, rfl, rfl, rfl, rfl⟩, ⟨rfl, rfl, rfl, rfl, rfl, rfl, rfl, rfl⟩⟩ | ⟨h, rfl, h3, rfl, ⟨rfl, rfl, rfl, rfl, rfl⟩, rfl, rfl, rfl, rfl, rfl, rfl, rfl, rfl⟩
  · rw [if_neg h]; rfl
  · rw [if_pos h, if_neg h2]; rfl
  · rw [if_pos h, if_pos rfl, if_pos rfl]; rfl
  · rw [if_pos h, if_pos rfl, if_neg h3]
theorem hear_det {p s n t r me K X Y M C Q F G fr p' s' n' t' r' k x y m c q f g v : Int} (h : Hyp (HearR p s n t r me K X Y M C Q F G fr p' s' n' t' r' k x y m c q f g v)) :
    hear ⟨p, s, n, t, r⟩ me ⟨K, X, Y, M, C, Q, F, G⟩ fr = (⟨p', s', n', t', r'⟩, ⟨k, x, y, m, c, q, f, g⟩, v == 1) := by
  unfold hear
  rcases h with ⟨h, h1, h2, rfl, ⟨rfl, rfl, rfl, rfl, rfl⟩, rfl, rfl, rfl, rfl, rfl, rfl, rfl, rfl⟩ | ⟨h, h1, h2, h3, rfl, ⟨rfl, rfl, rfl, rfl, rfl⟩, rfl, rfl, rfl, rfl, rfl, rfl, rfl, rfl⟩ | ⟨h, rfl, ⟨rfl, rfl, rfl, rfl, rfl⟩, rfl, rfl, rfl, rfl, rfl, rfl, rfl, rfl⟩
  · rw [if_pos h, if_pos ⟨h1, h2⟩]; rfl
  · rw [if_pos h, if_neg (by simp only; omega), if_pos ⟨h1, h2, h3⟩]; rfl
  · by_cases hm : Meant p' s' n' t' r' me K X Y M C fr
    · rw [if_pos hm, if_neg (fun hx => h ⟨hm, .inl hx⟩), if_neg (fun hx => h ⟨hm, .inr hx⟩)]; rfl
    · rw [if_neg hm]; rfl
theorem late_det {p s n t r fr p' s' n' t' r' : Int} (h : Hyp (LateR p s n t r fr p' s' n' t' r')) : late ⟨p, s, n, t, r⟩ fr = ⟨p', s', n', t', r'⟩ := by
  unfold late
  rcases h with ⟨h1, h2, h3, rfl, rfl, rfl, rfl, rfl⟩ | ⟨h, rfl, rfl, rfl, rfl, rfl⟩
  · rw [if_pos ⟨h1, h2, h3⟩]
  · rw [if_neg h]
theorem judge_det {K X Y M C Q U V F G k x y m c q f g e : Int} (h : Hyp (JudgeR K X Y M C Q U V F G k x y m c q f g e)) :
    judge ⟨K, X, Y, M, C, Q, U, V⟩ F G = (⟨k, x, y, m, c, q, f, g⟩, e) := by
  unfold judge
  rcases h with ⟨h, rfl, rfl, rfl, rfl, rfl, rfl, rfl, rfl, rfl⟩ | ⟨h, h2, rfl, rfl, rfl, rfl, rfl, rfl, rfl, rfl, rfl⟩ | ⟨h, h2, h3, rfl, rfl, rfl, rfl, rfl, rfl, rfl, rfl, rfl⟩ | ⟨h, h2, h3, rfl, rfl, rfl, rfl, rfl, rfl, rfl, rfl, rfl⟩
  · rw [if_neg h]; rfl
  · rw [if_pos h, if_neg h2]; rfl
  · rw [if_pos h, if_pos h2, if_neg h3]; rfl
  · rw [if_pos h, if_pos h2, if_pos h3]

theorem ownW {x : Int} (h : 0 ≤ x ∧ x < 60) : IntKind.wrap .i64 (1000000 + x) = x + 1000000 := by rw [wrap_i64 (by omega)]; omega

theorem t27 {a1 : Int} {a2 : Int} {a3 : Int} {a4 : Int} {a5 : Int} {a6 : Int} {a7 : Int} {a8 : Int} (h : K (B (decide (FW a1 a2 a3 a4 a5))) E) :
    Ent J9 6 Try.f27 [.agg [I a1, I a2, I a3, I a4, I a5, I a6, I a7, I a8]] E K := by
  refine s27 (fun v hh => ?_)
  rcases hh with ⟨rfl, hh⟩ | ⟨rfl, hh⟩
  · rw [decide_eq_true hh] at h; exact h
  · rw [decide_eq_false hh] at h; exact h

theorem t21 {a1 : Int} {a2 : Int} {a3 : Int} {a4 : Int} {a5 : Int} {a6 : Int} {a7 : Int} {a8 : Int} (h : K (B (decide (FW a1 a2 a3 a4 a5))) E) :
    Ent J9 6 Try.f21 [.agg [I a1, I a2, I a3, I a4, I a5, I a6, I a7, I a8]] E K := by
  refine s21 (fun v hh => ?_)
  rcases hh with ⟨rfl, hh⟩ | ⟨rfl, hh⟩
  · rw [decide_eq_true hh] at h; exact h
  · rw [decide_eq_false hh] at h; exact h

theorem t19 {a1 : Int} {a2 : Int} {a3 : Int} {a4 : Int} {a5 : Int} (h : K (B (decide (VJ a1 a2 a3 a4 a5))) E) :
    Ent J9 6 Try.f19 [.agg [I a1, I a2, I a3, I a4, I a5]] E K := by
  refine s19 (fun v hh => ?_)
  rcases hh with ⟨rfl, hh⟩ | ⟨rfl, hh⟩
  · rw [decide_eq_true hh] at h; exact h
  · rw [decide_eq_false hh] at h; exact h

noncomputable def tab8 : FuncId → List SV → Mem → (SV → Mem → Prop) → Prop := fun f args E K => match f with
  | 27 => d1 args fun x0 => dC x0 fun l1 => d8 l1 fun x0_0 x0_1 x0_2 x0_3 x0_4 x0_5 x0_6 x0_7 => dI x0_0 fun a1 => dI x0_1 fun a2 => dI x0_2 fun a3 => dI x0_3 fun a4 => dI x0_4 fun a5 => dI x0_5 fun a6 => dI x0_6 fun a7 => dI x0_7 fun a8 => (K (B (decide (FW a1 a2 a3 a4 a5))) E)
  | 21 => d1 args fun x0 => dC x0 fun l1 => d8 l1 fun x0_0 x0_1 x0_2 x0_3 x0_4 x0_5 x0_6 x0_7 => dI x0_0 fun a1 => dI x0_1 fun a2 => dI x0_2 fun a3 => dI x0_3 fun a4 => dI x0_4 fun a5 => dI x0_5 fun a6 => dI x0_6 fun a7 => dI x0_7 fun a8 => (K (B (decide (FW a1 a2 a3 a4 a5))) E)
  | 19 => d1 args fun x0 => dC x0 fun l1 => d5 l1 fun x0_0 x0_1 x0_2 x0_3 x0_4 => dI x0_0 fun a1 => dI x0_1 fun a2 => dI x0_2 fun a3 => dI x0_3 fun a4 => dI x0_4 fun a5 => (K (B (decide (VJ a1 a2 a3 a4 a5))) E)
  | _ => False
theorem tab8_ok : TabOK Try.prog tab8 := by
  intro f args E K h
  unfold tab8 at h
  split at h
  · obtain ⟨x0, rfl, h⟩ := d1_elim h
    obtain ⟨l1, hl1, h⟩ := dC_elim h
    obtain ⟨x0_0, x0_1, x0_2, x0_3, x0_4, x0_5, x0_6, x0_7, rfl, h⟩ := d8_elim h
    obtain ⟨a1, rfl, h⟩ := dI_elim h
    obtain ⟨a2, rfl, h⟩ := dI_elim h
    obtain ⟨a3, rfl, h⟩ := dI_elim h
    obtain ⟨a4, rfl, h⟩ := dI_elim h
    obtain ⟨a5, rfl, h⟩ := dI_elim h
    obtain ⟨a6, rfl, h⟩ := dI_elim h
    obtain ⟨a7, rfl, h⟩ := dI_elim h
    obtain ⟨a8, rfl, h⟩ := dI_elim h
    exact TabSem.congr (valL_cons (asCells_val hl1) rfl) (Ent.sem okJ9 Try.func27 ⟨by kernel_rfl, by kernel_rfl⟩ rfl (t27 h))
  · obtain ⟨x0, rfl, h⟩ := d1_elim h
    obtain ⟨l1, hl1, h⟩ := dC_elim h
    obtain ⟨x0_0, x0_1, x0_2, x0_3, x0_4, x0_5, x0_6, x0_7, rfl, h⟩ := d8_elim h
    obtain ⟨a1, rfl, h⟩ := dI_elim h
    obtain ⟨a2, rfl, h⟩ := dI_elim h
    obtain ⟨a3, rfl, h⟩ := dI_elim h
    obtain ⟨a4, rfl, h⟩ := dI_elim h
    obtain ⟨a5, rfl, h⟩ := dI_elim h
    obtain ⟨a6, rfl, h⟩ := dI_elim h
    obtain ⟨a7, rfl, h⟩ := dI_elim h
    obtain ⟨a8, rfl, h⟩ := dI_elim h
    exact TabSem.congr (valL_cons (asCells_val hl1) rfl) (Ent.sem okJ9 Try.func21 ⟨by kernel_rfl, by kernel_rfl⟩ rfl (t21 h))
  · obtain ⟨x0, rfl, h⟩ := d1_elim h
    obtain ⟨l1, hl1, h⟩ := dC_elim h
    obtain ⟨x0_0, x0_1, x0_2, x0_3, x0_4, rfl, h⟩ := d5_elim h
    obtain ⟨a1, rfl, h⟩ := dI_elim h
    obtain ⟨a2, rfl, h⟩ := dI_elim h
    obtain ⟨a3, rfl, h⟩ := dI_elim h
    obtain ⟨a4, rfl, h⟩ := dI_elim h
    obtain ⟨a5, rfl, h⟩ := dI_elim h
    exact TabSem.congr (valL_cons (asCells_val hl1) rfl) (Ent.sem okJ9 Try.func19 ⟨by kernel_rfl, by kernel_rfl⟩ rfl (t19 h))
  · exact h.elim
noncomputable def J0h : Cx := { P := Try.prog, inl := fun f => List.contains [20, 22, 23, 24, 25] f, tab := tab8, isB := fun _ => false, tabB := fun _ _ _ _ _ => False, opt := { unroll := 0, carry := [] }, muts := fun o => mutsD o || (match o with | .call { callee := .value (.func f), .. } => f == 20 | _ => false) }
theorem okJ0h : CxOK J0h := CxOK.four (tab8_ok) (by kernel_rfl) (okInl (by kernel_rfl)) (fun _ _ _ _ _ h => h.elim)

theorem t11 {a1 : Int} {a2 : Int} {a3 : Int} {a4 : Int} {a5 : Int} {a6 : Int} {a7 : Int} {a8 : Int} {a9 : Int} (h : K (.tup [eJ (ask ⟨a1, a2, a3, a4, a5⟩ a6 a7 a8 a9).1, eW (ask ⟨a1, a2, a3, a4, a5⟩ a6 a7 a8 a9).2.1, I (ask ⟨a1, a2, a3, a4, a5⟩ a6 a7 a8 a9).2.2]) E) :
    Ent J0 6 Try.f11 [.agg [I a1, I a2, I a3, I a4, I a5], I a6, I a7, I a8, I a9] E K := by
  refine s11 (fun _ _ _ _ _ _ _ _ _ _ _ _ _ _ hh => ?_)
  rw [ask_det hh] at h
  exact h

theorem t12 {a1 : Int} {a2 : Int} {a3 : Int} {a4 : Int} {a5 : Int} {a6 : Int} {a7 : Int} {a8 : Int} {a9 : Int} (h : K (.tup [eJ (ask ⟨a1, a2, a3, a4, a5⟩ a6 a7 a8 a9).1, eW (ask ⟨a1, a2, a3, a4, a5⟩ a6 a7 a8 a9).2.1, I (ask ⟨a1, a2, a3, a4, a5⟩ a6 a7 a8 a9).2.2]) E) :
    Ent J0 6 Try.f12 [.agg [I a1, I a2, I a3, I a4, I a5], I a6, I a7, I a8, I a9] E K := by
  refine s12 (fun _ _ _ _ _ _ _ _ _ _ _ _ _ _ hh => ?_)
  rw [ask_det hh] at h
  exact h

theorem t13 {a1 : Int} {a2 : Int} {a3 : Int} {a4 : Int} {a5 : Int} {a6 : Int} {a7 : Int} {a8 : Int} {a9 : Int} {a10 : Int} {a11 : Int} {a12 : Int} {a13 : Int} {a14 : Int} {a15 : Int} (h : K (.tup [eJ (hear ⟨a1, a2, a3, a4, a5⟩ a6 ⟨a7, a8, a9, a10, a11, a12, a13, a14⟩ a15).1, eW (hear ⟨a1, a2, a3, a4, a5⟩ a6 ⟨a7, a8, a9, a10, a11, a12, a13, a14⟩ a15).2.1, B (hear ⟨a1, a2, a3, a4, a5⟩ a6 ⟨a7, a8, a9, a10, a11, a12, a13, a14⟩ a15).2.2]) E) :
    Ent J0 6 Try.f13 [.agg [I a1, I a2, I a3, I a4, I a5], I a6, .agg [I a7, I a8, I a9, I a10, I a11, I a12, I a13, I a14], I a15] E K := by
  refine s13 (fun _ _ _ _ _ _ _ _ _ _ _ _ _ _ hh => ?_)
  rw [hear_det hh] at h
  exact h

theorem t15 {a1 : Int} {a2 : Int} {a3 : Int} {a4 : Int} {a5 : Int} {a6 : Int} {a7 : Int} {a8 : Int} {a9 : Int} {a10 : Int} (h : K (.tup [eW (judge ⟨a1, a2, a3, a4, a5, a6, a7, a8⟩ a9 a10).1, I (judge ⟨a1, a2, a3, a4, a5, a6, a7, a8⟩ a9 a10).2]) E) :
    Ent J0 6 Try.f15 [.agg [I a1, I a2, I a3, I a4, I a5, I a6, I a7, I a8], .agg [I a9, I a10]] E K := by
  refine s15 (fun _ _ _ _ _ _ _ _ _ hh => ?_)
  rw [judge_det hh] at h
  exact h

theorem t16 {a1 : Int} {a2 : Int} {a3 : Int} {a4 : Int} {a5 : Int} {a6 : Int} {a7 : Int} {a8 : Int} {a9 : Int} {a10 : Int} (h : K (.tup [eW (judge ⟨a1, a2, a3, a4, a5, a6, a7, a8⟩ a9 a10).1, I (judge ⟨a1, a2, a3, a4, a5, a6, a7, a8⟩ a9 a10).2]) E) :
    Ent J0 6 Try.f16 [.agg [I a1, I a2, I a3, I a4, I a5, I a6, I a7, I a8], .agg [I a9, I a10]] E K := by
  refine s16 (fun _ _ _ _ _ _ _ _ _ hh => ?_)
  rw [judge_det hh] at h
  exact h

theorem t17 {a1 : Int} {a2 : Int} {a3 : Int} {a4 : Int} {a5 : Int} {a6 : Int} (h : K (eJ (late ⟨a1, a2, a3, a4, a5⟩ a6)) E) :
    Ent J0 6 Try.f17 [.agg [I a1, I a2, I a3, I a4, I a5], I a6] E K := by
  refine s17 (fun _ _ _ _ _ hh => ?_)
  rw [late_det hh] at h
  exact h

theorem t18 {a1 : Int} {a2 : Int} {a3 : Int} {a4 : Int} {a5 : Int} {a6 : Int} (h : K (eJ (late ⟨a1, a2, a3, a4, a5⟩ a6)) E) :
    Ent J0 6 Try.f18 [.agg [I a1, I a2, I a3, I a4, I a5], I a6] E K := by
  refine s18 (fun _ _ _ _ _ hh => ?_)
  rw [late_det hh] at h
  exact h

noncomputable def tabQ : FuncId → List SV → Mem → (SV → Mem → Prop) → Prop := fun f args E K => match f with
  | 11 => d5 args fun x0 x1 x2 x3 x4 => dC x0 fun l1 => d5 l1 fun x0_0 x0_1 x0_2 x0_3 x0_4 => dI x0_0 fun a1 => dI x0_1 fun a2 => dI x0_2 fun a3 => dI x0_3 fun a4 => dI x0_4 fun a5 => dI x1 fun a6 => dI x2 fun a7 => dI x3 fun a8 => dI x4 fun a9 => (K (.tup [eJ (ask ⟨a1, a2, a3, a4, a5⟩ a6 a7 a8 a9).1, eW (ask ⟨a1, a2, a3, a4, a5⟩ a6 a7 a8 a9).2.1, I (ask ⟨a1, a2, a3, a4, a5⟩ a6 a7 a8 a9).2.2]) E)
  | 12 => d5 args fun x0 x1 x2 x3 x4 => dC x0 fun l1 => d5 l1 fun x0_0 x0_1 x0_2 x0_3 x0_4 => dI x0_0 fun a1 => dI x0_1 fun a2 => dI x0_2 fun a3 => dI x0_3 fun a4 => dI x0_4 fun a5 => dI x1 fun a6 => dI x2 fun a7 => dI x3 fun a8 => dI x4 fun a9 => (K (.tup [eJ (ask ⟨a1, a2, a3, a4, a5⟩ a6 a7 a8 a9).1, eW (ask ⟨a1, a2, a3, a4, a5⟩ a6 a7 a8 a9).2.1, I (ask ⟨a1, a2, a3, a4, a5⟩ a6 a7 a8 a9).2.2]) E)
  | 13 => d4 args fun x0 x1 x2 x3 => dC x0 fun l1 => d5 l1 fun x0_0 x0_1 x0_2 x0_3 x0_4 => dI x0_0 fun a1 => dI x0_1 fun a2 => dI x0_2 fun a3 => dI x0_3 fun a4 => dI x0_4 fun a5 => dI x1 fun a6 => dC x2 fun l2 => d8 l2 fun x2_0 x2_1 x2_2 x2_3 x2_4 x2_5 x2_6 x2_7 => dI x2_0 fun a7 => dI x2_1 fun a8 => dI x2_2 fun a9 => dI x2_3 fun a10 => dI x2_4 fun a11 => dI x2_5 fun a12 => dI x2_6 fun a13 => dI x2_7 fun a14 => dI x3 fun a15 => (K (.tup [eJ (hear ⟨a1, a2, a3, a4, a5⟩ a6 ⟨a7, a8, a9, a10, a11, a12, a13, a14⟩ a15).1, eW (hear ⟨a1, a2, a3, a4, a5⟩ a6 ⟨a7, a8, a9, a10, a11, a12, a13, a14⟩ a15).2.1, B (hear ⟨a1, a2, a3, a4, a5⟩ a6 ⟨a7, a8, a9, a10, a11, a12, a13, a14⟩ a15).2.2]) E)
  | 15 => d2 args fun x0 x1 => dC x0 fun l1 => d8 l1 fun x0_0 x0_1 x0_2 x0_3 x0_4 x0_5 x0_6 x0_7 => dI x0_0 fun a1 => dI x0_1 fun a2 => dI x0_2 fun a3 => dI x0_3 fun a4 => dI x0_4 fun a5 => dI x0_5 fun a6 => dI x0_6 fun a7 => dI x0_7 fun a8 => dC x1 fun l2 => d2 l2 fun x1_0 x1_1 => dI x1_0 fun a9 => dI x1_1 fun a10 => (K (.tup [eW (judge ⟨a1, a2, a3, a4, a5, a6, a7, a8⟩ a9 a10).1, I (judge ⟨a1, a2, a3, a4, a5, a6, a7, a8⟩ a9 a10).2]) E)
  | 16 => d2 args fun x0 x1 => dC x0 fun l1 => d8 l1 fun x0_0 x0_1 x0_2 x0_3 x0_4 x0_5 x0_6 x0_7 => dI x0_0 fun a1 => dI x0_1 fun a2 => dI x0_2 fun a3 => dI x0_3 fun a4 => dI x0_4 fun a5 => dI x0_5 fun a6 => dI x0_6 fun a7 => dI x0_7 fun a8 => dC x1 fun l2 => d2 l2 fun x1_0 x1_1 => dI x1_0 fun a9 => dI x1_1 fun a10 => (K (.tup [eW (judge ⟨a1, a2, a3, a4, a5, a6, a7, a8⟩ a9 a10).1, I (judge ⟨a1, a2, a3, a4, a5, a6, a7, a8⟩ a9 a10).2]) E)
  | 17 => d2 args fun x0 x1 => dC x0 fun l1 => d5 l1 fun x0_0 x0_1 x0_2 x0_3 x0_4 => dI x0_0 fun a1 => dI x0_1 fun a2 => dI x0_2 fun a3 => dI x0_3 fun a4 => dI x0_4 fun a5 => dI x1 fun a6 => (K (eJ (late ⟨a1, a2, a3, a4, a5⟩ a6)) E)
  | 18 => d2 args fun x0 x1 => dC x0 fun l1 => d5 l1 fun x0_0 x0_1 x0_2 x0_3 x0_4 => dI x0_0 fun a1 => dI x0_1 fun a2 => dI x0_2 fun a3 => dI x0_3 fun a4 => dI x0_4 fun a5 => dI x1 fun a6 => (K (eJ (late ⟨a1, a2, a3, a4, a5⟩ a6)) E)
  | _ => False
theorem tabQ_ok : TabOK Try.prog tabQ := by
  intro f args E K h
  unfold tabQ at h
  split at h
  · obtain ⟨x0, x1, x2, x3, x4, rfl, h⟩ := d5_elim h
    obtain ⟨l1, hl1, h⟩ := dC_elim h
    obtain ⟨x0_0, x0_1, x0_2, x0_3, x0_4, rfl, h⟩ := d5_elim h
    obtain ⟨a1, rfl, h⟩ := dI_elim h
    obtain ⟨a2, rfl, h⟩ := dI_elim h
    obtain ⟨a3, rfl, h⟩ := dI_elim h
    obtain ⟨a4, rfl, h⟩ := dI_elim h
    obtain ⟨a5, rfl, h⟩ := dI_elim h
    obtain ⟨a6, rfl, h⟩ := dI_elim h
    obtain ⟨a7, rfl, h⟩ := dI_elim h
    obtain ⟨a8, rfl, h⟩ := dI_elim h
    obtain ⟨a9, rfl, h⟩ := dI_elim h
    exact TabSem.congr (valL_cons (asCells_val hl1) (valL_cons rfl (valL_cons rfl (valL_cons rfl (valL_cons rfl rfl))))) (Ent.sem okJ0 Try.func11 ⟨by kernel_rfl, by kernel_rfl⟩ rfl (t11 h))
  · obtain ⟨x0, x1, x2, x3, x4, rfl, h⟩ := d5_elim h
    obtain ⟨l1, hl1, h⟩ := dC_elim h
    obtain ⟨x0_0, x0_1, x0_2, x0_3, x0_4, rfl, h⟩ := d5_elim h
    obtain ⟨a1, rfl, h⟩ := dI_elim h
    obtain ⟨a2, rfl, h⟩ := dI_elim h
    obtain ⟨a3, rfl, h⟩ := dI_elim h
    obtain ⟨a4, rfl, h⟩ := dI_elim h
    obtain ⟨a5, rfl, h⟩ := dI_elim h
    obtain ⟨a6, rfl, h⟩ := dI_elim h
    obtain ⟨a7, rfl, h⟩ := dI_elim h
    obtain ⟨a8, rfl, h⟩ := dI_elim h
    obtain ⟨a9, rfl, h⟩ := dI_elim h
    exact TabSem.congr (valL_cons (asCells_val hl1) (valL_cons rfl (valL_cons rfl (valL_cons rfl (valL_cons rfl rfl))))) (Ent.sem okJ0 Try.func12 ⟨by kernel_rfl, by kernel_rfl⟩ rfl (t12 h))
  · obtain ⟨x0, x1, x2, x3, rfl, h⟩ := d4_elim h
    obtain ⟨l1, hl1, h⟩ := dC_elim h
    obtain ⟨x0_0, x0_1, x0_2, x0_3, x0_4, rfl, h⟩ := d5_elim h
    obtain ⟨a1, rfl, h⟩ := dI_elim h
    obtain ⟨a2, rfl, h⟩ := dI_elim h
    obtain ⟨a3, rfl, h⟩ := dI_elim h
    obtain ⟨a4, rfl, h⟩ := dI_elim h
    obtain ⟨a5, rfl, h⟩ := dI_elim h
    obtain ⟨a6, rfl, h⟩ := dI_elim h
    obtain ⟨l2, hl2, h⟩ := dC_elim h
    obtain ⟨x2_0, x2_1, x2_2, x2_3, x2_4, x2_5, x2_6, x2_7, rfl, h⟩ := d8_elim h
    obtain ⟨a7, rfl, h⟩ := dI_elim h
    obtain ⟨a8, rfl, h⟩ := dI_elim h
    obtain ⟨a9, rfl, h⟩ := dI_elim h
    obtain ⟨a10, rfl, h⟩ := dI_elim h
    obtain ⟨a11, rfl, h⟩ := dI_elim h
    obtain ⟨a12, rfl, h⟩ := dI_elim h
    obtain ⟨a13, rfl, h⟩ := dI_elim h
    obtain ⟨a14, rfl, h⟩ := dI_elim h
    obtain ⟨a15, rfl, h⟩ := dI_elim h
    exact TabSem.congr (valL_cons (asCells_val hl1) (valL_cons rfl (valL_cons (asCells_val hl2) (valL_cons rfl rfl)))) (Ent.sem okJ0 Try.func13 ⟨by kernel_rfl, by kernel_rfl⟩ rfl (t13 h))
  · obtain ⟨x0, x1, rfl, h⟩ := d2_elim h
    obtain ⟨l1, hl1, h⟩ := dC_elim h
    obtain ⟨x0_0, x0_1, x0_2, x0_3, x0_4, x0_5, x0_6, x0_7, rfl, h⟩ := d8_elim h
    obtain ⟨a1, rfl, h⟩ := dI_elim h
    obtain ⟨a2, rfl, h⟩ := dI_elim h
    obtain ⟨a3, rfl, h⟩ := dI_elim h
    obtain ⟨a4, rfl, h⟩ := dI_elim h
    obtain ⟨a5, rfl, h⟩ := dI_elim h
    obtain ⟨a6, rfl, h⟩ := dI_elim h
    obtain ⟨a7, rfl, h⟩ := dI_elim h
    obtain ⟨a8, rfl, h⟩ := dI_elim h
    obtain ⟨l2, hl2, h⟩ := dC_elim h
    obtain ⟨x1_0, x1_1, rfl, h⟩ := d2_elim h
    obtain ⟨a9, rfl, h⟩ := dI_elim h
    obtain ⟨a10, rfl, h⟩ := dI_elim h
    exact TabSem.congr (valL_cons (asCells_val hl1) (valL_cons (asCells_val hl2) rfl)) (Ent.sem okJ0 Try.func15 ⟨by kernel_rfl, by kernel_rfl⟩ rfl (t15 h))
  · obtain ⟨x0, x1, rfl, h⟩ := d2_elim h
    obtain ⟨l1, hl1, h⟩ := dC_elim h
    obtain ⟨x0_0, x0_1, x0_2, x0_3, x0_4, x0_5, x0_6, x0_7, rfl, h⟩ := d8_elim h
    obtain ⟨a1, rfl, h⟩ := dI_elim h
    obtain ⟨a2, rfl, h⟩ := dI_elim h
    obtain ⟨a3, rfl, h⟩ := dI_elim h
    obtain ⟨a4, rfl, h⟩ := dI_elim h
    obtain ⟨a5, rfl, h⟩ := dI_elim h
    obtain ⟨a6, rfl, h⟩ := dI_elim h
    obtain ⟨a7, rfl, h⟩ := dI_elim h
    obtain ⟨a8, rfl, h⟩ := dI_elim h
    obtain ⟨l2, hl2, h⟩ := dC_elim h
    obtain ⟨x1_0, x1_1, rfl, h⟩ := d2_elim h
    obtain ⟨a9, rfl, h⟩ := dI_elim h
    obtain ⟨a10, rfl, h⟩ := dI_elim h
    exact TabSem.congr (valL_cons (asCells_val hl1) (valL_cons (asCells_val hl2) rfl)) (Ent.sem okJ0 Try.func16 ⟨by kernel_rfl, by kernel_rfl⟩ rfl (t16 h))
  · obtain ⟨x0, x1, rfl, h⟩ := d2_elim h
    obtain ⟨l1, hl1, h⟩ := dC_elim h
    obtain ⟨x0_0, x0_1, x0_2, x0_3, x0_4, rfl, h⟩ := d5_elim h
    obtain ⟨a1, rfl, h⟩ := dI_elim h
    obtain ⟨a2, rfl, h⟩ := dI_elim h
    obtain ⟨a3, rfl, h⟩ := dI_elim h
    obtain ⟨a4, rfl, h⟩ := dI_elim h
    obtain ⟨a5, rfl, h⟩ := dI_elim h
    obtain ⟨a6, rfl, h⟩ := dI_elim h
    exact TabSem.congr (valL_cons (asCells_val hl1) (valL_cons rfl rfl)) (Ent.sem okJ0 Try.func17 ⟨by kernel_rfl, by kernel_rfl⟩ rfl (t17 h))
  · obtain ⟨x0, x1, rfl, h⟩ := d2_elim h
    obtain ⟨l1, hl1, h⟩ := dC_elim h
    obtain ⟨x0_0, x0_1, x0_2, x0_3, x0_4, rfl, h⟩ := d5_elim h
    obtain ⟨a1, rfl, h⟩ := dI_elim h
    obtain ⟨a2, rfl, h⟩ := dI_elim h
    obtain ⟨a3, rfl, h⟩ := dI_elim h
    obtain ⟨a4, rfl, h⟩ := dI_elim h
    obtain ⟨a5, rfl, h⟩ := dI_elim h
    obtain ⟨a6, rfl, h⟩ := dI_elim h
    exact TabSem.congr (valL_cons (asCells_val hl1) (valL_cons rfl rfl)) (Ent.sem okJ0 Try.func18 ⟨by kernel_rfl, by kernel_rfl⟩ rfl (t18 h))
  · exact h.elim
noncomputable def JQ : Cx := { P := Try.prog, inl := fun f => List.contains [19, 20, 21, 24] f, tab := tabQ, isB := fun _ => false, tabB := fun _ _ _ _ _ => False, opt := { unroll := 0, carry := [] }, muts := mutsD }
theorem okJQ : CxOK JQ := CxOK.four (tabQ_ok) (by kernel_rfl) (okInl (by kernel_rfl)) (fun _ _ _ _ _ h => h.elim)

theorem t10  (h : K (B true) E) :
    Ent JQ 8 Try.f10 [] E K := by
  refine same (by kernel_rfl) (?_ : 
      Mem.le E E ∧
        Mem.le E E ∧
          Mem.le E E ∧
            Mem.le E E ∧
              Mem.le E E ∧
                Mem.le E E ∧ Mem.le E E ∧ Mem.le E E ∧ Mem.le E E ∧ Mem.le E E ∧ Mem.le E E ∧ K (SV.raw (Value.bool true)) E)
  simp only [Mem.le_refl, true_and]
  exact h

noncomputable def tabR : FuncId → List SV → Mem → (SV → Mem → Prop) → Prop := fun f args E K => match f with
  | 11 => d5 args fun x0 x1 x2 x3 x4 => dC x0 fun l1 => d5 l1 fun x0_0 x0_1 x0_2 x0_3 x0_4 => dI x0_0 fun a1 => dI x0_1 fun a2 => dI x0_2 fun a3 => dI x0_3 fun a4 => dI x0_4 fun a5 => dI x1 fun a6 => dI x2 fun a7 => dI x3 fun a8 => dI x4 fun a9 => (K (.tup [eJ (ask ⟨a1, a2, a3, a4, a5⟩ a6 a7 a8 a9).1, eW (ask ⟨a1, a2, a3, a4, a5⟩ a6 a7 a8 a9).2.1, I (ask ⟨a1, a2, a3, a4, a5⟩ a6 a7 a8 a9).2.2]) E)
  | 12 => d5 args fun x0 x1 x2 x3 x4 => dC x0 fun l1 => d5 l1 fun x0_0 x0_1 x0_2 x0_3 x0_4 => dI x0_0 fun a1 => dI x0_1 fun a2 => dI x0_2 fun a3 => dI x0_3 fun a4 => dI x0_4 fun a5 => dI x1 fun a6 => dI x2 fun a7 => dI x3 fun a8 => dI x4 fun a9 => (K (.tup [eJ (ask ⟨a1, a2, a3, a4, a5⟩ a6 a7 a8 a9).1, eW (ask ⟨a1, a2, a3, a4, a5⟩ a6 a7 a8 a9).2.1, I (ask ⟨a1, a2, a3, a4, a5⟩ a6 a7 a8 a9).2.2]) E)
  | 13 => d4 args fun x0 x1 x2 x3 => dC x0 fun l1 => d5 l1 fun x0_0 x0_1 x0_2 x0_3 x0_4 => dI x0_0 fun a1 => dI x0_1 fun a2 => dI x0_2 fun a3 => dI x0_3 fun a4 => dI x0_4 fun a5 => dI x1 fun a6 => dC x2 fun l2 => d8 l2 fun x2_0 x2_1 x2_2 x2_3 x2_4 x2_5 x2_6 x2_7 => dI x2_0 fun a7 => dI x2_1 fun a8 => dI x2_2 fun a9 => dI x2_3 fun a10 => dI x2_4 fun a11 => dI x2_5 fun a12 => dI x2_6 fun a13 => dI x2_7 fun a14 => dI x3 fun a15 => (K (.tup [eJ (hear ⟨a1, a2, a3, a4, a5⟩ a6 ⟨a7, a8, a9, a10, a11, a12, a13, a14⟩ a15).1, eW (hear ⟨a1, a2, a3, a4, a5⟩ a6 ⟨a7, a8, a9, a10, a11, a12, a13, a14⟩ a15).2.1, B (hear ⟨a1, a2, a3, a4, a5⟩ a6 ⟨a7, a8, a9, a10, a11, a12, a13, a14⟩ a15).2.2]) E)
  | 15 => d2 args fun x0 x1 => dC x0 fun l1 => d8 l1 fun x0_0 x0_1 x0_2 x0_3 x0_4 x0_5 x0_6 x0_7 => dI x0_0 fun a1 => dI x0_1 fun a2 => dI x0_2 fun a3 => dI x0_3 fun a4 => dI x0_4 fun a5 => dI x0_5 fun a6 => dI x0_6 fun a7 => dI x0_7 fun a8 => dC x1 fun l2 => d2 l2 fun x1_0 x1_1 => dI x1_0 fun a9 => dI x1_1 fun a10 => (K (.tup [eW (judge ⟨a1, a2, a3, a4, a5, a6, a7, a8⟩ a9 a10).1, I (judge ⟨a1, a2, a3, a4, a5, a6, a7, a8⟩ a9 a10).2]) E)
  | 16 => d2 args fun x0 x1 => dC x0 fun l1 => d8 l1 fun x0_0 x0_1 x0_2 x0_3 x0_4 x0_5 x0_6 x0_7 => dI x0_0 fun a1 => dI x0_1 fun a2 => dI x0_2 fun a3 => dI x0_3 fun a4 => dI x0_4 fun a5 => dI x0_5 fun a6 => dI x0_6 fun a7 => dI x0_7 fun a8 => dC x1 fun l2 => d2 l2 fun x1_0 x1_1 => dI x1_0 fun a9 => dI x1_1 fun a10 => (K (.tup [eW (judge ⟨a1, a2, a3, a4, a5, a6, a7, a8⟩ a9 a10).1, I (judge ⟨a1, a2, a3, a4, a5, a6, a7, a8⟩ a9 a10).2]) E)
  | 17 => d2 args fun x0 x1 => dC x0 fun l1 => d5 l1 fun x0_0 x0_1 x0_2 x0_3 x0_4 => dI x0_0 fun a1 => dI x0_1 fun a2 => dI x0_2 fun a3 => dI x0_3 fun a4 => dI x0_4 fun a5 => dI x1 fun a6 => (K (eJ (late ⟨a1, a2, a3, a4, a5⟩ a6)) E)
  | 18 => d2 args fun x0 x1 => dC x0 fun l1 => d5 l1 fun x0_0 x0_1 x0_2 x0_3 x0_4 => dI x0_0 fun a1 => dI x0_1 fun a2 => dI x0_2 fun a3 => dI x0_3 fun a4 => dI x0_4 fun a5 => dI x1 fun a6 => (K (eJ (late ⟨a1, a2, a3, a4, a5⟩ a6)) E)
  | 10 => d0 args ((K (B true) E))
  | _ => False
theorem tabR_ok : TabOK Try.prog tabR := by
  intro f args E K h
  unfold tabR at h
  split at h
  · obtain ⟨x0, x1, x2, x3, x4, rfl, h⟩ := d5_elim h
    obtain ⟨l1, hl1, h⟩ := dC_elim h
    obtain ⟨x0_0, x0_1, x0_2, x0_3, x0_4, rfl, h⟩ := d5_elim h
    obtain ⟨a1, rfl, h⟩ := dI_elim h
    obtain ⟨a2, rfl, h⟩ := dI_elim h
    obtain ⟨a3, rfl, h⟩ := dI_elim h
    obtain ⟨a4, rfl, h⟩ := dI_elim h
    obtain ⟨a5, rfl, h⟩ := dI_elim h
    obtain ⟨a6, rfl, h⟩ := dI_elim h
    obtain ⟨a7, rfl, h⟩ := dI_elim h
    obtain ⟨a8, rfl, h⟩ := dI_elim h
    obtain ⟨a9, rfl, h⟩ := dI_elim h
    exact TabSem.congr (valL_cons (asCells_val hl1) (valL_cons rfl (valL_cons rfl (valL_cons rfl (valL_cons rfl rfl))))) (Ent.sem okJ0 Try.func11 ⟨by kernel_rfl, by kernel_rfl⟩ rfl (t11 h))
  · obtain ⟨x0, x1, x2, x3, x4, rfl, h⟩ := d5_elim h
    obtain ⟨l1, hl1, h⟩ := dC_elim h
    obtain ⟨x0_0, x0_1, x0_2, x0_3, x0_4, rfl, h⟩ := d5_elim h
    obtain ⟨a1, rfl, h⟩ := dI_elim h
    obtain ⟨a2, rfl, h⟩ := dI_elim h
    obtain ⟨a3, rfl, h⟩ := dI_elim h
    obtain ⟨a4, rfl, h⟩ := dI_elim h
    obtain ⟨a5, rfl, h⟩ := dI_elim h
    obtain ⟨a6, rfl, h⟩ := dI_elim h
    obtain ⟨a7, rfl, h⟩ := dI_elim h
    obtain ⟨a8, rfl, h⟩ := dI_elim h
    obtain ⟨a9, rfl, h⟩ := dI_elim h
    exact TabSem.congr (valL_cons (asCells_val hl1) (valL_cons rfl (valL_cons rfl (valL_cons rfl (valL_cons rfl rfl))))) (Ent.sem okJ0 Try.func12 ⟨by kernel_rfl, by kernel_rfl⟩ rfl (t12 h))
  · obtain ⟨x0, x1, x2, x3, rfl, h⟩ := d4_elim h
    obtain ⟨l1, hl1, h⟩ := dC_elim h
    obtain ⟨x0_0, x0_1, x0_2, x0_3, x0_4, rfl, h⟩ := d5_elim h
    obtain ⟨a1, rfl, h⟩ := dI_elim h
    obtain ⟨a2, rfl, h⟩ := dI_elim h
    obtain ⟨a3, rfl, h⟩ := dI_elim h
    obtain ⟨a4, rfl, h⟩ := dI_elim h
    obtain ⟨a5, rfl, h⟩ := dI_elim h
    obtain ⟨a6, rfl, h⟩ := dI_elim h
    obtain ⟨l2, hl2, h⟩ := dC_elim h
    obtain ⟨x2_0, x2_1, x2_2, x2_3, x2_4, x2_5, x2_6, x2_7, rfl, h⟩ := d8_elim h
    obtain ⟨a7, rfl, h⟩ := dI_elim h
    obtain ⟨a8, rfl, h⟩ := dI_elim h
    obtain ⟨a9, rfl, h⟩ := dI_elim h
    obtain ⟨a10, rfl, h⟩ := dI_elim h
    obtain ⟨a11, rfl, h⟩ := dI_elim h
    obtain ⟨a12, rfl, h⟩ := dI_elim h
    obtain ⟨a13, rfl, h⟩ := dI_elim h
    obtain ⟨a14, rfl, h⟩ := dI_elim h
    obtain ⟨a15, rfl, h⟩ := dI_elim h
    exact TabSem.congr (valL_cons (asCells_val hl1) (valL_cons rfl (valL_cons (asCells_val hl2) (valL_cons rfl rfl)))) (Ent.sem okJ0 Try.func13 ⟨by kernel_rfl, by kernel_rfl⟩ rfl (t13 h))
  · obtain ⟨x0, x1, rfl, h⟩ := d2_elim h
    obtain ⟨l1, hl1, h⟩ := dC_elim h
    obtain ⟨x0_0, x0_1, x0_2, x0_3, x0_4, x0_5, x0_6, x0_7, rfl, h⟩ := d8_elim h
    obtain ⟨a1, rfl, h⟩ := dI_elim h
    obtain ⟨a2, rfl, h⟩ := dI_elim h
    obtain ⟨a3, rfl, h⟩ := dI_elim h
    obtain ⟨a4, rfl, h⟩ := dI_elim h
    obtain ⟨a5, rfl, h⟩ := dI_elim h
    obtain ⟨a6, rfl, h⟩ := dI_elim h
    obtain ⟨a7, rfl, h⟩ := dI_elim h
    obtain ⟨a8, rfl, h⟩ := dI_elim h
    obtain ⟨l2, hl2, h⟩ := dC_elim h
    obtain ⟨x1_0, x1_1, rfl, h⟩ := d2_elim h
    obtain ⟨a9, rfl, h⟩ := dI_elim h
    obtain ⟨a10, rfl, h⟩ := dI_elim h
    exact TabSem.congr (valL_cons (asCells_val hl1) (valL_cons (asCells_val hl2) rfl)) (Ent.sem okJ0 Try.func15 ⟨by kernel_rfl, by kernel_rfl⟩ rfl (t15 h))
  · obtain ⟨x0, x1, rfl, h⟩ := d2_elim h
    obtain ⟨l1, hl1, h⟩ := dC_elim h
    obtain ⟨x0_0, x0_1, x0_2, x0_3, x0_4, x0_5, x0_6, x0_7, rfl, h⟩ := d8_elim h
    obtain ⟨a1, rfl, h⟩ := dI_elim h
    obtain ⟨a2, rfl, h⟩ := dI_elim h
    obtain ⟨a3, rfl, h⟩ := dI_elim h
    obtain ⟨a4, rfl, h⟩ := dI_elim h
    obtain ⟨a5, rfl, h⟩ := dI_elim h
    obtain ⟨a6, rfl, h⟩ := dI_elim h
    obtain ⟨a7, rfl, h⟩ := dI_elim h
    obtain ⟨a8, rfl, h⟩ := dI_elim h
    obtain ⟨l2, hl2, h⟩ := dC_elim h
    obtain ⟨x1_0, x1_1, rfl, h⟩ := d2_elim h
    obtain ⟨a9, rfl, h⟩ := dI_elim h
    obtain ⟨a10, rfl, h⟩ := dI_elim h
    exact TabSem.congr (valL_cons (asCells_val hl1) (valL_cons (asCells_val hl2) rfl)) (Ent.sem okJ0 Try.func16 ⟨by kernel_rfl, by kernel_rfl⟩ rfl (t16 h))
  · obtain ⟨x0, x1, rfl, h⟩ := d2_elim h
    obtain ⟨l1, hl1, h⟩ := dC_elim h
    obtain ⟨x0_0, x0_1, x0_2, x0_3, x0_4, rfl, h⟩ := d5_elim h
    obtain ⟨a1, rfl, h⟩ := dI_elim h
    obtain ⟨a2, rfl, h⟩ := dI_elim h
    obtain ⟨a3, rfl, h⟩ := dI_elim h
    obtain ⟨a4, rfl, h⟩ := dI_elim h
    obtain ⟨a5, rfl, h⟩ := dI_elim h
    obtain ⟨a6, rfl, h⟩ := dI_elim h
    exact TabSem.congr (valL_cons (asCells_val hl1) (valL_cons rfl rfl)) (Ent.sem okJ0 Try.func17 ⟨by kernel_rfl, by kernel_rfl⟩ rfl (t17 h))
  · obtain ⟨x0, x1, rfl, h⟩ := d2_elim h
    obtain ⟨l1, hl1, h⟩ := dC_elim h
    obtain ⟨x0_0, x0_1, x0_2, x0_3, x0_4, rfl, h⟩ := d5_elim h
    obtain ⟨a1, rfl, h⟩ := dI_elim h
    obtain ⟨a2, rfl, h⟩ := dI_elim h
    obtain ⟨a3, rfl, h⟩ := dI_elim h
    obtain ⟨a4, rfl, h⟩ := dI_elim h
    obtain ⟨a5, rfl, h⟩ := dI_elim h
    obtain ⟨a6, rfl, h⟩ := dI_elim h
    exact TabSem.congr (valL_cons (asCells_val hl1) (valL_cons rfl rfl)) (Ent.sem okJ0 Try.func18 ⟨by kernel_rfl, by kernel_rfl⟩ rfl (t18 h))
  · obtain ⟨rfl, h⟩ := d0_elim h
    exact TabSem.congr rfl (Ent.sem okJQ Try.func10 ⟨by kernel_rfl, by kernel_rfl⟩ rfl (t10 h))
  · exact h.elim
noncomputable def JR : Cx := { P := Try.prog, inl := fun f => List.contains [19, 20, 21, 24] f, tab := tabR, isB := fun _ => false, tabB := fun _ _ _ _ _ => False, opt := { unroll := 0, carry := [] }, muts := mutsD }
theorem okJR : CxOK JR := CxOK.four (tabR_ok) (by kernel_rfl) (okInl (by kernel_rfl)) (fun _ _ _ _ _ h => h.elim)

end Go.Proofs.Ythbfpaemiccjcaa.JoinOwn
