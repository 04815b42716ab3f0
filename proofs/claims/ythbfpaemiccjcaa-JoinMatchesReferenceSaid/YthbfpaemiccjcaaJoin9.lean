/- The join package: what its functions answer. -/
import Derived.Test.YthbfpaemiccjcaaJoin8
namespace Go.Proofs.Ythbfpaemiccjcaa.JoinOwn
open Go Go.Sx
set_option maxRecDepth 100000
set_option maxHeartbeats 4000000
set_option linter.unusedVariables false
set_option linter.unusedSimpArgs false
variable {E : Mem} {K : SV → Mem → Prop}

theorem v11 {a1 : Int} {a2 : Int} {a3 : Int} {a4 : Int} {a5 : Int} {a6 : Int} {a7 : Int} {a8 : Int} {a9 : Int} (h : ∀ (p' : Int) (s' : Int) (n' : Int) (t' : Int) (r' : Int) (k : Int) (x : Int) (y : Int) (m : Int) (c : Int) (q : Int) (f : Int) (g : Int) (e : Int), Hyp (ask ⟨a1, a2, a3, a4, a5⟩ a6 a7 a8 a9 = (⟨p', s', n', t', r'⟩, ⟨k, x, y, m, c, q, f, g⟩, e)) → K (.tup [.agg [I p', I s', I n', I t', I r'], .agg [I k, I x, I y, I m, I c, I q, I f, I g], I e]) E) :
    Ent J0 6 Try.f11 [.agg [I a1, I a2, I a3, I a4, I a5], I a6, I a7, I a8, I a9] E K := by
  exact t11 (h _ _ _ _ _ _ _ _ _ _ _ _ _ _ rfl)

theorem v12 {a1 : Int} {a2 : Int} {a3 : Int} {a4 : Int} {a5 : Int} {a6 : Int} {a7 : Int} {a8 : Int} {a9 : Int} (h : ∀ (p' : Int) (s' : Int) (n' : Int) (t' : Int) (r' : Int) (k : Int) (x : Int) (y : Int) (m : Int) (c : Int) (q : Int) (f : Int) (g : Int) (e : Int), Hyp (ask ⟨a1, a2, a3, a4, a5⟩ a6 a7 a8 a9 = (⟨p', s', n', t', r'⟩, ⟨k, x, y, m, c, q, f, g⟩, e)) → K (.tup [.agg [I p', I s', I n', I t', I r'], .agg [I k, I x, I y, I m, I c, I q, I f, I g], I e]) E) :
    Ent J0 6 Try.f12 [.agg [I a1, I a2, I a3, I a4, I a5], I a6, I a7, I a8, I a9] E K := by
  exact t12 (h _ _ _ _ _ _ _ _ _ _ _ _ _ _ rfl)

theorem v13 {a1 : Int} {a2 : Int} {a3 : Int} {a4 : Int} {a5 : Int} {a6 : Int} {a7 : Int} {a8 : Int} {a9 : Int} {a10 : Int} {a11 : Int} {a12 : Int} {a13 : Int} {a14 : Int} {a15 : Int} (h : ∀ (p' : Int) (s' : Int) (n' : Int) (t' : Int) (r' : Int) (k : Int) (x : Int) (y : Int) (m : Int) (c : Int) (q : Int) (f : Int) (g : Int) (v : Bool), Hyp (hear ⟨a1, a2, a3, a4, a5⟩ a6 ⟨a7, a8, a9, a10, a11, a12, a13, a14⟩ a15 = (⟨p', s', n', t', r'⟩, ⟨k, x, y, m, c, q, f, g⟩, v)) → K (.tup [.agg [I p', I s', I n', I t', I r'], .agg [I k, I x, I y, I m, I c, I q, I f, I g], B v]) E) :
    Ent J0 6 Try.f13 [.agg [I a1, I a2, I a3, I a4, I a5], I a6, .agg [I a7, I a8, I a9, I a10, I a11, I a12, I a13, I a14], I a15] E K := by
  exact t13 (h _ _ _ _ _ _ _ _ _ _ _ _ _ _ rfl)

theorem v15 {a1 : Int} {a2 : Int} {a3 : Int} {a4 : Int} {a5 : Int} {a6 : Int} {a7 : Int} {a8 : Int} {a9 : Int} {a10 : Int} (h : ∀ (k : Int) (x : Int) (y : Int) (m : Int) (c : Int) (q : Int) (f : Int) (g : Int) (e : Int), Hyp (judge ⟨a1, a2, a3, a4, a5, a6, a7, a8⟩ a9 a10 = (⟨k, x, y, m, c, q, f, g⟩, e)) → K (.tup [.agg [I k, I x, I y, I m, I c, I q, I f, I g], I e]) E) :
    Ent J0 6 Try.f15 [.agg [I a1, I a2, I a3, I a4, I a5, I a6, I a7, I a8], .agg [I a9, I a10]] E K := by
  exact t15 (h _ _ _ _ _ _ _ _ _ rfl)

theorem v16 {a1 : Int} {a2 : Int} {a3 : Int} {a4 : Int} {a5 : Int} {a6 : Int} {a7 : Int} {a8 : Int} {a9 : Int} {a10 : Int} (h : ∀ (k : Int) (x : Int) (y : Int) (m : Int) (c : Int) (q : Int) (f : Int) (g : Int) (e : Int), Hyp (judge ⟨a1, a2, a3, a4, a5, a6, a7, a8⟩ a9 a10 = (⟨k, x, y, m, c, q, f, g⟩, e)) → K (.tup [.agg [I k, I x, I y, I m, I c, I q, I f, I g], I e]) E) :
    Ent J0 6 Try.f16 [.agg [I a1, I a2, I a3, I a4, I a5, I a6, I a7, I a8], .agg [I a9, I a10]] E K := by
  exact t16 (h _ _ _ _ _ _ _ _ _ rfl)

theorem v17 {a1 : Int} {a2 : Int} {a3 : Int} {a4 : Int} {a5 : Int} {a6 : Int} (h : ∀ (p' : Int) (s' : Int) (n' : Int) (t' : Int) (r' : Int), Hyp (late ⟨a1, a2, a3, a4, a5⟩ a6 = ⟨p', s', n', t', r'⟩) → K (.agg [I p', I s', I n', I t', I r']) E) :
    Ent J0 6 Try.f17 [.agg [I a1, I a2, I a3, I a4, I a5], I a6] E K := by
  exact t17 (h _ _ _ _ _ rfl)

theorem v18 {a1 : Int} {a2 : Int} {a3 : Int} {a4 : Int} {a5 : Int} {a6 : Int} (h : ∀ (p' : Int) (s' : Int) (n' : Int) (t' : Int) (r' : Int), Hyp (late ⟨a1, a2, a3, a4, a5⟩ a6 = ⟨p', s', n', t', r'⟩) → K (.agg [I p', I s', I n', I t', I r']) E) :
    Ent J0 6 Try.f18 [.agg [I a1, I a2, I a3, I a4, I a5], I a6] E K := by
  exact t18 (h _ _ _ _ _ rfl)

noncomputable def tabV : FuncId → List SV → Mem → (SV → Mem → Prop) → Prop := fun f args E K => match f with
  | 11 => d5 args fun x0 x1 x2 x3 x4 => dC x0 fun l1 => d5 l1 fun x0_0 x0_1 x0_2 x0_3 x0_4 => dI x0_0 fun a1 => dI x0_1 fun a2 => dI x0_2 fun a3 => dI x0_3 fun a4 => dI x0_4 fun a5 => dI x1 fun a6 => dI x2 fun a7 => dI x3 fun a8 => dI x4 fun a9 => (∀ (p' : Int) (s' : Int) (n' : Int) (t' : Int) (r' : Int) (k : Int) (x : Int) (y : Int) (m : Int) (c : Int) (q : Int) (f : Int) (g : Int) (e : Int), Hyp (ask ⟨a1, a2, a3, a4, a5⟩ a6 a7 a8 a9 = (⟨p', s', n', t', r'⟩, ⟨k, x, y, m, c, q, f, g⟩, e)) → K (.tup [.agg [I p', I s', I n', I t', I r'], .agg [I k, I x, I y, I m, I c, I q, I f, I g], I e]) E)
  | 12 => d5 args fun x0 x1 x2 x3 x4 => dC x0 fun l1 => d5 l1 fun x0_0 x0_1 x0_2 x0_3 x0_4 => dI x0_0 fun a1 => dI x0_1 fun a2 => dI x0_2 fun a3 => dI x0_3 fun a4 => dI x0_4 fun a5 => dI x1 fun a6 => dI x2 fun a7 => dI x3 fun a8 => dI x4 fun a9 => (∀ (p' : Int) (s' : Int) (n' : Int) (t' : Int) (r' : Int) (k : Int) (x : Int) (y : Int) (m : Int) (c : Int) (q : Int) (f : Int) (g : Int) (e : Int), Hyp (ask ⟨a1, a2, a3, a4, a5⟩ a6 a7 a8 a9 = (⟨p', s', n', t', r'⟩, ⟨k, x, y, m, c, q, f, g⟩, e)) → K (.tup [.agg [I p', I s', I n', I t', I r'], .agg [I k, I x, I y, I m, I c, I q, I f, I g], I e]) E)
  | 13 => d4 args fun x0 x1 x2 x3 => dC x0 fun l1 => d5 l1 fun x0_0 x0_1 x0_2 x0_3 x0_4 => dI x0_0 fun a1 => dI x0_1 fun a2 => dI x0_2 fun a3 => dI x0_3 fun a4 => dI x0_4 fun a5 => dI x1 fun a6 => dC x2 fun l2 => d8 l2 fun x2_0 x2_1 x2_2 x2_3 x2_4 x2_5 x2_6 x2_7 => dI x2_0 fun a7 => dI x2_1 fun a8 => dI x2_2 fun a9 => dI x2_3 fun a10 => dI x2_4 fun a11 => dI x2_5 fun a12 => dI x2_6 fun a13 => dI x2_7 fun a14 => dI x3 fun a15 => (∀ (p' : Int) (s' : Int) (n' : Int) (t' : Int) (r' : Int) (k : Int) (x : Int) (y : Int) (m : Int) (c : Int) (q : Int) (f : Int) (g : Int) (v : Bool), Hyp (hear ⟨a1, a2, a3, a4, a5⟩ a6 ⟨a7, a8, a9, a10, a11, a12, a13, a14⟩ a15 = (⟨p', s', n', t', r'⟩, ⟨k, x, y, m, c, q, f, g⟩, v)) → K (.tup [.agg [I p', I s', I n', I t', I r'], .agg [I k, I x, I y, I m, I c, I q, I f, I g], B v]) E)
  | 15 => d2 args fun x0 x1 => dC x0 fun l1 => d8 l1 fun x0_0 x0_1 x0_2 x0_3 x0_4 x0_5 x0_6 x0_7 => dI x0_0 fun a1 => dI x0_1 fun a2 => dI x0_2 fun a3 => dI x0_3 fun a4 => dI x0_4 fun a5 => dI x0_5 fun a6 => dI x0_6 fun a7 => dI x0_7 fun a8 => dC x1 fun l2 => d2 l2 fun x1_0 x1_1 => dI x1_0 fun a9 => dI x1_1 fun a10 => (∀ (k : Int) (x : Int) (y : Int) (m : Int) (c : Int) (q : Int) (f : Int) (g : Int) (e : Int), Hyp (judge ⟨a1, a2, a3, a4, a5, a6, a7, a8⟩ a9 a10 = (⟨k, x, y, m, c, q, f, g⟩, e)) → K (.tup [.agg [I k, I x, I y, I m, I c, I q, I f, I g], I e]) E)
  | 16 => d2 args fun x0 x1 => dC x0 fun l1 => d8 l1 fun x0_0 x0_1 x0_2 x0_3 x0_4 x0_5 x0_6 x0_7 => dI x0_0 fun a1 => dI x0_1 fun a2 => dI x0_2 fun a3 => dI x0_3 fun a4 => dI x0_4 fun a5 => dI x0_5 fun a6 => dI x0_6 fun a7 => dI x0_7 fun a8 => dC x1 fun l2 => d2 l2 fun x1_0 x1_1 => dI x1_0 fun a9 => dI x1_1 fun a10 => (∀ (k : Int) (x : Int) (y : Int) (m : Int) (c : Int) (q : Int) (f : Int) (g : Int) (e : Int), Hyp (judge ⟨a1, a2, a3, a4, a5, a6, a7, a8⟩ a9 a10 = (⟨k, x, y, m, c, q, f, g⟩, e)) → K (.tup [.agg [I k, I x, I y, I m, I c, I q, I f, I g], I e]) E)
  | 17 => d2 args fun x0 x1 => dC x0 fun l1 => d5 l1 fun x0_0 x0_1 x0_2 x0_3 x0_4 => dI x0_0 fun a1 => dI x0_1 fun a2 => dI x0_2 fun a3 => dI x0_3 fun a4 => dI x0_4 fun a5 => dI x1 fun a6 => (∀ (p' : Int) (s' : Int) (n' : Int) (t' : Int) (r' : Int), Hyp (late ⟨a1, a2, a3, a4, a5⟩ a6 = ⟨p', s', n', t', r'⟩) → K (.agg [I p', I s', I n', I t', I r']) E)
  | 18 => d2 args fun x0 x1 => dC x0 fun l1 => d5 l1 fun x0_0 x0_1 x0_2 x0_3 x0_4 => dI x0_0 fun a1 => dI x0_1 fun a2 => dI x0_2 fun a3 => dI x0_3 fun a4 => dI x0_4 fun a5 => dI x1 fun a6 => (∀ (p' : Int) (s' : Int) (n' : Int) (t' : Int) (r' : Int), Hyp (late ⟨a1, a2, a3, a4, a5⟩ a6 = ⟨p', s', n', t', r'⟩) → K (.agg [I p', I s', I n', I t', I r']) E)
  | 10 => d0 args ((K (B true) E))
  | _ => False
theorem tabV_ok : TabOK Try.prog tabV := by
  intro f args E K h
  unfold tabV at h
  split at h
  · obtain ⟨x0, x1, x2, x3, x4, rfl, h⟩ := d5_elim h
    obtain ⟨l1, hl1, h⟩ := dC_elim h
    obtain ⟨x0_0, x0_1, x0_2, x0_3, x0_4, rfl, h⟩ := d5_elim h
    obtain ⟨a1, rfl, h⟩ := dI_elim h
    obtain ⟨a2, rfl, h⟩ := dI_elim h
    obtain ⟨a3, rfl, h⟩ := dI_elim h
    obtain ⟨a4, rfl, h⟩ := dI_elim h
    obtain ⟨a5, rfl, h⟩ := dI_elim h
    obtain ⟨a6, rfl, h⟩ := dI_elim h
    obtain ⟨a7, rfl, h⟩ := dI_elim h
    obtain ⟨a8, rfl, h⟩ := dI_elim h
    obtain ⟨a9, rfl, h⟩ := dI_elim h
    exact TabSem.congr (valL_cons (asCells_val hl1) (valL_cons rfl (valL_cons rfl (valL_cons rfl (valL_cons rfl rfl))))) (Ent.sem okJ0 Try.func11 ⟨by kernel_rfl, by kernel_rfl⟩ rfl (v11 h))
  · obtain ⟨x0, x1, x2, x3, x4, rfl, h⟩ := d5_elim h
    obtain ⟨l1, hl1, h⟩ := dC_elim h
    obtain ⟨x0_0, x0_1, x0_2, x0_3, x0_4, rfl, h⟩ := d5_elim h
    obtain ⟨a1, rfl, h⟩ := dI_elim h
    obtain ⟨a2, rfl, h⟩ := dI_elim h
    obtain ⟨a3, rfl, h⟩ := dI_elim h
    obtain ⟨a4, rfl, h⟩ := dI_elim h
    obtain ⟨a5, rfl, h⟩ := dI_elim h
    obtain ⟨a6, rfl, h⟩ := dI_elim h
    obtain ⟨a7, rfl, h⟩ := dI_elim h
    obtain ⟨a8, rfl, h⟩ := dI_elim h
    obtain ⟨a9, rfl, h⟩ := dI_elim h
    exact TabSem.congr (valL_cons (asCells_val hl1) (valL_cons rfl (valL_cons rfl (valL_cons rfl (valL_cons rfl rfl))))) (Ent.sem okJ0 Try.func12 ⟨by kernel_rfl, by kernel_rfl⟩ rfl (v12 h))
  · obtain ⟨x0, x1, x2, x3, rfl, h⟩ := d4_elim h
    obtain ⟨l1, hl1, h⟩ := dC_elim h
    obtain ⟨x0_0, x0_1, x0_2, x0_3, x0_4, rfl, h⟩ := d5_elim h
    obtain ⟨a1, rfl, h⟩ := dI_elim h
    obtain ⟨a2, rfl, h⟩ := dI_elim h
    obtain ⟨a3, rfl, h⟩ := dI_elim h
    obtain ⟨a4, rfl, h⟩ := dI_elim h
    obtain ⟨a5, rfl, h⟩ := dI_elim h
    obtain ⟨a6, rfl, h⟩ := dI_elim h
    obtain ⟨l2, hl2, h⟩ := dC_elim h
    obtain ⟨x2_0, x2_1, x2_2, x2_3, x2_4, x2_5, x2_6, x2_7, rfl, h⟩ := d8_elim h
    obtain ⟨a7, rfl, h⟩ := dI_elim h
    obtain ⟨a8, rfl, h⟩ := dI_elim h
    obtain ⟨a9, rfl, h⟩ := dI_elim h
    obtain ⟨a10, rfl, h⟩ := dI_elim h
    obtain ⟨a11, rfl, h⟩ := dI_elim h
    obtain ⟨a12, rfl, h⟩ := dI_elim h
    obtain ⟨a13, rfl, h⟩ := dI_elim h
    obtain ⟨a14, rfl, h⟩ := dI_elim h
    obtain ⟨a15, rfl, h⟩ := dI_elim h
    exact TabSem.congr (valL_cons (asCells_val hl1) (valL_cons rfl (valL_cons (asCells_val hl2) (valL_cons rfl rfl)))) (Ent.sem okJ0 Try.func13 ⟨by kernel_rfl, by kernel_rfl⟩ rfl (v13 h))
  · obtain ⟨x0, x1, rfl, h⟩ := d2_elim h
    obtain ⟨l1, hl1, h⟩ := dC_elim h
    obtain ⟨x0_0, x0_1, x0_2, x0_3, x0_4, x0_5, x0_6, x0_7, rfl, h⟩ := d8_elim h
    obtain ⟨a1, rfl, h⟩ := dI_elim h
    obtain ⟨a2, rfl, h⟩ := dI_elim h
    obtain ⟨a3, rfl, h⟩ := dI_elim h
    obtain ⟨a4, rfl, h⟩ := dI_elim h
    obtain ⟨a5, rfl, h⟩ := dI_elim h
    obtain ⟨a6, rfl, h⟩ := dI_elim h
    obtain ⟨a7, rfl, h⟩ := dI_elim h
    obtain ⟨a8, rfl, h⟩ := dI_elim h
    obtain ⟨l2, hl2, h⟩ := dC_elim h
    obtain ⟨x1_0, x1_1, rfl, h⟩ := d2_elim h
    obtain ⟨a9, rfl, h⟩ := dI_elim h
    obtain ⟨a10, rfl, h⟩ := dI_elim h
    exact TabSem.congr (valL_cons (asCells_val hl1) (valL_cons (asCells_val hl2) rfl)) (Ent.sem okJ0 Try.func15 ⟨by kernel_rfl, by kernel_rfl⟩ rfl (v15 h))
  · obtain ⟨x0, x1, rfl, h⟩ := d2_elim h
    obtain ⟨l1, hl1, h⟩ := dC_elim h
    obtain ⟨x0_0, x0_1, x0_2, x0_3, x0_4, x0_5, x0_6, x0_7, rfl, h⟩ := d8_elim h
    obtain ⟨a1, rfl, h⟩ := dI_elim h
    obtain ⟨a2, rfl, h⟩ := dI_elim h
    obtain ⟨a3, rfl, h⟩ := dI_elim h
    obtain ⟨a4, rfl, h⟩ := dI_elim h
    obtain ⟨a5, rfl, h⟩ := dI_elim h
    obtain ⟨a6, rfl, h⟩ := dI_elim h
    obtain ⟨a7, rfl, h⟩ := dI_elim h
    obtain ⟨a8, rfl, h⟩ := dI_elim h
    obtain ⟨l2, hl2, h⟩ := dC_elim h
    obtain ⟨x1_0, x1_1, rfl, h⟩ := d2_elim h
    obtain ⟨a9, rfl, h⟩ := dI_elim h
    obtain ⟨a10, rfl, h⟩ := dI_elim h
    exact TabSem.congr (valL_cons (asCells_val hl1) (valL_cons (asCells_val hl2) rfl)) (Ent.sem okJ0 Try.func16 ⟨by kernel_rfl, by kernel_rfl⟩ rfl (v16 h))
  · obtain ⟨x0, x1, rfl, h⟩ := d2_elim h
    obtain ⟨l1, hl1, h⟩ := dC_elim h
    obtain ⟨x0_0, x0_1, x0_2, x0_3, x0_4, rfl, h⟩ := d5_elim h
    obtain ⟨a1, rfl, h⟩ := dI_elim h
    obtain ⟨a2, rfl, h⟩ := dI_elim h
    obtain ⟨a3, rfl, h⟩ := dI_elim h
    obtain ⟨a4, rfl, h⟩ := dI_elim h
    obtain ⟨a5, rfl, h⟩ := dI_elim h
    obtain ⟨a6, rfl, h⟩ := dI_elim h
    exact TabSem.congr (valL_cons (asCells_val hl1) (valL_cons rfl rfl)) (Ent.sem okJ0 Try.func17 ⟨by kernel_rfl, by kernel_rfl⟩ rfl (v17 h))
  · obtain ⟨x0, x1, rfl, h⟩ := d2_elim h
    obtain ⟨l1, hl1, h⟩ := dC_elim h
    obtain ⟨x0_0, x0_1, x0_2, x0_3, x0_4, rfl, h⟩ := d5_elim h
    obtain ⟨a1, rfl, h⟩ := dI_elim h
    obtain ⟨a2, rfl, h⟩ := dI_elim h
    obtain ⟨a3, rfl, h⟩ := dI_elim h
    obtain ⟨a4, rfl, h⟩ := dI_elim h
    obtain ⟨a5, rfl, h⟩ := dI_elim h
    obtain ⟨a6, rfl, h⟩ := dI_elim h
    exact TabSem.congr (valL_cons (asCells_val hl1) (valL_cons rfl rfl)) (Ent.sem okJ0 Try.func18 ⟨by kernel_rfl, by kernel_rfl⟩ rfl (v18 h))
  · obtain ⟨rfl, h⟩ := d0_elim h
    exact TabSem.congr rfl (Ent.sem okJQ Try.func10 ⟨by kernel_rfl, by kernel_rfl⟩ rfl (t10 h))
  · exact h.elim
noncomputable def JV : Cx := { P := Try.prog, inl := fun f => List.contains [19, 20, 21, 24] f, tab := tabV, isB := fun _ => false, tabB := fun _ _ _ _ _ => False, opt := { unroll := 0, carry := [] }, muts := mutsD }
theorem okJV : CxOK JV := CxOK.four (tabV_ok) (by kernel_rfl) (okInl (by kernel_rfl)) (fun _ _ _ _ _ h => h.elim)

theorem u8b {x : Int} (h : (Lit.int .u8 x).wf = true) : 0 ≤ x ∧ x ≤ 255 := by
  simp only [Lit.wf, Bool.and_eq_true, decide_eq_true_eq, show IntKind.u8.min = 0 from rfl, show IntKind.u8.max = 255 from rfl] at h
  exact h
theorem ask_ok' {p s n t r me boot sp fr p' s' n' t' r' k x y m c q f g e : Int} (h : ask ⟨p, s, n, t, r⟩ me boot sp fr = (⟨p', s', n', t', r'⟩, ⟨k, x, y, m, c, q, f, g⟩, e)) (h1 : e = 0) :
    AskOK p s n t r me boot sp fr ∧ p = 0 ∧ r ≠ 255 ∧ 1 = p' ∧ sp = s' ∧ 256 * boot + r + 1 = n' ∧ fr = t' ∧ r + 1 = r' ∧ 1 = k ∧ me = x ∧ sp = y ∧ 256 * boot + r + 1 = m ∧ 0 = c ∧ 0 = q ∧ 0 = f ∧ 0 = g := by
  subst h1
  unfold ask at h
  dsimp only at h
  split at h
  · split at h
    · split at h
      · simp at h
      · rename_i h1 h2 h3
        simp only [Prod.mk.injEq, JS.mk.injEq, WS.mk.injEq] at h
        obtain ⟨⟨rfl, rfl, rfl, rfl, rfl⟩, ⟨rfl, rfl, rfl, rfl, rfl, rfl, rfl, rfl⟩, -⟩ := h
        exact ⟨h1, h2, h3, rfl, rfl, rfl, rfl, rfl, rfl, rfl, rfl, rfl, rfl, rfl, rfl, rfl⟩
    · simp at h
  · simp at h
theorem ask_e' {p s n t r me boot sp fr p' s' n' t' r' k x y m c q f g e : Int} (h : ask ⟨p, s, n, t, r⟩ me boot sp fr = (⟨p', s', n', t', r'⟩, ⟨k, x, y, m, c, q, f, g⟩, e))  :
    (¬ AskOK p s n t r me boot sp fr ∧ e = 1) ∨ (AskOK p s n t r me boot sp fr ∧ p ≠ 0 ∧ e = 6) ∨ (AskOK p s n t r me boot sp fr ∧ p = 0 ∧ r = 255 ∧ e = 2) ∨ (AskOK p s n t r me boot sp fr ∧ p = 0 ∧ r ≠ 255 ∧ e = 0) := by
  unfold ask at h
  dsimp only at h
  split at h
  · split at h
    · split at h
      · rename_i h1 h2 h3; have := congrArg (fun x => x.2.2) h; exact .inr (.inr (.inl ⟨h1, h2, h3, this.symm⟩))
      · rename_i h1 h2 h3; have := congrArg (fun x => x.2.2) h; exact .inr (.inr (.inr ⟨h1, h2, h3, this.symm⟩))
    · rename_i h1 h2; have := congrArg (fun x => x.2.2) h; exact .inr (.inl ⟨h1, h2, this.symm⟩)
  · rename_i h1; have := congrArg (fun x => x.2.2) h; exact .inl ⟨h1, this.symm⟩
theorem late_go' {p s n t r fr p' s' n' t' r' : Int} (h : late ⟨p, s, n, t, r⟩ fr = ⟨p', s', n', t', r'⟩) (h1 : VJ p s n t r ∧ (p = 1 ∨ p = 2) ∧ t + 12 ≤ fr) :
    0 = p' ∧ -1 = s' ∧ 0 = n' ∧ 0 = t' ∧ r = r' := by
  unfold late at h
  rw [if_pos h1] at h
  simp only [JS.mk.injEq] at h
  obtain ⟨rfl, rfl, rfl, rfl, rfl⟩ := h
  exact ⟨rfl, rfl, rfl, rfl, rfl⟩
theorem late_no' {p s n t r fr p' s' n' t' r' : Int} (h : late ⟨p, s, n, t, r⟩ fr = ⟨p', s', n', t', r'⟩) (h1 : ¬ (VJ p s n t r ∧ (p = 1 ∨ p = 2) ∧ t + 12 ≤ fr)) :
    p = p' ∧ s = s' ∧ n = n' ∧ t = t' ∧ r = r' := by
  unfold late at h
  rw [if_neg h1] at h
  simp only [JS.mk.injEq] at h
  obtain ⟨rfl, rfl, rfl, rfl, rfl⟩ := h
  exact ⟨rfl, rfl, rfl, rfl, rfl⟩
theorem hear_two' {p s n t r me K X Y M C Q F G fr p' s' n' t' r' k x y m c q f g : Int} {v : Bool} (h : hear ⟨p, s, n, t, r⟩ me ⟨K, X, Y, M, C, Q, F, G⟩ fr = (⟨p', s', n', t', r'⟩, ⟨k, x, y, m, c, q, f, g⟩, v)) (h1 : Meant p s n t r me K X Y M C fr) (h2 : K = 2 ∧ (p = 1 ∨ p = 2)) :
    2 = p' ∧ s = s' ∧ n = n' ∧ t = t' ∧ r = r' ∧ 3 = k ∧ X = x ∧ Y = y ∧ M = m ∧ C = c ∧ me + 1000000 = q ∧ 0 = f ∧ 0 = g ∧ true = v := by
  unfold hear at h
  rw [if_pos h1, if_pos h2] at h
  simp only [Prod.mk.injEq, JS.mk.injEq, WS.mk.injEq] at h
  obtain ⟨⟨rfl, rfl, rfl, rfl, rfl⟩, ⟨rfl, rfl, rfl, rfl, rfl, rfl, rfl, rfl⟩, rfl⟩ := h
  exact ⟨rfl, rfl, rfl, rfl, rfl, rfl, rfl, rfl, rfl, rfl, rfl, rfl, rfl, rfl⟩
theorem hear_four' {p s n t r me K X Y M C Q F G fr p' s' n' t' r' k x y m c q f g : Int} {v : Bool} (h : hear ⟨p, s, n, t, r⟩ me ⟨K, X, Y, M, C, Q, F, G⟩ fr = (⟨p', s', n', t', r'⟩, ⟨k, x, y, m, c, q, f, g⟩, v)) (h1 : Meant p s n t r me K X Y M C fr) (h2 : K = 4 ∧ p = 2 ∧ Q = me + 1000000) :
    3 = p' ∧ s = s' ∧ n = n' ∧ t = t' ∧ r = r' ∧ 0 = k ∧ 0 = x ∧ 0 = y ∧ 0 = m ∧ 0 = c ∧ 0 = q ∧ 0 = f ∧ 0 = g ∧ true = v := by
  unfold hear at h
  rw [if_pos h1, if_neg (by simp only; omega), if_pos h2] at h
  simp only [W0s, Prod.mk.injEq, JS.mk.injEq, WS.mk.injEq] at h
  obtain ⟨⟨rfl, rfl, rfl, rfl, rfl⟩, ⟨rfl, rfl, rfl, rfl, rfl, rfl, rfl, rfl⟩, rfl⟩ := h
  exact ⟨rfl, rfl, rfl, rfl, rfl, rfl, rfl, rfl, rfl, rfl, rfl, rfl, rfl, rfl⟩
theorem hear_no' {p s n t r me K X Y M C Q F G fr p' s' n' t' r' k x y m c q f g : Int} {v : Bool} (h : hear ⟨p, s, n, t, r⟩ me ⟨K, X, Y, M, C, Q, F, G⟩ fr = (⟨p', s', n', t', r'⟩, ⟨k, x, y, m, c, q, f, g⟩, v)) (h1 : ¬ (Meant p s n t r me K X Y M C fr ∧ (K = 2 ∧ (p = 1 ∨ p = 2) ∨ K = 4 ∧ p = 2 ∧ Q = me + 1000000))) :
    p = p' ∧ s = s' ∧ n = n' ∧ t = t' ∧ r = r' ∧ 0 = k ∧ 0 = x ∧ 0 = y ∧ 0 = m ∧ 0 = c ∧ 0 = q ∧ 0 = f ∧ 0 = g ∧ false = v := by
  unfold hear at h
  have e : ((⟨p, s, n, t, r⟩ : JS), W0s, false) = ((⟨p', s', n', t', r'⟩ : JS), (⟨k, x, y, m, c, q, f, g⟩ : WS), v) := by
    rw [← h]
    by_cases hm : Meant p s n t r me K X Y M C fr
    · rw [if_pos hm, if_neg (fun hx => h1 ⟨hm, .inl hx⟩), if_neg (fun hx => h1 ⟨hm, .inr hx⟩)]
    · rw [if_neg hm]
  simp only [W0s, Prod.mk.injEq, JS.mk.injEq, WS.mk.injEq] at e
  obtain ⟨⟨rfl, rfl, rfl, rfl, rfl⟩, ⟨rfl, rfl, rfl, rfl, rfl, rfl, rfl, rfl⟩, rfl⟩ := e
  exact ⟨rfl, rfl, rfl, rfl, rfl, rfl, rfl, rfl, rfl, rfl, rfl, rfl, rfl, rfl⟩
theorem judge_go' {K X Y M C Q F G U V k x y m c q f g e : Int} (h : judge ⟨K, X, Y, M, C, Q, F, G⟩ U V = (⟨k, x, y, m, c, q, f, g⟩, e)) (h1 : JudgeOK K X Y M C U V) (h2 : K = 3) (h3 : Q = X + 1000000) :
    4 = k ∧ X = x ∧ Y = y ∧ M = m ∧ 0 = c ∧ Q = q ∧ U = f ∧ V = g ∧ 0 = e := by
  unfold judge at h
  rw [if_pos h1, if_pos h2, if_pos h3] at h
  simp only [Prod.mk.injEq, WS.mk.injEq] at h
  obtain ⟨⟨rfl, rfl, rfl, rfl, rfl, rfl, rfl, rfl⟩, rfl⟩ := h
  exact ⟨rfl, rfl, rfl, rfl, rfl, rfl, rfl, rfl, rfl⟩

end Go.Proofs.Ythbfpaemiccjcaa.JoinOwn
