/- The join package: what its functions answer. -/
import Derived.Test.YthbfpaemiccjcaaJoin2
import Derived.Test.YthbfpaemiccjcaaJoin3
import Derived.Test.YthbfpaemiccjcaaJoin4
namespace Go.Proofs.Ythbfpaemiccjcaa.JoinOwn
open Go Go.Sx
set_option maxRecDepth 100000
set_option maxHeartbeats 4000000
set_option linter.unusedVariables false
set_option linter.unusedSimpArgs false
variable {E : Mem} {K : SV → Mem → Prop}

noncomputable def tabJ : FuncId → List SV → Mem → (SV → Mem → Prop) → Prop := fun f args E K => match f with
  | 11 => d5 args fun x0 x1 x2 x3 x4 => dC x0 fun l1 => d5 l1 fun x0_0 x0_1 x0_2 x0_3 x0_4 => dI x0_0 fun a1 => dI x0_1 fun a2 => dI x0_2 fun a3 => dI x0_3 fun a4 => dI x0_4 fun a5 => dI x1 fun a6 => dI x2 fun a7 => dI x3 fun a8 => dI x4 fun a9 => (∀ (p' : Int) (s' : Int) (n' : Int) (t' : Int) (r' : Int) (k : Int) (x : Int) (y : Int) (m : Int) (c : Int) (q : Int) (f : Int) (g : Int) (e : Int), Hyp (AskR a1 a2 a3 a4 a5 a6 a7 a8 a9 p' s' n' t' r' k x y m c q f g e) → K (.tup [.agg [I p', I s', I n', I t', I r'], .agg [I k, I x, I y, I m, I c, I q, I f, I g], I e]) E)
  | 12 => d5 args fun x0 x1 x2 x3 x4 => dC x0 fun l1 => d5 l1 fun x0_0 x0_1 x0_2 x0_3 x0_4 => dI x0_0 fun a1 => dI x0_1 fun a2 => dI x0_2 fun a3 => dI x0_3 fun a4 => dI x0_4 fun a5 => dI x1 fun a6 => dI x2 fun a7 => dI x3 fun a8 => dI x4 fun a9 => (∀ (p' : Int) (s' : Int) (n' : Int) (t' : Int) (r' : Int) (k : Int) (x : Int) (y : Int) (m : Int) (c : Int) (q : Int) (f : Int) (g : Int) (e : Int), Hyp (AskR a1 a2 a3 a4 a5 a6 a7 a8 a9 p' s' n' t' r' k x y m c q f g e) → K (.tup [.agg [I p', I s', I n', I t', I r'], .agg [I k, I x, I y, I m, I c, I q, I f, I g], I e]) E)
  | 13 => d4 args fun x0 x1 x2 x3 => dC x0 fun l1 => d5 l1 fun x0_0 x0_1 x0_2 x0_3 x0_4 => dI x0_0 fun a1 => dI x0_1 fun a2 => dI x0_2 fun a3 => dI x0_3 fun a4 => dI x0_4 fun a5 => dI x1 fun a6 => dC x2 fun l2 => d8 l2 fun x2_0 x2_1 x2_2 x2_3 x2_4 x2_5 x2_6 x2_7 => dI x2_0 fun a7 => dI x2_1 fun a8 => dI x2_2 fun a9 => dI x2_3 fun a10 => dI x2_4 fun a11 => dI x2_5 fun a12 => dI x2_6 fun a13 => dI x2_7 fun a14 => dI x3 fun a15 => (∀ (p' : Int) (s' : Int) (n' : Int) (t' : Int) (r' : Int) (k : Int) (x : Int) (y : Int) (m : Int) (c : Int) (q : Int) (f : Int) (g : Int) (v : Int), Hyp (HearR a1 a2 a3 a4 a5 a6 a7 a8 a9 a10 a11 a12 a13 a14 a15 p' s' n' t' r' k x y m c q f g v) → K (.tup [.agg [I p', I s', I n', I t', I r'], .agg [I k, I x, I y, I m, I c, I q, I f, I g], B (v == 1)]) E)
  | 15 => d2 args fun x0 x1 => dC x0 fun l1 => d8 l1 fun x0_0 x0_1 x0_2 x0_3 x0_4 x0_5 x0_6 x0_7 => dI x0_0 fun a1 => dI x0_1 fun a2 => dI x0_2 fun a3 => dI x0_3 fun a4 => dI x0_4 fun a5 => dI x0_5 fun a6 => dI x0_6 fun a7 => dI x0_7 fun a8 => dC x1 fun l2 => d2 l2 fun x1_0 x1_1 => dI x1_0 fun a9 => dI x1_1 fun a10 => (∀ (k : Int) (x : Int) (y : Int) (m : Int) (c : Int) (q : Int) (f : Int) (g : Int) (e : Int), Hyp (JudgeR a1 a2 a3 a4 a5 a6 a7 a8 a9 a10 k x y m c q f g e) → K (.tup [.agg [I k, I x, I y, I m, I c, I q, I f, I g], I e]) E)
  | 16 => d2 args fun x0 x1 => dC x0 fun l1 => d8 l1 fun x0_0 x0_1 x0_2 x0_3 x0_4 x0_5 x0_6 x0_7 => dI x0_0 fun a1 => dI x0_1 fun a2 => dI x0_2 fun a3 => dI x0_3 fun a4 => dI x0_4 fun a5 => dI x0_5 fun a6 => dI x0_6 fun a7 => dI x0_7 fun a8 => dC x1 fun l2 => d2 l2 fun x1_0 x1_1 => dI x1_0 fun a9 => dI x1_1 fun a10 => (∀ (k : Int) (x : Int) (y : Int) (m : Int) (c : Int) (q : Int) (f : Int) (g : Int) (e : Int), Hyp (JudgeR a1 a2 a3 a4 a5 a6 a7 a8 a9 a10 k x y m c q f g e) → K (.tup [.agg [I k, I x, I y, I m, I c, I q, I f, I g], I e]) E)
  | 17 => d2 args fun x0 x1 => dC x0 fun l1 => d5 l1 fun x0_0 x0_1 x0_2 x0_3 x0_4 => dI x0_0 fun a1 => dI x0_1 fun a2 => dI x0_2 fun a3 => dI x0_3 fun a4 => dI x0_4 fun a5 => dI x1 fun a6 => (∀ (p' : Int) (s' : Int) (n' : Int) (t' : Int) (r' : Int), Hyp (LateR a1 a2 a3 a4 a5 a6 p' s' n' t' r') → K (.agg [I p', I s', I n', I t', I r']) E)
  | 18 => d2 args fun x0 x1 => dC x0 fun l1 => d5 l1 fun x0_0 x0_1 x0_2 x0_3 x0_4 => dI x0_0 fun a1 => dI x0_1 fun a2 => dI x0_2 fun a3 => dI x0_3 fun a4 => dI x0_4 fun a5 => dI x1 fun a6 => (∀ (p' : Int) (s' : Int) (n' : Int) (t' : Int) (r' : Int), Hyp (LateR a1 a2 a3 a4 a5 a6 p' s' n' t' r') → K (.agg [I p', I s', I n', I t', I r']) E)
  | _ => False
theorem tabJ_ok : TabOK Try.prog tabJ := by
  intro f args E K h
  unfold tabJ at h
  split at h
  · obtain ⟨x0, x1, x2, x3, x4, rfl, h⟩ := d5_elim h
    obtain ⟨l1, hl1, h⟩ := dC_elim h
    obtain ⟨x0_0, x0_1, x0_2, x0_3, x0_4, rfl, h⟩ := d5_elim h
    obtain ⟨a1, rfl, h⟩ := dI_elim h
    obtain ⟨a2, rfl, h⟩ := dI_elim h
    obtain ⟨a3, rfl, h⟩ := dI_elim h
    obtain ⟨a4, rfl, h⟩ := dI_elim h
    obtain ⟨a5, rfl, h⟩ := dI_elim h
    obtain ⟨a6, rfl, h⟩ := dI_elim h
    obtain ⟨a7, rfl, h⟩ := dI_elim h
    obtain ⟨a8, rfl, h⟩ := dI_elim h
    obtain ⟨a9, rfl, h⟩ := dI_elim h
    exact TabSem.congr (valL_cons (asCells_val hl1) (valL_cons rfl (valL_cons rfl (valL_cons rfl (valL_cons rfl rfl))))) (Ent.sem okJ0 Try.func11 ⟨by kernel_rfl, by kernel_rfl⟩ rfl (s11 h))
  · obtain ⟨x0, x1, x2, x3, x4, rfl, h⟩ := d5_elim h
    obtain ⟨l1, hl1, h⟩ := dC_elim h
    obtain ⟨x0_0, x0_1, x0_2, x0_3, x0_4, rfl, h⟩ := d5_elim h
    obtain ⟨a1, rfl, h⟩ := dI_elim h
    obtain ⟨a2, rfl, h⟩ := dI_elim h
    obtain ⟨a3, rfl, h⟩ := dI_elim h
    obtain ⟨a4, rfl, h⟩ := dI_elim h
    obtain ⟨a5, rfl, h⟩ := dI_elim h
    obtain ⟨a6, rfl, h⟩ := dI_elim h
    obtain ⟨a7, rfl, h⟩ := dI_elim h
    obtain ⟨a8, rfl, h⟩ := dI_elim h
    obtain ⟨a9, rfl, h⟩ := dI_elim h
    exact TabSem.congr (valL_cons (asCells_val hl1) (valL_cons rfl (valL_cons rfl (valL_cons rfl (valL_cons rfl rfl))))) (Ent.sem okJ0 Try.func12 ⟨by kernel_rfl, by kernel_rfl⟩ rfl (s12 h))
  · obtain ⟨x0, x1, x2, x3, rfl, h⟩ := d4_elim h
    obtain ⟨l1, hl1, h⟩ := dC_elim h
    obtain ⟨x0_0, x0_1, x0_2, x0_3, x0_4, rfl, h⟩ := d5_elim h
    obtain ⟨a1, rfl, h⟩ := dI_elim h
    obtain ⟨a2, rfl, h⟩ := dI_elim h
    obtain ⟨a3, rfl, h⟩ := dI_elim h
    obtain ⟨a4, rfl, h⟩ := dI_elim h
    obtain ⟨a5, rfl, h⟩ := dI_elim h
    obtain ⟨a6, rfl, h⟩ := dI_elim h
    obtain ⟨l2, hl2, h⟩ := dC_elim h
    obtain ⟨x2_0, x2_1, x2_2, x2_3, x2_4, x2_5, x2_6, x2_7, rfl, h⟩ := d8_elim h
    obtain ⟨a7, rfl, h⟩ := dI_elim h
    obtain ⟨a8, rfl, h⟩ := dI_elim h
    obtain ⟨a9, rfl, h⟩ := dI_elim h
    obtain ⟨a10, rfl, h⟩ := dI_elim h
    obtain ⟨a11, rfl, h⟩ := dI_elim h
    obtain ⟨a12, rfl, h⟩ := dI_elim h
    obtain ⟨a13, rfl, h⟩ := dI_elim h
    obtain ⟨a14, rfl, h⟩ := dI_elim h
    obtain ⟨a15, rfl, h⟩ := dI_elim h
    exact TabSem.congr (valL_cons (asCells_val hl1) (valL_cons rfl (valL_cons (asCells_val hl2) (valL_cons rfl rfl)))) (Ent.sem okJ0 Try.func13 ⟨by kernel_rfl, by kernel_rfl⟩ rfl (s13 h))
  · obtain ⟨x0, x1, rfl, h⟩ := d2_elim h
    obtain ⟨l1, hl1, h⟩ := dC_elim h
    obtain ⟨x0_0, x0_1, x0_2, x0_3, x0_4, x0_5, x0_6, x0_7, rfl, h⟩ := d8_elim h
    obtain ⟨a1, rfl, h⟩ := dI_elim h
    obtain ⟨a2, rfl, h⟩ := dI_elim h
    obtain ⟨a3, rfl, h⟩ := dI_elim h
    obtain ⟨a4, rfl, h⟩ := dI_elim h
    obtain ⟨a5, rfl, h⟩ := dI_elim h
    obtain ⟨a6, rfl, h⟩ := dI_elim h
    obtain ⟨a7, rfl, h⟩ := dI_elim h
    obtain ⟨a8, rfl, h⟩ := dI_elim h
    obtain ⟨l2, hl2, h⟩ := dC_elim h
    obtain ⟨x1_0, x1_1, rfl, h⟩ := d2_elim h
    obtain ⟨a9, rfl, h⟩ := dI_elim h
    obtain ⟨a10, rfl, h⟩ := dI_elim h
    exact TabSem.congr (valL_cons (asCells_val hl1) (valL_cons (asCells_val hl2) rfl)) (Ent.sem okJ0 Try.func15 ⟨by kernel_rfl, by kernel_rfl⟩ rfl (s15 h))
  · obtain ⟨x0, x1, rfl, h⟩ := d2_elim h
    obtain ⟨l1, hl1, h⟩ := dC_elim h
    obtain ⟨x0_0, x0_1, x0_2, x0_3, x0_4, x0_5, x0_6, x0_7, rfl, h⟩ := d8_elim h
    obtain ⟨a1, rfl, h⟩ := dI_elim h
    obtain ⟨a2, rfl, h⟩ := dI_elim h
    obtain ⟨a3, rfl, h⟩ := dI_elim h
    obtain ⟨a4, rfl, h⟩ := dI_elim h
    obtain ⟨a5, rfl, h⟩ := dI_elim h
    obtain ⟨a6, rfl, h⟩ := dI_elim h
    obtain ⟨a7, rfl, h⟩ := dI_elim h
    obtain ⟨a8, rfl, h⟩ := dI_elim h
    obtain ⟨l2, hl2, h⟩ := dC_elim h
    obtain ⟨x1_0, x1_1, rfl, h⟩ := d2_elim h
    obtain ⟨a9, rfl, h⟩ := dI_elim h
    obtain ⟨a10, rfl, h⟩ := dI_elim h
    exact TabSem.congr (valL_cons (asCells_val hl1) (valL_cons (asCells_val hl2) rfl)) (Ent.sem okJ0 Try.func16 ⟨by kernel_rfl, by kernel_rfl⟩ rfl (s16 h))
  · obtain ⟨x0, x1, rfl, h⟩ := d2_elim h
    obtain ⟨l1, hl1, h⟩ := dC_elim h
    obtain ⟨x0_0, x0_1, x0_2, x0_3, x0_4, rfl, h⟩ := d5_elim h
    obtain ⟨a1, rfl, h⟩ := dI_elim h
    obtain ⟨a2, rfl, h⟩ := dI_elim h
    obtain ⟨a3, rfl, h⟩ := dI_elim h
    obtain ⟨a4, rfl, h⟩ := dI_elim h
    obtain ⟨a5, rfl, h⟩ := dI_elim h
    obtain ⟨a6, rfl, h⟩ := dI_elim h
    exact TabSem.congr (valL_cons (asCells_val hl1) (valL_cons rfl rfl)) (Ent.sem okJ0 Try.func17 ⟨by kernel_rfl, by kernel_rfl⟩ rfl (s17 h))
  · obtain ⟨x0, x1, rfl, h⟩ := d2_elim h
    obtain ⟨l1, hl1, h⟩ := dC_elim h
    obtain ⟨x0_0, x0_1, x0_2, x0_3, x0_4, rfl, h⟩ := d5_elim h
    obtain ⟨a1, rfl, h⟩ := dI_elim h
    obtain ⟨a2, rfl, h⟩ := dI_elim h
    obtain ⟨a3, rfl, h⟩ := dI_elim h
    obtain ⟨a4, rfl, h⟩ := dI_elim h
    obtain ⟨a5, rfl, h⟩ := dI_elim h
    obtain ⟨a6, rfl, h⟩ := dI_elim h
    exact TabSem.congr (valL_cons (asCells_val hl1) (valL_cons rfl rfl)) (Ent.sem okJ0 Try.func18 ⟨by kernel_rfl, by kernel_rfl⟩ rfl (s18 h))
  · exact h.elim
noncomputable def JL : Cx := { P := Try.prog, inl := fun f => List.contains [19, 20, 21, 24] f, tab := tabJ, isB := fun _ => false, tabB := fun _ _ _ _ _ => False, opt := { unroll := 0, carry := [] }, muts := mutsD }
theorem okJL : CxOK JL := CxOK.four (tabJ_ok) (by kernel_rfl) (okInl (by kernel_rfl)) (fun _ _ _ _ _ h => h.elim)

end Go.Proofs.Ythbfpaemiccjcaa.JoinOwn
