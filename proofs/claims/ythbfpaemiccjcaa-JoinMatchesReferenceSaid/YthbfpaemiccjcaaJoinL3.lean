/- The law JoinMatchesReference. -/
import Derived.Test.YthbfpaemiccjcaaJoinX
import Derived.Test.YthbfpaemiccjcaaRows
namespace Go.Proofs.Ythbfpaemiccjcaa.JoinOwn
open Go Go.Sx Go.Proofs.Ythbfpaemiccjcaa
set_option maxRecDepth 100000
set_option maxHeartbeats 4000000
set_option linter.unusedVariables false
set_option linter.unusedSimpArgs false
variable {E : Mem} {K : SV → Mem → Prop}
noncomputable def tabX : FuncId → List SV → Mem → (SV → Mem → Prop) → Prop := fun f args E K => match f with
  | 11 => d5 args fun x0 x1 x2 x3 x4 => dC x0 fun l1 => d5 l1 fun x0_0 x0_1 x0_2 x0_3 x0_4 => dI x0_0 fun a1 => dI x0_1 fun a2 => dI x0_2 fun a3 => dI x0_3 fun a4 => dI x0_4 fun a5 => dI x1 fun a6 => dI x2 fun a7 => dI x3 fun a8 => dI x4 fun a9 => (∀ (p' : Int) (s' : Int) (n' : Int) (t' : Int) (r' : Int) (k : Int) (x : Int) (y : Int) (m : Int) (c : Int) (q : Int) (f : Int) (g : Int) (e : Int), Hyp (ask ⟨a1, a2, a3, a4, a5⟩ a6 a7 a8 a9 = (⟨p', s', n', t', r'⟩, ⟨k, x, y, m, c, q, f, g⟩, e)) → K (.tup [.agg [I p', I s', I n', I t', I r'], .agg [I k, I x, I y, I m, I c, I q, I f, I g], I e]) E)
  | 12 => d5 args fun x0 x1 x2 x3 x4 => dC x0 fun l1 => d5 l1 fun x0_0 x0_1 x0_2 x0_3 x0_4 => dI x0_0 fun a1 => dI x0_1 fun a2 => dI x0_2 fun a3 => dI x0_3 fun a4 => dI x0_4 fun a5 => dI x1 fun a6 => dI x2 fun a7 => dI x3 fun a8 => dI x4 fun a9 => (∀ (p' : Int) (s' : Int) (n' : Int) (t' : Int) (r' : Int) (k : Int) (x : Int) (y : Int) (m : Int) (c : Int) (q : Int) (f : Int) (g : Int) (e : Int), Hyp (ask ⟨a1, a2, a3, a4, a5⟩ a6 a7 a8 a9 = (⟨p', s', n', t', r'⟩, ⟨k, x, y, m, c, q, f, g⟩, e)) → K (.tup [.agg [I p', I s', I n', I t', I r'], .agg [I k, I x, I y, I m, I c, I q, I f, I g], I e]) E)
  | 13 => d4 args fun x0 x1 x2 x3 => dC x0 fun l1 => d5 l1 fun x0_0 x0_1 x0_2 x0_3 x0_4 => dI x0_0 fun a1 => dI x0_1 fun a2 => dI x0_2 fun a3 => dI x0_3 fun a4 => dI x0_4 fun a5 => dI x1 fun a6 => dC x2 fun l2 => d8 l2 fun x2_0 x2_1 x2_2 x2_3 x2_4 x2_5 x2_6 x2_7 => dI x2_0 fun a7 => dI x2_1 fun a8 => dI x2_2 fun a9 => dI x2_3 fun a10 => dI x2_4 fun a11 => dI x2_5 fun a12 => dI x2_6 fun a13 => dI x2_7 fun a14 => dI x3 fun a15 => (∀ (p' : Int) (s' : Int) (n' : Int) (t' : Int) (r' : Int) (k : Int) (x : Int) (y : Int) (m : Int) (c : Int) (q : Int) (f : Int) (g : Int) (v : Bool), Hyp (hear ⟨a1, a2, a3, a4, a5⟩ a6 ⟨a7, a8, a9, a10, a11, a12, a13, a14⟩ a15 = (⟨p', s', n', t', r'⟩, ⟨k, x, y, m, c, q, f, g⟩, v)) → K (.tup [.agg [I p', I s', I n', I t', I r'], .agg [I k, I x, I y, I m, I c, I q, I f, I g], B v]) E)
  | 15 => d2 args fun x0 x1 => dC x0 fun l1 => d8 l1 fun x0_0 x0_1 x0_2 x0_3 x0_4 x0_5 x0_6 x0_7 => dI x0_0 fun a1 => dI x0_1 fun a2 => dI x0_2 fun a3 => dI x0_3 fun a4 => dI x0_4 fun a5 => dI x0_5 fun a6 => dI x0_6 fun a7 => dI x0_7 fun a8 => dC x1 fun l2 => d2 l2 fun x1_0 x1_1 => dI x1_0 fun a9 => dI x1_1 fun a10 => (∀ (k : Int) (x : Int) (y : Int) (m : Int) (c : Int) (q : Int) (f : Int) (g : Int) (e : Int), Hyp (judge ⟨a1, a2, a3, a4, a5, a6, a7, a8⟩ a9 a10 = (⟨k, x, y, m, c, q, f, g⟩, e)) → K (.tup [.agg [I k, I x, I y, I m, I c, I q, I f, I g], I e]) E)
  | 16 => d2 args fun x0 x1 => dC x0 fun l1 => d8 l1 fun x0_0 x0_1 x0_2 x0_3 x0_4 x0_5 x0_6 x0_7 => dI x0_0 fun a1 => dI x0_1 fun a2 => dI x0_2 fun a3 => dI x0_3 fun a4 => dI x0_4 fun a5 => dI x0_5 fun a6 => dI x0_6 fun a7 => dI x0_7 fun a8 => dC x1 fun l2 => d2 l2 fun x1_0 x1_1 => dI x1_0 fun a9 => dI x1_1 fun a10 => (∀ (k : Int) (x : Int) (y : Int) (m : Int) (c : Int) (q : Int) (f : Int) (g : Int) (e : Int), Hyp (judge ⟨a1, a2, a3, a4, a5, a6, a7, a8⟩ a9 a10 = (⟨k, x, y, m, c, q, f, g⟩, e)) → K (.tup [.agg [I k, I x, I y, I m, I c, I q, I f, I g], I e]) E)
  | 17 => d2 args fun x0 x1 => dC x0 fun l1 => d5 l1 fun x0_0 x0_1 x0_2 x0_3 x0_4 => dI x0_0 fun a1 => dI x0_1 fun a2 => dI x0_2 fun a3 => dI x0_3 fun a4 => dI x0_4 fun a5 => dI x1 fun a6 => (∀ (p' : Int) (s' : Int) (n' : Int) (t' : Int) (r' : Int), Hyp (late ⟨a1, a2, a3, a4, a5⟩ a6 = ⟨p', s', n', t', r'⟩) → K (.agg [I p', I s', I n', I t', I r']) E)
  | 18 => d2 args fun x0 x1 => dC x0 fun l1 => d5 l1 fun x0_0 x0_1 x0_2 x0_3 x0_4 => dI x0_0 fun a1 => dI x0_1 fun a2 => dI x0_2 fun a3 => dI x0_3 fun a4 => dI x0_4 fun a5 => dI x1 fun a6 => (∀ (p' : Int) (s' : Int) (n' : Int) (t' : Int) (r' : Int), Hyp (late ⟨a1, a2, a3, a4, a5⟩ a6 = ⟨p', s', n', t', r'⟩) → K (.agg [I p', I s', I n', I t', I r']) E)
  | 14 => d4 args fun x0 x1 x2 x3 => dC x0 fun l1 => d5 l1 fun x0_0 x0_1 x0_2 x0_3 x0_4 => dI x0_0 fun a1 => dI x0_1 fun a2 => dI x0_2 fun a3 => dI x0_3 fun a4 => dI x0_4 fun a5 => dI x1 fun a6 => dC x2 fun l2 => d8 l2 fun x2_0 x2_1 x2_2 x2_3 x2_4 x2_5 x2_6 x2_7 => dI x2_0 fun a7 => dI x2_1 fun a8 => dI x2_2 fun a9 => dI x2_3 fun a10 => dI x2_4 fun a11 => dI x2_5 fun a12 => dI x2_6 fun a13 => dI x2_7 fun a14 => dI x3 fun a15 => (∀ (p' : Int) (s' : Int) (n' : Int) (t' : Int) (r' : Int) (k : Int) (x : Int) (y : Int) (m : Int) (c : Int) (q : Int) (f : Int) (g : Int) (v : Bool), Hyp (hear ⟨a1, a2, a3, a4, a5⟩ a6 ⟨a7, a8, a9, a10, a11, a12, a13, a14⟩ a15 = (⟨p', s', n', t', r'⟩, ⟨k, x, y, m, c, q, f, g⟩, v)) → K (.tup [.agg [I p', I s', I n', I t', I r'], .agg [I k, I x, I y, I m, I c, I q, I f, I g], B v]) E)
  | 10 => d0 args ((K (B true) E))
  | _ => False
theorem tabX_ok : TabOK Try.prog tabX := by
  intro f args E K h
  unfold tabX at h
  split at h
  · replace h := d5_elim h
    obtain ⟨x0, x1, x2, x3, x4, rfl, h⟩ := h
    replace h := dC_elim h
    obtain ⟨l1, hl1, h⟩ := h
    replace h := d5_elim h
    obtain ⟨x0_0, x0_1, x0_2, x0_3, x0_4, rfl, h⟩ := h
    replace h := dI_elim h
    obtain ⟨a1, rfl, h⟩ := h
    replace h := dI_elim h
    obtain ⟨a2, rfl, h⟩ := h
    replace h := dI_elim h
    obtain ⟨a3, rfl, h⟩ := h
    replace h := dI_elim h
    obtain ⟨a4, rfl, h⟩ := h
    replace h := dI_elim h
    obtain ⟨a5, rfl, h⟩ := h
    replace h := dI_elim h
    obtain ⟨a6, rfl, h⟩ := h
    replace h := dI_elim h
    obtain ⟨a7, rfl, h⟩ := h
    replace h := dI_elim h
    obtain ⟨a8, rfl, h⟩ := h
    replace h := dI_elim h
    obtain ⟨a9, rfl, h⟩ := h
    exact TabSem.congr (valL_cons (asCells_val hl1) (valL_cons rfl (valL_cons rfl (valL_cons rfl (valL_cons rfl rfl))))) (Ent.sem okJ0 Try.func11 ⟨by kernel_rfl, by kernel_rfl⟩ rfl (v11 h))
  · replace h := d5_elim h
    obtain ⟨x0, x1, x2, x3, x4, rfl, h⟩ := h
    replace h := dC_elim h
    obtain ⟨l1, hl1, h⟩ := h
    replace h := d5_elim h
    obtain ⟨x0_0, x0_1, x0_2, x0_3, x0_4, rfl, h⟩ := h
    replace h := dI_elim h
    obtain ⟨a1, rfl, h⟩ := h
    replace h := dI_elim h
    obtain ⟨a2, rfl, h⟩ := h
    replace h := dI_elim h
    obtain ⟨a3, rfl, h⟩ := h
    replace h := dI_elim h
    obtain ⟨a4, rfl, h⟩ := h
    replace h := dI_elim h
    obtain ⟨a5, rfl, h⟩ := h
    replace h := dI_elim h
    obtain ⟨a6, rfl, h⟩ := h
    replace h := dI_elim h
    obtain ⟨a7, rfl, h⟩ := h
    replace h := dI_elim h
    obtain ⟨a8, rfl, h⟩ := h
    replace h := dI_elim h
    obtain ⟨a9, rfl, h⟩ := h
    exact TabSem.congr (valL_cons (asCells_val hl1) (valL_cons rfl (valL_cons rfl (valL_cons rfl (valL_cons rfl rfl))))) (Ent.sem okJ0 Try.func12 ⟨by kernel_rfl, by kernel_rfl⟩ rfl (v12 h))
  · replace h := d4_elim h
    obtain ⟨x0, x1, x2, x3, rfl, h⟩ := h
    replace h := dC_elim h
    obtain ⟨l1, hl1, h⟩ := h
    replace h := d5_elim h
    obtain ⟨x0_0, x0_1, x0_2, x0_3, x0_4, rfl, h⟩ := h
    replace h := dI_elim h
    obtain ⟨a1, rfl, h⟩ := h
    replace h := dI_elim h
    obtain ⟨a2, rfl, h⟩ := h
    replace h := dI_elim h
    obtain ⟨a3, rfl, h⟩ := h
    replace h := dI_elim h
    obtain ⟨a4, rfl, h⟩ := h
    replace h := dI_elim h
    obtain ⟨a5, rfl, h⟩ := h
    replace h := dI_elim h
    obtain ⟨a6, rfl, h⟩ := h
    replace h := dC_elim h
    obtain ⟨l2, hl2, h⟩ := h
    replace h := d8_elim h
    obtain ⟨x2_0, x2_1, x2_2, x2_3, x2_4, x2_5, x2_6, x2_7, rfl, h⟩ := h
    replace h := dI_elim h
    obtain ⟨a7, rfl, h⟩ := h
    replace h := dI_elim h
    obtain ⟨a8, rfl, h⟩ := h
    replace h := dI_elim h
    obtain ⟨a9, rfl, h⟩ := h
    replace h := dI_elim h
    obtain ⟨a10, rfl, h⟩ := h
    replace h := dI_elim h
    obtain ⟨a11, rfl, h⟩ := h
    replace h := dI_elim h
    obtain ⟨a12, rfl, h⟩ := h
    replace h := dI_elim h
    obtain ⟨a13, rfl, h⟩ := h
    replace h := dI_elim h
    obtain ⟨a14, rfl, h⟩ := h
    replace h := dI_elim h
    obtain ⟨a15, rfl, h⟩ := h
    exact TabSem.congr (valL_cons (asCells_val hl1) (valL_cons rfl (valL_cons (asCells_val hl2) (valL_cons rfl rfl)))) (Ent.sem okJ0 Try.func13 ⟨by kernel_rfl, by kernel_rfl⟩ rfl (v13 h))
  · replace h := d2_elim h
    obtain ⟨x0, x1, rfl, h⟩ := h
    replace h := dC_elim h
    obtain ⟨l1, hl1, h⟩ := h
    replace h := d8_elim h
    obtain ⟨x0_0, x0_1, x0_2, x0_3, x0_4, x0_5, x0_6, x0_7, rfl, h⟩ := h
    replace h := dI_elim h
    obtain ⟨a1, rfl, h⟩ := h
    replace h := dI_elim h
    obtain ⟨a2, rfl, h⟩ := h
    replace h := dI_elim h
    obtain ⟨a3, rfl, h⟩ := h
    replace h := dI_elim h
    obtain ⟨a4, rfl, h⟩ := h
    replace h := dI_elim h
    obtain ⟨a5, rfl, h⟩ := h
    replace h := dI_elim h
    obtain ⟨a6, rfl, h⟩ := h
    replace h := dI_elim h
    obtain ⟨a7, rfl, h⟩ := h
    replace h := dI_elim h
    obtain ⟨a8, rfl, h⟩ := h
    replace h := dC_elim h
    obtain ⟨l2, hl2, h⟩ := h
    replace h := d2_elim h
    obtain ⟨x1_0, x1_1, rfl, h⟩ := h
    replace h := dI_elim h
    obtain ⟨a9, rfl, h⟩ := h
    replace h := dI_elim h
    obtain ⟨a10, rfl, h⟩ := h
    exact TabSem.congr (valL_cons (asCells_val hl1) (valL_cons (asCells_val hl2) rfl)) (Ent.sem okJ0 Try.func15 ⟨by kernel_rfl, by kernel_rfl⟩ rfl (v15 h))
  · replace h := d2_elim h
    obtain ⟨x0, x1, rfl, h⟩ := h
    replace h := dC_elim h
    obtain ⟨l1, hl1, h⟩ := h
    replace h := d8_elim h
    obtain ⟨x0_0, x0_1, x0_2, x0_3, x0_4, x0_5, x0_6, x0_7, rfl, h⟩ := h
    replace h := dI_elim h
    obtain ⟨a1, rfl, h⟩ := h
    replace h := dI_elim h
    obtain ⟨a2, rfl, h⟩ := h
    replace h := dI_elim h
    obtain ⟨a3, rfl, h⟩ := h
    replace h := dI_elim h
    obtain ⟨a4, rfl, h⟩ := h
    replace h := dI_elim h
    obtain ⟨a5, rfl, h⟩ := h
    replace h := dI_elim h
    obtain ⟨a6, rfl, h⟩ := h
    replace h := dI_elim h
    obtain ⟨a7, rfl, h⟩ := h
    replace h := dI_elim h
    obtain ⟨a8, rfl, h⟩ := h
    replace h := dC_elim h
    obtain ⟨l2, hl2, h⟩ := h
    replace h := d2_elim h
    obtain ⟨x1_0, x1_1, rfl, h⟩ := h
    replace h := dI_elim h
    obtain ⟨a9, rfl, h⟩ := h
    replace h := dI_elim h
    obtain ⟨a10, rfl, h⟩ := h
    exact TabSem.congr (valL_cons (asCells_val hl1) (valL_cons (asCells_val hl2) rfl)) (Ent.sem okJ0 Try.func16 ⟨by kernel_rfl, by kernel_rfl⟩ rfl (v16 h))
  · replace h := d2_elim h
    obtain ⟨x0, x1, rfl, h⟩ := h
    replace h := dC_elim h
    obtain ⟨l1, hl1, h⟩ := h
    replace h := d5_elim h
    obtain ⟨x0_0, x0_1, x0_2, x0_3, x0_4, rfl, h⟩ := h
    replace h := dI_elim h
    obtain ⟨a1, rfl, h⟩ := h
    replace h := dI_elim h
    obtain ⟨a2, rfl, h⟩ := h
    replace h := dI_elim h
    obtain ⟨a3, rfl, h⟩ := h
    replace h := dI_elim h
    obtain ⟨a4, rfl, h⟩ := h
    replace h := dI_elim h
    obtain ⟨a5, rfl, h⟩ := h
    replace h := dI_elim h
    obtain ⟨a6, rfl, h⟩ := h
    exact TabSem.congr (valL_cons (asCells_val hl1) (valL_cons rfl rfl)) (Ent.sem okJ0 Try.func17 ⟨by kernel_rfl, by kernel_rfl⟩ rfl (v17 h))
  · replace h := d2_elim h
    obtain ⟨x0, x1, rfl, h⟩ := h
    replace h := dC_elim h
    obtain ⟨l1, hl1, h⟩ := h
    replace h := d5_elim h
    obtain ⟨x0_0, x0_1, x0_2, x0_3, x0_4, rfl, h⟩ := h
    replace h := dI_elim h
    obtain ⟨a1, rfl, h⟩ := h
    replace h := dI_elim h
    obtain ⟨a2, rfl, h⟩ := h
    replace h := dI_elim h
    obtain ⟨a3, rfl, h⟩ := h
    replace h := dI_elim h
    obtain ⟨a4, rfl, h⟩ := h
    replace h := dI_elim h
    obtain ⟨a5, rfl, h⟩ := h
    replace h := dI_elim h
    obtain ⟨a6, rfl, h⟩ := h
    exact TabSem.congr (valL_cons (asCells_val hl1) (valL_cons rfl rfl)) (Ent.sem okJ0 Try.func18 ⟨by kernel_rfl, by kernel_rfl⟩ rfl (v18 h))
  · replace h := d4_elim h
    obtain ⟨x0, x1, x2, x3, rfl, h⟩ := h
    replace h := dC_elim h
    obtain ⟨l1, hl1, h⟩ := h
    replace h := d5_elim h
    obtain ⟨x0_0, x0_1, x0_2, x0_3, x0_4, rfl, h⟩ := h
    replace h := dI_elim h
    obtain ⟨a1, rfl, h⟩ := h
    replace h := dI_elim h
    obtain ⟨a2, rfl, h⟩ := h
    replace h := dI_elim h
    obtain ⟨a3, rfl, h⟩ := h
    replace h := dI_elim h
    obtain ⟨a4, rfl, h⟩ := h
    replace h := dI_elim h
    obtain ⟨a5, rfl, h⟩ := h
    replace h := dI_elim h
    obtain ⟨a6, rfl, h⟩ := h
    replace h := dC_elim h
    obtain ⟨l2, hl2, h⟩ := h
    replace h := d8_elim h
    obtain ⟨x2_0, x2_1, x2_2, x2_3, x2_4, x2_5, x2_6, x2_7, rfl, h⟩ := h
    replace h := dI_elim h
    obtain ⟨a7, rfl, h⟩ := h
    replace h := dI_elim h
    obtain ⟨a8, rfl, h⟩ := h
    replace h := dI_elim h
    obtain ⟨a9, rfl, h⟩ := h
    replace h := dI_elim h
    obtain ⟨a10, rfl, h⟩ := h
    replace h := dI_elim h
    obtain ⟨a11, rfl, h⟩ := h
    replace h := dI_elim h
    obtain ⟨a12, rfl, h⟩ := h
    replace h := dI_elim h
    obtain ⟨a13, rfl, h⟩ := h
    replace h := dI_elim h
    obtain ⟨a14, rfl, h⟩ := h
    replace h := dI_elim h
    obtain ⟨a15, rfl, h⟩ := h
    exact TabSem.congr (valL_cons (asCells_val hl1) (valL_cons rfl (valL_cons (asCells_val hl2) (valL_cons rfl rfl)))) (Ent.sem okJX Try.func14 ⟨by kernel_rfl, by kernel_rfl⟩ rfl (v14 h))
  · obtain ⟨rfl, h⟩ := d0_elim h
    exact TabSem.congr rfl (Ent.sem okJQ Try.func10 ⟨by kernel_rfl, by kernel_rfl⟩ rfl (t10 h))
  · exact h.elim
noncomputable def JL3 : Cx := { P := Try.prog, inl := fun f => List.contains [] f, tab := tabX, isB := fun _ => false, tabB := fun _ _ _ _ _ => False, opt := { unroll := 0, carry := [] }, muts := mutsD }
theorem okJL3 : CxOK JL3 := CxOK.four tabX_ok (by kernel_rfl) (okInl (by kernel_rfl)) (fun _ _ _ _ _ h => h.elim)
theorem e3 {a1 : Int} {a2 : Int} {a3 : Int} {a4 : Int} {a5 : Int} {a6 : Int} {a7 : Int} {a8 : Int} {a9 : Int} {a10 : Int} {a11 : Int} {a12 : Int} {a13 : Int} {a14 : Int} {a15 : Int} {a16 : Int} {a17 : Int} {a18 : Int} {a19 : Int} (ha1 : (Lit.int .i64 a1).wf = true) (ha2 : (Lit.int .i64 a2).wf = true) (ha3 : (Lit.int .i64 a3).wf = true) (ha4 : (Lit.int .i64 a4).wf = true) (ha5 : (Lit.int .i64 a5).wf = true) (ha6 : (Lit.int .i64 a6).wf = true) (ha7 : (Lit.int .i64 a7).wf = true) (ha8 : (Lit.int .i64 a8).wf = true) (ha9 : (Lit.int .i64 a9).wf = true) (ha10 : (Lit.int .i64 a10).wf = true) (ha11 : (Lit.int .i64 a11).wf = true) (ha12 : (Lit.int .i64 a12).wf = true) (ha13 : (Lit.int .i64 a13).wf = true) (ha14 : (Lit.int .i64 a14).wf = true) (ha15 : (Lit.int .i64 a15).wf = true) (ha16 : (Lit.int .i64 a16).wf = true) (ha17 : (Lit.int .i64 a17).wf = true) (ha18 : (Lit.int .i64 a18).wf = true) (ha19 : (Lit.int .i64 a19).wf = true) (h : K (B true) E) :
    Ent JL3 10 Try.f3 [.agg [I a1, I a2, I a3, I a4, I a5], .agg [I a6, I a7, I a8, I a9, I a10, I a11, I a12, I a13], .agg [I a14, I a15], I a16, I a17, I a18, I a19] E K := by
  refine same (by kernel_rfl) (?_ : 
      Mem.le E E ∧
        ∀ (p' s' n' t' r' k x y m c q f g e : Int),
          Hyp
              (ask { p := a1, s := a2, n := a3, t := a4, r := a5 : JS } a16 a17 a18 a19 =
                ({ p := p', s := s', n := n', t := t', r := r' : JS },
                  { k := k, x := x, y := y, m := m, c := c, q := q, f := f, g := g : WS }, e)) →
            Mem.le E E ∧
              ∀ (p'_1 s'_1 n'_1 t'_1 r'_1 k_1 x_1 y_1 m_1 c_1 q_1 f_1 g_1 e_1 : Int),
                Hyp
                    (ask { p := a1, s := a2, n := a3, t := a4, r := a5 : JS } a16 a17 a18 a19 =
                      ({ p := p'_1, s := s'_1, n := n'_1, t := t'_1, r := r'_1 : JS },
                        { k := k_1, x := x_1, y := y_1, m := m_1, c := c_1, q := q_1, f := f_1, g := g_1 : WS }, e_1)) →
                  Mem.le E E ∧
                    ∀ (p'_2 s'_2 n'_2 t'_2 r'_2 k_2 x_2 y_2 m_2 c_2 q_2 f_2 g_2 : Int) (v : Bool),
                      Hyp
                          (hear { p := a1, s := a2, n := a3, t := a4, r := a5 : JS } a16
                              { k := a6, x := a7, y := a8, m := a9, c := a10, q := a11, f := a12, g := a13 : WS } a19 =
                            ({ p := p'_2, s := s'_2, n := n'_2, t := t'_2, r := r'_2 : JS },
                              { k := k_2, x := x_2, y := y_2, m := m_2, c := c_2, q := q_2, f := f_2, g := g_2 : WS }, v)) →
                        Mem.le E E ∧
                          ∀ (p'_3 s'_3 n'_3 t'_3 r'_3 k_3 x_3 y_3 m_3 c_3 q_3 f_3 g_3 : Int) (v_1 : Bool),
                            Hyp
                                (hear { p := a1, s := a2, n := a3, t := a4, r := a5 : JS } a16
                                    { k := a6, x := a7, y := a8, m := a9, c := a10, q := a11, f := a12, g := a13 : WS } a19 =
                                  ({ p := p'_3, s := s'_3, n := n'_3, t := t'_3, r := r'_3 : JS },
                                    { k := k_3, x := x_3, y := y_3, m := m_3, c := c_3, q := q_3, f := f_3, g := g_3 : WS },
                                    v_1)) →
                              Mem.le E E ∧
                                ∀ (k_4 x_4 y_4 m_4 c_4 q_4 f_4 g_4 e_2 : Int),
                                  Hyp
                                      (judge
                                          { k := a6, x := a7, y := a8, m := a9, c := a10, q := a11, f := a12, g := a13 : WS }
                                          a14 a15 =
                                        ({ k := k_4, x := x_4, y := y_4, m := m_4, c := c_4, q := q_4, f := f_4, g := g_4 :
                                            WS },
                                          e_2)) →
                                    Mem.le E E ∧
                                      ∀ (k_5 x_5 y_5 m_5 c_5 q_5 f_5 g_5 e_3 : Int),
                                        Hyp
                                            (judge
                                                { k := a6, x := a7, y := a8, m := a9, c := a10, q := a11, f := a12, g := a13 :
                                                  WS }
                                                a14 a15 =
                                              ({ k := k_5, x := x_5, y := y_5, m := m_5, c := c_5, q := q_5, f := f_5,
                                                  g := g_5 : WS },
                                                e_3)) →
                                          Mem.le E E ∧
                                            bif
                                                bif true then
                                                  p' == p'_1 &&
                                                    (s' == s'_1 && (n' == n'_1 && (t' == t'_1 && (r' == r'_1 && true))))
                                                else false then
                                              bif
                                                  bif true then
                                                    k == k_1 &&
                                                      (x == x_1 &&
                                                        (y == y_1 &&
                                                          (m == m_1 &&
                                                            (c == c_1 &&
                                                              (q == q_1 && (f == f_1 && (g == g_1 && true) && true))))))
                                                  else false then
                                                bif bif true then e == e_1 else false then
                                                  bif
                                                      bif true then
                                                        p'_2 == p'_3 &&
                                                          (s'_2 == s'_3 &&
                                                            (n'_2 == n'_3 && (t'_2 == t'_3 && (r'_2 == r'_3 && true))))
                                                      else false then
                                                    bif
                                                        bif true then
                                                          k_2 == k_3 &&
                                                            (x_2 == x_3 &&
                                                              (y_2 == y_3 &&
                                                                (m_2 == m_3 &&
                                                                  (c_2 == c_3 &&
                                                                    (q_2 == q_3 &&
                                                                      (f_2 == f_3 && (g_2 == g_3 && true) && true))))))
                                                        else false then
                                                      bif bif true then v == v_1 else false then
                                                        bif
                                                            bif true then
                                                              k_4 == k_5 &&
                                                                (x_4 == x_5 &&
                                                                  (y_4 == y_5 &&
                                                                    (m_4 == m_5 &&
                                                                      (c_4 == c_5 &&
                                                                        (q_4 == q_5 &&
                                                                          (f_4 == f_5 && (g_4 == g_5 && true) && true))))))
                                                            else false then
                                                          bif bif true then e_2 == e_3 else false then
                                                            ∀ (p' s' n' t' r' : Int),
                                                              Hyp
                                                                  (late { p := a1, s := a2, n := a3, t := a4, r := a5 : JS }
                                                                      a19 =
                                                                    { p := p', s := s', n := n', t := t', r := r' : JS }) →
                                                                Mem.le E E ∧
                                                                  ∀ (p'_4 s'_4 n'_4 t'_4 r'_4 : Int),
                                                                    Hyp
                                                                        (late
                                                                            { p := a1, s := a2, n := a3, t := a4, r := a5 :
                                                                              JS }
                                                                            a19 =
                                                                          { p := p'_4, s := s'_4, n := n'_4, t := t'_4,
                                                                            r := r'_4 : JS }) →
                                                                      Mem.le E E ∧
                                                                        Mem.le E E ∧
                                                                          K
                                                                            (SV.raw
                                                                              (Value.bool
                                                                                (bif true then
                                                                                  p' == p'_4 &&
                                                                                    (s' == s'_4 &&
                                                                                      (n' == n'_4 &&
                                                                                        (t' == t'_4 && (r' == r'_4 && true))))
                                                                                else false)))
                                                                            E
                                                          else Mem.le E E ∧ K (SV.raw (Value.bool false)) E
                                                        else Mem.le E E ∧ K (SV.raw (Value.bool false)) E
                                                      else Mem.le E E ∧ K (SV.raw (Value.bool false)) E
                                                    else Mem.le E E ∧ K (SV.raw (Value.bool false)) E
                                                  else Mem.le E E ∧ K (SV.raw (Value.bool false)) E
                                                else Mem.le E E ∧ K (SV.raw (Value.bool false)) E
                                              else Mem.le E E ∧ K (SV.raw (Value.bool false)) E
                                            else Mem.le E E ∧ K (SV.raw (Value.bool false)) E)
  refine ⟨Mem.le_refl _, ?_⟩
  intro p2 s2 n2 t2 r2 k2 x2 y2 m2 c2 q2 f2 g2 e2 u2
  refine ⟨Mem.le_refl _, ?_⟩
  intro p3 s3 n3 t3 r3 k3 x3 y3 m3 c3 q3 f3 g3 e3 u3
  refine ⟨Mem.le_refl _, ?_⟩
  have w2 : ask _ _ _ _ _ = _ := u2
  have w3 : ask _ _ _ _ _ = _ := u3
  rw [w2] at w3
  clear u2 u3 w2
  simp only [Prod.mk.injEq, JS.mk.injEq, WS.mk.injEq] at w3
  obtain ⟨⟨rfl, rfl, rfl, rfl, rfl⟩, ⟨rfl, rfl, rfl, rfl, rfl, rfl, rfl, rfl⟩, rfl⟩ := w3
  intro p4 s4 n4 t4 r4 k4 x4 y4 m4 c4 q4 f4 g4 v4 u4
  refine ⟨Mem.le_refl _, ?_⟩
  intro p5 s5 n5 t5 r5 k5 x5 y5 m5 c5 q5 f5 g5 v5 u5
  refine ⟨Mem.le_refl _, ?_⟩
  have w4 : hear _ _ _ _ = _ := u4
  have w5 : hear _ _ _ _ = _ := u5
  rw [w4] at w5
  clear u4 u5 w4
  simp only [Prod.mk.injEq, JS.mk.injEq, WS.mk.injEq] at w5
  obtain ⟨⟨rfl, rfl, rfl, rfl, rfl⟩, ⟨rfl, rfl, rfl, rfl, rfl, rfl, rfl, rfl⟩, rfl⟩ := w5
  intro k6 x6 y6 m6 c6 q6 f6 g6 e6 u6
  refine ⟨Mem.le_refl _, ?_⟩
  intro k7 x7 y7 m7 c7 q7 f7 g7 e7 u7
  refine ⟨Mem.le_refl _, ?_⟩
  have w6 : judge _ _ _ = _ := u6
  have w7 : judge _ _ _ = _ := u7
  rw [w6] at w7
  clear u6 u7 w6
  simp only [Prod.mk.injEq, JS.mk.injEq, WS.mk.injEq] at w7
  obtain ⟨⟨rfl, rfl, rfl, rfl, rfl, rfl, rfl, rfl⟩, rfl⟩ := w7
  simp (decide := true) only [beq_self_eq_true, Bool.and_true, cond_true, Mem.le_refl, true_and]
  intro p8 s8 n8 t8 r8 u8 p9 s9 n9 t9 r9 u9
  have w8 : late _ _ = _ := u8
  have w9 : late _ _ = _ := u9
  rw [w8] at w9
  simp only [JS.mk.injEq] at w9
  obtain ⟨rfl, rfl, rfl, rfl, rfl⟩ := w9
  simp (decide := true) only [beq_self_eq_true, Bool.and_true, cond_true]
  exact h


theorem opn3 (W : World) (K : List SV → Prop) (h : ∀ a1 : Int, (Lit.int .i64 a1).wf = true → ∀ a2 : Int, (Lit.int .i64 a2).wf = true → ∀ a3 : Int, (Lit.int .i64 a3).wf = true → ∀ a4 : Int, (Lit.int .i64 a4).wf = true → ∀ a5 : Int, (Lit.int .i64 a5).wf = true → ∀ a6 : Int, (Lit.int .i64 a6).wf = true → ∀ a7 : Int, (Lit.int .i64 a7).wf = true → ∀ a8 : Int, (Lit.int .i64 a8).wf = true → ∀ a9 : Int, (Lit.int .i64 a9).wf = true → ∀ a10 : Int, (Lit.int .i64 a10).wf = true → ∀ a11 : Int, (Lit.int .i64 a11).wf = true → ∀ a12 : Int, (Lit.int .i64 a12).wf = true → ∀ a13 : Int, (Lit.int .i64 a13).wf = true → ∀ a14 : Int, (Lit.int .i64 a14).wf = true → ∀ a15 : Int, (Lit.int .i64 a15).wf = true → ∀ a16 : Int, (Lit.int .i64 a16).wf = true → ∀ a17 : Int, (Lit.int .i64 a17).wf = true → ∀ a18 : Int, (Lit.int .i64 a18).wf = true → ∀ a19 : Int, (Lit.int .i64 a19).wf = true → K [.agg [I a1, I a2, I a3, I a4, I a5], .agg [I a6, I a7, I a8, I a9, I a10, I a11, I a12, I a13], .agg [I a14, I a15], I a16, I a17, I a18, I a19]) : opnAll Try.prog W Try.f3.params.toList K :=
  same (by kernel_rfl) h

theorem sem3 (W : World) : opnAll Try.prog W Try.f3.params.toList fun ss => TabSem Try.prog 3 ss (fun v cs => RowAt W v cs) fun r _ => r = .raw (.bool true) := by
  refine opn3 W _ ?_
  intro a1 ha1 a2 ha2 a3 ha3 a4 ha4 a5 ha5 a6 ha6 a7 ha7 a8 ha8 a9 ha9 a10 ha10 a11 ha11 a12 ha12 a13 ha13 a14 ha14 a15 ha15 a16 ha16 a17 ha17 a18 ha18 a19 ha19
  exact Ent.sem okJL3 Try.func3 ⟨by kernel_rfl, by kernel_rfl⟩ rfl (e3 ha1 ha2 ha3 ha4 ha5 ha6 ha7 ha8 ha9 ha10 ha11 ha12 ha13 ha14 ha15 ha16 ha17 ha18 ha19 rfl)

theorem lifted3 (os : Os) (started : os.Started) (H : Type) (enc : TypeId × Value → H) :
    ReturnsInHanded {} Try.checked os 3 .any (Rows.joinMatchesReferenceSpec.pre6 enc Try.prog Try.f3 Rows.joinMatchesReferenceRow.domain false) (Rows.joinMatchesReferenceSpec.post enc Try.prog Try.f3 false true false false) :=
  lift_true (C := Try.checked) (by kernel_rfl) (by kernel_rfl) started (by kernel_rfl) Try.func3
    (ChangeSpec.witness6 (enc := enc) (C := Try.checked) false ⟨#[], #[.agg #[.int .i64 0, .int .i64 0, .int .i64 0, .int .i64 0, .int .i64 0], .agg #[.int .i64 0, .int .i64 0, .int .i64 0, .int .i64 0, .int .i64 0, .int .i64 0, .int .i64 0, .int .i64 0], .agg #[.int .i64 0, .int .i64 0], .int .i64 0, .int .i64 0, .int .i64 0, .int .i64 0], []⟩ 8 (by kernel_rfl) (by kernel_rfl) (by kernel_rfl) (by kernel_rfl))
    (Tb := 4) (by kernel_rfl) (by kernel_rfl) (by kernel_rfl) rfl
    (fun ds hl => by
      match ds, hl with
      | [d0, d1, d2, d3, d4, d5, d6], _ => exact ⟨rfl, rfl, rfl⟩)
    sem3

theorem over3 : Rows.joinMatchesReferenceRow.holds Try.pinned (OpenSpec.ofChange Rows.joinMatchesReferenceSpec) :=
  OpenClaim.holds_of_wide 3 Try.f3 rfl rfl rfl rfl rfl rfl rfl ⟨rfl, rfl, rfl, rfl, rfl⟩ rfl rfl rfl rfl rfl (by kernel_rfl) Try.func3 (by kernel_rfl)
    (of_decide_eq_true (by kernel_rfl)) (by unfold Func.isWrapper; first | (rw [if_pos (by decide +kernel)]; kernel_rfl) | (rw [if_neg (by decide +kernel)]; exact ⟨rfl, rfl⟩))
    (fun os started H enc _ => lifted3 os started H enc)

theorem proved3 : Rows.JoinMatchesReferenceSaid := over3
end Go.Proofs.Ythbfpaemiccjcaa.JoinOwn
