/- The law's proof: for every input the law answers true. Conditions: none. -/
import Derived.Test.YtlpcifknlncljaaDoorTp5
import Derived.Test.YtlpcifknlncljaaDoorCards
import Derived.Test.YtlpcifknlncljaaDoorTie
import Derived.Stop.Joined
import Derived.SevenTiedAt
import Derived.Test.YtlpcifknlncljaaDoorRows
namespace Go.Proofs.YtlpcifknlncljaaDoor.TopOwn
open Go Go.Sx Go.Proofs.YtlpcifknlncljaaDoor
set_option maxRecDepth 100000
set_option maxHeartbeats 4000000
set_option linter.unusedVariables false
set_option linter.unusedSimpArgs false
variable {E : Mem} {K : SV → Mem → Prop}
noncomputable def tabL4 : FuncId → List SV → Mem → (SV → Mem → Prop) → Prop := fun f args E K => match f with
  | 5 => d0 args (GR E ∧ (∀ E' : Mem, Mem.le E E' → K (B true) E'))
  | 6 => d1 args fun x0 => dI x0 fun a1 => ∃ (e : Int), RtE a1 e ∧ (K (.agg [I e, I (e + 2)]) E)
  | 11 => d5 args fun x0 x1 x2 x3 x4 => dS x0 fun b1 l2 c3 => dI x1 fun a4 => dI x2 fun a5 => dS x3 fun b6 l7 c8 => dI x4 fun a9 => ∃ (rs : List Dn) (zs : List Dn), SL Dw E b1 l2 c3 rs ∧ Up rs ∧ (∀ x ∈ rs, DV x) ∧ SL Dw E b6 l7 c8 zs ∧ Up zs ∧ H50 a4 a9 rs zs ⟨a4, 0, a5, 0⟩ l7 ∧ (0 ≤ a4 ∧ a4 < 60) ∧ (0 ≤ a5 ∧ a5 ≤ 1000000000) ∧ (∀ (b' : Option Addr) (n' c' : Nat) (E' : Mem), Mem.le E E' → SL Dw E' b' n' c' (lrn a4 a5 a9 rs zs) → K (.tup [L b' n' c', I 0]) E')
  | 12 => d1 args fun x0 => dS x0 fun b1 l2 c3 => ∃ (xs : List Dn), SL Dw E b1 l2 c3 xs ∧ Up xs ∧ (∀ x ∈ xs, DV x) ∧ l2 ≤ 1000 ∧ (∀ (b' : Option Addr) (c' : Nat) (E' : Mem), Mem.le E E' → SL Dw E' b' l2 c' (xs.map tellD) → K (L b' l2 c') E')
  | 16 => d2 args fun x0 x1 => dS x0 fun b1 l2 c3 => dI x1 fun a4 => ∃ (xs : List Dn), SL Dw E b1 l2 c3 xs ∧ Up xs ∧ (∀ x ∈ xs, DV x) ∧ l2 ≤ 1000 ∧ (∃ (j : Nat) (x : Dn), xs[j]? = some x ∧ x.t = a4) ∧ (∀ x : Dn, x ∈ xs → Hyp (x.t = a4) → K (.tup [I x.nx, B true]) E)
  | 36 => d5 args fun x0 x1 x2 x3 x4 => dC x0 fun l1 => d5 l1 fun x0_0 x0_1 x0_2 x0_3 x0_4 => dI x0_0 fun a1 => dI x0_1 fun a2 => dI x0_2 fun a3 => dI x0_3 fun a4 => dI x0_4 fun a5 => dI x1 fun a6 => dI x2 fun a7 => dI x3 fun a8 => dI x4 fun a9 => ((a1 = 0 ∧ a2 = -1 ∧ a3 = 0 ∧ a4 = 0 ∧ a5 = 0) ∧ a6 = 40 ∧ a9 = 1) ∧ (0 ≤ a7 ∧ a7 ≤ 1000000) ∧ (0 ≤ a8 ∧ a8 < 20) ∧ (∀ no : Int, Hyp (no = 256 * a7 + 1) → K (.tup [.agg [I 1, I a8, I no, I 1, I 1], .agg [I 1, I 40, I a8, I no, I 0, I 0, I 0, I 0], I 0]) E)
  | 37 => d4 args fun x0 x1 x2 x3 => dS x0 fun b1 l2 c3 => dI x1 fun a4 => dC x2 fun l1 => d8 l1 fun x2_0 x2_1 x2_2 x2_3 x2_4 x2_5 x2_6 x2_7 => dI x2_0 fun a5 => dI x2_1 fun a6 => dI x2_2 fun a7 => dI x2_3 fun a8 => dI x2_4 fun a9 => dI x2_5 fun a10 => dI x2_6 fun a11 => dI x2_7 fun a12 => dI x3 fun a13 => GR E ∧ (cond (a13 == 1) (NoB b1 l2 c3 ∧ ((0 ≤ a4 ∧ a4 < 20) ∧ a5 = 1) ∧ (a6 = 40 ∧ a7 = a4 ∧ (0 ≤ a8 ∧ a8 ≤ 1000000000) ∧ a9 = 0 ∧ a10 = 0 ∧ a11 = 0 ∧ a12 = 0) ∧ ∀ (r : Int) (b' : Option Addr) (c' : Nat) (E' : Mem), 0 ≤ r → r < 1000000000 → Mem.le E E' → Hf E' b' c' [40, a8, r, 13] false 0 → K (.tup [L b' 1 c', I 0]) E') ((l2 = 1 ∧ Hf E b1 c3 [40, a8, a9, 13] false 0 ∧ 0 ≤ a9 ∧ a9 < 1000000000) ∧ ((0 ≤ a4 ∧ a4 < 20) ∧ a13 = 2) ∧ (a5 = 3 ∧ a6 = 40 ∧ a7 = a4 ∧ (0 ≤ a8 ∧ a8 ≤ 1000000000) ∧ a10 = 1000040 ∧ a11 = 0 ∧ a12 = 0) ∧ ∀ (b' : Option Addr) (c' : Nat) (E' : Mem), Mem.le E E' → Hf E' b' c' [40, a8, a9, 13] true 1000040 → K (.tup [L b' 1 c', I 0]) E'))
  | 59 => d4 args fun x0 x1 x2 x3 => dS x0 fun b1 l2 c3 => dI x1 fun a4 => dI x2 fun a5 => dB x3 fun a6 => ∃ (no : Int) (r : Int) (ke : Int), l2 = 1 ∧ Hf E b1 c3 [40, no, r, 13] a6 ke ∧ (0 ≤ r ∧ r < 1000000000) ∧ (0 ≤ no ∧ no ≤ 1000000000) ∧ (0 ≤ a4 ∧ a4 < 20) ∧ ((a6 = true ∧ ke = 1000040) ∨ (a6 = false ∧ ke = 0)) ∧ (∀ (b' : Option Addr) (c' : Nat) (E' : Mem), Mem.le E E' → Wd E' b' c' [a5, 40, a4, no, r, ke, 0, 0] → K (L b' 1 c') E')
  | 39 => d4 args fun x0 x1 x2 x3 => dC x0 fun l1 => d5 l1 fun x0_0 x0_1 x0_2 x0_3 x0_4 => dI x0_0 fun a1 => dI x0_1 fun a2 => dI x0_2 fun a3 => dI x0_3 fun a4 => dI x0_4 fun a5 => dI x1 fun a6 => dC x2 fun l2 => d8 l2 fun x2_0 x2_1 x2_2 x2_3 x2_4 x2_5 x2_6 x2_7 => dI x2_0 fun a7 => dI x2_1 fun a8 => dI x2_2 fun a9 => dI x2_3 fun a10 => dI x2_4 fun a11 => dI x2_5 fun a12 => dI x2_6 fun a13 => dI x2_7 fun a14 => dI x3 fun a15 => (cond (a15 == 2) ((a1 = 1 ∧ a2 = a9 ∧ a3 = a10 ∧ a4 = 1 ∧ a5 = 1 ∧ a6 = 40 ∧ a8 = 40 ∧ (0 ≤ a9 ∧ a9 < 20) ∧ (0 ≤ a10 ∧ a10 ≤ 1000000000) ∧ (0 ≤ a11 ∧ a11 < 1000000000) ∧ a12 = 0 ∧ a13 = 0 ∧ a14 = 0 ∧ a7 = 2) ∧ K (.tup [.agg [I 2, I a9, I a10, I 1, I 1], .agg [I 3, I 40, I a9, I a10, I a11, I 1000040, I 0, I 0], B true]) E) ((a1 = 2 ∧ a2 = a9 ∧ a3 = a10 ∧ a4 = 1 ∧ a5 = 1 ∧ a6 = 40 ∧ a8 = 40 ∧ (0 ≤ a9 ∧ a9 < 20) ∧ (0 ≤ a10 ∧ a10 ≤ 1000000000) ∧ a7 = 4 ∧ a11 = 0 ∧ a12 = 1000040 ∧ a15 = 3) ∧ K (.tup [.agg [I 3, I a9, I a10, I 1, I 1], .agg [I 0, I 0, I 0, I 0, I 0, I 0, I 0, I 0], B true]) E))
  | 41 => d2 args fun x0 x1 => dC x0 fun l1 => d8 l1 fun x0_0 x0_1 x0_2 x0_3 x0_4 x0_5 x0_6 x0_7 => dI x0_0 fun a1 => dI x0_1 fun a2 => dI x0_2 fun a3 => dI x0_3 fun a4 => dI x0_4 fun a5 => dI x0_5 fun a6 => dI x0_6 fun a7 => dI x0_7 fun a8 => dC x1 fun l2 => d2 l2 fun x1_0 x1_1 => dI x1_0 fun a9 => dI x1_1 fun a10 => (a1 = 3 ∧ a2 = 40 ∧ (0 ≤ a3 ∧ a3 < 20) ∧ (0 ≤ a4 ∧ a4 ≤ 1000000000) ∧ a6 = 1000040) ∧ (0 ≤ a5 ∧ a5 < 1000000000) ∧ (a7 = 0 ∧ a8 = 0) ∧ (0 ≤ a9 ∧ a9 < a10 ∧ a10 ≤ 1000000000) ∧ (K (.tup [.agg [I 4, I 40, I a3, I a4, I 0, I 1000040, I a9, I a10], I 0]) E)
  | _ => False
theorem tabL4_ok : TabOK Tryd.prog tabL4 := by
  intro f args E K h
  unfold tabL4 at h
  split at h
  · obtain ⟨rfl, h⟩ := d0_elim h
    obtain ⟨g0, h⟩ := h
    exact TabSem.congr rfl (Ent.sem okG1 Tryd.func5 ⟨by kernel_rfl, by kernel_rfl⟩ rfl (q5 g0 h))
  · replace h := d1_elim h
    obtain ⟨x0, rfl, h⟩ := h
    replace h := dI_elim h
    obtain ⟨a1, rfl, h⟩ := h
    obtain ⟨e, g0, h⟩ := h
    exact TabSem.congr (valL_cons rfl rfl) (Ent.sem okD1 Tryd.func6 ⟨by kernel_rfl, by kernel_rfl⟩ rfl (q6 g0 h))
  · replace h := d5_elim h
    obtain ⟨x0, x1, x2, x3, x4, rfl, h⟩ := h
    replace h := dS_elim h
    obtain ⟨b1, l2, c3, rfl, h⟩ := h
    replace h := dI_elim h
    obtain ⟨a4, rfl, h⟩ := h
    replace h := dI_elim h
    obtain ⟨a5, rfl, h⟩ := h
    replace h := dS_elim h
    obtain ⟨b6, l7, c8, rfl, h⟩ := h
    replace h := dI_elim h
    obtain ⟨a9, rfl, h⟩ := h
    obtain ⟨rs, zs, g0, g1, g2, g3, g4, g5, g6, g7, h⟩ := h
    exact TabSem.congr (valL_cons rfl (valL_cons rfl (valL_cons rfl (valL_cons rfl (valL_cons rfl rfl))))) (Ent.sem okN0 Tryd.func11 ⟨by kernel_rfl, by kernel_rfl⟩ rfl (m11 g0 g1 g2 g3 g4 g5 g6 g7 h))
  · replace h := d1_elim h
    obtain ⟨x0, rfl, h⟩ := h
    replace h := dS_elim h
    obtain ⟨b1, l2, c3, rfl, h⟩ := h
    obtain ⟨xs, g0, g1, g2, g3, h⟩ := h
    exact TabSem.congr (valL_cons rfl rfl) (Ent.sem okM5 Tryd.func12 ⟨by kernel_rfl, by kernel_rfl⟩ rfl (m12 g0 g1 g2 g3 h))
  · replace h := d2_elim h
    obtain ⟨x0, x1, rfl, h⟩ := h
    replace h := dS_elim h
    obtain ⟨b1, l2, c3, rfl, h⟩ := h
    replace h := dI_elim h
    obtain ⟨a4, rfl, h⟩ := h
    obtain ⟨xs, g0, g1, g2, g3, g4, h⟩ := h
    exact TabSem.congr (valL_cons rfl (valL_cons rfl rfl)) (Ent.sem okM4 Tryd.func16 ⟨by kernel_rfl, by kernel_rfl⟩ rfl (m16 g0 g1 g2 g3 g4 h))
  · replace h := d5_elim h
    obtain ⟨x0, x1, x2, x3, x4, rfl, h⟩ := h
    replace h := dC_elim h
    obtain ⟨l1, hl1, h⟩ := h
    replace h := d5_elim h
    obtain ⟨x0_0, x0_1, x0_2, x0_3, x0_4, rfl, h⟩ := h
    replace h := dI_elim h
    obtain ⟨a1, rfl, h⟩ := h
    replace h := dI_elim h
    obtain ⟨a2, rfl, h⟩ := h
    replace h := dI_elim h
    obtain ⟨a3, rfl, h⟩ := h
    replace h := dI_elim h
    obtain ⟨a4, rfl, h⟩ := h
    replace h := dI_elim h
    obtain ⟨a5, rfl, h⟩ := h
    replace h := dI_elim h
    obtain ⟨a6, rfl, h⟩ := h
    replace h := dI_elim h
    obtain ⟨a7, rfl, h⟩ := h
    replace h := dI_elim h
    obtain ⟨a8, rfl, h⟩ := h
    replace h := dI_elim h
    obtain ⟨a9, rfl, h⟩ := h
    obtain ⟨g0, g1, g2, h⟩ := h
    exact TabSem.congr (valL_cons (asCells_val hl1) (valL_cons rfl (valL_cons rfl (valL_cons rfl (valL_cons rfl rfl))))) (Ent.sem okV1 Tryd.func36 ⟨by kernel_rfl, by kernel_rfl⟩ rfl (u36 g0 g1 g2 h))
  · replace h := d4_elim h
    obtain ⟨x0, x1, x2, x3, rfl, h⟩ := h
    replace h := dS_elim h
    obtain ⟨b1, l2, c3, rfl, h⟩ := h
    replace h := dI_elim h
    obtain ⟨a4, rfl, h⟩ := h
    replace h := dC_elim h
    obtain ⟨l1, hl1, h⟩ := h
    replace h := d8_elim h
    obtain ⟨x2_0, x2_1, x2_2, x2_3, x2_4, x2_5, x2_6, x2_7, rfl, h⟩ := h
    replace h := dI_elim h
    obtain ⟨a5, rfl, h⟩ := h
    replace h := dI_elim h
    obtain ⟨a6, rfl, h⟩ := h
    replace h := dI_elim h
    obtain ⟨a7, rfl, h⟩ := h
    replace h := dI_elim h
    obtain ⟨a8, rfl, h⟩ := h
    replace h := dI_elim h
    obtain ⟨a9, rfl, h⟩ := h
    replace h := dI_elim h
    obtain ⟨a10, rfl, h⟩ := h
    replace h := dI_elim h
    obtain ⟨a11, rfl, h⟩ := h
    replace h := dI_elim h
    obtain ⟨a12, rfl, h⟩ := h
    replace h := dI_elim h
    obtain ⟨a13, rfl, h⟩ := h
    obtain ⟨g0, h⟩ := h
    exact TabSem.congr (valL_cons rfl (valL_cons rfl (valL_cons (asCells_val hl1) (valL_cons rfl rfl)))) (Ent.sem okU1 Tryd.func37 ⟨by kernel_rfl, by kernel_rfl⟩ rfl (u37 g0 h))
  · replace h := d4_elim h
    obtain ⟨x0, x1, x2, x3, rfl, h⟩ := h
    replace h := dS_elim h
    obtain ⟨b1, l2, c3, rfl, h⟩ := h
    replace h := dI_elim h
    obtain ⟨a4, rfl, h⟩ := h
    replace h := dI_elim h
    obtain ⟨a5, rfl, h⟩ := h
    replace h := dB_elim h
    obtain ⟨a6, rfl, h⟩ := h
    obtain ⟨no, r, ke, g0, g1, g2, g3, g4, g5, h⟩ := h
    exact TabSem.congr (valL_cons rfl (valL_cons rfl (valL_cons rfl (valL_cons rfl rfl)))) (Ent.sem okV1 Tryd.func59 ⟨by kernel_rfl, by kernel_rfl⟩ rfl (u59 g0 g1 g2 g3 g4 g5 h))
  · replace h := d4_elim h
    obtain ⟨x0, x1, x2, x3, rfl, h⟩ := h
    replace h := dC_elim h
    obtain ⟨l1, hl1, h⟩ := h
    replace h := d5_elim h
    obtain ⟨x0_0, x0_1, x0_2, x0_3, x0_4, rfl, h⟩ := h
    replace h := dI_elim h
    obtain ⟨a1, rfl, h⟩ := h
    replace h := dI_elim h
    obtain ⟨a2, rfl, h⟩ := h
    replace h := dI_elim h
    obtain ⟨a3, rfl, h⟩ := h
    replace h := dI_elim h
    obtain ⟨a4, rfl, h⟩ := h
    replace h := dI_elim h
    obtain ⟨a5, rfl, h⟩ := h
    replace h := dI_elim h
    obtain ⟨a6, rfl, h⟩ := h
    replace h := dC_elim h
    obtain ⟨l2, hl2, h⟩ := h
    replace h := d8_elim h
    obtain ⟨x2_0, x2_1, x2_2, x2_3, x2_4, x2_5, x2_6, x2_7, rfl, h⟩ := h
    replace h := dI_elim h
    obtain ⟨a7, rfl, h⟩ := h
    replace h := dI_elim h
    obtain ⟨a8, rfl, h⟩ := h
    replace h := dI_elim h
    obtain ⟨a9, rfl, h⟩ := h
    replace h := dI_elim h
    obtain ⟨a10, rfl, h⟩ := h
    replace h := dI_elim h
    obtain ⟨a11, rfl, h⟩ := h
    replace h := dI_elim h
    obtain ⟨a12, rfl, h⟩ := h
    replace h := dI_elim h
    obtain ⟨a13, rfl, h⟩ := h
    replace h := dI_elim h
    obtain ⟨a14, rfl, h⟩ := h
    replace h := dI_elim h
    obtain ⟨a15, rfl, h⟩ := h
    exact TabSem.congr (valL_cons (asCells_val hl1) (valL_cons rfl (valL_cons (asCells_val hl2) (valL_cons rfl rfl)))) (Ent.sem okV1 Tryd.func39 ⟨by kernel_rfl, by kernel_rfl⟩ rfl (u39 h))
  · replace h := d2_elim h
    obtain ⟨x0, x1, rfl, h⟩ := h
    replace h := dC_elim h
    obtain ⟨l1, hl1, h⟩ := h
    replace h := d8_elim h
    obtain ⟨x0_0, x0_1, x0_2, x0_3, x0_4, x0_5, x0_6, x0_7, rfl, h⟩ := h
    replace h := dI_elim h
    obtain ⟨a1, rfl, h⟩ := h
    replace h := dI_elim h
    obtain ⟨a2, rfl, h⟩ := h
    replace h := dI_elim h
    obtain ⟨a3, rfl, h⟩ := h
    replace h := dI_elim h
    obtain ⟨a4, rfl, h⟩ := h
    replace h := dI_elim h
    obtain ⟨a5, rfl, h⟩ := h
    replace h := dI_elim h
    obtain ⟨a6, rfl, h⟩ := h
    replace h := dI_elim h
    obtain ⟨a7, rfl, h⟩ := h
    replace h := dI_elim h
    obtain ⟨a8, rfl, h⟩ := h
    replace h := dC_elim h
    obtain ⟨l2, hl2, h⟩ := h
    replace h := d2_elim h
    obtain ⟨x1_0, x1_1, rfl, h⟩ := h
    replace h := dI_elim h
    obtain ⟨a9, rfl, h⟩ := h
    replace h := dI_elim h
    obtain ⟨a10, rfl, h⟩ := h
    obtain ⟨g0, g1, g2, g3, h⟩ := h
    exact TabSem.congr (valL_cons (asCells_val hl1) (valL_cons (asCells_val hl2) rfl)) (Ent.sem okV1 Tryd.func41 ⟨by kernel_rfl, by kernel_rfl⟩ rfl (u41 g0 g1 g2 g3 h))
  · exact h.elim
noncomputable def WL4 : Cx := { P := Tryd.prog, inl := fun f => List.contains [13, 14, 15, 17, 38, 40] f, tab := tabL4, isB := fun _ => false, tabB := fun _ _ _ _ _ => False, opt := { unroll := 0, unrollC := 3, carry := [12, 111, 21], cuts := [14, 21] }, muts := mutsD }
theorem okWL4 : CxOK WL4 := CxOK.four tabL4_ok (by kernel_rfl) (okInl (by kernel_rfl)) (fun _ _ _ _ _ h => h.elim)
theorem u8_wf {x : Int} (h : (Lit.int .u8 x).wf = true) : 0 ≤ x ∧ x ≤ 255 := by
  have e : IntKind.u8.min ≤ x ∧ x ≤ IntKind.u8.max := by simpa [Lit.wf] using h
  exact e
theorem loadV39 {vs : List Value} {p l c : Nat} {b : Option Addr} (h : vs[p]? = some (.slice b l c)) : LoadV Tryd.prog 39 vs p (L b l c) := loadV_cell (d := .slice 72) (by kernel_rfl) rfl h
def sh7 (b1 : Option Addr) (l1 c1 : Nat) (a1 a2 a3 : Int) (n i : Nat) (vs : List Value) (E : Mem) : St := ⟨[some (L b1 l1 c1), some (.raw (.int .u8 a1)), some (I a2), some (I a3), none, none, none, none, none, some (B true), some (I (n : Nat)), some (.slc 0 0 n n), some (I (i : Nat)), none, none, none, none, none, none, none, none, none, none, none, none, none, none, none, none, none, none, none, none, none, none, none, none, none, none, none, none, none, none, none, none, none, none, none, none, none, none, none, none, none, none, none, none, none, none, none, none, none, none, none, none, none, none, none, none, none, none, none, none, none, none, none, none, none, none, none, none, none, none, none, none, none, none, none, none, none, none, none, none, none, none, none, none, none, none, none, none, none, none, none, none, none, none, none, none, none, none, none, none, none, none, none, none, none, none, none, none, none, none, none, none, none, none, none, none, none, none, none, none, none, none, none, none, none, none, none, none, none, none, none, none, none, none, none, none, none, none, none, none, none, none, none, none, none, none], [⟨39, .vals vs, n * 1, true⟩], E⟩
def sh14 (a1 a2 a3 : Int) (n : Nat) (vs : List Value) (E : Mem) : St := ⟨[none, some (.raw (.int .u8 a1)), some (I a2), some (I a3), none, none, none, none, none, some (B true), some (I (n : Nat)), some (.slc 0 0 n n), none, none, none, none, none, none, none, none, none, none, none, none, none, none, none, none, none, none, none, none, none, none, none, none, none, none, none, none, none, none, none, none, none, none, none, none, none, none, none, none, none, none, none, none, none, none, none, none, none, none, none, none, none, none, none, none, none, none, none, none, none, none, none, none, none, none, none, none, none, none, none, none, none, none, none, none, none, none, none, none, none, none, none, none, none, none, none, none, none, none, none, none, none, none, none, none, none, none, none, none, none, none, none, none, none, none, none, none, none, none, none, none, none, none, none, none, none, none, none, none, none, none, none, none, none, none, none, none, none, none, none, none, none, none, none, none, none, none, none, none, none, none, none, none, none, none, none], [⟨39, .vals vs, n * 1, true⟩], E⟩
theorem r7 {b1 : Option Addr} {l1 c1 : Nat} {a1 a2 a3 : Int} {n i : Nat} {vs : List Value} {E0 : Mem} {rt : Nat → List Dn} {z1 : List Int} (hn : n = l1 + 1 ∧ n ≤ 20) (hl1 : l1 ≤ c1) (hz1 : z1.length = c1) (hc1 : c1 ≤ maxLen) (hw1 : ∀ x ∈ z1, (Lit.int .u8 x).wf = true) (hE1 : E (.slice b1 l1 c1) (z1.map (.int .u8))) (R : Rts E n vs rt) (T : TI n i rt) (hi : i < n) (hC : i = 0 → Ct WL4 12 Tryd.f4 [1, 1, 1, 1, 1, 1] 0 (pubK E0 K) (sh14 a1 a2 a3 n vs E))
    (ih : ∀ (p : Nat) (vs' : List Value) (E' : Mem), 0 < i → p < i → Mem.le E E' → Rts E' n vs' (rtS rt i p) → Lp WL4 12 Tryd.f4 [1, 1, 1, 1, 1, 0, 1, 0] 0 (pubK E0 K) (sh7 b1 l1 c1 a1 a2 a3 n (i - 1) vs' E')) : Rnd WL4 12 Tryd.f4 [1, 1, 1, 1, 1, 0, 1, 0] 0 (pubK E0 K) (sh7 b1 l1 c1 a1 a2 a3 n i vs E) := by
  refine same (by kernel_rfl) (?_ : bif decide ((↑i : Int) > (0 : Int)) then req ((0 : Int) ≤ IntKind.wrap IntKind.i64 ((↑i : Int) - (1 : Int)) ∧ IntKind.wrap IntKind.i64 ((↑i : Int) - (1 : Int)) < (↑l1 : Int)) ((∃ (cs : List Value), E (Value.slice b1 l1 c1) cs ∧ (cs = [] → False)) ∧ ∃ (n_1 : Int), LoadE WL4.P E 5 (Value.slice b1 l1 c1) (Int.toNat (IntKind.wrap IntKind.i64 ((↑i : Int) - (1 : Int))) * 1) (SV.raw (Value.int IntKind.u8 n_1)) ∧ ((↑i : Int) = (0 : Int) → False) ∧ req ((0 : Int) ≤ Int.tmod (IntKind.wrap IntKind.i64 n_1) (↑i : Int) ∧ Int.tmod (IntKind.wrap IntKind.i64 n_1) (↑i : Int) < (↑n : Int)) (∃ (base : Option Addr), ∃ (len : Nat), ∃ (cap : Nat), LoadV WL4.P 39 vs (0 + Int.toNat (Int.tmod (IntKind.wrap IntKind.i64 n_1) (↑i : Int)) * 1) (L base len cap) ∧ req ((0 : Int) ≤ (↑i : Int) ∧ (↑i : Int) < (↑n : Int)) (∃ (base_1 : Option Addr), ∃ (len_1 : Nat), ∃ (cap_1 : Nat), LoadV WL4.P 39 vs (0 + Int.toNat (↑i : Int) * 1) (L base_1 len_1 cap_1) ∧ ∃ (xs : List Dn), SL Dw E base_1 len_1 cap_1 xs ∧ Up xs ∧ (∀ (x : Dn), List.Mem x xs → DV x) ∧ len_1 ≤ 1000 ∧ ∀ (b' : Option Addr) (c' : Nat) (E' : Mem), Mem.le E E' → SL Dw E' b' len_1 c' (List.map tellD xs) → Mem.le E E' ∧ ∃ (rs : List Dn), ∃ (zs : List Dn), SL Dw E' base len cap rs ∧ Up rs ∧ (∀ (x : Dn), List.Mem x rs → DV x) ∧ SL Dw E' b' len_1 c' zs ∧ Up zs ∧ H50 (↑i : Int) (10 : Int) rs zs { t := (↑i : Int), nx := (0 : Int), sq := (1 : Int), un := (0 : Int) : Dn } len_1 ∧ ((0 : Int) ≤ (↑i : Int) ∧ (↑i : Int) < (60 : Int)) ∧ ((0 : Int) ≤ (1 : Int) ∧ (1 : Int) ≤ (1000000000 : Int)) ∧ ∀ (b' : Option Addr) (n' c' : Nat) (E'_1 : Mem), Mem.le E' E'_1 → SL Dw E'_1 b' n' c' (lrn (↑i : Int) (1 : Int) (10 : Int) rs zs) → Mem.le E' E'_1 ∧ req ((0 : Int) ≤ Int.tmod (IntKind.wrap IntKind.i64 n_1) (↑i : Int) ∧ Int.tmod (IntKind.wrap IntKind.i64 n_1) (↑i : Int) < (↑n : Int)) (0 + Int.toNat (Int.tmod (IntKind.wrap IntKind.i64 n_1) (↑i : Int)) * 1 + 1 ≤ List.length vs ∧ Lp WL4 12 Tryd.f4 [1, 1, 1, 1, 1, 0, 1, 0] 0 (pubK E0 K) { fr := [some (L b1 l1 c1), some (SV.raw (Value.int IntKind.u8 a1)), some (I a2), some (I a3), none, none, none, none, none, some (B true), some (I (↑n : Int)), some (SV.slc 0 0 n n), some (I (IntKind.wrap IntKind.i64 ((↑i : Int) - (1 : Int)))), none, none, none, none, none, none, none, none, none, none, none, none, none, none, none, none, none, none, none, none, none, none, none, none, none, none, none, none, none, none, none, none, none, none, none, none, none, none, none, none, none, none, none, none, none, none, none, none, none, none, none, none, none, none, none, none, none, none, none, none, none, none, none, none, none, none, none, none, none, none, none, none, none, none, none, none, none, none, none, none, none, none, none, none, none, none, none, none, none, none, none, none, none, none, none, none, none, none, none, none, none, none, none, none, none, none, none, none, none, none, none, none, none, none, none, none, none, none, none, none, none, none, none, none, none, none, none, none, none, none, none, none, none, none, none, none, none, none, none, none, none, none, none, none, none, none], bx := [(⟨39, Row.vals (layV vs (0 + Int.toNat (Int.tmod (IntKind.wrap IntKind.i64 n_1) (↑i : Int)) * 1) [Value.slice b' n' c']), n * 1, true⟩ : Box)], E := E'_1 : St })))) else Ct WL4 12 Tryd.f4 [1, 1, 1, 1, 1, 1] 0 (pubK E0 K) { fr := [some (L b1 l1 c1), some (SV.raw (Value.int IntKind.u8 a1)), some (I a2), some (I a3), none, none, none, none, none, some (B true), some (I (↑n : Int)), some (SV.slc 0 0 n n), some (I (↑i : Int)), none, none, none, none, none, none, none, none, none, none, none, none, none, none, none, none, none, none, none, none, none, none, none, none, none, none, none, none, none, none, none, none, none, none, none, none, none, none, some (I (↑i : Int)), some (B (decide ((↑i : Int) > (0 : Int)))), none, none, none, none, none, none, none, none, none, none, none, none, none, none, none, none, none, none, none, none, none, none, none, none, none, none, none, none, none, none, none, none, none, none, none, none, none, none, none, none, none, none, none, none, none, none, none, none, none, none, none, none, none, none, none, none, none, none, none, none, none, none, none, none, none, none, none, none, none, none, none, none, none, none, none, none, none, none, none, none, none, none, none, none, none, none, none, none, none, none, none, none, none, none, none, none, none, none, none, none, none, none, none, none, none, none], bx := [(⟨39, Row.vals vs, n * 1, true⟩ : Box)], E := E : St })
  refine condC (fun g => ?_) (fun g => ?_)
  · have g : 0 < i := by simpa using g
    have hI : Ints .u8 E b1 l1 c1 z1 := ⟨hE1, by omega, by omega⟩
    have w1 : IntKind.wrap .i64 ((i : Int) - 1) = ((i - 1 : Nat) : Int) := by rw [wrap_i64 (by omega)]; omega
    rw [w1]
    refine req_intro ⟨by omega, by omega⟩ ⟨hI.ne (i := i - 1) (by omega), z1.getD (i - 1) 0, hI.load (by kernel_rfl) (i := i - 1) (by omega), fun q => by omega, ?_⟩
    have hg : z1.getD (i - 1) 0 ∈ z1 := by
      rw [List.getD_eq_getElem?_getD, List.getElem?_eq_getElem (by omega)]; exact List.getElem_mem _
    have hw := u8_wf (hw1 _ hg)
    generalize z1.getD (i - 1) 0 = d at hw
    rw [wrap_i64 (x := d) (by omega), Int.tmod_eq_emod_of_nonneg hw.1]
    have m1 := Int.emod_nonneg d (b := (i : Int)) (by omega)
    have m2 := Int.emod_lt_of_pos d (b := (i : Int)) (by omega)
    obtain ⟨p, hp⟩ : ∃ p : Nat, d % (i : Int) = (p : Int) := ⟨(d % (i : Int)).toNat, by omega⟩
    rw [hp] at m1 m2 ⊢
    have hp2 : p < i := by omega
    obtain ⟨bp, lp, cp, v1, S1⟩ := R.get p (by omega)
    obtain ⟨bi, li, ci, v2, S2⟩ := R.get i hi
    have U1 := T.up p (by omega)
    have U2 := T.up i hi
    have H := T.H hi hp2
    have s2 := S2.len
    have u2 := U2.len
    rw [s2] at H
    have e0 : 0 + Int.toNat (p : Int) * 1 = p := by omega
    have e1 : 0 + Int.toNat (i : Int) * 1 = i := by omega
    rw [e0, e1]
    refine req_intro ⟨by omega, by omega⟩ ⟨bp, lp, cp, loadV39 v1, req_intro ⟨by omega, by omega⟩ ⟨bi, li, ci, loadV39 v2, rt i, S2, U2, T.dv i hi, by omega, fun b' c' E1 k1 S3 => ⟨k1, rt p, (rt i).map tellD, S1.mono okDw k1, U1, T.dv p (by omega), S3, U2.tell, H, ⟨by omega, by omega⟩, ⟨by decide, by decide⟩, fun b2 n2 c2 E2 k2 S4 => ⟨k2, req_intro ⟨by omega, by omega⟩ ⟨by have := R.len; omega, ?_⟩⟩⟩⟩⟩
    have ih := ih p _ E2 g hp2 (Mem.le_trans k1 k2) (R.step (rt' := rtS rt i p) (p := p) (Mem.le_trans k1 k2) (by omega) (by unfold rtS; rw [if_pos rfl]; exact S4) (fun v hv => if_neg hv))
    exact Lp_re [some 0] ih ⟨⟨by first | (simp; done) | (simp [St.pub]; done), by first | (simp; done) | (simp [St.pub]; done), fun j h => absurd h (Nat.not_lt_zero _)⟩, rfl, (by repeat' first | exact True.intro | refine And.intro (Or.inl rfl) ?_ | refine And.intro (Or.inr ⟨rfl, rfl⟩) ?_), (by repeat' first | exact True.intro | exact rfl | exact Or.inl rfl | fail | refine And.intro ?_ ?_), (show List.Nodup [0] from by decide), Mem.le_refl _⟩
  · have g : i = 0 := by simp at g; omega
    exact Ct_re [some 0] (hC g) ⟨⟨by first | (simp; done) | (simp [St.pub]; done), by first | (simp; done) | (simp [St.pub]; done), fun j h => absurd h (Nat.not_lt_zero _)⟩, rfl, (by repeat' first | exact True.intro | refine And.intro (Or.inl rfl) ?_ | refine And.intro (Or.inr ⟨rfl, rfl⟩) ?_), (by repeat' first | exact True.intro | exact rfl | exact Or.inl rfl | fail | refine And.intro ?_ ?_), (show List.Nodup [0] from by decide), Mem.le_refl _⟩
theorem lp7 {b1 : Option Addr} {l1 c1 : Nat} {a1 a2 a3 : Int} {n i : Nat} {vs : List Value} {E0 : Mem} {rt : Nat → List Dn} {z1 : List Int} (hn : n = l1 + 1 ∧ n ≤ 20) (hl1 : l1 ≤ c1) (hz1 : z1.length = c1) (hc1 : c1 ≤ maxLen) (hw1 : ∀ x ∈ z1, (Lit.int .u8 x).wf = true) (hE1 : E0 (.slice b1 l1 c1) (z1.map (.int .u8))) (hC : ∀ (rt : Nat → List Dn) (vs : List Value) (E : Mem), Mem.le E0 E → TI n 0 rt → Rts E n vs rt → Ct WL4 12 Tryd.f4 [1, 1, 1, 1, 1, 1] 0 (pubK E0 K) (sh14 a1 a2 a3 n vs E)) (hle : Mem.le E0 E) (R : Rts E n vs rt) (T : TI n i rt) (hi : i < n) : Lp WL4 12 Tryd.f4 [1, 1, 1, 1, 1, 0, 1, 0] 0 (pubK E0 K) (sh7 b1 l1 c1 a1 a2 a3 n i vs E) := by
  have key := Lp_ind okWL4 (n := 12) (fn := Tryd.f4) (p := [1, 1, 1, 1, 1, 0, 1, 0]) (n0 := 0) (K := pubK E0 K)
    (fun x : {x : Mem × (Nat → List Dn) × List Value × Nat // Mem.le E0 x.1 ∧ Rts x.1 n x.2.2.1 x.2.1 ∧ TI n x.2.2.2 x.2.1 ∧ x.2.2.2 < n} => sh7 b1 l1 c1 a1 a2 a3 n x.1.2.2.2 x.1.2.2.1 x.1.1)
    (fun x => x.1.2.2.2) (fun x ih => by
      obtain ⟨⟨E, rt, vs, i⟩, q1, q2, q3, q4⟩ := x
      have q4 : i < n := q4
      refine r7 hn hl1 hz1 hc1 hw1 (q1 _ _ hE1) q2 q3 q4 (fun q => hC rt vs E q1 (q ▸ q3) q2) fun p vs' E' g hp k R' => ih ⟨⟨E', rtS rt i p, vs', i - 1⟩, Mem.le_trans q1 k, R', q3.step q4 hn.2 hp, Nat.lt_of_le_of_lt (Nat.sub_le i 1) q4⟩ (Nat.sub_lt g Nat.one_pos))
  exact key ⟨⟨E, rt, vs, i⟩, hle, R, T, hi⟩
def sh21 (n me : Nat) (no : Int) (cap tot : Nat) (e : Int) (vs : List Value) (E : Mem) : St := ⟨[none, none, none, none, none, none, none, none, none, some (B true), some (I (n : Nat)), some (.slc 0 0 n n), none, none, none, none, some (I (me : Nat)), some (.loc 1 0), none, none, some (.slc 2 0 1 cap), none, none, none, none, none, none, none, none, none, none, none, none, none, none, none, none, none, none, none, none, none, none, none, none, none, none, none, none, none, none, none, none, none, none, none, none, none, none, none, none, none, none, none, none, none, none, none, none, none, none, none, none, none, none, none, none, none, none, none, none, none, none, none, none, none, none, none, none, none, none, none, none, none, none, none, none, none, none, none, none, none, none, none, none, none, none, none, none, none, none, none, none, none, none, none, none, none, none, none, none, none, none, none, none, none, none, none, none, none, none, none, none, none, none, none, none, none, none, none, none, none, none, none, none, none, none, none, none, none, none, none, none, none, none, none, none, none, none], [⟨39, .vals vs, n * 1, true⟩, ⟨46, .lst [I 40, I 2, I (me : Nat), I no, I 1, I 1], 6, true⟩, ⟨54, .lst [I 4, I 40, I (me : Nat), I no, I 0, I 1000040, I e, I (e + 2)], tot, true⟩], E⟩
theorem p14 {a1 a2 a3 : Int} {n : Nat} {vs : List Value} {E0 : Mem} (hG : GR E) (hE : Mem.le E0 E) (hn : 1 ≤ n ∧ n ≤ 20) (ha1 : 0 ≤ a1 ∧ a1 ≤ 255) (ha2 : 0 ≤ a2 ∧ a2 ≤ 1000000) (ha3 : 0 ≤ a3 ∧ a3 ≤ 1000000000)
    (h : ∀ (me : Nat) (no : Int) (cap tot : Nat) (e : Int) (E' : Mem), me < n → (0 ≤ no ∧ no ≤ 1000000000) → Mem.le E E' → Ct WL4 12 Tryd.f4 [1, 1, 1, 1, 1, 1, 1, 1, 1, 1, 1, 1] 0 (pubK E0 K) (sh21 n me no cap tot e vs E')) : Pc WL4 12 Tryd.f4 [1, 1, 1, 1, 1, 1] 0 (pubK E0 K) (sh14 a1 a2 a3 n vs E) := by
  refine same (by kernel_rfl) (?_ : ((↑n : Int) = (0 : Int) → False) ∧ (((0 : Int) = (0 : Int) ∧ (-1 : Int) = (-1 : Int) ∧ Sx.Alike (AlikeT.n AlikeT.l (AlikeT.n AlikeT.l AlikeT.l)) ((0 : Int) = (0 : Int))) ∧ (40 : Int) = (40 : Int) ∧ (1 : Int) = (1 : Int)) ∧ ((0 : Int) ≤ a2 ∧ a2 ≤ (1000000 : Int)) ∧ ((0 : Int) ≤ Int.tmod (IntKind.wrap IntKind.i64 a1) (↑n : Int) ∧ Int.tmod (IntKind.wrap IntKind.i64 a1) (↑n : Int) < (20 : Int)) ∧ ∀ (no : Int), Hyp (no = (256 : Int) * a2 + (1 : Int)) → Mem.le E E ∧ GR E ∧ NoB none 0 0 ∧ (((0 : Int) ≤ Int.tmod (IntKind.wrap IntKind.i64 a1) (↑n : Int) ∧ Int.tmod (IntKind.wrap IntKind.i64 a1) (↑n : Int) < (20 : Int)) ∧ (1 : Int) = (1 : Int)) ∧ ((40 : Int) = (40 : Int) ∧ Int.tmod (IntKind.wrap IntKind.i64 a1) (↑n : Int) = Int.tmod (IntKind.wrap IntKind.i64 a1) (↑n : Int) ∧ ((0 : Int) ≤ no ∧ no ≤ (1000000000 : Int)) ∧ Sx.Alike (AlikeT.n AlikeT.l (AlikeT.n AlikeT.l (AlikeT.n AlikeT.l AlikeT.l))) ((0 : Int) = (0 : Int))) ∧ ∀ (r : Int) (b' : Option Addr) (c' : Nat) (E' : Mem), (0 : Int) ≤ r → r < (1000000000 : Int) → Mem.le E E' → Hf E' b' c' [(40 : Int), no, r, (13 : Int)] false (0 : Int) → Mem.le E E' ∧ ∃ (no_1 : Int), ∃ (r : Int), ∃ (ke : Int), 1 = 1 ∧ Hf E' b' c' [(40 : Int), no_1, r, (13 : Int)] false ke ∧ ((0 : Int) ≤ r ∧ r < (1000000000 : Int)) ∧ ((0 : Int) ≤ no_1 ∧ no_1 ≤ (1000000000 : Int)) ∧ ((0 : Int) ≤ Int.tmod (IntKind.wrap IntKind.i64 a1) (↑n : Int) ∧ Int.tmod (IntKind.wrap IntKind.i64 a1) (↑n : Int) < (20 : Int)) ∧ (false = true ∧ ke = (1000040 : Int) ∨ false = false ∧ ke = (0 : Int)) ∧ ∀ (b'_1 : Option Addr) (c'_1 : Nat) (E'_1 : Mem), Mem.le E' E'_1 → Wd E'_1 b'_1 c'_1 [(2 : Int), (40 : Int), Int.tmod (IntKind.wrap IntKind.i64 a1) (↑n : Int), no_1, r, ke, (0 : Int), (0 : Int)] → Mem.le E' E'_1 ∧ Mem.le E' E'_1 ∧ (∃ (cs : List Value), E'_1 (Value.slice b'_1 1 c'_1) cs ∧ (cs = [] → False)) ∧ ∃ (n_1 : Int), ∃ (n_2 : Int), ∃ (n_3 : Int), ∃ (n_4 : Int), ∃ (n_5 : Int), ∃ (n_6 : Int), ∃ (n_7 : Int), ∃ (n_8 : Int), LoadE WL4.P E'_1 54 (Value.slice b'_1 1 c'_1) 0 (SV.agg [I n_1, I n_2, I n_3, I n_4, I n_5, I n_6, I n_7, I n_8]) ∧ ((1 : Int) = (1 : Int) ∧ Int.tmod (IntKind.wrap IntKind.i64 a1) (↑n : Int) = n_3 ∧ no = n_4 ∧ (1 : Int) = (1 : Int) ∧ (1 : Int) = (1 : Int) ∧ (40 : Int) = (40 : Int) ∧ n_2 = (40 : Int) ∧ ((0 : Int) ≤ n_3 ∧ n_3 < (20 : Int)) ∧ ((0 : Int) ≤ n_4 ∧ n_4 ≤ (1000000000 : Int)) ∧ ((0 : Int) ≤ n_5 ∧ n_5 < (1000000000 : Int)) ∧ n_6 = (0 : Int) ∧ n_7 = (0 : Int) ∧ n_8 = (0 : Int) ∧ n_1 = (2 : Int)) ∧ Mem.le E'_1 E'_1 ∧ GR E'_1 ∧ (1 = 1 ∧ Hf E'_1 b' c' [(40 : Int), n_4, n_5, (13 : Int)] false (0 : Int) ∧ (0 : Int) ≤ n_5 ∧ n_5 < (1000000000 : Int)) ∧ (((0 : Int) ≤ Int.tmod (IntKind.wrap IntKind.i64 a1) (↑n : Int) ∧ Int.tmod (IntKind.wrap IntKind.i64 a1) (↑n : Int) < (20 : Int)) ∧ (2 : Int) = (2 : Int)) ∧ ((3 : Int) = (3 : Int) ∧ (40 : Int) = (40 : Int) ∧ n_3 = Int.tmod (IntKind.wrap IntKind.i64 a1) (↑n : Int) ∧ ((0 : Int) ≤ n_4 ∧ n_4 ≤ (1000000000 : Int)) ∧ (1000040 : Int) = (1000040 : Int) ∧ Sx.Alike (AlikeT.n AlikeT.l AlikeT.l) ((0 : Int) = (0 : Int))) ∧ ∀ (b'_2 : Option Addr) (c'_2 : Nat) (E' : Mem), Mem.le E'_1 E' → Hf E' b'_2 c'_2 [(40 : Int), n_4, n_5, (13 : Int)] true (1000040 : Int) → Mem.le E'_1 E' ∧ ∃ (e : Int), RtE a3 e ∧ Mem.le E' E' ∧ ∃ (no_2 : Int), ∃ (r : Int), ∃ (ke : Int), (1 : Nat) = (1 : Nat) ∧ Hf E' b'_2 c'_2 [(40 : Int), no_2, r, (13 : Int)] true ke ∧ ((0 : Int) ≤ r ∧ r < (1000000000 : Int)) ∧ ((0 : Int) ≤ no_2 ∧ no_2 ≤ (1000000000 : Int)) ∧ ((0 : Int) ≤ Int.tmod (IntKind.wrap IntKind.i64 a1) (↑n : Int) ∧ Int.tmod (IntKind.wrap IntKind.i64 a1) (↑n : Int) < (20 : Int)) ∧ (true = true ∧ ke = (1000040 : Int) ∨ true = false ∧ ke = (0 : Int)) ∧ ∀ (b'_3 : Option Addr) (c'_3 : Nat) (E'_2 : Mem), Mem.le E' E'_2 → Wd E'_2 b'_3 c'_3 [(3 : Int), (40 : Int), Int.tmod (IntKind.wrap IntKind.i64 a1) (↑n : Int), no_2, r, ke, (0 : Int), (0 : Int)] → Mem.le E' E'_2 ∧ Mem.le E' E'_2 ∧ (∃ (cs : List Value), E'_2 (Value.slice b'_3 (1 : Nat) c'_3) cs ∧ (cs = [] → False)) ∧ ∃ (n_9 : Int), ∃ (n_10 : Int), ∃ (n_11 : Int), ∃ (n_12 : Int), ∃ (n_13 : Int), ∃ (n_14 : Int), ∃ (n_15 : Int), ∃ (n_16 : Int), LoadE WL4.P E'_2 (54 : Nat) (Value.slice b'_3 (1 : Nat) c'_3) (0 : Nat) (SV.agg [I n_9, I n_10, I n_11, I n_12, I n_13, I n_14, I n_15, I n_16]) ∧ (n_9 = (3 : Int) ∧ n_10 = (40 : Int) ∧ ((0 : Int) ≤ n_11 ∧ n_11 < (20 : Int)) ∧ ((0 : Int) ≤ n_12 ∧ n_12 ≤ (1000000000 : Int)) ∧ n_14 = (1000040 : Int)) ∧ ((0 : Int) ≤ n_13 ∧ n_13 < (1000000000 : Int)) ∧ (n_15 = (0 : Int) ∧ n_16 = (0 : Int)) ∧ ((0 : Int) ≤ e ∧ e < e + (2 : Int) ∧ e + (2 : Int) ≤ (1000000000 : Int)) ∧ Mem.le E'_2 E'_2 ∧ ∀ (cap' tot' : Nat), (1 : Nat) ≤ cap' → cap' * (8 : Nat) ≤ tot' → Mem.le E' E'_2 ∧ Ct WL4 (12 : Nat) Tryd.f4 [(1 : Nat), (1 : Nat), (1 : Nat), (1 : Nat), (1 : Nat), (1 : Nat), (1 : Nat), (1 : Nat), (1 : Nat), (1 : Nat), (1 : Nat), (1 : Nat)] (0 : Nat) (pubK E0 K) { fr := [none, some (SV.raw (Value.int IntKind.u8 a1)), some (I a2), some (I a3), none, none, none, none, none, some (B true), some (I (↑n : Int)), some (SV.slc (0 : Nat) (0 : Nat) n n), none, none, none, none, some (I (Int.tmod (IntKind.wrap IntKind.i64 a1) (↑n : Int))), some (SV.loc (1 : Nat) (0 : Nat)), some (L b'_2 (1 : Nat) c'_2), some (B true), some (SV.slc (11 : Nat) (0 : Nat) (1 : Nat) cap'), none, none, none, none, none, none, none, none, none, none, none, none, none, none, none, none, none, none, none, none, none, none, none, none, none, none, none, none, none, none, none, none, none, none, none, none, none, none, none, none, none, none, none, none, none, none, none, none, none, none, none, none, none, none, none, none, none, none, none, none, none, none, some (SV.raw (Value.int IntKind.u8 a1)), some (I (IntKind.wrap IntKind.i64 a1)), some (I (↑n : Int)), some (I (Int.tmod (IntKind.wrap IntKind.i64 a1) (↑n : Int))), some (SV.agg [I (0 : Int), I (-1 : Int), I (0 : Int), I (0 : Int), I (0 : Int)]), some (SV.agg [I (40 : Int), I (0 : Int), I (-1 : Int), I (0 : Int), I (0 : Int), I (0 : Int)]), some (SV.tup [L b' (1 : Nat) c', B true]), some (I a2), some (I (Int.tmod (IntKind.wrap IntKind.i64 a1) (↑n : Int))), some (SV.tup [L b' (1 : Nat) c', B true]), some (L b' (1 : Nat) c'), some (B true), some (L b' (1 : Nat) c'), some (I (Int.tmod (IntKind.wrap IntKind.i64 a1) (↑n : Int))), some (L b'_2 (1 : Nat) c'_2), some (L b'_2 (1 : Nat) c'_2), some (I (Int.tmod (IntKind.wrap IntKind.i64 a1) (↑n : Int))), some (I a3), some (SV.agg [I e, I (e + (2 : Int))]), some (SV.slc (11 : Nat) (0 : Nat) (1 : Nat) cap'), some (B true), some (B false), some (B false), some (SV.slc (11 : Nat) (0 : Nat) (1 : Nat) cap'), some (I (1 : Int)), some (B false), some (B false), none, none, none, none, none, none, none, none, none, none, none, none, none, none, none, none, none, none, none, none, none, none, none, none, none, none, none, none, none, none, none, none, none, none, none, none, none, none, none, none, none, none, none, none, none, none, none, none, none], bx := [(⟨(39 : Nat), Row.vals vs, n * (1 : Nat), true⟩ : Box), ⟨(46 : Nat), Row.lst [I (40 : Int), I (2 : Int), I n_3, I n_4, I (1 : Int), I (1 : Int)], (6 : Nat), true⟩, ⟨(44 : Nat), Row.lst [I (1 : Int), I (Int.tmod (IntKind.wrap IntKind.i64 a1) (↑n : Int)), I no, I (1 : Int), I (1 : Int)], (5 : Nat), true⟩, ⟨(54 : Nat), Row.lst [I (1 : Int), I (40 : Int), I (Int.tmod (IntKind.wrap IntKind.i64 a1) (↑n : Int)), I no, I (0 : Int), I (0 : Int), I (0 : Int), I (0 : Int)], (8 : Nat), true⟩, ⟨(54 : Nat), Row.lst [I n_1, I n_2, I n_3, I n_4, I n_5, I n_6, I n_7, I n_8], (8 : Nat), true⟩, ⟨(44 : Nat), Row.lst [I (2 : Int), I n_3, I n_4, I (1 : Int), I (1 : Int)], (5 : Nat), true⟩, ⟨(54 : Nat), Row.lst [I (3 : Int), I (40 : Int), I n_3, I n_4, I n_5, I (1000040 : Int), I (0 : Int), I (0 : Int)], (8 : Nat), true⟩, ⟨(25 : Nat), Row.lst [I e, I (e + (2 : Int))], (2 : Nat), true⟩, ⟨(54 : Nat), Row.lst [I n_9, I n_10, I n_11, I n_12, I n_13, I n_14, I n_15, I n_16], (8 : Nat), true⟩, ⟨(54 : Nat), Row.lst [I (4 : Int), I (40 : Int), I n_11, I n_12, I (0 : Int), I (1000040 : Int), I e, I (e + (2 : Int))], (8 : Nat), true⟩, ⟨(54 : Nat), Row.lst [I (4 : Int), I (40 : Int), I n_11, I n_12, I (0 : Int), I (1000040 : Int), I e, I (e + (2 : Int))], (8 : Nat), true⟩, ⟨(54 : Nat), Row.lst [I (4 : Int), I (40 : Int), I n_11, I n_12, I (0 : Int), I (1000040 : Int), I e, I (e + (2 : Int))], tot', true⟩], E := E'_2 : St })
  have m0 : Int.tmod (IntKind.wrap .i64 a1) (n : Int) = a1 % (n : Int) := by rw [wrap_i64 (by omega), Int.tmod_eq_emod_of_nonneg ha1.1]
  have m1 := Int.emod_nonneg a1 (b := (n : Int)) (by omega)
  have m2 := Int.emod_lt_of_pos a1 (b := (n : Int)) (by omega)
  obtain ⟨me, hm⟩ : ∃ me : Nat, a1 % (n : Int) = (me : Int) := ⟨(a1 % (n : Int)).toNat, by omega⟩
  rw [hm] at m0 m1 m2
  rw [m0]
  have hme : 0 ≤ (me : Int) ∧ (me : Int) < 20 := by omega
  have RR : RtE a3 (a3 / 2000) := ⟨by omega, by omega, by omega, by omega⟩
  generalize a3 / 2000 = e at RR
  have re := RR.ok
  have RR2 := RR
  obtain ⟨l, u, o1, o2⟩ := RR
  refine ⟨fun q => by omega, ⟨⟨rfl, rfl, alike rfl⟩, rfl, rfl⟩, ha2, hme, fun no hno => ?_⟩
  have hno : no = 256 * a2 + 1 := hno
  have hnn : 0 ≤ no ∧ no ≤ 1000000000 := by omega
  refine ⟨Mem.le_refl _, hG, ⟨rfl, rfl, rfl⟩, ⟨hme, rfl⟩, ⟨rfl, rfl, hnn, alike rfl⟩, fun r b1 c1 E1 r1 r2 k1 H1 => ⟨k1, no, r, 0, rfl, H1, ⟨r1, r2⟩, hnn, hme, .inr ⟨rfl, rfl⟩, fun b2 c2 E2 k2 W2 => ?_⟩⟩
  refine ⟨k2, k2, ⟨_, W2.row, by simp⟩, 2, 40, me, no, r, 0, 0, 0, ⟨_, W2.row, by kernel_rfl⟩, ⟨rfl, rfl, rfl, rfl, rfl, rfl, rfl, hme, hnn, ⟨r1, r2⟩, rfl, rfl, rfl, rfl⟩, Mem.le_refl _, hG.mono (Mem.le_trans k1 k2), ⟨rfl, H1.mono k2, r1, r2⟩, ⟨hme, rfl⟩, ⟨rfl, rfl, rfl, hnn, rfl, alike rfl⟩, fun b3 c3 E3 k3 H3 => ?_⟩
  refine ⟨k3, e, RR2, Mem.le_refl _, no, r, 1000040, rfl, H3, ⟨r1, r2⟩, hnn, hme, .inl ⟨rfl, rfl⟩, fun b4 c4 E4 k4 W4 => ?_⟩
  refine ⟨k4, k4, ⟨_, W4.row, by simp⟩, 3, 40, me, no, r, 1000040, 0, 0, ⟨_, W4.row, by kernel_rfl⟩, ⟨rfl, rfl, hme, hnn, rfl⟩, ⟨r1, r2⟩, ⟨rfl, rfl⟩, ⟨by omega, by omega, by omega⟩, Mem.le_refl _, fun cap tot c1 c2 => ⟨k4, ?_⟩⟩
  exact Ct_re [some 0, some 1, some 11] (h me no cap tot e E4 (by omega) hnn (Mem.le_trans k1 (Mem.le_trans k2 (Mem.le_trans k3 k4)))) ⟨⟨by first | (simp; done) | (simp [St.pub]; done), by first | (simp; done) | (simp [St.pub]; done), fun j h => absurd h (Nat.not_lt_zero _)⟩, rfl, (by repeat' first | exact True.intro | refine And.intro (Or.inl rfl) ?_ | refine And.intro (Or.inr ⟨rfl, rfl⟩) ?_), (by repeat' first | exact True.intro | exact rfl | exact Or.inl rfl | fail | refine And.intro ?_ ?_), (show List.Nodup [0, 1, 11] from by decide), Mem.le_refl _⟩
def sh23 (n me : Nat) (no : Int) (cap tot : Nat) (e : Int) (at_ k : Nat) (vs : List Value) (E : Mem) : St := ⟨[none, none, none, none, none, none, none, none, none, some (B true), some (I (n : Nat)), some (.slc 0 0 n n), none, none, none, none, some (I (me : Nat)), some (.loc 1 0), none, none, some (.slc 2 0 1 cap), some (I (at_ : Nat)), none, none, none, none, none, none, none, none, none, none, none, none, none, none, none, none, none, none, none, none, none, none, none, none, none, none, none, none, none, none, none, none, none, none, none, none, none, none, none, none, none, none, none, none, none, none, none, none, none, none, none, none, none, none, none, none, none, none, none, none, none, none, none, none, none, none, none, none, none, none, none, none, none, none, none, none, none, none, none, none, none, none, none, none, none, none, none, none, some (I (n : Nat)), some (I (k : Nat)), none, none, none, none, none, none, none, none, none, none, none, none, none, none, none, none, none, none, none, none, none, none, none, none, none, none, none, none, none, none, none, none, none, none, none, none, none, none, none, none, none, none, none, none, none, none, none], [⟨39, .vals vs, n * 1, true⟩, ⟨46, .lst [I 40, I 2, I (me : Nat), I no, I 1, I 1], 6, true⟩, ⟨54, .lst [I 4, I 40, I (me : Nat), I no, I 0, I 1000040, I e, I (e + 2)], tot, true⟩], E⟩
theorem p21 {n me cap tot : Nat} {no e : Int} {vs : List Value} {E0 : Mem} (h : Lp WL4 12 Tryd.f4 [1, 1, 1, 1, 1, 1, 1, 1, 1, 1, 1, 1, 1, 0, 1, 0] 0 (pubK E0 K) (sh23 n me no cap tot e 0 0 vs E)) : Pc WL4 12 Tryd.f4 [1, 1, 1, 1, 1, 1, 1, 1, 1, 1, 1, 1] 0 (pubK E0 K) (sh21 n me no cap tot e vs E) := by
  refine same (by kernel_rfl) (?_ : Lp WL4 12 Tryd.f4 [1, 1, 1, 1, 1, 1, 1, 1, 1, 1, 1, 1, 1, 0, 1, 0] 0 (pubK E0 K) { fr := [none, none, none, none, none, none, none, none, none, some (B true), some (I (↑n : Int)), some (SV.slc 0 0 n n), none, none, none, none, some (I (↑me : Int)), some (SV.loc 1 0), none, none, some (SV.slc 2 0 1 cap), some (I (0 : Int)), none, none, none, none, none, none, none, none, none, none, none, none, none, none, none, none, none, none, none, none, none, none, none, none, none, none, none, none, none, none, none, none, none, none, none, none, none, none, none, none, none, none, none, none, none, none, none, none, none, none, none, none, none, none, none, none, none, none, none, none, none, none, none, none, none, none, none, none, none, none, none, none, none, none, none, none, none, none, none, none, none, none, none, none, none, none, none, none, some (I (↑n : Int)), some (I (0 : Int)), none, none, none, none, none, none, none, none, none, none, none, none, none, none, none, none, none, none, none, none, none, none, none, none, none, none, none, none, none, none, none, none, none, none, none, none, none, none, none, none, none, none, none, none, none, none, none], bx := [(⟨39, Row.vals vs, n * 1, true⟩ : Box), ⟨46, Row.lst [I (40 : Int), I (2 : Int), I (↑me : Int), I no, I (1 : Int), I (1 : Int)], 6, true⟩, ⟨54, Row.lst [I (4 : Int), I (40 : Int), I (↑me : Int), I no, I (0 : Int), I (1000040 : Int), I e, I (e + (2 : Int))], tot, true⟩], E := E : St })
  exact Lp_re [some 0, some 1, some 2] h ⟨⟨by first | (simp; done) | (simp [St.pub]; done), by first | (simp; done) | (simp [St.pub]; done), fun j h => absurd h (Nat.not_lt_zero _)⟩, rfl, (by repeat' first | exact True.intro | refine And.intro (Or.inl rfl) ?_ | refine And.intro (Or.inr ⟨rfl, rfl⟩) ?_), (by repeat' first | exact True.intro | exact rfl | exact Or.inl rfl | fail | refine And.intro ?_ ?_), (show List.Nodup [0, 1, 2] from by decide), Mem.le_refl _⟩
theorem r23 {n me cap tot : Nat} {no e : Int} {vs : List Value} {E0 : Mem} {at_ k : Nat} {rt : Nat → List Dn} (T : TI n 0 rt) (R : Rts E n vs rt) (ha : at_ < n) (hk : k ≤ at_) (hn : n ≤ 20) (hme : me < n) (hno : 0 ≤ no ∧ no ≤ 1000000000) (inv : at_ = me ∨ ∃ x ∈ rt at_, x.t = (me : Int)) (hE : Mem.le E0 E) (h : K (B true) E)
    (ih : ∀ b : Nat, at_ < b → b < n → (b = me ∨ ∃ x ∈ rt b, x.t = (me : Int)) → Lp WL4 12 Tryd.f4 [1, 1, 1, 1, 1, 1, 1, 1, 1, 1, 1, 1, 1, 0, 1, 0] 0 (pubK E0 K) (sh23 n me no cap tot e b (k + 1) vs E)) : Rnd WL4 12 Tryd.f4 [1, 1, 1, 1, 1, 1, 1, 1, 1, 1, 1, 1, 1, 0, 1, 0] 0 (pubK E0 K) (sh23 n me no cap tot e at_ k vs E) := by
  refine same (by kernel_rfl) (?_ : bif decide ((↑k : Int) < (↑n : Int)) then bif (↑at_ : Int) == (↑me : Int) then ((2 : Int) = (2 : Int) ∧ (↑me : Int) = (↑me : Int) ∧ no = no ∧ (1 : Int) = (1 : Int) ∧ (1 : Int) = (1 : Int) ∧ (40 : Int) = (40 : Int) ∧ (40 : Int) = (40 : Int) ∧ ((0 : Int) ≤ (↑me : Int) ∧ (↑me : Int) < (20 : Int)) ∧ ((0 : Int) ≤ no ∧ no ≤ (1000000000 : Int)) ∧ (4 : Int) = (4 : Int) ∧ (0 : Int) = (0 : Int) ∧ (1000040 : Int) = (1000040 : Int) ∧ (3 : Int) = (3 : Int)) ∧ Mem.le E E ∧ Sx.Alike (AlikeT.n AlikeT.l AlikeT.l) (bif bif true then (↑at_ : Int) == (↑me : Int) else false then Mem.le E0 E ∧ K (B true) E else Mem.le E0 E ∧ K (B false) E) else req ((0 : Int) ≤ (↑at_ : Int) ∧ (↑at_ : Int) < (↑n : Int)) (∃ (base : Option Addr), ∃ (len : Nat), ∃ (cap_1 : Nat), LoadV WL4.P 39 vs (0 + Int.toNat (↑at_ : Int) * 1) (L base len cap_1) ∧ ∃ (xs : List Dn), SL Dw E base len cap_1 xs ∧ Up xs ∧ (∀ (x : Dn), List.Mem x xs → DV x) ∧ len ≤ 1000 ∧ (∃ (j : Nat), ∃ (x : Dn), xs[j]? = some x ∧ x.t = (↑me : Int)) ∧ ∀ (x : Dn), List.Mem x xs → Hyp (x.t = (↑me : Int)) → Mem.le E E ∧ bif bif false then true else decide (x.nx ≤ (↑at_ : Int)) then Mem.le E0 E ∧ K (B false) E else bif bif false then true else decide (x.nx ≥ (↑n : Int)) then Mem.le E0 E ∧ K (B false) E else Lp WL4 12 Tryd.f4 [1, 1, 1, 1, 1, 1, 1, 1, 1, 1, 1, 1, 1, 0, 1, 0] 0 (pubK E0 K) { fr := [none, none, none, none, none, none, none, none, none, some (B true), some (I (↑n : Int)), some (SV.slc 0 0 n n), none, none, none, none, some (I (↑me : Int)), some (SV.loc 1 0), none, none, some (SV.slc 2 0 1 cap), some (I x.nx), none, none, none, none, none, none, none, none, none, none, none, none, none, none, none, none, none, none, none, none, none, none, none, none, none, none, none, none, none, none, none, none, none, none, none, none, none, none, none, none, none, none, none, none, none, none, none, none, none, none, none, none, none, none, none, none, none, none, none, none, none, none, none, none, none, none, none, none, none, none, none, none, none, none, none, none, none, none, none, none, none, none, none, none, none, none, none, none, some (I (↑n : Int)), some (I (IntKind.wrap IntKind.i64 ((↑k : Int) + (1 : Int)))), none, none, none, none, none, none, none, none, none, none, none, none, none, none, none, none, none, none, none, none, none, none, none, none, none, none, none, none, none, none, none, none, none, none, none, none, none, none, none, none, none, none, none, none, none, none, none], bx := [(⟨39, Row.vals vs, n * 1, true⟩ : Box), ⟨46, Row.lst [I (40 : Int), I (2 : Int), I (↑me : Int), I no, I (1 : Int), I (1 : Int)], 6, true⟩, ⟨54, Row.lst [I (4 : Int), I (40 : Int), I (↑me : Int), I no, I (0 : Int), I (1000040 : Int), I e, I (e + (2 : Int))], tot, true⟩], E := E : St }) else ((2 : Int) = (2 : Int) ∧ (↑me : Int) = (↑me : Int) ∧ no = no ∧ (1 : Int) = (1 : Int) ∧ (1 : Int) = (1 : Int) ∧ (40 : Int) = (40 : Int) ∧ (40 : Int) = (40 : Int) ∧ ((0 : Int) ≤ (↑me : Int) ∧ (↑me : Int) < (20 : Int)) ∧ ((0 : Int) ≤ no ∧ no ≤ (1000000000 : Int)) ∧ (4 : Int) = (4 : Int) ∧ (0 : Int) = (0 : Int) ∧ (1000040 : Int) = (1000040 : Int) ∧ (3 : Int) = (3 : Int)) ∧ Mem.le E E ∧ Sx.Alike (AlikeT.n AlikeT.l AlikeT.l) (bif bif true then (↑at_ : Int) == (↑me : Int) else false then Mem.le E0 E ∧ K (B true) E else Mem.le E0 E ∧ K (B false) E))
  refine condC (fun _ => condC (fun q => ⟨⟨rfl, rfl, rfl, rfl, rfl, rfl, rfl, ⟨by omega, by omega⟩, hno, rfl, rfl, rfl, rfl⟩, Mem.le_refl _, alike (condC (fun _ => ⟨hE, h⟩) (fun g => absurd g (by rw [show (bif true then (at_ : Int) == (me : Int) else false) = true from q]; decide)))⟩) (fun q => ?_)) (fun g => absurd g (by simp; omega))
  have q : at_ ≠ me := fun e => by subst e; simp at q
  obtain ⟨x0, hx0, ht0⟩ := inv.resolve_left q
  obtain ⟨b, l, c, v1, S1⟩ := R.get at_ ha
  have e1 : 0 + Int.toNat (at_ : Int) * 1 = at_ := by omega
  have s1 := S1.len
  have U1 := T.up at_ ha
  have u1 := U1.len
  rw [e1]
  refine req_intro ⟨by omega, by omega⟩ ⟨b, l, c, loadV39 v1, rt at_, S1, U1, T.dv at_ ha, by omega, (let ⟨j, hj⟩ := List.getElem?_of_mem hx0; ⟨j, x0, hj, ht0⟩), fun x hx ht => ⟨Mem.le_refl _, ?_⟩⟩
  obtain ⟨b2, f1, f2, f3, f4⟩ := T.hop ha hx ht
  rw [f1, wrap_i64 (x := (k : Int) + 1) (by omega)]
  exact condC (fun g => absurd g (by simp; omega)) (fun _ => condC (fun g => absurd g (by simp; omega)) (fun _ => Lp_re [some 0, some 1, some 2] (ih b2 f2 f3 f4) ⟨⟨by first | (simp; done) | (simp [St.pub]; done), by first | (simp; done) | (simp [St.pub]; done), fun j h => absurd h (Nat.not_lt_zero _)⟩, rfl, (by repeat' first | exact True.intro | refine And.intro (Or.inl rfl) ?_ | refine And.intro (Or.inr ⟨rfl, rfl⟩) ?_), (by repeat' first | exact True.intro | exact rfl | exact Or.inl rfl | fail | refine And.intro ?_ ?_), (show List.Nodup [0, 1, 2] from by decide), Mem.le_refl _⟩))
theorem lp23 {n me cap tot : Nat} {no e : Int} {vs : List Value} {E0 : Mem} {at_ k : Nat} {rt : Nat → List Dn} (T : TI n 0 rt) (R : Rts E n vs rt) (hn : n ≤ 20) (hme : me < n) (hno : 0 ≤ no ∧ no ≤ 1000000000) (hE : Mem.le E0 E) (h : K (B true) E) (ha : at_ < n) (hk : k ≤ at_) (inv : at_ = me ∨ ∃ x ∈ rt at_, x.t = (me : Int)) : Lp WL4 12 Tryd.f4 [1, 1, 1, 1, 1, 1, 1, 1, 1, 1, 1, 1, 1, 0, 1, 0] 0 (pubK E0 K) (sh23 n me no cap tot e at_ k vs E) := by
  have key := Lp_ind okWL4 (n := 12) (fn := Tryd.f4) (p := [1, 1, 1, 1, 1, 1, 1, 1, 1, 1, 1, 1, 1, 0, 1, 0]) (n0 := 0) (K := pubK E0 K)
    (fun x : {x : Nat × Nat // x.1 < n ∧ x.2 ≤ x.1 ∧ (x.1 = me ∨ ∃ y ∈ rt x.1, y.t = (me : Int))} => sh23 n me no cap tot e x.1.1 x.1.2 vs E)
    (fun x => n - x.1.1) (fun x ih => by
      obtain ⟨⟨a, k⟩, q1, q2, q3⟩ := x
      exact r23 T R q1 q2 hn hme hno q3 hE h fun b f1 f2 f3 => ih ⟨⟨b, k + 1⟩, f2, Nat.le_trans (Nat.succ_le_succ q2) f1, f3⟩ (Nat.sub_lt_sub_left q1 f1))
  exact key ⟨⟨at_, k⟩, ha, hk, inv⟩
theorem e4 {b1 : Option Addr} {l1 : Nat} {c1 : Nat} {z1 : List Int} {a1 : Int} {a2 : Int} {a3 : Int} (hl1 : l1 ≤ c1) (hc1 : c1 ≤ maxLen) (hb1 : b1 = none → c1 = 0) (hz1 : z1.length = c1) (hw1 : ∀ x ∈ z1, (Lit.int .u8 x).wf = true) (hE1 : E (.slice b1 l1 c1) (z1.map (.int .u8))) (ha1 : (Lit.int .u8 a1).wf = true) (ha2 : (Lit.int .i64 a2).wf = true) (ha3 : (Lit.int .i64 a3).wf = true) (hS : l1 ≤ reachBytes) (hG : GR E) (h : ∀ E' : Mem, Mem.le E E' → K (B true) E') :
    Ent WL4 12 Tryd.f4 [L b1 l1 c1, .raw (.int .u8 a1), I a2, I a3] E K := by
  refine same (by kernel_rfl) (?_ : GR E ∧ ∀ (E' : Mem), Mem.le E E' → Mem.le E E' ∧ bif decide (IntKind.wrap IntKind.i64 ((↑l1 : Int) + (1 : Int)) > (20 : Int)) then Mem.le E E' ∧ K (B true) E' else bif bif false then true else decide (a2 < (0 : Int)) then Mem.le E E' ∧ K (B true) E' else bif bif false then true else decide (a2 > (1000000 : Int)) then Mem.le E E' ∧ K (B true) E' else bif bif false then true else decide (a3 < (0 : Int)) then Mem.le E E' ∧ K (B true) E' else bif bif false then true else decide (a3 > (1000000000 : Int)) then Mem.le E E' ∧ K (B true) E' else req ((0 : Int) ≤ IntKind.wrap IntKind.i64 ((↑l1 : Int) + (1 : Int)) ∧ IntKind.wrap IntKind.i64 ((↑l1 : Int) + (1 : Int)) ≤ IntKind.wrap IntKind.i64 ((↑l1 : Int) + (1 : Int))) (req (IntKind.wrap IntKind.i64 ((↑l1 : Int) + (1 : Int)) * (24 : Int) ≤ (140737488355328 : Int)) (Lp WL4 12 Tryd.f4 [1, 1, 1, 1, 1, 0, 1, 0] 0 (pubK E K) { fr := [some (L b1 l1 c1), some (SV.raw (Value.int IntKind.u8 a1)), some (I a2), some (I a3), none, none, none, none, none, some (B true), some (I (IntKind.wrap IntKind.i64 ((↑l1 : Int) + (1 : Int)))), some (SV.slc 0 0 (Int.toNat (IntKind.wrap IntKind.i64 ((↑l1 : Int) + (1 : Int)))) (Int.toNat (IntKind.wrap IntKind.i64 ((↑l1 : Int) + (1 : Int))))), some (I (IntKind.wrap IntKind.i64 (IntKind.wrap IntKind.i64 ((↑l1 : Int) + (1 : Int)) - (1 : Int)))), none, none, none, none, none, none, none, none, none, none, none, some (B true), some (L b1 l1 c1), some (I (↑l1 : Int)), some (I (IntKind.wrap IntKind.i64 ((↑l1 : Int) + (1 : Int)))), some (I (IntKind.wrap IntKind.i64 ((↑l1 : Int) + (1 : Int)))), some (B (decide (IntKind.wrap IntKind.i64 ((↑l1 : Int) + (1 : Int)) > (20 : Int)))), some (B false), some (I a2), some (B (decide (a2 < (0 : Int)))), some (B (bif false then true else decide (a2 < (0 : Int)))), some (B false), some (I a2), some (B (decide (a2 > (1000000 : Int)))), some (B (bif false then true else decide (a2 > (1000000 : Int)))), some (B false), some (I a3), some (B (decide (a3 < (0 : Int)))), some (B (bif false then true else decide (a3 < (0 : Int)))), some (B false), some (I a3), some (B (decide (a3 > (1000000000 : Int)))), some (B (bif false then true else decide (a3 > (1000000000 : Int)))), none, some (I (IntKind.wrap IntKind.i64 ((↑l1 : Int) + (1 : Int)))), some (SV.slc 0 0 (Int.toNat (IntKind.wrap IntKind.i64 ((↑l1 : Int) + (1 : Int)))) (Int.toNat (IntKind.wrap IntKind.i64 ((↑l1 : Int) + (1 : Int))))), some (I (IntKind.wrap IntKind.i64 ((↑l1 : Int) + (1 : Int)))), some (I (IntKind.wrap IntKind.i64 (IntKind.wrap IntKind.i64 ((↑l1 : Int) + (1 : Int)) - (1 : Int)))), none, none, none, none, none, none, none, none, none, none, none, none, none, none, none, none, none, none, none, none, none, none, none, none, none, none, none, none, none, none, none, none, none, none, none, none, none, none, none, none, none, none, none, none, none, none, none, none, none, none, none, none, none, none, none, none, none, none, none, none, none, none, none, none, none, none, none, none, none, none, none, none, none, none, none, none, none, none, none, none, none, none, none, none, none, none, none, none, none, none, none, none, none, none, none, none, none, none, none, none, none, none, none, none, none, none, none, none], bx := [(⟨39, Row.vals (zerosV [Value.slice none 0 0] (Int.toNat (IntKind.wrap IntKind.i64 ((↑l1 : Int) + (1 : Int))))), Int.toNat (IntKind.wrap IntKind.i64 ((↑l1 : Int) + (1 : Int))) * 1, true⟩ : Box)], E := E' : St })))
  have hmx : reachBytes ≤ 140737488355328 := by decide
  have w1 : IntKind.wrap .i64 ((l1 : Int) + 1) = ((l1 + 1 : Nat) : Int) := by rw [wrap_i64 (by omega)]; omega
  rw [w1]
  refine ⟨hG, fun E' k => ⟨k, condC (fun _ => ⟨k, h E' k⟩) (fun g1 => condC (fun _ => ⟨k, h E' k⟩) (fun g2 => condC (fun _ => ⟨k, h E' k⟩) (fun g3 => condC (fun _ => ⟨k, h E' k⟩) (fun g4 => condC (fun _ => ⟨k, h E' k⟩) (fun g5 => ?_)))))⟩⟩
  simp at g1 g2 g3 g4 g5
  have hn : l1 + 1 = l1 + 1 ∧ l1 + 1 ≤ 20 := ⟨rfl, by omega⟩
  have w2 : IntKind.wrap .i64 (((l1 + 1 : Nat) : Int) - 1) = ((l1 + 1 - 1 : Nat) : Int) := by rw [wrap_i64 (by omega)]; omega
  rw [w2, Int.toNat_natCast]
  have q1 : (0 : Int) ≤ ((l1 + 1 : Nat) : Int) ∧ ((l1 + 1 : Nat) : Int) ≤ ((l1 + 1 : Nat) : Int) := ⟨by omega, by omega⟩
  have q2 : ((l1 + 1 : Nat) : Int) * 24 ≤ 140737488355328 := by omega
  refine req_intro q1 ?_
  refine @req_intro _ _ _ ?_ ?_
  · omega
  have L := lp7 (a1 := a1) (a2 := a2) (a3 := a3) hn hl1 hz1 hc1 hw1 hE1 (fun rt vs E2 k2 T R => Ct_intro okWL4 (p14 (hG.mono k2) k2 (by omega) (u8_wf ha1) (by omega) (by omega) fun me no cap tot e E3 h1 h2 k3 => Ct_intro okWL4 (p21 (lp23 T (R.mono k3) hn.2 h1 h2 (Mem.le_trans k2 k3) (h E3 (Mem.le_trans k2 k3)) (by omega) (Nat.le_refl _) (by
    by_cases q : me = 0
    · exact .inl q.symm
    · obtain ⟨v, z1, x, z2, z3⟩ := T.cv me (by omega) h1
      have : v = 0 := by omega
      subst this
      exact .inr ⟨x, z2, z3⟩))))) k Rts.start (TI.start (n := l1 + 1) (by omega)) (by omega)
  exact Lp_re [some 0] L ⟨⟨by first | (simp; done) | (simp [St.pub]; done), by first | (simp; done) | (simp [St.pub]; done), fun j h => absurd h (Nat.not_lt_zero _)⟩, rfl, (by repeat' first | exact True.intro | refine And.intro (Or.inl rfl) ?_ | refine And.intro (Or.inr ⟨rfl, rfl⟩) ?_), (by repeat' first | exact True.intro | exact rfl | exact Or.inl rfl | fail | refine And.intro ?_ ?_), (show List.Nodup [0] from by decide), Mem.le_refl _⟩
theorem opn4 (W : World) (K : List SV → Prop) (h : ∀ (b1 : Option Addr) (l1 c1 : Nat) (z1 : List Int), (l1 ≤ c1) → (c1 ≤ maxLen) → (b1 = none → c1 = 0) → (z1.length = c1) → (∀ x ∈ z1, (Lit.int .u8 x).wf = true) → RowAt W (.slice b1 l1 c1) (z1.map (.int .u8)) → ∀ a1 : Int, (Lit.int .u8 a1).wf = true → ∀ a2 : Int, (Lit.int .i64 a2).wf = true → ∀ a3 : Int, (Lit.int .i64 a3).wf = true → K [L b1 l1 c1, .raw (.int .u8 a1), I a2, I a3]) : opnAll Tryd.prog W Tryd.f4.params.toList K :=
  same (by kernel_rfl) h
theorem sem4 (W : World) (hL : laidMetH Tryd.prog lst W) : opnAll Tryd.prog W Tryd.f4.params.toList fun ss => SzS ss → TabSem Tryd.prog 4 ss (fun v cs => RowAt W v cs) fun r _ => r = .raw (.bool true) := by
  refine opn4 W _ ?_
  intro b1 l1 c1 z1 hl1 hc1 hb1 hz1 hw1 hE1 a1 ha1 a2 ha2 a3 ha3 hS
  exact Ent.sem okWL4 Tryd.func4 ⟨by kernel_rfl, by kernel_rfl⟩ rfl (e4 hl1 hc1 hb1 hz1 hw1 hE1 ha1 ha2 ha3 (hS _ _ _ _ rfl) (GR_of hL) (fun _ _ => rfl))
theorem lifted4 (os : Os) (started : os.Started) (H : Type) (enc : TypeId × Value → H) :
    ReturnsInHanded {} Tryd.checked os 4 .any (fun w args => (Rows.topMailReachesSpec.pre enc Tryd.prog Tryd.f4 Rows.topMailReachesRow.domain false w args ∧ laidMetH Tryd.prog lst w) ∧ sizedMet enc Tryd.prog Tryd.f4 (OpenSpec.ofChange Rows.topMailReachesSpec) false w args) (Rows.topMailReachesSpec.post enc Tryd.prog Tryd.f4 false true false false) :=
  lift_sized (C := Tryd.checked) (X := fun w => laidMetH Tryd.prog lst w) (fun _ _ hh h => h.of_heap hh) (by kernel_rfl) (by kernel_rfl) started (by kernel_rfl) Tryd.func4
    (ChangeSpec.witness_shaped (enc := enc) (C := Tryd.checked) (os := os) (X := fun w _ => laidMetH Tryd.prog lst w) false (World.laidAll Tryd.prog os lst) #[.slice none 0 0, .int .u8 0, .int .i64 0, .int .i64 0] 8 (World.laidAll_os _ _ _)
      (World.shaped_of_ZipB (by kernel_rfl) (by kernel_rfl)) (by kernel_rfl) (by kernel_rfl) (by kernel_rfl)
      (by rw [MakeChecks.laidMetH_plain _ _ _ (by kernel_rfl)]; exact laidMet_laidAll _ (by kernel_rfl) (by kernel_rfl)))
    (Tb := 4) (by kernel_rfl) (by kernel_rfl) (by kernel_rfl) rfl
    (fun ds hl => by
      match ds, hl with
      | [d0, d1, d2, d3], _ => exact ⟨rfl, rfl, rfl⟩)
    (hps := rfl) (Tf := 27) (hTf := show Tryd.prog.underlying 27 = some (.slice 5) by kernel_rfl) (hef := Nat.le_of_ble_eq_true (by kernel_rfl)) sem4
theorem over4 : Rows.topMailReachesRow.holds Tryd.pinned (OpenSpec.ofChange Rows.topMailReachesSpec) :=
  OpenClaim.holds_of_wide 4 Tryd.f4 rfl rfl rfl rfl rfl rfl rfl ⟨rfl, rfl, rfl, rfl, rfl⟩ rfl rfl rfl rfl rfl (by kernel_rfl) Tryd.func4 (by kernel_rfl)
    (of_decide_eq_true (by kernel_rfl)) (by unfold Func.isWrapper; first | (rw [if_pos (by decide +kernel)]; kernel_rfl) | (rw [if_neg (by decide +kernel)]; exact ⟨rfl, rfl⟩))
    (fun os started H enc _ => lifted4 os started H enc)
theorem proved4 : Rows.TopMailReachesCardSaid :=
  Claim7.holds_tied_plain_at .later [] [.data] true (true, "86e86e81f19802ab7ac38010ce72b2899e4da109f49a941e02d8de23171cbd70") false
    over4 (fun _ h => by cases h) (by kernel_rfl) (fun _ h => by cases h) topMailReaches_row_tie rfl ⟨rfl, rfl⟩ (by kernel_rfl) rfl
    (fun f fn hf hfn => by
      obtain rfl : f = 4 := Option.some.inj ((show Tryd.prog.funcNamed "slotmesh/slotmeshtop.TopMailReaches" = some 4 by kernel_rfl).symm.trans hf) |>.symm
      obtain rfl : fn = Tryd.f4 := (Option.some.inj (Tryd.func4.symm.trans hfn)).symm
      exact ⟨by kernel_rfl, fun j t ht => by
        have hm : t ∈ Tryd.f4.params.toList := by simpa using Array.mem_of_getElem? ht
        have hall : (Tryd.f4.params.toList.all fun u => !Tryd.prog.wantsStandIn u) = true := by kernel_rfl
        exact (show Tryd.prog.wantsStandIn t = false by simpa using List.all_eq_true.1 hall t hm)⟩)
    (by kernel_rfl)
end Go.Proofs.YtlpcifknlncljaaDoor.TopOwn
