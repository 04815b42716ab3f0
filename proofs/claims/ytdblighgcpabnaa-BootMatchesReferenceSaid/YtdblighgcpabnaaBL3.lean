/- The law's proof: for every input the law answers true. Conditions: none. -/
import Derived.Test.YtdblighgcpabnaaBg27
import Derived.OpenShut
import Derived.Test.YtdblighgcpabnaaRows
namespace Go.Proofs.Ytdblighgcpabnaa.BootOwn
open Go Go.Sx Go.Proofs.Ytdblighgcpabnaa
set_option maxRecDepth 100000
set_option maxHeartbeats 4000000
set_option linter.unusedVariables false
set_option linter.unusedSimpArgs false
variable {E : Mem} {K : SV → Mem → Prop}
noncomputable def tabL3 : FuncId → List SV → Mem → (SV → Mem → Prop) → Prop := fun f args E K => match f with
  | 10 => d0 args ((∀ E' : Mem, Mem.le E E' → K (B true) E'))
  | 11 => d2 args fun x0 x1 => dI x0 fun a1 => dS x1 fun b2 l3 c4 => ∃ (zs : List Int) (s' : Int) (ys : List Int) (e : Int), Bs E b2 l3 c4 zs ∧ formatB a1 zs = ((s', ys), e) ∧ (∀ (b' : Option Addr) (l' c' : Nat) (E' : Mem), Mem.le E E' → Bs E' b' l' c' ys → K (.tup [.agg [I s', L b' l' c'], I e]) E')
  | 12 => d2 args fun x0 x1 => dI x0 fun a1 => dS x1 fun b2 l3 c4 => ∃ (zs : List Int) (s' : Int) (ys : List Int) (e : Int), Bs E b2 l3 c4 zs ∧ formatB a1 zs = ((s', ys), e) ∧ (∀ (b' : Option Addr) (l' c' : Nat) (E' : Mem), Mem.le E E' → Bs E' b' l' c' ys → K (.tup [.agg [I s', L b' l' c'], I e]) E')
  | 13 => d2 args fun x0 x1 => dC x0 fun l1 => d2 l1 fun x0_0 x0_1 => dI x0_0 fun a1 => dS x0_1 fun b2 l3 c4 => dC x1 fun l2 => d2 l2 fun x1_0 x1_1 => dI x1_0 fun a5 => dS x1_1 fun b6 l7 c8 => ∃ (zs : List Int), Bs E b2 l3 c4 zs ∧ Bs E b6 l7 c8 zs ∧ l3 ≤ 100000 ∧ a1 = a5 ∧ (K (B true) E)
  | 14 => d1 args fun x0 => dC x0 fun l1 => d2 l1 fun x0_0 x0_1 => dI x0_0 fun a1 => dS x0_1 fun b2 l3 c4 => ∃ (zs : List Int), Bs E b2 l3 c4 zs ∧ (∀ r : Bool, K (B r) E)
  | 15 => d1 args fun x0 => dC x0 fun l1 => d2 l1 fun x0_0 x0_1 => dI x0_0 fun a1 => dS x0_1 fun b2 l3 c4 => ∃ (zs : List Int) (v : Int) (d : List Int) (e : Int), Bs E b2 l3 c4 zs ∧ selectF a1 zs = ((v, d), e) ∧ (∀ (b' : Option Addr) (l' c' : Nat) (E' : Mem), Mem.le E E' → Bs E' b' l' c' d → K (.tup [I v, L b' l' c', I e]) E')
  | 16 => d1 args fun x0 => dC x0 fun l1 => d2 l1 fun x0_0 x0_1 => dI x0_0 fun a1 => dS x0_1 fun b2 l3 c4 => ∃ (zs : List Int) (v : Int) (d : List Int) (e : Int), Bs E b2 l3 c4 zs ∧ selectF a1 zs = ((v, d), e) ∧ (∀ (b' : Option Addr) (l' c' : Nat) (E' : Mem), Mem.le E E' → Bs E' b' l' c' d → K (.tup [I v, L b' l' c', I e]) E')
  | 17 => d3 args fun x0 x1 x2 => dC x0 fun l1 => d2 l1 fun x0_0 x0_1 => dI x0_0 fun a1 => dS x0_1 fun b2 l3 c4 => dI x1 fun a5 => dS x2 fun b6 l7 c8 => ∃ (zs : List Int) (p : List Int) (ms : List (Int × List Int)) (e : Int), Bs E b2 l3 c4 zs ∧ Bs E b6 l7 c8 p ∧ installF a1 zs a5 p = (ms, e) ∧ (∀ (b' : Option Addr) (l' c' : Nat) (E' : Mem), Mem.le E E' → FL E' b' l' c' ms → K (.tup [L b' l' c', I e]) E')
  | 18 => d3 args fun x0 x1 x2 => dC x0 fun l1 => d2 l1 fun x0_0 x0_1 => dI x0_0 fun a1 => dS x0_1 fun b2 l3 c4 => dI x1 fun a5 => dS x2 fun b6 l7 c8 => ∃ (zs : List Int) (p : List Int) (ms : List (Int × List Int)) (e : Int), Bs E b2 l3 c4 zs ∧ Bs E b6 l7 c8 p ∧ installF a1 zs a5 p = (ms, e) ∧ (∀ (b' : Option Addr) (l' c' : Nat) (E' : Mem), Mem.le E E' → FL E' b' l' c' ms → K (.tup [L b' l' c', I e]) E')
  | 19 => d3 args fun x0 x1 x2 => dC x0 fun l1 => d2 l1 fun x0_0 x0_1 => dI x0_0 fun a1 => dS x0_1 fun b2 l3 c4 => dI x1 fun a5 => dI x2 fun a6 => ∃ (zs : List Int) (ms : List (Int × List Int)) (e : Int), Bs E b2 l3 c4 zs ∧ markF a1 zs a5 a6 = (ms, e) ∧ (∀ (b' : Option Addr) (l' c' : Nat) (E' : Mem), Mem.le E E' → FL E' b' l' c' ms → K (.tup [L b' l' c', I e]) E')
  | 20 => d3 args fun x0 x1 x2 => dC x0 fun l1 => d2 l1 fun x0_0 x0_1 => dI x0_0 fun a1 => dS x0_1 fun b2 l3 c4 => dI x1 fun a5 => dI x2 fun a6 => ∃ (zs : List Int) (ms : List (Int × List Int)) (e : Int), Bs E b2 l3 c4 zs ∧ markF a1 zs a5 a6 = (ms, e) ∧ (∀ (b' : Option Addr) (l' c' : Nat) (E' : Mem), Mem.le E E' → FL E' b' l' c' ms → K (.tup [L b' l' c', I e]) E')
  | 21 => d2 args fun x0 x1 => dS x0 fun b1 l2 c3 => dS x1 fun b4 l5 c6 => ∃ (zs : List Int), Bs E b1 l2 c3 zs ∧ Bs E b4 l5 c6 zs ∧ l2 ≤ 100000 ∧ (K (B true) E)
  | 22 => d2 args fun x0 x1 => dS x0 fun b1 l2 c3 => dS x1 fun b4 l5 c6 => ∃ (ms : List (Int × List Int)), FL E b1 l2 c3 ms ∧ FL E b4 l5 c6 ms ∧ (∀ m ∈ ms, m.2.length ≤ 100000) ∧ l2 ≤ 100000 ∧ (K (B true) E)
  | 23 => d2 args fun x0 x1 => dC x0 fun l1 => d2 l1 fun x0_0 x0_1 => dI x0_0 fun a1 => dS x0_1 fun b2 l3 c4 => dI x1 fun a5 => ∃ (zs : List Int) (r : Int), Bs E b2 l3 c4 zs ∧ marksF a1 zs a5 = r ∧ (∀ E' : Mem, Mem.le E E' → K (I r) E')
  | 24 => d2 args fun x0 x1 => dC x0 fun l1 => d2 l1 fun x0_0 x0_1 => dI x0_0 fun a1 => dS x0_1 fun b2 l3 c4 => dI x1 fun a5 => ∃ (zs : List Int) (r : Int), Bs E b2 l3 c4 zs ∧ marksF a1 zs a5 = r ∧ (∀ E' : Mem, Mem.le E E' → K (I r) E')
  | _ => False
theorem tabL3_ok : TabOK Try.prog tabL3 := by
  intro f args E K h
  unfold tabL3 at h
  split at h
  · obtain ⟨rfl, h⟩ := d0_elim h
    exact TabSem.congr rfl (Ent.sem okQ4 Try.func10 ⟨by kernel_rfl, by kernel_rfl⟩ rfl (q10 h))
  · replace h := d2_elim h
    obtain ⟨x0, x1, rfl, h⟩ := h
    replace h := dI_elim h
    obtain ⟨a1, rfl, h⟩ := h
    replace h := dS_elim h
    obtain ⟨b2, l3, c4, rfl, h⟩ := h
    obtain ⟨zs, s', ys, e, g0, g1, h⟩ := h
    exact TabSem.congr (valL_cons rfl (valL_cons rfl rfl)) (Ent.sem okP6 Try.func11 ⟨by kernel_rfl, by kernel_rfl⟩ rfl (q11E g0 g1 h))
  · replace h := d2_elim h
    obtain ⟨x0, x1, rfl, h⟩ := h
    replace h := dI_elim h
    obtain ⟨a1, rfl, h⟩ := h
    replace h := dS_elim h
    obtain ⟨b2, l3, c4, rfl, h⟩ := h
    obtain ⟨zs, s', ys, e, g0, g1, h⟩ := h
    exact TabSem.congr (valL_cons rfl (valL_cons rfl rfl)) (Ent.sem okRF Try.func12 ⟨by kernel_rfl, by kernel_rfl⟩ rfl (q12E g0 g1 h))
  · replace h := d2_elim h
    obtain ⟨x0, x1, rfl, h⟩ := h
    replace h := dC_elim h
    obtain ⟨l1, hl1, h⟩ := h
    replace h := d2_elim h
    obtain ⟨x0_0, x0_1, rfl, h⟩ := h
    replace h := dI_elim h
    obtain ⟨a1, rfl, h⟩ := h
    replace h := dS_elim h
    obtain ⟨b2, l3, c4, rfl, h⟩ := h
    replace h := dC_elim h
    obtain ⟨l2, hl2, h⟩ := h
    replace h := d2_elim h
    obtain ⟨x1_0, x1_1, rfl, h⟩ := h
    replace h := dI_elim h
    obtain ⟨a5, rfl, h⟩ := h
    replace h := dS_elim h
    obtain ⟨b6, l7, c8, rfl, h⟩ := h
    obtain ⟨zs, g0, g1, g2, g3, h⟩ := h
    exact TabSem.congr (valL_cons (asCells_val hl1) (valL_cons (asCells_val hl2) rfl)) (Ent.sem okFA Try.func13 ⟨by kernel_rfl, by kernel_rfl⟩ rfl (q13E g0 g1 g2 g3 h))
  · replace h := d1_elim h
    obtain ⟨x0, rfl, h⟩ := h
    replace h := dC_elim h
    obtain ⟨l1, hl1, h⟩ := h
    replace h := d2_elim h
    obtain ⟨x0_0, x0_1, rfl, h⟩ := h
    replace h := dI_elim h
    obtain ⟨a1, rfl, h⟩ := h
    replace h := dS_elim h
    obtain ⟨b2, l3, c4, rfl, h⟩ := h
    obtain ⟨zs, g0, h⟩ := h
    exact TabSem.congr (valL_cons (asCells_val hl1) rfl) (Ent.sem okRG Try.func14 ⟨by kernel_rfl, by kernel_rfl⟩ rfl (q14 g0 h))
  · replace h := d1_elim h
    obtain ⟨x0, rfl, h⟩ := h
    replace h := dC_elim h
    obtain ⟨l1, hl1, h⟩ := h
    replace h := d2_elim h
    obtain ⟨x0_0, x0_1, rfl, h⟩ := h
    replace h := dI_elim h
    obtain ⟨a1, rfl, h⟩ := h
    replace h := dS_elim h
    obtain ⟨b2, l3, c4, rfl, h⟩ := h
    obtain ⟨zs, v, d, e, g0, g1, h⟩ := h
    exact TabSem.congr (valL_cons (asCells_val hl1) rfl) (Ent.sem okP4 Try.func15 ⟨by kernel_rfl, by kernel_rfl⟩ rfl (q15E g0 g1 h))
  · replace h := d1_elim h
    obtain ⟨x0, rfl, h⟩ := h
    replace h := dC_elim h
    obtain ⟨l1, hl1, h⟩ := h
    replace h := d2_elim h
    obtain ⟨x0_0, x0_1, rfl, h⟩ := h
    replace h := dI_elim h
    obtain ⟨a1, rfl, h⟩ := h
    replace h := dS_elim h
    obtain ⟨b2, l3, c4, rfl, h⟩ := h
    obtain ⟨zs, v, d, e, g0, g1, h⟩ := h
    exact TabSem.congr (valL_cons (asCells_val hl1) rfl) (Ent.sem okR4 Try.func16 ⟨by kernel_rfl, by kernel_rfl⟩ rfl (q16E g0 g1 h))
  · replace h := d3_elim h
    obtain ⟨x0, x1, x2, rfl, h⟩ := h
    replace h := dC_elim h
    obtain ⟨l1, hl1, h⟩ := h
    replace h := d2_elim h
    obtain ⟨x0_0, x0_1, rfl, h⟩ := h
    replace h := dI_elim h
    obtain ⟨a1, rfl, h⟩ := h
    replace h := dS_elim h
    obtain ⟨b2, l3, c4, rfl, h⟩ := h
    replace h := dI_elim h
    obtain ⟨a5, rfl, h⟩ := h
    replace h := dS_elim h
    obtain ⟨b6, l7, c8, rfl, h⟩ := h
    obtain ⟨zs, p, ms, e, g0, g1, g2, h⟩ := h
    exact TabSem.congr (valL_cons (asCells_val hl1) (valL_cons rfl (valL_cons rfl rfl))) (Ent.sem okP7 Try.func17 ⟨by kernel_rfl, by kernel_rfl⟩ rfl (q17E g0 g1 g2 h))
  · replace h := d3_elim h
    obtain ⟨x0, x1, x2, rfl, h⟩ := h
    replace h := dC_elim h
    obtain ⟨l1, hl1, h⟩ := h
    replace h := d2_elim h
    obtain ⟨x0_0, x0_1, rfl, h⟩ := h
    replace h := dI_elim h
    obtain ⟨a1, rfl, h⟩ := h
    replace h := dS_elim h
    obtain ⟨b2, l3, c4, rfl, h⟩ := h
    replace h := dI_elim h
    obtain ⟨a5, rfl, h⟩ := h
    replace h := dS_elim h
    obtain ⟨b6, l7, c8, rfl, h⟩ := h
    obtain ⟨zs, p, ms, e, g0, g1, g2, h⟩ := h
    exact TabSem.congr (valL_cons (asCells_val hl1) (valL_cons rfl (valL_cons rfl rfl))) (Ent.sem okRA Try.func18 ⟨by kernel_rfl, by kernel_rfl⟩ rfl (q18E g0 g1 g2 h))
  · replace h := d3_elim h
    obtain ⟨x0, x1, x2, rfl, h⟩ := h
    replace h := dC_elim h
    obtain ⟨l1, hl1, h⟩ := h
    replace h := d2_elim h
    obtain ⟨x0_0, x0_1, rfl, h⟩ := h
    replace h := dI_elim h
    obtain ⟨a1, rfl, h⟩ := h
    replace h := dS_elim h
    obtain ⟨b2, l3, c4, rfl, h⟩ := h
    replace h := dI_elim h
    obtain ⟨a5, rfl, h⟩ := h
    replace h := dI_elim h
    obtain ⟨a6, rfl, h⟩ := h
    obtain ⟨zs, ms, e, g0, g1, h⟩ := h
    exact TabSem.congr (valL_cons (asCells_val hl1) (valL_cons rfl (valL_cons rfl rfl))) (Ent.sem okP5 Try.func19 ⟨by kernel_rfl, by kernel_rfl⟩ rfl (q19E g0 g1 h))
  · replace h := d3_elim h
    obtain ⟨x0, x1, x2, rfl, h⟩ := h
    replace h := dC_elim h
    obtain ⟨l1, hl1, h⟩ := h
    replace h := d2_elim h
    obtain ⟨x0_0, x0_1, rfl, h⟩ := h
    replace h := dI_elim h
    obtain ⟨a1, rfl, h⟩ := h
    replace h := dS_elim h
    obtain ⟨b2, l3, c4, rfl, h⟩ := h
    replace h := dI_elim h
    obtain ⟨a5, rfl, h⟩ := h
    replace h := dI_elim h
    obtain ⟨a6, rfl, h⟩ := h
    obtain ⟨zs, ms, e, g0, g1, h⟩ := h
    exact TabSem.congr (valL_cons (asCells_val hl1) (valL_cons rfl (valL_cons rfl rfl))) (Ent.sem okR7 Try.func20 ⟨by kernel_rfl, by kernel_rfl⟩ rfl (q20E g0 g1 h))
  · replace h := d2_elim h
    obtain ⟨x0, x1, rfl, h⟩ := h
    replace h := dS_elim h
    obtain ⟨b1, l2, c3, rfl, h⟩ := h
    replace h := dS_elim h
    obtain ⟨b4, l5, c6, rfl, h⟩ := h
    obtain ⟨zs, g0, g1, g2, h⟩ := h
    exact TabSem.congr (valL_cons rfl (valL_cons rfl rfl)) (Ent.sem okQ1 Try.func21 ⟨by kernel_rfl, by kernel_rfl⟩ rfl (q21E g0 g1 g2 h))
  · replace h := d2_elim h
    obtain ⟨x0, x1, rfl, h⟩ := h
    replace h := dS_elim h
    obtain ⟨b1, l2, c3, rfl, h⟩ := h
    replace h := dS_elim h
    obtain ⟨b4, l5, c6, rfl, h⟩ := h
    obtain ⟨ms, g0, g1, g2, g3, h⟩ := h
    exact TabSem.congr (valL_cons rfl (valL_cons rfl rfl)) (Ent.sem okFE Try.func22 ⟨by kernel_rfl, by kernel_rfl⟩ rfl (q22E g0 g1 g2 g3 h))
  · replace h := d2_elim h
    obtain ⟨x0, x1, rfl, h⟩ := h
    replace h := dC_elim h
    obtain ⟨l1, hl1, h⟩ := h
    replace h := d2_elim h
    obtain ⟨x0_0, x0_1, rfl, h⟩ := h
    replace h := dI_elim h
    obtain ⟨a1, rfl, h⟩ := h
    replace h := dS_elim h
    obtain ⟨b2, l3, c4, rfl, h⟩ := h
    replace h := dI_elim h
    obtain ⟨a5, rfl, h⟩ := h
    obtain ⟨zs, r, g0, g1, h⟩ := h
    exact TabSem.congr (valL_cons (asCells_val hl1) (valL_cons rfl rfl)) (Ent.sem okP5 Try.func23 ⟨by kernel_rfl, by kernel_rfl⟩ rfl (q23E g0 g1 h))
  · replace h := d2_elim h
    obtain ⟨x0, x1, rfl, h⟩ := h
    replace h := dC_elim h
    obtain ⟨l1, hl1, h⟩ := h
    replace h := d2_elim h
    obtain ⟨x0_0, x0_1, rfl, h⟩ := h
    replace h := dI_elim h
    obtain ⟨a1, rfl, h⟩ := h
    replace h := dS_elim h
    obtain ⟨b2, l3, c4, rfl, h⟩ := h
    replace h := dI_elim h
    obtain ⟨a5, rfl, h⟩ := h
    obtain ⟨zs, r, g0, g1, h⟩ := h
    exact TabSem.congr (valL_cons (asCells_val hl1) (valL_cons rfl rfl)) (Ent.sem okR6 Try.func24 ⟨by kernel_rfl, by kernel_rfl⟩ rfl (q24E g0 g1 h))
  · exact h.elim
noncomputable def WL3 : Cx := { P := Try.prog, inl := fun f => List.contains [] f, tab := tabL3, isB := fun _ => false, tabB := fun _ _ _ _ _ => False, opt := { unroll := 0, carry := [] }, muts := mutsD }
theorem okWL3 : CxOK WL3 := CxOK.four tabL3_ok (by kernel_rfl) (okInl (by kernel_rfl)) (fun _ _ _ _ _ h => h.elim)
theorem e3 {a1 : Int} {b1 : Option Addr} {l1 : Nat} {c1 : Nat} {z1 : List Int} {a2 : Int} {b2 : Option Addr} {l2 : Nat} {c2 : Nat} {z2 : List Int} {a3 : Int} (ha1 : (Lit.int .i64 a1).wf = true) (hB1 : Bs E b1 l1 c1 z1) (hL1 : l1 ≤ 9223372036854775807) (ha2 : (Lit.int .i64 a2).wf = true) (hB2 : Bs E b2 l2 c2 z2) (hL2 : l2 ≤ 9223372036854775807) (ha3 : (Lit.int .i64 a3).wf = true) (h : ∀ E' : Mem, Mem.le E E' → K (B true) E') :
    Ent WL3 8 Try.f3 [.agg [I a1, L b1 l1 c1], I a2, L b2 l2 c2, I a3] E K := by
  refine same (by kernel_rfl) (?_ : ∀ (E' : Mem), Mem.le E E' → Mem.le E E' ∧ bif decide ((↑l2 : Int) > (5000 : Int)) then Mem.le E E' ∧ K (SV.raw (Value.bool true)) E' else ∃ (zs : List Int), ∃ (s' : Int), ∃ (ys : List Int), ∃ (e : Int), Bs E' b2 l2 c2 zs ∧ formatB a2 zs = ((s', ys), e) ∧ ∀ (b' : Option Addr) (l' c' : Nat) (E'_1 : Mem), Mem.le E' E'_1 → Bs E'_1 b' l' c' ys → Mem.le E' E'_1 ∧ ∃ (zs : List Int), ∃ (s'_1 : Int), ∃ (ys : List Int), ∃ (e_1 : Int), Bs E'_1 b2 l2 c2 zs ∧ formatB a2 zs = ((s'_1, ys), e_1) ∧ ∀ (b'_1 : Option Addr) (l'_1 c'_1 : Nat) (E' : Mem), Mem.le E'_1 E' → Bs E' b'_1 l'_1 c'_1 ys → Mem.le E'_1 E' ∧ bif e != e_1 then Mem.le E E' ∧ K (SV.raw (Value.bool false)) E' else ∃ (zs : List Int), Bs E' b' l' c' zs ∧ Bs E' b'_1 l'_1 c'_1 zs ∧ l' ≤ 100000 ∧ s' = s'_1 ∧ Mem.le E' E' ∧ bif decide ((↑l2 : Int) > (60 : Int)) then Mem.le E E' ∧ K (SV.raw (Value.bool true)) E' else ∃ (zs : List Int), Bs E' b1 l1 c1 zs ∧ ∀ (r : Bool), Mem.le E' E' ∧ bif bif false then true else !r then Mem.le E E' ∧ K (SV.raw (Value.bool true)) E' else ∃ (zs : List Int), ∃ (v : Int), ∃ (d : List Int), ∃ (e : Int), Bs E' b1 l1 c1 zs ∧ selectF a1 zs = ((v, d), e) ∧ ∀ (b' : Option Addr) (l' c' : Nat) (E'_2 : Mem), Mem.le E' E'_2 → Bs E'_2 b' l' c' d → Mem.le E' E'_2 ∧ ∃ (zs : List Int), ∃ (v_1 : Int), ∃ (d : List Int), ∃ (e_2 : Int), Bs E'_2 b1 l1 c1 zs ∧ selectF a1 zs = ((v_1, d), e_2) ∧ ∀ (b'_2 : Option Addr) (l'_2 c'_2 : Nat) (E' : Mem), Mem.le E'_2 E' → Bs E' b'_2 l'_2 c'_2 d → Mem.le E'_2 E' ∧ ∃ (zs : List Int), ∃ (p : List Int), ∃ (ms : List (Int × List Int)), ∃ (e_3 : Int), Bs E' b1 l1 c1 zs ∧ Bs E' b2 l2 c2 p ∧ installF a1 zs a2 p = (ms, e_3) ∧ ∀ (b'_3 : Option Addr) (l'_3 c'_3 : Nat) (E'_3 : Mem), Mem.le E' E'_3 → FL E'_3 b'_3 l'_3 c'_3 ms → Mem.le E' E'_3 ∧ ∃ (zs : List Int), ∃ (p : List Int), ∃ (ms : List (Int × List Int)), ∃ (e_4 : Int), Bs E'_3 b1 l1 c1 zs ∧ Bs E'_3 b2 l2 c2 p ∧ installF a1 zs a2 p = (ms, e_4) ∧ ∀ (b'_4 : Option Addr) (l'_4 c'_4 : Nat) (E' : Mem), Mem.le E'_3 E' → FL E' b'_4 l'_4 c'_4 ms → Mem.le E'_3 E' ∧ ∃ (zs : List Int), ∃ (ms : List (Int × List Int)), ∃ (e_5 : Int), Bs E' b1 l1 c1 zs ∧ markF a1 zs a2 a3 = (ms, e_5) ∧ ∀ (b'_5 : Option Addr) (l'_5 c'_5 : Nat) (E'_4 : Mem), Mem.le E' E'_4 → FL E'_4 b'_5 l'_5 c'_5 ms → Mem.le E' E'_4 ∧ ∃ (zs : List Int), ∃ (ms : List (Int × List Int)), ∃ (e_6 : Int), Bs E'_4 b1 l1 c1 zs ∧ markF a1 zs a2 a3 = (ms, e_6) ∧ ∀ (b'_6 : Option Addr) (l'_6 c'_6 : Nat) (E' : Mem), Mem.le E'_4 E' → FL E' b'_6 l'_6 c'_6 ms → Mem.le E'_4 E' ∧ bif bif true then v == v_1 else false then ∃ (zs : List Int), Bs E' b' l' c' zs ∧ Bs E' b'_2 l'_2 c'_2 zs ∧ l' ≤ (100000 : Nat) ∧ Mem.le E' E' ∧ bif bif true then e == e_2 else false then bif bif true then e_3 == e_4 else false then ∃ (ms : List (Int × List Int)), FL E' b'_3 l'_3 c'_3 ms ∧ FL E' b'_4 l'_4 c'_4 ms ∧ (∀ (m : Int × List Int), List.Mem m ms → List.length m.snd ≤ (100000 : Nat)) ∧ l'_3 ≤ (100000 : Nat) ∧ Mem.le E' E' ∧ bif bif true then e_5 == e_6 else false then ∃ (ms : List (Int × List Int)), FL E' b'_5 l'_5 c'_5 ms ∧ FL E' b'_6 l'_6 c'_6 ms ∧ (∀ (m : Int × List Int), List.Mem m ms → List.length m.snd ≤ (100000 : Nat)) ∧ l'_5 ≤ (100000 : Nat) ∧ Mem.le E' E' ∧ ∃ (zs : List Int), ∃ (r : Int), Bs E' b1 l1 c1 zs ∧ marksF a1 zs a2 = r ∧ ∀ (E'_5 : Mem), Mem.le E' E'_5 → Mem.le E' E'_5 ∧ ∃ (zs : List Int), ∃ (r_1 : Int), Bs E'_5 b1 l1 c1 zs ∧ marksF a1 zs a2 = r_1 ∧ ∀ (E' : Mem), Mem.le E'_5 E' → Mem.le E'_5 E' ∧ Mem.le E E' ∧ K (SV.raw (Value.bool (bif true then r == r_1 else false))) E' else Mem.le E E' ∧ K (SV.raw (Value.bool false)) E' else Mem.le E E' ∧ K (SV.raw (Value.bool false)) E' else Mem.le E E' ∧ K (SV.raw (Value.bool false)) E' else Mem.le E E' ∧ K (SV.raw (Value.bool false)) E')
  obtain ⟨fs, fy, fe, eF⟩ : ∃ s y e, formatB a2 z2 = ((s, y), e) := ⟨_, _, _, rfl⟩
  obtain ⟨sv, sd, se, eS⟩ : ∃ v d e, selectF a1 z1 = ((v, d), e) := ⟨_, _, _, rfl⟩
  obtain ⟨im, ie, eI⟩ : ∃ m e, installF a1 z1 a2 z2 = (m, e) := ⟨_, _, rfl⟩
  obtain ⟨mm, me, eM⟩ : ∃ m e, markF a1 z1 a2 a3 = (m, e) := ⟨_, _, rfl⟩
  have fl : fy.length ≤ 100000 := by
    unfold formatB at eF
    split at eF
    · rename_i f
      rw [← (Prod.mk.inj (Prod.mk.inj eF).1).2]
      have := f.2.2
      simp only [List.length_append, hdrF_len, List.length_cons, List.length_nil, List.length_replicate]; omega
    · rw [← (Prod.mk.inj (Prod.mk.inj eF).1).2]; simp
  have sl : sd.length ≤ 100000 := by have := sel_len (s := a1) (z := z1); rw [eS] at this; exact this
  have il : im.length ≤ 9000 := by have := inst_num (s := a1) (z := z1) (v := a2) (p := z2); rw [eI] at this; exact this
  have ia : ∀ m ∈ im, m.2.length ≤ 100000 := by have := inst_mem (s := a1) (z := z1) (v := a2) (p := z2) hB1.2.2.2.1 hB2.2.2.2.1; rw [eI] at this; exact this
  obtain ⟨ml, ma⟩ := mark_mem (s := a1) (v := a2) (m := a3) (z := z1)
  rw [eM] at ml ma
  have ml : mm.length ≤ 2 := ml
  intro E1 k1
  have B1 := hB1.mono k1
  have B2 := hB2.mono k1
  refine ⟨k1, condC (fun g => ⟨k1, h E1 k1⟩) (fun g => ?_)⟩
  refine ⟨z2, fs, fy, fe, B2, eF, fun b3 l3 c3 E2 k2 F1 => ⟨k2, ?_⟩⟩
  have B1 := B1.mono k2
  have B2 := B2.mono k2
  refine ⟨z2, fs, fy, fe, B2, eF, fun b4 l4 c4 E3 k3 F2 => ⟨k3, condC (fun q => absurd q (by simp)) (fun _ => ⟨fy, F1.mono k3, F2, by rw [← F1.2.1]; exact fl, rfl, Mem.le_refl _, ?_⟩)⟩⟩
  have B1 := B1.mono k3
  have B2 := B2.mono k3
  have le3 := Mem.le_trans k1 (Mem.le_trans k2 k3)
  refine condC (fun g => ⟨le3, h E3 le3⟩) (fun g => ⟨z1, B1, fun r => ⟨Mem.le_refl _, condC (fun _ => ⟨le3, h E3 le3⟩) (fun _ => ?_)⟩⟩)
  refine ⟨z1, sv, sd, se, B1, eS, fun b5 l5 c5 E4 k4 S1 => ⟨k4, ?_⟩⟩
  have B1 := B1.mono k4
  have B2 := B2.mono k4
  refine ⟨z1, sv, sd, se, B1, eS, fun b6 l6 c6 E5 k5 S2 => ⟨k5, ?_⟩⟩
  have B1 := B1.mono k5
  have B2 := B2.mono k5
  refine ⟨z1, z2, im, ie, B1, B2, eI, fun b7 l7 c7 E6 k6 I1 => ⟨k6, ?_⟩⟩
  have B1 := B1.mono k6
  have B2 := B2.mono k6
  refine ⟨z1, z2, im, ie, B1, B2, eI, fun b8 l8 c8 E7 k7 I2 => ⟨k7, ?_⟩⟩
  have B1 := B1.mono k7
  refine ⟨z1, mm, me, B1, eM, fun b9 l9 c9 E8 k8 M1 => ⟨k8, ?_⟩⟩
  have B1 := B1.mono k8
  refine ⟨z1, mm, me, B1, eM, fun bA lA cA E9 k9 M2 => ⟨k9, ?_⟩⟩
  have B1 := B1.mono k9
  have k57 := Mem.le_trans k6 (Mem.le_trans k7 (Mem.le_trans k8 k9))
  have NO : ∀ {p : Prop} {x : Int}, (bif true then x == x else false) = false → p := fun q => absurd q (by simp)
  refine condC (fun _ => ?_) (fun q => absurd q (by simp))
  refine ⟨sd, (S1.mono k5).mono k57, S2.mono k57, by rw [← S1.2.1]; exact sl, Mem.le_refl _, ?_⟩
  refine condC (fun _ => ?_) (fun q => absurd q (by simp))
  refine condC (fun _ => ?_) (fun q => absurd q (by simp))
  have k89 := Mem.le_trans k8 k9
  refine ⟨im, (I1.mono k7).mono k89, I2.mono k89, ia, by rw [← I1.len]; omega, Mem.le_refl _, ?_⟩
  refine condC (fun _ => ?_) (fun q => absurd q (by simp))
  refine ⟨mm, M1.mono k9, M2, ma, by rw [← M1.len]; omega, Mem.le_refl _, ?_⟩
  refine ⟨z1, marksF a1 z1 a2, B1, rfl, fun EA kA => ⟨kA, z1, marksF a1 z1 a2, B1.mono kA, rfl, fun EB kB => ⟨kB, ?_⟩⟩⟩
  have le9 : Mem.le E EB := Mem.le_trans le3 (Mem.le_trans k4 (Mem.le_trans k5 (Mem.le_trans k57 (Mem.le_trans kA kB))))
  have := h EB le9
  refine ⟨le9, ?_⟩
  rw [show (bif true then marksF a1 z1 a2 == marksF a1 z1 a2 else false) = true by simp]
  exact this
theorem opn3 (W : World) (K : List SV → Prop) (h : ∀ a1 : Int, (Lit.int .i64 a1).wf = true → ∀ (b1 : Option Addr) (l1 c1 : Nat) (z1 : List Int), (l1 ≤ c1) → (c1 ≤ maxLen) → (b1 = none → c1 = 0) → (z1.length = c1) → (∀ x ∈ z1, (Lit.int .u8 x).wf = true) → RowAt W (.slice b1 l1 c1) (z1.map (.int .u8)) → ∀ a2 : Int, (Lit.int .i64 a2).wf = true → ∀ (b2 : Option Addr) (l2 c2 : Nat) (z2 : List Int), (l2 ≤ c2) → (c2 ≤ maxLen) → (b2 = none → c2 = 0) → (z2.length = c2) → (∀ x ∈ z2, (Lit.int .u8 x).wf = true) → RowAt W (.slice b2 l2 c2) (z2.map (.int .u8)) → ∀ a3 : Int, (Lit.int .i64 a3).wf = true → K [.agg [I a1, L b1 l1 c1], I a2, L b2 l2 c2, I a3]) : opnAll Try.prog W Try.f3.params.toList K :=
  same (by kernel_rfl) h
theorem sem3 (W : World) : opnAll Try.prog W Try.f3.params.toList fun ss => TabSem Try.prog 3 ss (fun v cs => RowAt W v cs) fun r _ => r = .raw (.bool true) := by
  refine opn3 W _ ?_
  intro a1 ha1 b1 l1 c1 z1 hl1 hc1 hb1 hz1 hw1 hE1 a2 ha2 b2 l2 c2 z2 hl2 hc2 hb2 hz2 hw2 hE2 a3 ha3
  exact Ent.sem okWL3 Try.func3 ⟨by kernel_rfl, by kernel_rfl⟩ rfl (e3 ha1 (Bs.of hl1 hb1 hz1 hw1 hE1) (Nat.le_trans hl1 (by simpa [maxLen] using hc1)) ha2 (Bs.of hl2 hb2 hz2 hw2 hE2) (Nat.le_trans hl2 (by simpa [maxLen] using hc2)) ha3 (fun _ _ => rfl))
theorem lifted3 (os : Os) (started : os.Started) (H : Type) (enc : TypeId × Value → H) :
    ReturnsInHanded {} Try.checked os 3 .any (Rows.bootMatchesReferenceSpec.pre6 enc Try.prog Try.f3 Rows.bootMatchesReferenceRow.domain false) (Rows.bootMatchesReferenceSpec.post enc Try.prog Try.f3 false true false false) :=
  lift_true (C := Try.checked) (by kernel_rfl) (by kernel_rfl) started (by kernel_rfl) Try.func3
    (ChangeSpec.witness6 (enc := enc) (C := Try.checked) false ⟨#[], #[.agg #[.int .i64 0, .slice none 0 0], .int .i64 0, .slice none 0 0, .int .i64 0], []⟩ 8 (by kernel_rfl) (by kernel_rfl) (by kernel_rfl) (by kernel_rfl))
    (Tb := 4) (by kernel_rfl) (by kernel_rfl) (by kernel_rfl) rfl
    (fun ds hl => by
      match ds, hl with
      | [d0, d1, d2, d3], _ => exact ⟨rfl, rfl, rfl⟩)
    sem3
theorem over3 : Rows.bootMatchesReferenceRow.holds Try.pinned (OpenSpec.ofChange Rows.bootMatchesReferenceSpec) :=
  OpenClaim.holds_of_wide 3 Try.f3 rfl rfl rfl rfl rfl rfl rfl ⟨rfl, rfl, rfl, rfl, rfl⟩ rfl rfl rfl rfl rfl (by kernel_rfl) Try.func3 (by kernel_rfl)
    (of_decide_eq_true (by kernel_rfl)) (by unfold Func.isWrapper; first | (rw [if_pos (by decide +kernel)]; kernel_rfl) | (rw [if_neg (by decide +kernel)]; exact ⟨rfl, rfl⟩))
    (fun os started H enc _ => lifted3 os started H enc)
theorem proved3 : Rows.BootMatchesReferenceSaid := over3
end Go.Proofs.Ytdblighgcpabnaa.BootOwn
