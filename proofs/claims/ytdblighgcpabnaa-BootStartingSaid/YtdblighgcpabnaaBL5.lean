/- The law's proof: for every input the law answers true. Conditions: none. -/
import Derived.Test.YtdblighgcpabnaaBg18
import Derived.OpenShut
import Derived.Test.YtdblighgcpabnaaRows
namespace Go.Proofs.Ytdblighgcpabnaa.BootOwn
open Go Go.Sx Go.Proofs.Ytdblighgcpabnaa
set_option maxRecDepth 100000
set_option maxHeartbeats 4000000
set_option linter.unusedVariables false
set_option linter.unusedSimpArgs false
variable {E : Mem} {K : SV → Mem → Prop}
noncomputable def tabL5 : FuncId → List SV → Mem → (SV → Mem → Prop) → Prop := fun f args E K => match f with
  | 10 => d0 args ((∀ E' : Mem, Mem.le E E' → K (B true) E'))
  | 25 => d2 args fun x0 x1 => dS x0 fun b1 l2 c3 => dS x1 fun b4 l5 c6 => ∃ (xs : List Int) (ys : List Int), Bs E b1 l2 c3 xs ∧ Bs E b4 l5 c6 ys ∧ l2 ≤ 60 ∧ l5 ≤ 60 ∧ (∀ (b' : Option Addr) (l' c' : Nat) (y : List Int) (E' : Mem), Mem.le E E' → Hyp (Run y xs ys) → Bs E' b' l' c' y → K (.tup [.agg [I 128, L b' l' c'], B true]) E')
  | 17 => d3 args fun x0 x1 x2 => dC x0 fun l1 => d2 l1 fun x0_0 x0_1 => dI x0_0 fun a1 => dS x0_1 fun b2 l3 c4 => dI x1 fun a5 => dS x2 fun b6 l7 c8 => ∃ (zs : List Int) (p : List Int) (ms : List (Int × List Int)) (e : Int), Bs E b2 l3 c4 zs ∧ Bs E b6 l7 c8 p ∧ installF a1 zs a5 p = (ms, e) ∧ (∀ (b' : Option Addr) (l' c' : Nat) (E' : Mem), Mem.le E E' → FL E' b' l' c' ms → K (.tup [L b' l' c', I e]) E')
  | 19 => d3 args fun x0 x1 x2 => dC x0 fun l1 => d2 l1 fun x0_0 x0_1 => dI x0_0 fun a1 => dS x0_1 fun b2 l3 c4 => dI x1 fun a5 => dI x2 fun a6 => ∃ (zs : List Int) (ms : List (Int × List Int)) (e : Int), Bs E b2 l3 c4 zs ∧ markF a1 zs a5 a6 = (ms, e) ∧ (∀ (b' : Option Addr) (l' c' : Nat) (E' : Mem), Mem.le E E' → FL E' b' l' c' ms → K (.tup [L b' l' c', I e]) E')
  | 27 => d2 args fun x0 x1 => dS x0 fun b1 l2 c3 => dI x1 fun a4 => ∃ (X : List (Int × List Int)) (w : List Int), FL E b1 l2 c3 (X ++ [(128, w)]) ∧ a4 = 0 ∧ l2 ≤ 100000 ∧ (∀ (b' : Option Addr) (l' c' : Nat) (E' : Mem), Mem.le E E' → Bs E' b' l' c' w → K (.tup [.agg [I 128, L b' l' c'], B true]) E')
  | 26 => d3 args fun x0 x1 x2 => dC x0 fun l1 => d2 l1 fun x0_0 x0_1 => dI x0_0 fun a1 => dS x0_1 fun b2 l3 c4 => dI x1 fun a5 => dS x2 fun b6 l7 c8 => ∃ (zs : List Int) (ds : List Int), Bs E b2 l3 c4 zs ∧ Bs E b6 l7 c8 ds ∧ selectF a1 zs = ((a5, ds), 0) ∧ l7 ≤ 100000 ∧ (∀ E' : Mem, Mem.le E E' → K (B true) E')
  | _ => False
theorem tabL5_ok : TabOK Try.prog tabL5 := by
  intro f args E K h
  unfold tabL5 at h
  split at h
  · obtain ⟨rfl, h⟩ := d0_elim h
    exact TabSem.congr rfl (Ent.sem okQ4 Try.func10 ⟨by kernel_rfl, by kernel_rfl⟩ rfl (q10 h))
  · replace h := d2_elim h
    obtain ⟨x0, x1, rfl, h⟩ := h
    replace h := dS_elim h
    obtain ⟨b1, l2, c3, rfl, h⟩ := h
    replace h := dS_elim h
    obtain ⟨b4, l5, c6, rfl, h⟩ := h
    obtain ⟨xs, ys, g0, g1, g2, g3, h⟩ := h
    exact TabSem.congr (valL_cons rfl (valL_cons rfl rfl)) (Ent.sem okQ4 Try.func25 ⟨by kernel_rfl, by kernel_rfl⟩ rfl (q25 g0 g1 g2 g3 h))
  · replace h := d3_elim h
    obtain ⟨x0, x1, x2, rfl, h⟩ := h
    replace h := dC_elim h
    obtain ⟨l1, hl1, h⟩ := h
    replace h := d2_elim h
    obtain ⟨x0_0, x0_1, rfl, h⟩ := h
    replace h := dI_elim h
    obtain ⟨a1, rfl, h⟩ := h
    replace h := dS_elim h
    obtain ⟨b2, l3, c4, rfl, h⟩ := h
    replace h := dI_elim h
    obtain ⟨a5, rfl, h⟩ := h
    replace h := dS_elim h
    obtain ⟨b6, l7, c8, rfl, h⟩ := h
    obtain ⟨zs, p, ms, e, g0, g1, g2, h⟩ := h
    exact TabSem.congr (valL_cons (asCells_val hl1) (valL_cons rfl (valL_cons rfl rfl))) (Ent.sem okP7 Try.func17 ⟨by kernel_rfl, by kernel_rfl⟩ rfl (q17E g0 g1 g2 h))
  · replace h := d3_elim h
    obtain ⟨x0, x1, x2, rfl, h⟩ := h
    replace h := dC_elim h
    obtain ⟨l1, hl1, h⟩ := h
    replace h := d2_elim h
    obtain ⟨x0_0, x0_1, rfl, h⟩ := h
    replace h := dI_elim h
    obtain ⟨a1, rfl, h⟩ := h
    replace h := dS_elim h
    obtain ⟨b2, l3, c4, rfl, h⟩ := h
    replace h := dI_elim h
    obtain ⟨a5, rfl, h⟩ := h
    replace h := dI_elim h
    obtain ⟨a6, rfl, h⟩ := h
    obtain ⟨zs, ms, e, g0, g1, h⟩ := h
    exact TabSem.congr (valL_cons (asCells_val hl1) (valL_cons rfl (valL_cons rfl rfl))) (Ent.sem okP5 Try.func19 ⟨by kernel_rfl, by kernel_rfl⟩ rfl (q19E g0 g1 h))
  · replace h := d2_elim h
    obtain ⟨x0, x1, rfl, h⟩ := h
    replace h := dS_elim h
    obtain ⟨b1, l2, c3, rfl, h⟩ := h
    replace h := dI_elim h
    obtain ⟨a4, rfl, h⟩ := h
    obtain ⟨X, w, g0, g1, g2, h⟩ := h
    exact TabSem.congr (valL_cons rfl (valL_cons rfl rfl)) (Ent.sem okQ2 Try.func27 ⟨by kernel_rfl, by kernel_rfl⟩ rfl (q27H g0 g1 g2 h))
  · replace h := d3_elim h
    obtain ⟨x0, x1, x2, rfl, h⟩ := h
    replace h := dC_elim h
    obtain ⟨l1, hl1, h⟩ := h
    replace h := d2_elim h
    obtain ⟨x0_0, x0_1, rfl, h⟩ := h
    replace h := dI_elim h
    obtain ⟨a1, rfl, h⟩ := h
    replace h := dS_elim h
    obtain ⟨b2, l3, c4, rfl, h⟩ := h
    replace h := dI_elim h
    obtain ⟨a5, rfl, h⟩ := h
    replace h := dS_elim h
    obtain ⟨b6, l7, c8, rfl, h⟩ := h
    obtain ⟨zs, ds, g0, g1, g2, g3, h⟩ := h
    exact TabSem.congr (valL_cons (asCells_val hl1) (valL_cons rfl (valL_cons rfl rfl))) (Ent.sem okQ3 Try.func26 ⟨by kernel_rfl, by kernel_rfl⟩ rfl (q26H g0 g1 g2 g3 h))
  · exact h.elim
noncomputable def WL5 : Cx := { P := Try.prog, inl := fun f => List.contains [] f, tab := tabL5, isB := fun _ => false, tabB := fun _ _ _ _ _ => False, opt := { unroll := 0, carry := [] }, muts := mutsD }
theorem okWL5 : CxOK WL5 := CxOK.four tabL5_ok (by kernel_rfl) (okInl (by kernel_rfl)) (fun _ _ _ _ _ h => h.elim)
theorem e5 {b1 : Option Addr} {l1 : Nat} {c1 : Nat} {z1 : List Int} {b2 : Option Addr} {l2 : Nat} {c2 : Nat} {z2 : List Int} {b3 : Option Addr} {l3 : Nat} {c3 : Nat} {z3 : List Int} {a1 : Bool} (hB1 : Bs E b1 l1 c1 z1) (hL1 : l1 ≤ 9223372036854775807) (hB2 : Bs E b2 l2 c2 z2) (hL2 : l2 ≤ 9223372036854775807) (hB3 : Bs E b3 l3 c3 z3) (hL3 : l3 ≤ 9223372036854775807) (h : ∀ E' : Mem, Mem.le E E' → K (B true) E') :
    Ent WL5 8 Try.f5 [L b1 l1 c1, L b2 l2 c2, L b3 l3 c3, B a1] E K := by
  refine same (by kernel_rfl) (?_ : ∀ (E' : Mem), Mem.le E E' → Mem.le E E' ∧ bif decide ((NI l1) > (60 : Int)) then Mem.le E E' ∧ K (SV.raw (Value.bool true)) E' else bif bif false then true else decide ((NI l2) > (60 : Int)) then Mem.le E E' ∧ K (SV.raw (Value.bool true)) E' else bif bif false then true else decide ((NI l3) > (60 : Int)) then Mem.le E E' ∧ K (SV.raw (Value.bool true)) E' else ∃ (xs : List Int), ∃ (ys : List Int), Bs E' b1 l1 c1 xs ∧ Bs E' b2 l2 c2 ys ∧ l1 ≤ 60 ∧ l2 ≤ 60 ∧ ∀ (b' : Option Addr) (l' c' : Nat) (y : List Int) (E'_1 : Mem), Mem.le E' E'_1 → Hyp (Run y xs ys) → Bs E'_1 b' l' c' y → Mem.le E' E'_1 ∧ ∃ (zs : List Int), ∃ (p : List Int), ∃ (ms : List (Int × List Int)), ∃ (e : Int), Bs E'_1 b' l' c' zs ∧ Bs E'_1 b3 l3 c3 p ∧ installF 128 zs 9 p = (ms, e) ∧ ∀ (b' : Option Addr) (l' c' : Nat) (E' : Mem), Mem.le E'_1 E' → FL E' b' l' c' ms → Mem.le E'_1 E' ∧ ∃ (X : List (Int × List Int)), ∃ (w : List Int), FL E' b' l' c' (X ++ [((128 : Int), w)]) ∧ e = (0 : Int) ∧ l' ≤ 100000 ∧ ∀ (b' : Option Addr) (l' c' : Nat) (E'_2 : Mem), Mem.le E' E'_2 → Bs E'_2 b' l' c' w → Mem.le E' E'_2 ∧ ∃ (zs : List Int), ∃ (ms : List (Int × List Int)), ∃ (e : Int), Bs E'_2 b' l' c' zs ∧ markF 128 zs 9 (1 : Int) = (ms, e) ∧ ∀ (b' : Option Addr) (l' c' : Nat) (E' : Mem), Mem.le E'_2 E' → FL E' b' l' c' ms → Mem.le E'_2 E' ∧ ∃ (X : List (Int × List Int)), ∃ (w : List Int), FL E' b' l' c' (X ++ [((128 : Int), w)]) ∧ e = (0 : Int) ∧ l' ≤ 100000 ∧ ∀ (b' : Option Addr) (l' c' : Nat) (E'_3 : Mem), Mem.le E' E'_3 → Bs E'_3 b' l' c' w → Mem.le E' E'_3 ∧ ∃ (zs : List Int), ∃ (ds : List Int), Bs E'_3 b' l' c' zs ∧ Bs E'_3 b3 l3 c3 ds ∧ selectF 128 zs = (((9 : Int), ds), (0 : Int)) ∧ l3 ≤ (100000 : Nat) ∧ ∀ (E' : Mem), Mem.le E'_3 E' → Mem.le E'_3 E' ∧ bif a1 then ∃ (zs : List Int), ∃ (ms : List (Int × List Int)), ∃ (e : Int), Bs E' b' l' c' zs ∧ markF 128 zs 9 (2 : Int) = (ms, e) ∧ ∀ (b' : Option Addr) (l' c' : Nat) (E'_4 : Mem), Mem.le E' E'_4 → FL E'_4 b' l' c' ms → Mem.le E' E'_4 ∧ ∃ (X : List (Int × List Int)), ∃ (w : List Int), FL E'_4 b' l' c' (X ++ [((128 : Int), w)]) ∧ e = (0 : Int) ∧ l' ≤ (100000 : Nat) ∧ ∀ (b' : Option Addr) (l' c' : Nat) (E' : Mem), Mem.le E'_4 E' → Bs E' b' l' c' w → Mem.le E'_4 E' ∧ ∃ (zs : List Int), ∃ (ds : List Int), Bs E' b' l' c' zs ∧ Bs E' b3 l3 c3 ds ∧ selectF 128 zs = (((9 : Int), ds), (0 : Int)) ∧ l3 ≤ (100000 : Nat) ∧ ∀ (E'_5 : Mem), Mem.le E' E'_5 → Mem.le E' E'_5 ∧ ∃ (zs : List Int), ∃ (ms : List (Int × List Int)), ∃ (e : Int), Bs E'_5 b' l' c' zs ∧ markF 128 zs 9 (3 : Int) = (ms, e) ∧ ∀ (b' : Option Addr) (l' c' : Nat) (E' : Mem), Mem.le E'_5 E' → FL E' b' l' c' ms → Mem.le E'_5 E' ∧ ∃ (X : List (Int × List Int)), ∃ (w : List Int), FL E' b' l' c' (X ++ [((128 : Int), w)]) ∧ e = (0 : Int) ∧ l' ≤ (100000 : Nat) ∧ ∀ (b' : Option Addr) (l' c' : Nat) (E'_6 : Mem), Mem.le E' E'_6 → Bs E'_6 b' l' c' w → Mem.le E' E'_6 ∧ ∃ (zs : List Int), ∃ (ds : List Int), Bs E'_6 b' l' c' zs ∧ Bs E'_6 b2 l2 c2 ds ∧ selectF 128 zs = (((7 : Int), ds), (0 : Int)) ∧ l2 ≤ (100000 : Nat) ∧ ∀ (E' : Mem), Mem.le E'_6 E' → Mem.le E'_6 E' ∧ Mem.le E E' ∧ K (SV.raw (Value.bool true)) E' else ∃ (zs : List Int), ∃ (ms : List (Int × List Int)), ∃ (e : Int), Bs E' b' l' c' zs ∧ markF 128 zs 9 (3 : Int) = (ms, e) ∧ ∀ (b' : Option Addr) (l' c' : Nat) (E'_4 : Mem), Mem.le E' E'_4 → FL E'_4 b' l' c' ms → Mem.le E' E'_4 ∧ ∃ (X : List (Int × List Int)), ∃ (w : List Int), FL E'_4 b' l' c' (X ++ [((128 : Int), w)]) ∧ e = (0 : Int) ∧ l' ≤ (100000 : Nat) ∧ ∀ (b' : Option Addr) (l' c' : Nat) (E' : Mem), Mem.le E'_4 E' → Bs E' b' l' c' w → Mem.le E'_4 E' ∧ ∃ (zs : List Int), ∃ (ds : List Int), Bs E' b' l' c' zs ∧ Bs E' b2 l2 c2 ds ∧ selectF 128 zs = (((7 : Int), ds), (0 : Int)) ∧ l2 ≤ (100000 : Nat) ∧ ∀ (E'_5 : Mem), Mem.le E' E'_5 → Mem.le E' E'_5 ∧ Mem.le E E'_5 ∧ K (SV.raw (Value.bool true)) E'_5)
  delta NI
  refine fun E1 k1 => ?_
  have le1 : Mem.le E E1 := Mem.le_trans (Mem.le_refl E) k1
  refine ⟨k1, condC (fun g => ⟨le1, h E1 le1⟩) (fun g1 => condC (fun g => ⟨le1, h E1 le1⟩) (fun g2 => condC (fun g => ⟨le1, h E1 le1⟩) (fun g3 => ?_)))⟩
  have g1 : l1 ≤ 60 := by simp at g1; omega
  have g2 : l2 ≤ 60 := by simp at g2; omega
  have g3 : l3 ≤ 60 := by simp at g3; omega
  have m1 := hB1.2.1
  have m2 := hB2.2.1
  have m3 := hB3.2.1
  have B1 := hB1.mono le1
  have B2 := hB2.mono le1
  have B3 := hB3.mono le1
  refine ⟨z1, z2, B1, B2, g1, g2, fun bY lY cY y E2 k2 R BY => ?_⟩
  have le2 : Mem.le E E2 := Mem.le_trans le1 k2
  have B1 := B1.mono k2
  have B2 := B2.mono k2
  have B3 := B3.mono k2
  have R : Run y z1 z2 := R
  obtain ⟨X, w, x1, x2, x3, A, x5, x6, x7, x8⟩ := R.live.install (v := 9) (p := z3) (by decide) (by rw [R.prog.1]; show (3 : Int) < 9; decide) (by omega) hB3.2.2.2.1
  obtain ⟨w1, q1, A1, j1⟩ := A.mark (m := 1) (by decide)
  have s1 := A1.new (by rw [j1, if_pos rfl]) (by rw [j1, if_neg (by decide), x6]; decide)
  have nq := inst_num (s := 128) (z := y) (v := 9) (p := z3)
  rw [x1] at nq
  have nq : (X ++ [((128 : Int), w)]).length ≤ 9000 := nq
  refine ⟨k2, y, z3, _, 0, BY, B3, x1, fun bF lF cF E3 k3 FX => ?_⟩
  have le3 : Mem.le E E3 := Mem.le_trans le2 k3
  have B1 := B1.mono k3
  have B2 := B2.mono k3
  have B3 := B3.mono k3
  have BY := BY.mono k3
  have nF := FX.len
  refine ⟨k3, X, w, FX, rfl, by omega, fun bW lW cW E4 k4 BW => ?_⟩
  have le4 : Mem.le E E4 := Mem.le_trans le3 k4
  have B1 := B1.mono k4
  have B2 := B2.mono k4
  have B3 := B3.mono k4
  have BY := BY.mono k4
  have FX := FX.mono k4
  refine ⟨k4, w, _, 0, BW, q1, fun bG lG cG E5 k5 FM => ?_⟩
  have le5 : Mem.le E E5 := Mem.le_trans le4 k5
  have B1 := B1.mono k5
  have B2 := B2.mono k5
  have B3 := B3.mono k5
  have BY := BY.mono k5
  have FX := FX.mono k5
  have BW := BW.mono k5
  have nG := FM.len
  have nG : 2 = lG := nG
  refine ⟨k5, [(128, w)], w1, FM, rfl, by omega, fun bV lV cV E6 k6 BV => ?_⟩
  have le6 : Mem.le E E6 := Mem.le_trans le5 k6
  have B1 := B1.mono k6
  have B2 := B2.mono k6
  have B3 := B3.mono k6
  have BY := BY.mono k6
  have FX := FX.mono k6
  have BW := BW.mono k6
  have FM := FM.mono k6
  refine ⟨k6, w1, z3, BV, B3, s1, by omega, fun E7 k7 => ?_⟩
  have le7 : Mem.le E E7 := Mem.le_trans le6 k7
  have B1 := B1.mono k7
  have B2 := B2.mono k7
  have B3 := B3.mono k7
  have BY := BY.mono k7
  have FX := FX.mono k7
  have BW := BW.mono k7
  have FM := FM.mono k7
  have BV := BV.mono k7
  refine ⟨k7, condC (fun _ => ?_) (fun _ => ?_)⟩
  · obtain ⟨w2, q2, A2, j2⟩ := A1.mark (m := 2) (by decide)
    have e15 : w2.getD 15 0 = 0 := by rw [j2, if_neg (by decide), j1, if_pos rfl]
    have e17 : w2.getD 17 0 = 255 := by rw [j2, if_neg (by decide), j1, if_neg (by decide), x6]
    have s2 := A2.new e15 (by rw [e17]; decide)
    refine ⟨w1, _, 0, BV, q2, fun bH lH cH E8 k8 FN => ?_⟩
    have le8 : Mem.le E E8 := Mem.le_trans le7 k8
    have B1 := B1.mono k8
    have B2 := B2.mono k8
    have B3 := B3.mono k8
    have BY := BY.mono k8
    have FX := FX.mono k8
    have BW := BW.mono k8
    have FM := FM.mono k8
    have BV := BV.mono k8
    have nH := FN.len
    have nH : 2 = lH := nH
    refine ⟨k8, [(128, w1)], w2, FN, rfl, by omega, fun bU lU cU E9 k9 BU => ?_⟩
    have le9 : Mem.le E E9 := Mem.le_trans le8 k9
    have B1 := B1.mono k9
    have B2 := B2.mono k9
    have B3 := B3.mono k9
    have BY := BY.mono k9
    have FX := FX.mono k9
    have BW := BW.mono k9
    have FM := FM.mono k9
    have BV := BV.mono k9
    have FN := FN.mono k9
    refine ⟨k9, w2, z3, BU, B3, s2, by omega, fun E10 k10 => ?_⟩
    have le10 : Mem.le E E10 := Mem.le_trans le9 k10
    have B1 := B1.mono k10
    have B2 := B2.mono k10
    have B3 := B3.mono k10
    have BY := BY.mono k10
    have FX := FX.mono k10
    have BW := BW.mono k10
    have FM := FM.mono k10
    have BV := BV.mono k10
    have FN := FN.mono k10
    have BU := BU.mono k10
    obtain ⟨w3, q3, A3, j3⟩ := A2.mark (m := 3) (by decide)
    have s3 := (A3.old (.inr (by rw [j3, if_pos rfl]))).select
    refine ⟨k10, w2, _, 0, BU, q3, fun bI lI cI E11 k11 FO => ?_⟩
    have le11 : Mem.le E E11 := Mem.le_trans le10 k11
    have B1 := B1.mono k11
    have B2 := B2.mono k11
    have B3 := B3.mono k11
    have BY := BY.mono k11
    have FX := FX.mono k11
    have BW := BW.mono k11
    have FM := FM.mono k11
    have BV := BV.mono k11
    have FN := FN.mono k11
    have BU := BU.mono k11
    have nI := FO.len
    have nI : 2 = lI := nI
    refine ⟨k11, [(128, w2)], w3, FO, rfl, by omega, fun bS lS cS E12 k12 BS => ?_⟩
    have le12 : Mem.le E E12 := Mem.le_trans le11 k12
    have B1 := B1.mono k12
    have B2 := B2.mono k12
    have B3 := B3.mono k12
    have BY := BY.mono k12
    have FX := FX.mono k12
    have BW := BW.mono k12
    have FM := FM.mono k12
    have BV := BV.mono k12
    have FN := FN.mono k12
    have BU := BU.mono k12
    have FO := FO.mono k12
    refine ⟨k12, w3, z2, BS, B2, s3, by omega, fun E13 k13 => ?_⟩
    have le13 : Mem.le E E13 := Mem.le_trans le12 k13
    have B1 := B1.mono k13
    have B2 := B2.mono k13
    have B3 := B3.mono k13
    have BY := BY.mono k13
    have FX := FX.mono k13
    have BW := BW.mono k13
    have FM := FM.mono k13
    have BV := BV.mono k13
    have FN := FN.mono k13
    have BU := BU.mono k13
    have FO := FO.mono k13
    have BS := BS.mono k13
    exact ⟨k13, le13, h E13 le13⟩
  · obtain ⟨w3, q3, A3, j3⟩ := A1.mark (m := 3) (by decide)
    have s3 := (A3.old (.inr (by rw [j3, if_pos rfl]))).select
    refine ⟨w1, _, 0, BV, q3, fun bI lI cI E8 k8 FO => ?_⟩
    have le8 : Mem.le E E8 := Mem.le_trans le7 k8
    have B1 := B1.mono k8
    have B2 := B2.mono k8
    have B3 := B3.mono k8
    have BY := BY.mono k8
    have FX := FX.mono k8
    have BW := BW.mono k8
    have FM := FM.mono k8
    have BV := BV.mono k8
    have nI := FO.len
    have nI : 2 = lI := nI
    refine ⟨k8, [(128, w1)], w3, FO, rfl, by omega, fun bS lS cS E9 k9 BS => ?_⟩
    have le9 : Mem.le E E9 := Mem.le_trans le8 k9
    have B1 := B1.mono k9
    have B2 := B2.mono k9
    have B3 := B3.mono k9
    have BY := BY.mono k9
    have FX := FX.mono k9
    have BW := BW.mono k9
    have FM := FM.mono k9
    have BV := BV.mono k9
    have FO := FO.mono k9
    refine ⟨k9, w3, z2, BS, B2, s3, by omega, fun E10 k10 => ?_⟩
    have le10 : Mem.le E E10 := Mem.le_trans le9 k10
    have B1 := B1.mono k10
    have B2 := B2.mono k10
    have B3 := B3.mono k10
    have BY := BY.mono k10
    have FX := FX.mono k10
    have BW := BW.mono k10
    have FM := FM.mono k10
    have BV := BV.mono k10
    have FO := FO.mono k10
    have BS := BS.mono k10
    exact ⟨k10, le10, h E10 le10⟩
theorem opn5 (W : World) (K : List SV → Prop) (h : ∀ (b1 : Option Addr) (l1 c1 : Nat) (z1 : List Int), (l1 ≤ c1) → (c1 ≤ maxLen) → (b1 = none → c1 = 0) → (z1.length = c1) → (∀ x ∈ z1, (Lit.int .u8 x).wf = true) → RowAt W (.slice b1 l1 c1) (z1.map (.int .u8)) → ∀ (b2 : Option Addr) (l2 c2 : Nat) (z2 : List Int), (l2 ≤ c2) → (c2 ≤ maxLen) → (b2 = none → c2 = 0) → (z2.length = c2) → (∀ x ∈ z2, (Lit.int .u8 x).wf = true) → RowAt W (.slice b2 l2 c2) (z2.map (.int .u8)) → ∀ (b3 : Option Addr) (l3 c3 : Nat) (z3 : List Int), (l3 ≤ c3) → (c3 ≤ maxLen) → (b3 = none → c3 = 0) → (z3.length = c3) → (∀ x ∈ z3, (Lit.int .u8 x).wf = true) → RowAt W (.slice b3 l3 c3) (z3.map (.int .u8)) → ∀ a1 : Bool, K [L b1 l1 c1, L b2 l2 c2, L b3 l3 c3, B a1]) : opnAll Try.prog W Try.f5.params.toList K :=
  same (by kernel_rfl) h
theorem sem5 (W : World) : opnAll Try.prog W Try.f5.params.toList fun ss => TabSem Try.prog 5 ss (fun v cs => RowAt W v cs) fun r _ => r = .raw (.bool true) := by
  refine opn5 W _ ?_
  intro b1 l1 c1 z1 hl1 hc1 hb1 hz1 hw1 hE1 b2 l2 c2 z2 hl2 hc2 hb2 hz2 hw2 hE2 b3 l3 c3 z3 hl3 hc3 hb3 hz3 hw3 hE3 a1
  exact Ent.sem okWL5 Try.func5 ⟨by kernel_rfl, by kernel_rfl⟩ rfl (e5 (Bs.of hl1 hb1 hz1 hw1 hE1) (Nat.le_trans hl1 (by simpa [maxLen] using hc1)) (Bs.of hl2 hb2 hz2 hw2 hE2) (Nat.le_trans hl2 (by simpa [maxLen] using hc2)) (Bs.of hl3 hb3 hz3 hw3 hE3) (Nat.le_trans hl3 (by simpa [maxLen] using hc3)) (fun _ _ => rfl))
theorem lifted5 (os : Os) (started : os.Started) (H : Type) (enc : TypeId × Value → H) :
    ReturnsInHanded {} Try.checked os 5 .any (Rows.bootStartingSpec.pre6 enc Try.prog Try.f5 Rows.bootStartingRow.domain false) (Rows.bootStartingSpec.post enc Try.prog Try.f5 false true false false) :=
  lift_true (C := Try.checked) (by kernel_rfl) (by kernel_rfl) started (by kernel_rfl) Try.func5
    (ChangeSpec.witness6 (enc := enc) (C := Try.checked) false ⟨#[], #[.slice none 0 0, .slice none 0 0, .slice none 0 0, .bool false], []⟩ 8 (by kernel_rfl) (by kernel_rfl) (by kernel_rfl) (by kernel_rfl))
    (Tb := 4) (by kernel_rfl) (by kernel_rfl) (by kernel_rfl) rfl
    (fun ds hl => by
      match ds, hl with
      | [d0, d1, d2, d3], _ => exact ⟨rfl, rfl, rfl⟩)
    sem5
theorem over5 : Rows.bootStartingRow.holds Try.pinned (OpenSpec.ofChange Rows.bootStartingSpec) :=
  OpenClaim.holds_of_wide 5 Try.f5 rfl rfl rfl rfl rfl rfl rfl ⟨rfl, rfl, rfl, rfl, rfl⟩ rfl rfl rfl rfl rfl (by kernel_rfl) Try.func5 (by kernel_rfl)
    (of_decide_eq_true (by kernel_rfl)) (by unfold Func.isWrapper; first | (rw [if_pos (by decide +kernel)]; kernel_rfl) | (rw [if_neg (by decide +kernel)]; exact ⟨rfl, rfl⟩))
    (fun os started H enc _ => lifted5 os started H enc)
theorem proved5 : Rows.BootStartingSaid := over5
end Go.Proofs.Ytdblighgcpabnaa.BootOwn
