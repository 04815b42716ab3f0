/- The law's proof: for every input the law answers true. Conditions: none. -/
import Derived.Test.YtdblighgcpabnaaBg18
import Derived.OpenShut
import Derived.Test.YtdblighgcpabnaaRows
namespace Go.Proofs.Ytdblighgcpabnaa.BootOwn
open Go Go.Sx Go.Proofs.Ytdblighgcpabnaa
set_option maxRecDepth 100000
set_option maxHeartbeats 4000000
set_option linter.unusedVariables false
set_option linter.unusedSimpArgs false
variable {E : Mem} {K : SV → Mem → Prop}
noncomputable def tabL6 : FuncId → List SV → Mem → (SV → Mem → Prop) → Prop := fun f args E K => match f with
  | 10 => d0 args ((∀ E' : Mem, Mem.le E E' → K (B true) E'))
  | 25 => d2 args fun x0 x1 => dS x0 fun b1 l2 c3 => dS x1 fun b4 l5 c6 => ∃ (xs : List Int) (ys : List Int), Bs E b1 l2 c3 xs ∧ Bs E b4 l5 c6 ys ∧ l2 ≤ 60 ∧ l5 ≤ 60 ∧ (∀ (b' : Option Addr) (l' c' : Nat) (y : List Int) (E' : Mem), Mem.le E E' → Hyp (Run y xs ys) → Bs E' b' l' c' y → K (.tup [.agg [I 128, L b' l' c'], B true]) E')
  | 17 => d3 args fun x0 x1 x2 => dC x0 fun l1 => d2 l1 fun x0_0 x0_1 => dI x0_0 fun a1 => dS x0_1 fun b2 l3 c4 => dI x1 fun a5 => dS x2 fun b6 l7 c8 => ∃ (zs : List Int) (p : List Int) (ms : List (Int × List Int)) (e : Int), Bs E b2 l3 c4 zs ∧ Bs E b6 l7 c8 p ∧ installF a1 zs a5 p = (ms, e) ∧ (∀ (b' : Option Addr) (l' c' : Nat) (E' : Mem), Mem.le E E' → FL E' b' l' c' ms → K (.tup [L b' l' c', I e]) E')
  | 19 => d3 args fun x0 x1 x2 => dC x0 fun l1 => d2 l1 fun x0_0 x0_1 => dI x0_0 fun a1 => dS x0_1 fun b2 l3 c4 => dI x1 fun a5 => dI x2 fun a6 => ∃ (zs : List Int) (ms : List (Int × List Int)) (e : Int), Bs E b2 l3 c4 zs ∧ markF a1 zs a5 a6 = (ms, e) ∧ (∀ (b' : Option Addr) (l' c' : Nat) (E' : Mem), Mem.le E E' → FL E' b' l' c' ms → K (.tup [L b' l' c', I e]) E')
  | 27 => d2 args fun x0 x1 => dS x0 fun b1 l2 c3 => dI x1 fun a4 => ∃ (X : List (Int × List Int)) (w : List Int), FL E b1 l2 c3 (X ++ [(128, w)]) ∧ a4 = 0 ∧ l2 ≤ 100000 ∧ (∀ (b' : Option Addr) (l' c' : Nat) (E' : Mem), Mem.le E E' → Bs E' b' l' c' w → K (.tup [.agg [I 128, L b' l' c'], B true]) E')
  | 26 => d3 args fun x0 x1 x2 => dC x0 fun l1 => d2 l1 fun x0_0 x0_1 => dI x0_0 fun a1 => dS x0_1 fun b2 l3 c4 => dI x1 fun a5 => dS x2 fun b6 l7 c8 => ∃ (zs : List Int) (ds : List Int), Bs E b2 l3 c4 zs ∧ Bs E b6 l7 c8 ds ∧ selectF a1 zs = ((a5, ds), 0) ∧ l7 ≤ 100000 ∧ (∀ E' : Mem, Mem.le E E' → K (B true) E')
  | _ => False
theorem tabL6_ok : TabOK Try.prog tabL6 := by
  intro f args E K h
  unfold tabL6 at h
  split at h
  · obtain ⟨rfl, h⟩ := d0_elim h
    exact TabSem.congr rfl (Ent.sem okQ4 Try.func10 ⟨by kernel_rfl, by kernel_rfl⟩ rfl (q10 h))
  · replace h := d2_elim h
    obtain ⟨x0, x1, rfl, h⟩ := h
    replace h := dS_elim h
    obtain ⟨b1, l2, c3, rfl, h⟩ := h
    replace h := dS_elim h
    obtain ⟨b4, l5, c6, rfl, h⟩ := h
    obtain ⟨xs, ys, g0, g1, g2, g3, h⟩ := h
    exact TabSem.congr (valL_cons rfl (valL_cons rfl rfl)) (Ent.sem okQ4 Try.func25 ⟨by kernel_rfl, by kernel_rfl⟩ rfl (q25 g0 g1 g2 g3 h))
  · replace h := d3_elim h
    obtain ⟨x0, x1, x2, rfl, h⟩ := h
    replace h := dC_elim h
    obtain ⟨l1, hl1, h⟩ := h
    replace h := d2_elim h
    obtain ⟨x0_0, x0_1, rfl, h⟩ := h
    replace h := dI_elim h
    obtain ⟨a1, rfl, h⟩ := h
    replace h := dS_elim h
    obtain ⟨b2, l3, c4, rfl, h⟩ := h
    replace h := dI_elim h
    obtain ⟨a5, rfl, h⟩ := h
    replace h := dS_elim h
    obtain ⟨b6, l7, c8, rfl, h⟩ := h
    obtain ⟨zs, p, ms, e, g0, g1, g2, h⟩ := h
    exact TabSem.congr (valL_cons (asCells_val hl1) (valL_cons rfl (valL_cons rfl rfl))) (Ent.sem okP7 Try.func17 ⟨by kernel_rfl, by kernel_rfl⟩ rfl (q17E g0 g1 g2 h))
  · replace h := d3_elim h
    obtain ⟨x0, x1, x2, rfl, h⟩ := h
    replace h := dC_elim h
    obtain ⟨l1, hl1, h⟩ := h
    replace h := d2_elim h
    obtain ⟨x0_0, x0_1, rfl, h⟩ := h
    replace h := dI_elim h
    obtain ⟨a1, rfl, h⟩ := h
    replace h := dS_elim h
    obtain ⟨b2, l3, c4, rfl, h⟩ := h
    replace h := dI_elim h
    obtain ⟨a5, rfl, h⟩ := h
    replace h := dI_elim h
    obtain ⟨a6, rfl, h⟩ := h
    obtain ⟨zs, ms, e, g0, g1, h⟩ := h
    exact TabSem.congr (valL_cons (asCells_val hl1) (valL_cons rfl (valL_cons rfl rfl))) (Ent.sem okP5 Try.func19 ⟨by kernel_rfl, by kernel_rfl⟩ rfl (q19E g0 g1 h))
  · replace h := d2_elim h
    obtain ⟨x0, x1, rfl, h⟩ := h
    replace h := dS_elim h
    obtain ⟨b1, l2, c3, rfl, h⟩ := h
    replace h := dI_elim h
    obtain ⟨a4, rfl, h⟩ := h
    obtain ⟨X, w, g0, g1, g2, h⟩ := h
    exact TabSem.congr (valL_cons rfl (valL_cons rfl rfl)) (Ent.sem okQ2 Try.func27 ⟨by kernel_rfl, by kernel_rfl⟩ rfl (q27H g0 g1 g2 h))
  · replace h := d3_elim h
    obtain ⟨x0, x1, x2, rfl, h⟩ := h
    replace h := dC_elim h
    obtain ⟨l1, hl1, h⟩ := h
    replace h := d2_elim h
    obtain ⟨x0_0, x0_1, rfl, h⟩ := h
    replace h := dI_elim h
    obtain ⟨a1, rfl, h⟩ := h
    replace h := dS_elim h
    obtain ⟨b2, l3, c4, rfl, h⟩ := h
    replace h := dI_elim h
    obtain ⟨a5, rfl, h⟩ := h
    replace h := dS_elim h
    obtain ⟨b6, l7, c8, rfl, h⟩ := h
    obtain ⟨zs, ds, g0, g1, g2, g3, h⟩ := h
    exact TabSem.congr (valL_cons (asCells_val hl1) (valL_cons rfl (valL_cons rfl rfl))) (Ent.sem okQ3 Try.func26 ⟨by kernel_rfl, by kernel_rfl⟩ rfl (q26H g0 g1 g2 g3 h))
  · exact h.elim
noncomputable def WL6 : Cx := { P := Try.prog, inl := fun f => List.contains [] f, tab := tabL6, isB := fun _ => false, tabB := fun _ _ _ _ _ => False, opt := { unroll := 0, carry := [] }, muts := mutsD }
theorem okWL6 : CxOK WL6 := CxOK.four tabL6_ok (by kernel_rfl) (okInl (by kernel_rfl)) (fun _ _ _ _ _ h => h.elim)
theorem FL.nth {E : Mem} {b : Option Addr} {n c : Nat} {ms : List (Int × List Int)} (h : FL E b n c ms) {i : Nat} (hi : i < n) : ∃ m, ms[i]? = some m :=
  ⟨_, List.getElem?_eq_getElem (by rw [h.len]; exact hi)⟩
theorem u16_wf {x : Int} (h : (Lit.int .u16 x).wf = true) : 0 ≤ x ∧ x ≤ 65535 := by
  have e : IntKind.u16.min ≤ x ∧ x ≤ IntKind.u16.max := by simpa [Lit.wf] using h
  exact e
theorem idx_ok {x : Int} {n : Nat} (h : 0 ≤ x ∧ x ≤ 65535) (h1 : 1 ≤ n) (h2 : n ≤ 100000) : ∃ k : Nat, k < n ∧ Int.tmod (IntKind.wrap .i64 x) (n : Int) = (k : Int) := by
  rw [wrap_i64 (by omega)]
  obtain ⟨a, rfl⟩ : ∃ a : Nat, x = a := ⟨x.toNat, by omega⟩
  refine ⟨a % n, Nat.mod_lt _ (by omega), ?_⟩
  rw [Int.tmod_eq_emod_of_nonneg (by omega)]
  simp
theorem e6 {b1 : Option Addr} {l1 : Nat} {c1 : Nat} {z1 : List Int} {b2 : Option Addr} {l2 : Nat} {c2 : Nat} {z2 : List Int} {b3 : Option Addr} {l3 : Nat} {c3 : Nat} {z3 : List Int} {a1 : Int} {b4 : Option Addr} {l4 : Nat} {c4 : Nat} {z4 : List Int} (hB1 : Bs E b1 l1 c1 z1) (hL1 : l1 ≤ 9223372036854775807) (hB2 : Bs E b2 l2 c2 z2) (hL2 : l2 ≤ 9223372036854775807) (hB3 : Bs E b3 l3 c3 z3) (hL3 : l3 ≤ 9223372036854775807) (ha1 : (Lit.int .u16 a1).wf = true) (hB4 : Bs E b4 l4 c4 z4) (hL4 : l4 ≤ 9223372036854775807) (h : ∀ E' : Mem, Mem.le E E' → K (B true) E') :
    Ent WL6 8 Try.f6 [L b1 l1 c1, L b2 l2 c2, L b3 l3 c3, .raw (.int .u16 a1), L b4 l4 c4] E K := by
  refine same (by kernel_rfl) (?_ : ∀ (E' : Mem), Mem.le E E' → Mem.le E E' ∧ bif decide ((NI l1) > (60 : Int)) then Mem.le E E' ∧ K (SV.raw (Value.bool true)) E' else bif bif false then true else decide ((NI l2) > (60 : Int)) then Mem.le E E' ∧ K (SV.raw (Value.bool true)) E' else bif bif false then true else decide ((NI l3) > (60 : Int)) then Mem.le E E' ∧ K (SV.raw (Value.bool true)) E' else bif bif false then true else decide ((NI l4) > (60 : Int)) then Mem.le E E' ∧ K (SV.raw (Value.bool true)) E' else ∃ (xs : List Int), ∃ (ys : List Int), Bs E' b1 l1 c1 xs ∧ Bs E' b2 l2 c2 ys ∧ l1 ≤ 60 ∧ l2 ≤ 60 ∧ ∀ (b' : Option Addr) (l' c' : Nat) (y : List Int) (E'_1 : Mem), Mem.le E' E'_1 → Hyp (Run y xs ys) → Bs E'_1 b' l' c' y → Mem.le E' E'_1 ∧ ∃ (zs : List Int), ∃ (p : List Int), ∃ (ms : List (Int × List Int)), ∃ (e : Int), Bs E'_1 b' l' c' zs ∧ Bs E'_1 b3 l3 c3 p ∧ installF 128 zs 9 p = (ms, e) ∧ ∀ (b' : Option Addr) (l' c' : Nat) (E' : Mem), Mem.le E'_1 E' → FL E' b' l' c' ms → Mem.le E'_1 E' ∧ bif bif false then true else e != (0 : Int) then Mem.le E E' ∧ K (SV.raw (Value.bool false)) E' else bif bif false then true else (NI l') == (0 : Int) then Mem.le E E' ∧ K (SV.raw (Value.bool false)) E' else ((NI l') = (0 : Int) → False) ∧ req ((0 : Int) ≤ Int.tmod (WI a1) (NI l') ∧ Int.tmod (WI a1) (NI l') < (NI l')) ((∃ (cs : List Value), E' (VS b' l' c') cs ∧ (cs = [] → False)) ∧ ∃ (n : Int), ∃ (base : Option Addr), ∃ (len : Nat), ∃ (cap : Nat), LoadE WL6.P E' 24 (VS b' l' c') (Int.toNat (Int.tmod (WI a1) (NI l')) * 2) (SV.agg [SV.raw (Value.int IntKind.i64 n), SV.raw (VS base len cap)]) ∧ ∃ (zs : List Int), ∃ (p : List Int), ∃ (ms : List (Int × List Int)), ∃ (e : Int), Bs E' base len cap zs ∧ Bs E' b3 l3 c3 p ∧ installF n zs 9 p = (ms, e) ∧ ∀ (b'_1 : Option Addr) (l'_1 c'_1 : Nat) (E'_2 : Mem), Mem.le E' E'_2 → FL E'_2 b'_1 l'_1 c'_1 ms → Mem.le E' E'_2 ∧ bif Int.tmod (WI a1) (NI l') == WI ((NI l') - (1 : Int)) then Mem.le E E'_2 ∧ K (SV.raw (Value.bool (bif true then e == (14 : Int) else false))) E'_2 else ∃ (X : List (Int × List Int)), ∃ (w : List Int), FL E'_2 b'_1 l'_1 c'_1 (X ++ [((128 : Int), w)]) ∧ e = (0 : Int) ∧ l'_1 ≤ (100000 : Nat) ∧ ∀ (b'_2 : Option Addr) (l'_2 c'_2 : Nat) (E' : Mem), Mem.le E'_2 E' → Bs E' b'_2 l'_2 c'_2 w → Mem.le E'_2 E' ∧ ∃ (zs : List Int), ∃ (ms : List (Int × List Int)), ∃ (e : Int), Bs E' b'_2 l'_2 c'_2 zs ∧ markF 128 zs 9 (1 : Int) = (ms, e) ∧ ∀ (b'_3 : Option Addr) (l'_3 c'_3 : Nat) (E'_3 : Mem), Mem.le E' E'_3 → FL E'_3 b'_3 l'_3 c'_3 ms → Mem.le E' E'_3 ∧ ∃ (X : List (Int × List Int)), ∃ (w : List Int), FL E'_3 b'_3 l'_3 c'_3 (X ++ [((128 : Int), w)]) ∧ e = (0 : Int) ∧ l'_3 ≤ (100000 : Nat) ∧ ∀ (b'_4 : Option Addr) (l'_4 c'_4 : Nat) (E' : Mem), Mem.le E'_3 E' → Bs E' b'_4 l'_4 c'_4 w → Mem.le E'_3 E' ∧ req ((0 : Int) ≤ Int.tmod (WI a1) (NI l') ∧ Int.tmod (WI a1) (NI l') < (NI l')) ((∃ (cs : List Value), E' (VS b' l' c') cs ∧ (cs = [] → False)) ∧ ∃ (n : Int), ∃ (base : Option Addr), ∃ (len : Nat), ∃ (cap : Nat), LoadE WL6.P E' 24 (VS b' l' c') (Int.toNat (Int.tmod (WI a1) (NI l')) * (2 : Nat)) (SV.agg [SV.raw (Value.int IntKind.i64 n), SV.raw (VS base len cap)]) ∧ ∃ (zs : List Int), ∃ (p : List Int), ∃ (ms : List (Int × List Int)), ∃ (e : Int), Bs E' base len cap zs ∧ Bs E' b4 l4 c4 p ∧ installF n zs 10 p = (ms, e) ∧ ∀ (b' : Option Addr) (l' c' : Nat) (E'_4 : Mem), Mem.le E' E'_4 → FL E'_4 b' l' c' ms → Mem.le E' E'_4 ∧ ∃ (X : List (Int × List Int)), ∃ (w : List Int), FL E'_4 b' l' c' (X ++ [((128 : Int), w)]) ∧ e = (0 : Int) ∧ l' ≤ (100000 : Nat) ∧ ∀ (b' : Option Addr) (l' c' : Nat) (E' : Mem), Mem.le E'_4 E' → Bs E' b' l' c' w → Mem.le E'_4 E' ∧ ∃ (zs : List Int), ∃ (ms : List (Int × List Int)), ∃ (e : Int), Bs E' b' l' c' zs ∧ markF 128 zs 10 (1 : Int) = (ms, e) ∧ ∀ (b' : Option Addr) (l' c' : Nat) (E'_5 : Mem), Mem.le E' E'_5 → FL E'_5 b' l' c' ms → Mem.le E' E'_5 ∧ ∃ (X : List (Int × List Int)), ∃ (w : List Int), FL E'_5 b' l' c' (X ++ [((128 : Int), w)]) ∧ e = (0 : Int) ∧ l' ≤ (100000 : Nat) ∧ ∀ (b' : Option Addr) (l' c' : Nat) (E' : Mem), Mem.le E'_5 E' → Bs E' b' l' c' w → Mem.le E'_5 E' ∧ ∃ (zs : List Int), ∃ (ds : List Int), Bs E' b'_4 l'_4 c'_4 zs ∧ Bs E' b3 l3 c3 ds ∧ selectF 128 zs = (((9 : Int), ds), (0 : Int)) ∧ l3 ≤ (100000 : Nat) ∧ ∀ (E'_6 : Mem), Mem.le E' E'_6 → Mem.le E' E'_6 ∧ ∃ (zs : List Int), ∃ (ds : List Int), Bs E'_6 b' l' c' zs ∧ Bs E'_6 b4 l4 c4 ds ∧ selectF 128 zs = (((10 : Int), ds), (0 : Int)) ∧ l4 ≤ (100000 : Nat) ∧ ∀ (E' : Mem), Mem.le E'_6 E' → Mem.le E'_6 E' ∧ Mem.le E E' ∧ K (SV.raw (Value.bool true)) E')))
  delta WI NI VS
  refine fun E1 k1 => ?_
  have le1 : Mem.le E E1 := Mem.le_trans (Mem.le_refl E) k1
  refine ⟨k1, condC (fun g => ⟨le1, h E1 le1⟩) (fun g1 => condC (fun g => ⟨le1, h E1 le1⟩) (fun g2 => condC (fun g => ⟨le1, h E1 le1⟩) (fun g3 => condC (fun g => ⟨le1, h E1 le1⟩) (fun g4 => ?_))))⟩
  have g1 : l1 ≤ 60 := by simp at g1; omega
  have g2 : l2 ≤ 60 := by simp at g2; omega
  have g3 : l3 ≤ 60 := by simp at g3; omega
  have g4 : l4 ≤ 60 := by simp at g4; omega
  have m1 := hB1.2.1
  have m2 := hB2.2.1
  have m3 := hB3.2.1
  have m4 := hB4.2.1
  have B1 := hB1.mono le1
  have B2 := hB2.mono le1
  have B3 := hB3.mono le1
  have B4 := hB4.mono le1
  refine ⟨z1, z2, B1, B2, g1, g2, fun bY lY cY y E2 k2 R BY => ?_⟩
  have le2 : Mem.le E E2 := Mem.le_trans le1 k2
  have B1 := B1.mono k2
  have B2 := B2.mono k2
  have B3 := B3.mono k2
  have B4 := B4.mono k2
  have R : Run y z1 z2 := R
  obtain ⟨X, w, x1, x2, x3, A, x5, x6, x7, x8⟩ := R.live.install (v := 9) (p := z3) (by decide) (by rw [R.prog.1]; show (3 : Int) < 9; decide) (by omega) hB3.2.2.2.1
  have nq := inst_num (s := 128) (z := y) (v := 9) (p := z3)
  rw [x1] at nq
  have nq : (X ++ [((128 : Int), w)]).length ≤ 9000 := nq
  refine ⟨k2, y, z3, _, 0, BY, B3, x1, fun bF lF cF E3 k3 FX => ?_⟩
  have le3 : Mem.le E E3 := Mem.le_trans le2 k3
  have B1 := B1.mono k3
  have B2 := B2.mono k3
  have B3 := B3.mono k3
  have B4 := B4.mono k3
  have BY := BY.mono k3
  have nF := FX.len
  have nX : X.length + 1 = lF := by rw [← nF]; simp
  have ha : 0 ≤ a1 ∧ a1 ≤ 65535 := u16_wf ha1
  obtain ⟨k, hk, ek⟩ : ∃ k : Nat, k < lF ∧ Int.tmod (IntKind.wrap .i64 a1) (lF : Int) = (k : Int) := idx_ok ha (by omega) (by omega)
  rw [ek, wrap_i64 (x := (lF : Int) - 1) (by omega)]
  have tk : Int.toNat (k : Int) * 2 = k * 2 := by rw [Int.toNat_natCast]
  rw [tk]
  refine ⟨k3, condC (fun g => absurd g (by decide)) (fun _ => condC (fun g => absurd g (by simp; omega)) (fun _ => ⟨fun q => by omega, req_intro (by omega) ?_⟩))⟩
  obtain ⟨m, hm⟩ := FX.nth hk
  obtain ⟨q1, bM, lM, cM, q2, BM⟩ := FX.load hm
  refine ⟨q1, m.1, bM, lM, cM, q2, ?_⟩
  by_cases c : k + 1 = lF
  · have em : m = (128, w) := by
      rw [List.getElem?_append_right (by omega), show k - X.length = 0 by omega] at hm
      exact (Option.some.inj hm).symm
    subst em
    have L := A.old (.inl (by rw [x5]; decide))
    have io := inst_old (v := 9) (p := z3) L.len L.sel ⟨by decide, by decide, by omega⟩ (.inl (by rw [A.prog]; show (9 : Int) ≤ 9; decide))
    refine ⟨w, z3, _, 14, BM, B3, io, fun bG lG cG E4 k4 FG => ?_⟩
    have le4 : Mem.le E E4 := Mem.le_trans le3 k4
    have B1 := B1.mono k4
    have B2 := B2.mono k4
    have B3 := B3.mono k4
    have B4 := B4.mono k4
    have BY := BY.mono k4
    have FX := FX.mono k4
    have BM := BM.mono k4
    exact ⟨k4, condC (fun _ => ⟨le4, h E4 le4⟩) (fun g => absurd g (by simp; omega))⟩
  · have hm2 : X[k]? = some m := by rwa [List.getElem?_append_left (by omega)] at hm
    obtain ⟨m1, L, m3, m4⟩ := x3 m (List.mem_of_getElem? hm2)
    have p0 : (progB (bankF m.2 0)).1 < 9 := by
      rcases m3 with e | e
      · rw [e, R.prog.1]; show (3 : Int) < 9; decide
      · rw [e]; decide
    obtain ⟨s', zs'⟩ := m
    have m1 : s' = 128 := m1
    subst m1
    obtain ⟨X1, u1, y11, y12, y13, A1, y15, y16, y17, y18⟩ := L.install (v := 9) (p := z3) (by decide) (by show (progB (bankF zs' 0)).1 < _; exact Int.lt_of_lt_of_le p0 (by decide)) (by omega) hB3.2.2.2.1
    obtain ⟨v1, r1, C1, j1⟩ := A1.mark (m := 1) (by decide)
    have s1 := C1.new (by rw [j1, if_pos rfl]) (by rw [j1, if_neg (by decide), y16]; decide)
    have nr1 := inst_num (s := 128) (z := zs') (v := 9) (p := z3)
    have y11 : installF 128 zs' 9 z3 = (X1 ++ [(128, u1)], 0) := y11
    rw [y11] at nr1
    have nr1 : (X1 ++ [((128 : Int), u1)]).length ≤ 9000 := nr1
    obtain ⟨X2, u2, y21, y22, y23, A2, y25, y26, y27, y28⟩ := L.install (v := 10) (p := z4) (by decide) (by show (progB (bankF zs' 0)).1 < _; exact Int.lt_of_lt_of_le p0 (by decide)) (by omega) hB4.2.2.2.1
    obtain ⟨v2, r2, C2, j2⟩ := A2.mark (m := 1) (by decide)
    have s2 := C2.new (by rw [j2, if_pos rfl]) (by rw [j2, if_neg (by decide), y26]; decide)
    have nr2 := inst_num (s := 128) (z := zs') (v := 10) (p := z4)
    have y21 : installF 128 zs' 10 z4 = (X2 ++ [(128, u2)], 0) := y21
    rw [y21] at nr2
    have nr2 : (X2 ++ [((128 : Int), u2)]).length ≤ 9000 := nr2
    refine ⟨zs', z3, _, 0, BM, B3, y11, fun bG lG cG E4 k4 FG => ?_⟩
    have le4 : Mem.le E E4 := Mem.le_trans le3 k4
    have B1 := B1.mono k4
    have B2 := B2.mono k4
    have B3 := B3.mono k4
    have B4 := B4.mono k4
    have BY := BY.mono k4
    have FX := FX.mono k4
    have BM := BM.mono k4
    have nG := FG.len
    refine ⟨k4, condC (fun g => absurd g (by simp; omega)) (fun _ => ?_)⟩
    refine ⟨X1, u1, FG, rfl, by omega, fun bH lH cH E5 k5 BH => ?_⟩
    have le5 : Mem.le E E5 := Mem.le_trans le4 k5
    have B1 := B1.mono k5
    have B2 := B2.mono k5
    have B3 := B3.mono k5
    have B4 := B4.mono k5
    have BY := BY.mono k5
    have FX := FX.mono k5
    have BM := BM.mono k5
    have FG := FG.mono k5
    refine ⟨k5, u1, _, 0, BH, r1, fun bI lI cI E6 k6 FI => ?_⟩
    have le6 : Mem.le E E6 := Mem.le_trans le5 k6
    have B1 := B1.mono k6
    have B2 := B2.mono k6
    have B3 := B3.mono k6
    have B4 := B4.mono k6
    have BY := BY.mono k6
    have FX := FX.mono k6
    have BM := BM.mono k6
    have FG := FG.mono k6
    have BH := BH.mono k6
    have nI := FI.len
    have nI : 2 = lI := nI
    refine ⟨k6, [(128, u1)], v1, FI, rfl, by omega, fun bJ lJ cJ E7 k7 BJ => ?_⟩
    have le7 : Mem.le E E7 := Mem.le_trans le6 k7
    have B1 := B1.mono k7
    have B2 := B2.mono k7
    have B3 := B3.mono k7
    have B4 := B4.mono k7
    have BY := BY.mono k7
    have FX := FX.mono k7
    have BM := BM.mono k7
    have FG := FG.mono k7
    have BH := BH.mono k7
    have FI := FI.mono k7
    obtain ⟨q3, bN, lN, cN, q4, BN⟩ := FX.load hm
    refine ⟨k7, req_intro (by omega) ⟨q3, 128, bN, lN, cN, q4, ?_⟩⟩
    refine ⟨zs', z4, _, 0, BN, B4, y21, fun bP lP cP E8 k8 FP => ?_⟩
    have le8 : Mem.le E E8 := Mem.le_trans le7 k8
    have B1 := B1.mono k8
    have B2 := B2.mono k8
    have B3 := B3.mono k8
    have B4 := B4.mono k8
    have BY := BY.mono k8
    have FX := FX.mono k8
    have BM := BM.mono k8
    have FG := FG.mono k8
    have BH := BH.mono k8
    have FI := FI.mono k8
    have BJ := BJ.mono k8
    have BN := BN.mono k8
    have nP := FP.len
    refine ⟨k8, X2, u2, FP, rfl, by omega, fun bQ lQ cQ E9 k9 BQ => ?_⟩
    have le9 : Mem.le E E9 := Mem.le_trans le8 k9
    have B1 := B1.mono k9
    have B2 := B2.mono k9
    have B3 := B3.mono k9
    have B4 := B4.mono k9
    have BY := BY.mono k9
    have FX := FX.mono k9
    have BM := BM.mono k9
    have FG := FG.mono k9
    have BH := BH.mono k9
    have FI := FI.mono k9
    have BJ := BJ.mono k9
    have BN := BN.mono k9
    have FP := FP.mono k9
    refine ⟨k9, u2, _, 0, BQ, r2, fun bS lS cS E10 k10 FS => ?_⟩
    have le10 : Mem.le E E10 := Mem.le_trans le9 k10
    have B1 := B1.mono k10
    have B2 := B2.mono k10
    have B3 := B3.mono k10
    have B4 := B4.mono k10
    have BY := BY.mono k10
    have FX := FX.mono k10
    have BM := BM.mono k10
    have FG := FG.mono k10
    have BH := BH.mono k10
    have FI := FI.mono k10
    have BJ := BJ.mono k10
    have BN := BN.mono k10
    have FP := FP.mono k10
    have BQ := BQ.mono k10
    have nS := FS.len
    have nS : 2 = lS := nS
    refine ⟨k10, [(128, u2)], v2, FS, rfl, by omega, fun bT lT cT E11 k11 BT => ?_⟩
    have le11 : Mem.le E E11 := Mem.le_trans le10 k11
    have B1 := B1.mono k11
    have B2 := B2.mono k11
    have B3 := B3.mono k11
    have B4 := B4.mono k11
    have BY := BY.mono k11
    have FX := FX.mono k11
    have BM := BM.mono k11
    have FG := FG.mono k11
    have BH := BH.mono k11
    have FI := FI.mono k11
    have BJ := BJ.mono k11
    have BN := BN.mono k11
    have FP := FP.mono k11
    have BQ := BQ.mono k11
    have FS := FS.mono k11
    refine ⟨k11, v1, z3, BJ, B3, s1, by omega, fun E12 k12 => ?_⟩
    have le12 : Mem.le E E12 := Mem.le_trans le11 k12
    have B1 := B1.mono k12
    have B2 := B2.mono k12
    have B3 := B3.mono k12
    have B4 := B4.mono k12
    have BY := BY.mono k12
    have FX := FX.mono k12
    have BM := BM.mono k12
    have FG := FG.mono k12
    have BH := BH.mono k12
    have FI := FI.mono k12
    have BJ := BJ.mono k12
    have BN := BN.mono k12
    have FP := FP.mono k12
    have BQ := BQ.mono k12
    have FS := FS.mono k12
    have BT := BT.mono k12
    refine ⟨k12, v2, z4, BT, B4, s2, by omega, fun E13 k13 => ?_⟩
    have le13 : Mem.le E E13 := Mem.le_trans le12 k13
    have B1 := B1.mono k13
    have B2 := B2.mono k13
    have B3 := B3.mono k13
    have B4 := B4.mono k13
    have BY := BY.mono k13
    have FX := FX.mono k13
    have BM := BM.mono k13
    have FG := FG.mono k13
    have BH := BH.mono k13
    have FI := FI.mono k13
    have BJ := BJ.mono k13
    have BN := BN.mono k13
    have FP := FP.mono k13
    have BQ := BQ.mono k13
    have FS := FS.mono k13
    have BT := BT.mono k13
    exact ⟨k13, le13, h E13 le13⟩
theorem opn6 (W : World) (K : List SV → Prop) (h : ∀ (b1 : Option Addr) (l1 c1 : Nat) (z1 : List Int), (l1 ≤ c1) → (c1 ≤ maxLen) → (b1 = none → c1 = 0) → (z1.length = c1) → (∀ x ∈ z1, (Lit.int .u8 x).wf = true) → RowAt W (.slice b1 l1 c1) (z1.map (.int .u8)) → ∀ (b2 : Option Addr) (l2 c2 : Nat) (z2 : List Int), (l2 ≤ c2) → (c2 ≤ maxLen) → (b2 = none → c2 = 0) → (z2.length = c2) → (∀ x ∈ z2, (Lit.int .u8 x).wf = true) → RowAt W (.slice b2 l2 c2) (z2.map (.int .u8)) → ∀ (b3 : Option Addr) (l3 c3 : Nat) (z3 : List Int), (l3 ≤ c3) → (c3 ≤ maxLen) → (b3 = none → c3 = 0) → (z3.length = c3) → (∀ x ∈ z3, (Lit.int .u8 x).wf = true) → RowAt W (.slice b3 l3 c3) (z3.map (.int .u8)) → ∀ a1 : Int, (Lit.int .u16 a1).wf = true → ∀ (b4 : Option Addr) (l4 c4 : Nat) (z4 : List Int), (l4 ≤ c4) → (c4 ≤ maxLen) → (b4 = none → c4 = 0) → (z4.length = c4) → (∀ x ∈ z4, (Lit.int .u8 x).wf = true) → RowAt W (.slice b4 l4 c4) (z4.map (.int .u8)) → K [L b1 l1 c1, L b2 l2 c2, L b3 l3 c3, .raw (.int .u16 a1), L b4 l4 c4]) : opnAll Try.prog W Try.f6.params.toList K :=
  same (by kernel_rfl) h
theorem sem6 (W : World) : opnAll Try.prog W Try.f6.params.toList fun ss => TabSem Try.prog 6 ss (fun v cs => RowAt W v cs) fun r _ => r = .raw (.bool true) := by
  refine opn6 W _ ?_
  intro b1 l1 c1 z1 hl1 hc1 hb1 hz1 hw1 hE1 b2 l2 c2 z2 hl2 hc2 hb2 hz2 hw2 hE2 b3 l3 c3 z3 hl3 hc3 hb3 hz3 hw3 hE3 a1 ha1 b4 l4 c4 z4 hl4 hc4 hb4 hz4 hw4 hE4
  exact Ent.sem okWL6 Try.func6 ⟨by kernel_rfl, by kernel_rfl⟩ rfl (e6 (Bs.of hl1 hb1 hz1 hw1 hE1) (Nat.le_trans hl1 (by simpa [maxLen] using hc1)) (Bs.of hl2 hb2 hz2 hw2 hE2) (Nat.le_trans hl2 (by simpa [maxLen] using hc2)) (Bs.of hl3 hb3 hz3 hw3 hE3) (Nat.le_trans hl3 (by simpa [maxLen] using hc3)) ha1 (Bs.of hl4 hb4 hz4 hw4 hE4) (Nat.le_trans hl4 (by simpa [maxLen] using hc4)) (fun _ _ => rfl))
theorem lifted6 (os : Os) (started : os.Started) (H : Type) (enc : TypeId × Value → H) :
    ReturnsInHanded {} Try.checked os 6 .any (Rows.bootAgainSpec.pre6 enc Try.prog Try.f6 Rows.bootAgainRow.domain false) (Rows.bootAgainSpec.post enc Try.prog Try.f6 false true false false) :=
  lift_true (C := Try.checked) (by kernel_rfl) (by kernel_rfl) started (by kernel_rfl) Try.func6
    (ChangeSpec.witness6 (enc := enc) (C := Try.checked) false ⟨#[], #[.slice none 0 0, .slice none 0 0, .slice none 0 0, .int .u16 0, .slice none 0 0], []⟩ 8 (by kernel_rfl) (by kernel_rfl) (by kernel_rfl) (by kernel_rfl))
    (Tb := 4) (by kernel_rfl) (by kernel_rfl) (by kernel_rfl) rfl
    (fun ds hl => by
      match ds, hl with
      | [d0, d1, d2, d3, d4], _ => exact ⟨rfl, rfl, rfl⟩)
    sem6
theorem over6 : Rows.bootAgainRow.holds Try.pinned (OpenSpec.ofChange Rows.bootAgainSpec) :=
  OpenClaim.holds_of_wide 6 Try.f6 rfl rfl rfl rfl rfl rfl rfl ⟨rfl, rfl, rfl, rfl, rfl⟩ rfl rfl rfl rfl rfl (by kernel_rfl) Try.func6 (by kernel_rfl)
    (of_decide_eq_true (by kernel_rfl)) (by unfold Func.isWrapper; first | (rw [if_pos (by decide +kernel)]; kernel_rfl) | (rw [if_neg (by decide +kernel)]; exact ⟨rfl, rfl⟩))
    (fun os started H enc _ => lifted6 os started H enc)
theorem proved6 : Rows.BootAgainSaid := over6
end Go.Proofs.Ytdblighgcpabnaa.BootOwn
