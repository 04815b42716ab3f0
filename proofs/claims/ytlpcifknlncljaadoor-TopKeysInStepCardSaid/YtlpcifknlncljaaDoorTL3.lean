/- The law's proof: for every input the law answers true. Conditions: none. -/
import Derived.Test.YtlpcifknlncljaaDoorTk6
import Derived.Test.YtlpcifknlncljaaDoorCards
import Derived.Test.YtlpcifknlncljaaDoorTie
import Derived.Stop.Joined
import Derived.SevenTiedAt
import Derived.Test.YtlpcifknlncljaaDoorRows
namespace Go.Proofs.YtlpcifknlncljaaDoor.TopOwn
open Go Go.Sx Go.Proofs.YtlpcifknlncljaaDoor
set_option maxRecDepth 100000
set_option maxHeartbeats 4000000
set_option linter.unusedVariables false
set_option linter.unusedSimpArgs false
variable {E : Mem} {K : SV → Mem → Prop}
noncomputable def tabL3 : FuncId → List SV → Mem → (SV → Mem → Prop) → Prop := fun f args E K => match f with
  | 5 => d0 args (GR E ∧ (∀ E' : Mem, Mem.le E E' → K (B true) E'))
  | 6 => d1 args fun x0 => dI x0 fun a1 => ∃ (e : Int), RtE a1 e ∧ (K (.agg [I e, I (e + 2)]) E)
  | 7 => d2 args fun x0 x1 => dC x0 fun l1 => d6 l1 fun x0_0 x0_1 x0_2 x0_3 x0_4 x0_5 => dI x0_0 fun a1 => dI x0_1 fun a2 => dI x0_2 fun a3 => dI x0_3 fun a4 => dI x0_4 fun a5 => dS x0_5 fun b6 l7 c8 => dC x1 fun l2 => d2 l2 fun x1_0 x1_1 => dI x1_0 fun a9 => dI x1_1 fun a10 => ∃ (e : Int), RtE a4 e ∧ (a9 ≤ e ∧ e < a10) ∧ (K (.tup [.agg [I a1, I a2, I a3, I a4, I (e + 1), L b6 l7 c8], I 0]) E)
  | 8 => d2 args fun x0 x1 => dC x0 fun l1 => d2 l1 fun x0_0 x0_1 => dI x0_0 fun a1 => dI x0_1 fun a2 => dI x1 fun a3 => ∃ (e : Int), RtE a3 e ∧ a2 = a1 + 2 ∧ (0 ≤ a1 ∧ a1 ≤ e ∧ e ≤ a1 + 1) ∧ (K (.agg [I e, I a2]) E)
  | 9 => d3 args fun x0 x1 x2 => dC x0 fun l1 => d6 l1 fun x0_0 x0_1 x0_2 x0_3 x0_4 x0_5 => dI x0_0 fun a1 => dI x0_1 fun a2 => dI x0_2 fun a3 => dI x0_3 fun a4 => dI x0_4 fun a5 => dS x0_5 fun b6 l7 c8 => dC x1 fun l2 => d2 l2 fun x1_0 x1_1 => dI x1_0 fun a9 => dI x1_1 fun a10 => dI x2 fun a11 => ∃ (e : Int), RtE a11 e ∧ (a9 ≤ e ∧ e < a10 ∧ (a4 = a11 → a5 = e + 1)) ∧ (K (I (if a4 = a11 then 0 else 14)) E)
  | 10 => d3 args fun x0 x1 x2 => dC x0 fun l1 => d2 l1 fun x0_0 x0_1 => dI x0_0 fun a1 => dI x0_1 fun a2 => dC x1 fun l2 => d2 l2 fun x1_0 x1_1 => dI x1_0 fun a3 => dI x1_1 fun a4 => dI x2 fun a5 => RtE a5 a1 ∧ (a3 = a1 ∧ a4 = a1 + 2) ∧ (a1 + 1 ≤ a2 ∧ a2 ≤ a1 + 2) ∧ (K (.agg [I a1, I a4]) E)
  | _ => False
theorem tabL3_ok : TabOK Tryd.prog tabL3 := by
  intro f args E K h
  unfold tabL3 at h
  split at h
  · obtain ⟨rfl, h⟩ := d0_elim h
    obtain ⟨g0, h⟩ := h
    exact TabSem.congr rfl (Ent.sem okG1 Tryd.func5 ⟨by kernel_rfl, by kernel_rfl⟩ rfl (q5 g0 h))
  · replace h := d1_elim h
    obtain ⟨x0, rfl, h⟩ := h
    replace h := dI_elim h
    obtain ⟨a1, rfl, h⟩ := h
    obtain ⟨e, g0, h⟩ := h
    exact TabSem.congr (valL_cons rfl rfl) (Ent.sem okD1 Tryd.func6 ⟨by kernel_rfl, by kernel_rfl⟩ rfl (q6 g0 h))
  · replace h := d2_elim h
    obtain ⟨x0, x1, rfl, h⟩ := h
    replace h := dC_elim h
    obtain ⟨l1, hl1, h⟩ := h
    replace h := d6_elim h
    obtain ⟨x0_0, x0_1, x0_2, x0_3, x0_4, x0_5, rfl, h⟩ := h
    replace h := dI_elim h
    obtain ⟨a1, rfl, h⟩ := h
    replace h := dI_elim h
    obtain ⟨a2, rfl, h⟩ := h
    replace h := dI_elim h
    obtain ⟨a3, rfl, h⟩ := h
    replace h := dI_elim h
    obtain ⟨a4, rfl, h⟩ := h
    replace h := dI_elim h
    obtain ⟨a5, rfl, h⟩ := h
    replace h := dS_elim h
    obtain ⟨b6, l7, c8, rfl, h⟩ := h
    replace h := dC_elim h
    obtain ⟨l2, hl2, h⟩ := h
    replace h := d2_elim h
    obtain ⟨x1_0, x1_1, rfl, h⟩ := h
    replace h := dI_elim h
    obtain ⟨a9, rfl, h⟩ := h
    replace h := dI_elim h
    obtain ⟨a10, rfl, h⟩ := h
    obtain ⟨e, g0, g1, h⟩ := h
    exact TabSem.congr (valL_cons (asCells_val hl1) (valL_cons (asCells_val hl2) rfl)) (Ent.sem okD3 Tryd.func7 ⟨by kernel_rfl, by kernel_rfl⟩ rfl (q7 g0 g1 h))
  · replace h := d2_elim h
    obtain ⟨x0, x1, rfl, h⟩ := h
    replace h := dC_elim h
    obtain ⟨l1, hl1, h⟩ := h
    replace h := d2_elim h
    obtain ⟨x0_0, x0_1, rfl, h⟩ := h
    replace h := dI_elim h
    obtain ⟨a1, rfl, h⟩ := h
    replace h := dI_elim h
    obtain ⟨a2, rfl, h⟩ := h
    replace h := dI_elim h
    obtain ⟨a3, rfl, h⟩ := h
    obtain ⟨e, g0, g1, g2, h⟩ := h
    exact TabSem.congr (valL_cons (asCells_val hl1) (valL_cons rfl rfl)) (Ent.sem okD2 Tryd.func8 ⟨by kernel_rfl, by kernel_rfl⟩ rfl (q8 g0 g1 g2 h))
  · replace h := d3_elim h
    obtain ⟨x0, x1, x2, rfl, h⟩ := h
    replace h := dC_elim h
    obtain ⟨l1, hl1, h⟩ := h
    replace h := d6_elim h
    obtain ⟨x0_0, x0_1, x0_2, x0_3, x0_4, x0_5, rfl, h⟩ := h
    replace h := dI_elim h
    obtain ⟨a1, rfl, h⟩ := h
    replace h := dI_elim h
    obtain ⟨a2, rfl, h⟩ := h
    replace h := dI_elim h
    obtain ⟨a3, rfl, h⟩ := h
    replace h := dI_elim h
    obtain ⟨a4, rfl, h⟩ := h
    replace h := dI_elim h
    obtain ⟨a5, rfl, h⟩ := h
    replace h := dS_elim h
    obtain ⟨b6, l7, c8, rfl, h⟩ := h
    replace h := dC_elim h
    obtain ⟨l2, hl2, h⟩ := h
    replace h := d2_elim h
    obtain ⟨x1_0, x1_1, rfl, h⟩ := h
    replace h := dI_elim h
    obtain ⟨a9, rfl, h⟩ := h
    replace h := dI_elim h
    obtain ⟨a10, rfl, h⟩ := h
    replace h := dI_elim h
    obtain ⟨a11, rfl, h⟩ := h
    obtain ⟨e, g0, g1, h⟩ := h
    exact TabSem.congr (valL_cons (asCells_val hl1) (valL_cons (asCells_val hl2) (valL_cons rfl rfl))) (Ent.sem okD4 Tryd.func9 ⟨by kernel_rfl, by kernel_rfl⟩ rfl (q9 g0 g1 h))
  · replace h := d3_elim h
    obtain ⟨x0, x1, x2, rfl, h⟩ := h
    replace h := dC_elim h
    obtain ⟨l1, hl1, h⟩ := h
    replace h := d2_elim h
    obtain ⟨x0_0, x0_1, rfl, h⟩ := h
    replace h := dI_elim h
    obtain ⟨a1, rfl, h⟩ := h
    replace h := dI_elim h
    obtain ⟨a2, rfl, h⟩ := h
    replace h := dC_elim h
    obtain ⟨l2, hl2, h⟩ := h
    replace h := d2_elim h
    obtain ⟨x1_0, x1_1, rfl, h⟩ := h
    replace h := dI_elim h
    obtain ⟨a3, rfl, h⟩ := h
    replace h := dI_elim h
    obtain ⟨a4, rfl, h⟩ := h
    replace h := dI_elim h
    obtain ⟨a5, rfl, h⟩ := h
    obtain ⟨g0, g1, g2, h⟩ := h
    exact TabSem.congr (valL_cons (asCells_val hl1) (valL_cons (asCells_val hl2) (valL_cons rfl rfl))) (Ent.sem okD2 Tryd.func10 ⟨by kernel_rfl, by kernel_rfl⟩ rfl (q10 g0 g1 g2 h))
  · exact h.elim
noncomputable def WL3 : Cx := { P := Tryd.prog, inl := fun f => List.contains [] f, tab := tabL3, isB := fun _ => false, tabB := fun _ _ _ _ _ => False, opt := { unroll := 0, carry := [0, 42], cuts := [] }, muts := mutsD }
theorem okWL3 : CxOK WL3 := CxOK.four tabL3_ok (by kernel_rfl) (okInl (by kernel_rfl)) (fun _ _ _ _ _ h => h.elim)
def sh3 (b1 : Option Addr) (l1 c1 : Nat) (a e : Int) (i : Nat) (E : Mem) : St := ⟨[some (I a), none, none, none, none, some (B true), some (.loc 0 0), some (.loc 1 0), none, none, none, none, none, none, none, none, none, none, none, none, none, none, none, none, none, none, none, none, none, none, none, none, none, none, none, none, none, none, none, none, some (L b1 l1 c1), some (I (l1 : Nat)), some (I (i : Nat))] ++ List.replicate 74 none, [⟨25, .lst [I e, I (e + 2)], 2, true⟩, ⟨29, .lst [I 1, I 0, I (-1), I a, I (e + 1), L none 0 0], 6, true⟩], E⟩
theorem u16_wf {x : Int} (h : (Lit.int .u16 x).wf = true) : 0 ≤ x ∧ x ≤ 65535 := by
  have e : IntKind.u16.min ≤ x ∧ x ≤ IntKind.u16.max := by simpa [Lit.wf] using h
  exact e
theorem RtE.step {a e d : Int} (h : RtE a e) (h1 : 1 ≤ d) (h2 : d ≤ 2000) (h3 : a + d ≤ 1000000000) : ∃ e', RtE (a + d) e' ∧ 0 ≤ e ∧ e ≤ e' ∧ e' ≤ e + 1 := by
  obtain ⟨l, u, o1, o2⟩ := h
  by_cases g : a + d < 2000 * e + 2000
  · exact ⟨e, ⟨by omega, g, by omega, h3⟩, by omega, by omega, by omega⟩
  · exact ⟨e + 1, ⟨by omega, by omega, by omega, h3⟩, by omega, by omega, by omega⟩
theorem r3 {b1 : Option Addr} {l1 c1 i : Nat} {a e : Int} {z1 : List Int} {E0 : Mem} (hl1 : l1 ≤ c1) (hz1 : z1.length = c1) (hc1 : c1 ≤ maxLen) (hw1 : ∀ x ∈ z1, (Lit.int .u16 x).wf = true) (hE1 : E (.slice b1 l1 c1) (z1.map (.int .u16))) (hR : RtE a e) (hA : a ≤ 999800000 + 2000 * i) (hi : i ≤ l1 ∧ l1 ≤ 40) (hE : Mem.le E0 E) (h : K (B true) E)
    (ih : i < l1 → ∀ a' e', RtE a' e' → a' ≤ a + 2000 → Lp WL3 12 Tryd.f3 [1, 1, 1, 1, 1, 1, 0, 1, 0] 0 (pubK E0 K) (sh3 b1 l1 c1 a' e' (i + 1) E)) : Rnd WL3 12 Tryd.f3 [1, 1, 1, 1, 1, 1, 0, 1, 0] 0 (pubK E0 K) (sh3 b1 l1 c1 a e i E) := by
  refine same (by kernel_rfl) (?_ : 
      bif decide ((↑i : Int) < (↑l1 : Int)) then
        req ((0 : Int) ≤ (↑i : Int) ∧ (↑i : Int) < (↑l1 : Int))
          ((∃ (cs : List Value), E (Value.slice b1 l1 c1) cs ∧ (cs = [] → False)) ∧
            ∃ (n : Int),
              LoadE WL3.P E 33 (Value.slice b1 l1 c1) (Int.toNat (↑i : Int) * 1)
                  (SV.raw (Value.int IntKind.u16 n)) ∧
                ((2000 : Int) = (0 : Int) → False) ∧
                  ∃ (e_1 : Int),
                    RtE
                        (IntKind.wrap IntKind.i64
                          (a + IntKind.wrap IntKind.i64 ((1 : Int) + Int.tmod (IntKind.wrap IntKind.i64 n) (2000 : Int))))
                        e_1 ∧
                      e + (2 : Int) = e + (2 : Int) ∧
                        ((0 : Int) ≤ e ∧ e ≤ e_1 ∧ e_1 ≤ e + (1 : Int)) ∧
                          Mem.le E E ∧
                            ∃ (e_2 : Int),
                              RtE
                                  (IntKind.wrap IntKind.i64
                                    (a +
                                      IntKind.wrap IntKind.i64
                                        ((1 : Int) + Int.tmod (IntKind.wrap IntKind.i64 n) (2000 : Int))))
                                  e_2 ∧
                                Mem.le E E ∧
                                  ∃ (e_3 : Int),
                                    RtE
                                        (IntKind.wrap IntKind.i64
                                          (a +
                                            IntKind.wrap IntKind.i64
                                              ((1 : Int) + Int.tmod (IntKind.wrap IntKind.i64 n) (2000 : Int))))
                                        e_3 ∧
                                      (e_2 ≤ e_3 ∧ e_3 < e_2 + (2 : Int)) ∧
                                        Mem.le E E ∧
                                          ∃ (e_4 : Int),
                                            RtE
                                                (IntKind.wrap IntKind.i64
                                                  (a +
                                                    IntKind.wrap IntKind.i64
                                                      ((1 : Int) + Int.tmod (IntKind.wrap IntKind.i64 n) (2000 : Int))))
                                                e_4 ∧
                                              (e_1 ≤ e_4 ∧ e_4 < e + (2 : Int)) ∧
                                                Mem.le E E ∧
                                                  bif bif false then true else e_3 + (1 : Int) != e_4 + (1 : Int) then
                                                    Mem.le E0 E ∧ K (SV.raw (Value.bool false)) E
                                                  else
                                                    ∃ (e_5 : Int),
                                                      RtE
                                                          (IntKind.wrap IntKind.i64
                                                            (a +
                                                              IntKind.wrap IntKind.i64
                                                                ((1 : Int) +
                                                                  Int.tmod (IntKind.wrap IntKind.i64 n) (2000 : Int))))
                                                          e_5 ∧
                                                        (e_1 ≤ e_5 ∧
                                                            e_5 < e + (2 : Int) ∧
                                                              (IntKind.wrap IntKind.i64
                                                                    (a +
                                                                      IntKind.wrap IntKind.i64
                                                                        ((1 : Int) +
                                                                          Int.tmod (IntKind.wrap IntKind.i64 n)
                                                                            (2000 : Int))) =
                                                                  IntKind.wrap IntKind.i64
                                                                    (a +
                                                                      IntKind.wrap IntKind.i64
                                                                        ((1 : Int) +
                                                                          Int.tmod (IntKind.wrap IntKind.i64 n)
                                                                            (2000 : Int))) →
                                                                e_3 + (1 : Int) = e_5 + (1 : Int))) ∧
                                                          Mem.le E E ∧
                                                            bif
                                                                bif false then true
                                                                else
                                                                  (if
                                                                        IntKind.wrap IntKind.i64
                                                                            (a +
                                                                              IntKind.wrap IntKind.i64
                                                                                ((1 : Int) +
                                                                                  Int.tmod (IntKind.wrap IntKind.i64 n)
                                                                                    (2000 : Int))) =
                                                                          IntKind.wrap IntKind.i64
                                                                            (a +
                                                                              IntKind.wrap IntKind.i64
                                                                                ((1 : Int) +
                                                                                  Int.tmod (IntKind.wrap IntKind.i64 n)
                                                                                    (2000 : Int))) then
                                                                      (0 : Int)
                                                                    else (14 : Int)) !=
                                                                    (0 : Int) then
                                                              Mem.le E0 E ∧ K (SV.raw (Value.bool false)) E
                                                            else
                                                              ∃ (e_6 : Int),
                                                                RtE
                                                                    (IntKind.wrap IntKind.i64
                                                                      (a +
                                                                        IntKind.wrap IntKind.i64
                                                                          ((1 : Int) +
                                                                            Int.tmod (IntKind.wrap IntKind.i64 n)
                                                                              (2000 : Int))))
                                                                    e_6 ∧
                                                                  Mem.le E E ∧
                                                                    ∃ (e_7 : Int),
                                                                      RtE
                                                                          (IntKind.wrap IntKind.i64
                                                                            (a +
                                                                              IntKind.wrap IntKind.i64
                                                                                ((1 : Int) +
                                                                                  Int.tmod (IntKind.wrap IntKind.i64 n)
                                                                                    (2000 : Int))))
                                                                          e_7 ∧
                                                                        (e_6 ≤ e_7 ∧
                                                                            e_7 < e_6 + (2 : Int) ∧
                                                                              (IntKind.wrap IntKind.i64
                                                                                    (a +
                                                                                      IntKind.wrap IntKind.i64
                                                                                        ((1 : Int) +
                                                                                          Int.tmod
                                                                                            (IntKind.wrap IntKind.i64 n)
                                                                                            (2000 : Int))) =
                                                                                  IntKind.wrap IntKind.i64
                                                                                    (a +
                                                                                      IntKind.wrap IntKind.i64
                                                                                        ((1 : Int) +
                                                                                          Int.tmod
                                                                                            (IntKind.wrap IntKind.i64 n)
                                                                                            (2000 : Int))) →
                                                                                e_4 + (1 : Int) = e_7 + (1 : Int))) ∧
                                                                          Mem.le E E ∧
                                                                            bif
                                                                                bif false then true
                                                                                else
                                                                                  (if
                                                                                        IntKind.wrap IntKind.i64
                                                                                            (a +
                                                                                              IntKind.wrap IntKind.i64
                                                                                                ((1 : Int) +
                                                                                                  Int.tmod
                                                                                                    (IntKind.wrap IntKind.i64
                                                                                                      n)
                                                                                                    (2000 : Int))) =
                                                                                          IntKind.wrap IntKind.i64
                                                                                            (a +
                                                                                              IntKind.wrap IntKind.i64
                                                                                                ((1 : Int) +
                                                                                                  Int.tmod
                                                                                                    (IntKind.wrap IntKind.i64
                                                                                                      n)
                                                                                                    (2000 : Int))) then
                                                                                      (0 : Int)
                                                                                    else (14 : Int)) !=
                                                                                    (0 : Int) then
                                                                              Mem.le E0 E ∧ K (SV.raw (Value.bool false)) E
                                                                            else
                                                                              ∃ (e_8 : Int),
                                                                                RtE
                                                                                    (IntKind.wrap IntKind.i64
                                                                                      (a +
                                                                                        IntKind.wrap IntKind.i64
                                                                                          ((1 : Int) +
                                                                                            Int.tmod
                                                                                              (IntKind.wrap IntKind.i64 n)
                                                                                              (2000 : Int))))
                                                                                    e_8 ∧
                                                                                  (e_1 ≤ e_8 ∧
                                                                                      e_8 < e + (2 : Int) ∧
                                                                                        (a =
                                                                                            IntKind.wrap IntKind.i64
                                                                                              (a +
                                                                                                IntKind.wrap IntKind.i64
                                                                                                  ((1 : Int) +
                                                                                                    Int.tmod
                                                                                                      (IntKind.wrap
                                                                                                        IntKind.i64 n)
                                                                                                      (2000 : Int))) →
                                                                                          e + (1 : Int) = e_8 + (1 : Int))) ∧
                                                                                    Mem.le E E ∧
                                                                                      bif
                                                                                          bif false then true
                                                                                          else
                                                                                            (if
                                                                                                  a =
                                                                                                    IntKind.wrap IntKind.i64
                                                                                                      (a +
                                                                                                        IntKind.wrap
                                                                                                          IntKind.i64
                                                                                                          ((1 : Int) +
                                                                                                            Int.tmod
                                                                                                              (IntKind.wrap
                                                                                                                IntKind.i64 n)
                                                                                                              (2000 :
                                                                                                                Int))) then
                                                                                                (0 : Int)
                                                                                              else (14 : Int)) !=
                                                                                              (14 : Int) then
                                                                                        Mem.le E0 E ∧
                                                                                          K (SV.raw (Value.bool false)) E
                                                                                      else
                                                                                        ∃ (e_9 : Int),
                                                                                          RtE
                                                                                              (IntKind.wrap IntKind.i64
                                                                                                (a +
                                                                                                  IntKind.wrap IntKind.i64
                                                                                                    ((1 : Int) +
                                                                                                      Int.tmod
                                                                                                        (IntKind.wrap
                                                                                                          IntKind.i64 n)
                                                                                                        (2000 : Int))))
                                                                                              e_9 ∧
                                                                                            Mem.le E E ∧
                                                                                              RtE
                                                                                                  (IntKind.wrap IntKind.i64
                                                                                                    (a +
                                                                                                      IntKind.wrap IntKind.i64
                                                                                                        ((1 : Int) +
                                                                                                          Int.tmod
                                                                                                            (IntKind.wrap
                                                                                                              IntKind.i64 n)
                                                                                                            (2000 : Int))))
                                                                                                  e_1 ∧
                                                                                                (e_9 = e_1 ∧
                                                                                                    e_9 + (2 : Int) =
                                                                                                      e_1 + (2 : Int)) ∧
                                                                                                  (e_1 + (1 : Int) ≤
                                                                                                        e + (2 : Int) ∧
                                                                                                      e + (2 : Int) ≤
                                                                                                        e_1 + (2 : Int)) ∧
                                                                                                    Mem.le E E ∧
                                                                                                      ∃ (e : Int),
                                                                                                        RtE
                                                                                                            (IntKind.wrap
                                                                                                              IntKind.i64
                                                                                                              (a +
                                                                                                                IntKind.wrap
                                                                                                                  IntKind.i64
                                                                                                                  ((1 : Int) +
                                                                                                                    Int.tmod
                                                                                                                      (IntKind.wrap
                                                                                                                        IntKind.i64
                                                                                                                        n)
                                                                                                                      (2000 :
                                                                                                                        Int))))
                                                                                                            e ∧
                                                                                                          Mem.le E E ∧
                                                                                                            bif
                                                                                                                !(e_1 == e &&
                                                                                                                    (e_9 +
                                                                                                                          (2 :
                                                                                                                            Int) ==
                                                                                                                        e +
                                                                                                                          (2 :
                                                                                                                            Int) &&
                                                                                                                      true)) then
                                                                                                              Mem.le E0 E ∧
                                                                                                                K
                                                                                                                  (SV.raw
                                                                                                                    (Value.bool
                                                                                                                      false))
                                                                                                                  E
                                                                                                            else
                                                                                                              Lp WL3
                                                                                                                12
                                                                                                                Tryd.f3
                                                                                                                [1,
                                                                                                                  1,
                                                                                                                  1,
                                                                                                                  1,
                                                                                                                  1,
                                                                                                                  1,
                                                                                                                  0,
                                                                                                                  1,
                                                                                                                  0]
                                                                                                                0
                                                                                                                (pubK E0 K)
                                                                                                                {
                                                                                                                  fr :=
                                                                                                                    [some (SV.raw (Value.int IntKind.i64 (IntKind.wrap IntKind.i64 (a + IntKind.wrap IntKind.i64 ((1 : Int) + Int.tmod (IntKind.wrap IntKind.i64 n) (2000 : Int)))))), none, none, none, none, some (SV.raw (Value.bool true)), some (SV.loc (0 : Nat) (0 : Nat)), some (SV.loc (1 : Nat) (0 : Nat)), none, none, none, none, none, none, none, none, none, none, none, none, none, none, none, none, none, none, none, none, none, none, none, none, none, none, none, none, none, none, none, none, some (SV.raw (Value.slice b1 l1 c1)), some (SV.raw (Value.int IntKind.i64 (↑l1 : Int))), some (SV.raw (Value.int IntKind.i64 (IntKind.wrap IntKind.i64 ((↑i : Int) + (1 : Int))))), none, none, none, none, none, none, none, none, none, none, none, none, none, none, none, none, none, none, none, none, none, none, none, none, none, none, none, none, none, none, none, none, none, none, none, none, none, none, none, none, none, none, none, none, none, none, none, none, none, none, none, none, none, none, none, none, none, none, none, none, none, none, none, none, none, none, none, none, none, none, none, none, none, none],
                                                                                                                  bx :=
                                                                                                                    [{
                                                                                                                        elem :=
                                                                                                                          (25 :
                                                                                                                            Nat),
                                                                                                                        row :=
                                                                                                                          Row.lst
                                                                                                                            [SV.raw
                                                                                                                                (Value.int
                                                                                                                                  IntKind.i64
                                                                                                                                  e_1),
                                                                                                                              SV.raw
                                                                                                                                (Value.int
                                                                                                                                  IntKind.i64
                                                                                                                                  (e_9 +
                                                                                                                                    (2 :
                                                                                                                                      Int)))],
                                                                                                                        total :=
                                                                                                                          (2 :
                                                                                                                            Nat),
                                                                                                                        own :=
                                                                                                                          true :
                                                                                                                        Box },
                                                                                                                      {
                                                                                                                        elem :=
                                                                                                                          (29 :
                                                                                                                            Nat),
                                                                                                                        row :=
                                                                                                                          Row.lst
                                                                                                                            [SV.raw
                                                                                                                                (Value.int
                                                                                                                                  IntKind.i64
                                                                                                                                  (1 :
                                                                                                                                    Int)),
                                                                                                                              SV.raw
                                                                                                                                (Value.int
                                                                                                                                  IntKind.i64
                                                                                                                                  (0 :
                                                                                                                                    Int)),
                                                                                                                              SV.raw
                                                                                                                                (Value.int
                                                                                                                                  IntKind.i64
                                                                                                                                  (-1 :
                                                                                                                                    Int)),
                                                                                                                              SV.raw
                                                                                                                                (Value.int
                                                                                                                                  IntKind.i64
                                                                                                                                  (IntKind.wrap
                                                                                                                                    IntKind.i64
                                                                                                                                    (a +
                                                                                                                                      IntKind.wrap
                                                                                                                                        IntKind.i64
                                                                                                                                        ((1 :
                                                                                                                                            Int) +
                                                                                                                                          Int.tmod
                                                                                                                                            (IntKind.wrap
                                                                                                                                              IntKind.i64
                                                                                                                                              n)
                                                                                                                                            (2000 :
                                                                                                                                              Int))))),
                                                                                                                              SV.raw
                                                                                                                                (Value.int
                                                                                                                                  IntKind.i64
                                                                                                                                  (e_4 +
                                                                                                                                    (1 :
                                                                                                                                      Int))),
                                                                                                                              SV.raw
                                                                                                                                (Value.slice
                                                                                                                                  none
                                                                                                                                  (0 :
                                                                                                                                    Nat)
                                                                                                                                  (0 :
                                                                                                                                    Nat))],
                                                                                                                        total :=
                                                                                                                          (6 :
                                                                                                                            Nat),
                                                                                                                        own :=
                                                                                                                          true :
                                                                                                                        Box },
                                                                                                                      {
                                                                                                                        elem :=
                                                                                                                          (29 :
                                                                                                                            Nat),
                                                                                                                        row :=
                                                                                                                          Row.lst
                                                                                                                            [SV.raw
                                                                                                                                (Value.int
                                                                                                                                  IntKind.i64
                                                                                                                                  (1 :
                                                                                                                                    Int)),
                                                                                                                              SV.raw
                                                                                                                                (Value.int
                                                                                                                                  IntKind.i64
                                                                                                                                  (0 :
                                                                                                                                    Int)),
                                                                                                                              SV.raw
                                                                                                                                (Value.int
                                                                                                                                  IntKind.i64
                                                                                                                                  (-1 :
                                                                                                                                    Int)),
                                                                                                                              SV.raw
                                                                                                                                (Value.int
                                                                                                                                  IntKind.i64
                                                                                                                                  (IntKind.wrap
                                                                                                                                    IntKind.i64
                                                                                                                                    (a +
                                                                                                                                      IntKind.wrap
                                                                                                                                        IntKind.i64
                                                                                                                                        ((1 :
                                                                                                                                            Int) +
                                                                                                                                          Int.tmod
                                                                                                                                            (IntKind.wrap
                                                                                                                                              IntKind.i64
                                                                                                                                              n)
                                                                                                                                            (2000 :
                                                                                                                                              Int))))),
                                                                                                                              SV.raw
                                                                                                                                (Value.int
                                                                                                                                  IntKind.i64
                                                                                                                                  (0 :
                                                                                                                                    Int)),
                                                                                                                              SV.raw
                                                                                                                                (Value.slice
                                                                                                                                  none
                                                                                                                                  (0 :
                                                                                                                                    Nat)
                                                                                                                                  (0 :
                                                                                                                                    Nat))],
                                                                                                                        total :=
                                                                                                                          (6 :
                                                                                                                            Nat),
                                                                                                                        own :=
                                                                                                                          true :
                                                                                                                        Box },
                                                                                                                      {
                                                                                                                        elem :=
                                                                                                                          (29 :
                                                                                                                            Nat),
                                                                                                                        row :=
                                                                                                                          Row.lst
                                                                                                                            [SV.raw
                                                                                                                                (Value.int
                                                                                                                                  IntKind.i64
                                                                                                                                  (1 :
                                                                                                                                    Int)),
                                                                                                                              SV.raw
                                                                                                                                (Value.int
                                                                                                                                  IntKind.i64
                                                                                                                                  (0 :
                                                                                                                                    Int)),
                                                                                                                              SV.raw
                                                                                                                                (Value.int
                                                                                                                                  IntKind.i64
                                                                                                                                  (-1 :
                                                                                                                                    Int)),
                                                                                                                              SV.raw
                                                                                                                                (Value.int
                                                                                                                                  IntKind.i64
                                                                                                                                  (IntKind.wrap
                                                                                                                                    IntKind.i64
                                                                                                                                    (a +
                                                                                                                                      IntKind.wrap
                                                                                                                                        IntKind.i64
                                                                                                                                        ((1 :
                                                                                                                                            Int) +
                                                                                                                                          Int.tmod
                                                                                                                                            (IntKind.wrap
                                                                                                                                              IntKind.i64
                                                                                                                                              n)
                                                                                                                                            (2000 :
                                                                                                                                              Int))))),
                                                                                                                              SV.raw
                                                                                                                                (Value.int
                                                                                                                                  IntKind.i64
                                                                                                                                  (e_3 +
                                                                                                                                    (1 :
                                                                                                                                      Int))),
                                                                                                                              SV.raw
                                                                                                                                (Value.slice
                                                                                                                                  none
                                                                                                                                  (0 :
                                                                                                                                    Nat)
                                                                                                                                  (0 :
                                                                                                                                    Nat))],
                                                                                                                        total :=
                                                                                                                          (6 :
                                                                                                                            Nat),
                                                                                                                        own :=
                                                                                                                          true :
                                                                                                                        Box },
                                                                                                                      {
                                                                                                                        elem :=
                                                                                                                          (29 :
                                                                                                                            Nat),
                                                                                                                        row :=
                                                                                                                          Row.lst
                                                                                                                            [SV.raw
                                                                                                                                (Value.int
                                                                                                                                  IntKind.i64
                                                                                                                                  (1 :
                                                                                                                                    Int)),
                                                                                                                              SV.raw
                                                                                                                                (Value.int
                                                                                                                                  IntKind.i64
                                                                                                                                  (0 :
                                                                                                                                    Int)),
                                                                                                                              SV.raw
                                                                                                                                (Value.int
                                                                                                                                  IntKind.i64
                                                                                                                                  (-1 :
                                                                                                                                    Int)),
                                                                                                                              SV.raw
                                                                                                                                (Value.int
                                                                                                                                  IntKind.i64
                                                                                                                                  (IntKind.wrap
                                                                                                                                    IntKind.i64
                                                                                                                                    (a +
                                                                                                                                      IntKind.wrap
                                                                                                                                        IntKind.i64
                                                                                                                                        ((1 :
                                                                                                                                            Int) +
                                                                                                                                          Int.tmod
                                                                                                                                            (IntKind.wrap
                                                                                                                                              IntKind.i64
                                                                                                                                              n)
                                                                                                                                            (2000 :
                                                                                                                                              Int))))),
                                                                                                                              SV.raw
                                                                                                                                (Value.int
                                                                                                                                  IntKind.i64
                                                                                                                                  (e_4 +
                                                                                                                                    (1 :
                                                                                                                                      Int))),
                                                                                                                              SV.raw
                                                                                                                                (Value.slice
                                                                                                                                  none
                                                                                                                                  (0 :
                                                                                                                                    Nat)
                                                                                                                                  (0 :
                                                                                                                                    Nat))],
                                                                                                                        total :=
                                                                                                                          (6 :
                                                                                                                            Nat),
                                                                                                                        own :=
                                                                                                                          true :
                                                                                                                        Box }],
                                                                                                                  E := E :
                                                                                                                  St })
      else Mem.le E0 E ∧ K (SV.raw (Value.bool true)) E)
  have mr : Mem.le E E := Mem.le_refl _
  refine condC (fun g => ?_) (fun g => ⟨hE, h⟩)
  have g : i < l1 := by simp at g; omega
  have hI : Ints .u16 E b1 l1 c1 z1 := ⟨hE1, by omega, by omega⟩
  refine req_intro ⟨by omega, by omega⟩ ⟨hI.ne g, z1.getD i 0, hI.load (by kernel_rfl) g, by decide, ?_⟩
  have hg : z1.getD i 0 ∈ z1 := by
    rw [List.getD_eq_getElem?_getD, List.getElem?_eq_getElem (by omega)]; exact List.getElem_mem _
  have hw := hw1 _ hg
  generalize z1.getD i 0 = n at hw
  have hw := u16_wf hw
  rw [wrap_i64 (x := n) (by omega), Int.tmod_eq_emod_of_nonneg hw.1]
  have m1 := Int.emod_nonneg n (b := 2000) (by decide)
  have m2 := Int.emod_lt_of_pos n (b := 2000) (by decide)
  generalize n % 2000 = d at m1 m2
  rw [wrap_i64 (x := 1 + d) (by omega)]
  have o1 := hR.ok
  rw [wrap_i64 (x := a + (1 + d)) (by omega)]
  obtain ⟨e', R, x1, x2, x3⟩ := hR.step (d := 1 + d) (by omega) (by omega) (by omega)
  have ih := ih g (a + (1 + d)) e' R (by omega)
  have hd : a ≠ a + (1 + d) := by omega
  generalize a + (1 + d) = a' at R ih hd
  rw [wrap_i64 (x := (i : Int) + 1) (by omega)]
  refine ⟨e', R, rfl, ⟨x1, x2, x3⟩, mr, e', R, mr, e', R, ⟨by omega, by omega⟩, mr, e', R, ⟨by omega, by omega⟩, mr, condC (fun g => absurd g (by simp)) (fun _ => ⟨e', R, ⟨by omega, by omega, fun _ => rfl⟩, mr, condC (fun g => absurd g (by simp)) (fun _ => ⟨e', R, mr, e', R, ⟨by omega, by omega, fun _ => rfl⟩, mr, condC (fun g => absurd g (by simp)) (fun _ => ⟨e', R, ⟨by omega, by omega, fun q => absurd q hd⟩, mr, condC (fun g => absurd g (by simp [hd])) (fun _ => ⟨e', R, mr, R, ⟨rfl, rfl⟩, ⟨by omega, by omega⟩, mr, e', R, mr, condC (fun g => absurd g (by simp)) (fun _ => ?_)⟩)⟩)⟩)⟩)⟩
  exact Lp_re [some 0, some 1] (ih) ⟨⟨by first | (simp; done) | (simp [St.pub]; done), by first | (simp; done) | (simp [St.pub]; done), fun j h => absurd h (Nat.not_lt_zero _)⟩, rfl, (by repeat' first | exact True.intro | refine And.intro (Or.inl rfl) ?_ | refine And.intro (Or.inr ⟨rfl, rfl⟩) ?_), (by repeat' first | exact True.intro | exact rfl | exact Or.inl rfl | fail | refine And.intro ?_ ?_), (show List.Nodup [0, 1] from by decide), Mem.le_refl _⟩
theorem lp3 {b1 : Option Addr} {l1 c1 : Nat} {z1 : List Int} {E0 : Mem} (hl1 : l1 ≤ c1) (hz1 : z1.length = c1) (hc1 : c1 ≤ maxLen) (hw1 : ∀ x ∈ z1, (Lit.int .u16 x).wf = true) (hE1 : E (.slice b1 l1 c1) (z1.map (.int .u16))) (hl : l1 ≤ 40) (hE : Mem.le E0 E) (h : K (B true) E) {a e : Int} {i : Nat} (hR : RtE a e) (hA : a ≤ 999800000 + 2000 * i) (hi : i ≤ l1) : Lp WL3 12 Tryd.f3 [1, 1, 1, 1, 1, 1, 0, 1, 0] 0 (pubK E0 K) (sh3 b1 l1 c1 a e i E) :=
  Lp_ind okWL3 (fun q : {q : Int × Int × Nat // RtE q.1 q.2.1 ∧ q.1 ≤ 999800000 + 2000 * q.2.2 ∧ q.2.2 ≤ l1} => sh3 b1 l1 c1 q.1.1 q.1.2.1 q.1.2.2 E) (fun q => l1 - q.1.2.2) (fun q ih => r3 hl1 hz1 hc1 hw1 hE1 q.2.1 q.2.2.1 ⟨q.2.2.2, hl⟩ hE h fun g a' e' r1 r2 => ih ⟨(a', e', q.1.2.2 + 1), r1, by have := q.2.2.1; show a' ≤ 999800000 + 2000 * ((q.1.2.2 + 1 : Nat) : Int); omega, g⟩ (by show l1 - (_ + 1) < l1 - _; omega)) ⟨(a, e, i), hR, hA, hi⟩
theorem e3 {a1 : Int} {b1 : Option Addr} {l1 : Nat} {c1 : Nat} {z1 : List Int} (ha1 : (Lit.int .i64 a1).wf = true) (hl1 : l1 ≤ c1) (hc1 : c1 ≤ maxLen) (hb1 : b1 = none → c1 = 0) (hz1 : z1.length = c1) (hw1 : ∀ x ∈ z1, (Lit.int .u16 x).wf = true) (hE1 : E (.slice b1 l1 c1) (z1.map (.int .u16))) (hG : GR E) (h : ∀ E' : Mem, Mem.le E E' → K (B true) E') :
    Ent WL3 12 Tryd.f3 [I a1, L b1 l1 c1] E K := by
  refine same (by kernel_rfl) (?_ : 
      GR E ∧
        ∀ (E' : Mem),
          Mem.le E E' →
            Mem.le E E' ∧
              bif decide (a1 < (0 : Int)) then Mem.le E E' ∧ K (SV.raw (Value.bool true)) E'
              else
                bif bif false then true else decide (a1 > (999800000 : Int)) then
                  Mem.le E E' ∧ K (SV.raw (Value.bool true)) E'
                else
                  bif bif false then true else decide ((↑l1 : Int) > (40 : Int)) then
                    Mem.le E E' ∧ K (SV.raw (Value.bool true)) E'
                  else
                    ∃ (e : Int),
                      RtE a1 e ∧
                        Mem.le E' E' ∧
                          ∃ (e_1 : Int),
                            RtE a1 e_1 ∧
                              (e ≤ e_1 ∧ e_1 < e + (2 : Int)) ∧
                                Mem.le E' E' ∧
                                  Lp WL3 12 Tryd.f3
                                    [1, 1, 1, 1, 1, 1, 0, 1,
                                      0]
                                    0 (pubK E K)
                                    {
                                      fr :=
                                        [some (SV.raw (Value.int IntKind.i64 a1)), some (SV.raw (Value.slice b1 l1 c1)), none, none, none, some (SV.raw (Value.bool true)), some (SV.loc 0 0), some (SV.loc 1 0), some (SV.raw (Value.int IntKind.i64 (0 : Int))), none, none, none, none, none, none, none, some (SV.raw (Value.bool true)), some (SV.raw (Value.int IntKind.i64 a1)), some (SV.raw (Value.bool (decide (a1 < (0 : Int))))), some (SV.raw (Value.bool false)), some (SV.raw (Value.int IntKind.i64 a1)), some (SV.raw (Value.bool (decide (a1 > (999800000 : Int))))), some (SV.raw (Value.bool (bif false then true else decide (a1 > (999800000 : Int))))), some (SV.raw (Value.bool false)), some (SV.raw (Value.slice b1 l1 c1)), some (SV.raw (Value.int IntKind.i64 (↑l1 : Int))), some (SV.raw (Value.bool (decide ((↑l1 : Int) > (40 : Int))))), some (SV.raw (Value.bool (bif false then true else decide ((↑l1 : Int) > (40 : Int))))), none, some (SV.raw (Value.int IntKind.i64 a1)), some (SV.agg [SV.raw (Value.int IntKind.i64 e), SV.raw (Value.int IntKind.i64 (e + (2 : Int)))]), some (SV.tup [SV.agg [SV.raw (Value.int IntKind.i64 (1 : Int)), SV.raw (Value.int IntKind.i64 (0 : Int)), SV.raw (Value.int IntKind.i64 (-1 : Int)), SV.raw (Value.int IntKind.i64 a1), SV.raw (Value.int IntKind.i64 (e_1 + (1 : Int))), SV.raw (Value.slice none 0 0)], SV.raw (Value.int IntKind.i64 (0 : Int))]), some (SV.raw (Value.int IntKind.i64 a1)), some (SV.agg [SV.raw (Value.int IntKind.i64 (1 : Int)), SV.raw (Value.int IntKind.i64 (0 : Int)), SV.raw (Value.int IntKind.i64 (-1 : Int)), SV.raw (Value.int IntKind.i64 a1), SV.raw (Value.int IntKind.i64 (0 : Int)), SV.raw (Value.slice none 0 0)]), some (SV.agg [SV.raw (Value.int IntKind.i64 e), SV.raw (Value.int IntKind.i64 (e + (2 : Int)))]), some (SV.tup [SV.agg [SV.raw (Value.int IntKind.i64 (1 : Int)), SV.raw (Value.int IntKind.i64 (0 : Int)), SV.raw (Value.int IntKind.i64 (-1 : Int)), SV.raw (Value.int IntKind.i64 a1), SV.raw (Value.int IntKind.i64 (e_1 + (1 : Int))), SV.raw (Value.slice none 0 0)], SV.raw (Value.int IntKind.i64 (0 : Int))]), some (SV.agg [SV.raw (Value.int IntKind.i64 (1 : Int)), SV.raw (Value.int IntKind.i64 (0 : Int)), SV.raw (Value.int IntKind.i64 (-1 : Int)), SV.raw (Value.int IntKind.i64 a1), SV.raw (Value.int IntKind.i64 (e_1 + (1 : Int))), SV.raw (Value.slice none 0 0)]), some (SV.raw (Value.int IntKind.i64 (0 : Int))), some (SV.raw (Value.int IntKind.i64 (0 : Int))), some (SV.raw (Value.bool false)), some (SV.raw (Value.slice b1 l1 c1)), some (SV.raw (Value.int IntKind.i64 (↑l1 : Int))), some (SV.raw (Value.int IntKind.i64 (0 : Int))), none, none, none, none, none, none, none, none, none, none, none, none, none, none, none, none, none, none, none, none, none, none, none, none, none, none, none, none, none, none, none, none, none, none, none, none, none, none, none, none, none, none, none, none, none, none, none, none, none, none, none, none, none, none, none, none, none, none, none, none, none, none, none, none, none, none, none, none, none, none, none, none, none, none],
                                      bx :=
                                        [{ elem := 25,
                                            row :=
                                              Row.lst
                                                [SV.raw (Value.int IntKind.i64 e),
                                                  SV.raw (Value.int IntKind.i64 (e + (2 : Int)))],
                                            total := 2, own := true : Box },
                                          { elem := 29,
                                            row :=
                                              Row.lst
                                                [SV.raw (Value.int IntKind.i64 (1 : Int)),
                                                  SV.raw (Value.int IntKind.i64 (0 : Int)),
                                                  SV.raw (Value.int IntKind.i64 (-1 : Int)),
                                                  SV.raw (Value.int IntKind.i64 a1),
                                                  SV.raw (Value.int IntKind.i64 (e_1 + (1 : Int))),
                                                  SV.raw (Value.slice none 0 0)],
                                            total := 6, own := true : Box }],
                                      E := E' : St })
  refine ⟨hG, fun E' k => ⟨k, condC (fun _ => ⟨k, h E' k⟩) (fun g1 => condC (fun _ => ⟨k, h E' k⟩) (fun g2 => condC (fun _ => ⟨k, h E' k⟩) (fun g3 => ?_)))⟩⟩
  simp at g1 g2 g3
  have R : RtE a1 (a1 / 2000) := ⟨by omega, by omega, by omega, by omega⟩
  refine ⟨_, R, Mem.le_refl _, _, R, ⟨by omega, by omega⟩, Mem.le_refl _, ?_⟩
  exact Lp_re [some 0, some 1] (lp3 hl1 hz1 hc1 hw1 (k _ _ hE1) (i := 0) (by omega) k (h E' k) R (by omega) (by omega)) ⟨⟨by first | (simp; done) | (simp [St.pub]; done), by first | (simp; done) | (simp [St.pub]; done), fun j h => absurd h (Nat.not_lt_zero _)⟩, rfl, (by repeat' first | exact True.intro | refine And.intro (Or.inl rfl) ?_ | refine And.intro (Or.inr ⟨rfl, rfl⟩) ?_), (by repeat' first | exact True.intro | exact rfl | exact Or.inl rfl | fail | refine And.intro ?_ ?_), (show List.Nodup [0, 1] from by decide), Mem.le_refl _⟩
theorem opn3 (W : World) (K : List SV → Prop) (h : ∀ a1 : Int, (Lit.int .i64 a1).wf = true → ∀ (b1 : Option Addr) (l1 c1 : Nat) (z1 : List Int), (l1 ≤ c1) → (c1 ≤ maxLen) → (b1 = none → c1 = 0) → (z1.length = c1) → (∀ x ∈ z1, (Lit.int .u16 x).wf = true) → RowAt W (.slice b1 l1 c1) (z1.map (.int .u16)) → K [I a1, L b1 l1 c1]) : opnAll Tryd.prog W Tryd.f3.params.toList K :=
  same (by kernel_rfl) h
theorem sem3 (W : World) (hL : laidMetH Tryd.prog lst W) : opnAll Tryd.prog W Tryd.f3.params.toList fun ss => TabSem Tryd.prog 3 ss (fun v cs => RowAt W v cs) fun r _ => r = .raw (.bool true) := by
  refine opn3 W _ ?_
  intro a1 ha1 b1 l1 c1 z1 hl1 hc1 hb1 hz1 hw1 hE1
  exact Ent.sem okWL3 Tryd.func3 ⟨by kernel_rfl, by kernel_rfl⟩ rfl (e3 ha1 hl1 hc1 hb1 hz1 hw1 hE1 (GR_of hL) (fun _ _ => rfl))
theorem lifted3 (os : Os) (started : os.Started) (H : Type) (enc : TypeId × Value → H) :
    ReturnsInHanded {} Tryd.checked os 3 .any (fun w args => (Rows.topKeysInStepSpec.pre enc Tryd.prog Tryd.f3 Rows.topKeysInStepRow.domain false w args ∧ laidMetH Tryd.prog lst w) ∧ sizedMet enc Tryd.prog Tryd.f3 (OpenSpec.ofChange Rows.topKeysInStepSpec) false w args) (Rows.topKeysInStepSpec.post enc Tryd.prog Tryd.f3 false true false false) :=
  lift_laid (C := Tryd.checked) (X := fun w => laidMetH Tryd.prog lst w) (fun _ _ hh h => h.of_heap hh) (by kernel_rfl) (by kernel_rfl) started (by kernel_rfl) Tryd.func3
    (ChangeSpec.witness_shaped (enc := enc) (C := Tryd.checked) (os := os) (X := fun w _ => laidMetH Tryd.prog lst w) false (World.laidAll Tryd.prog os lst) #[.int .i64 0, .slice none 0 0] 8 (World.laidAll_os _ _ _)
      (World.shaped_of_ZipB (by kernel_rfl) (by kernel_rfl)) (by kernel_rfl) (by kernel_rfl) (by kernel_rfl)
      (by rw [MakeChecks.laidMetH_plain _ _ _ (by kernel_rfl)]; exact laidMet_laidAll _ (by kernel_rfl) (by kernel_rfl)))
    (Tb := 4) (by kernel_rfl) (by kernel_rfl) (by kernel_rfl) rfl
    (fun ds hl => by
      match ds, hl with
      | [d0, d1], _ => exact ⟨rfl, rfl, rfl⟩)
    sem3
theorem over3 : Rows.topKeysInStepRow.holds Tryd.pinned (OpenSpec.ofChange Rows.topKeysInStepSpec) :=
  OpenClaim.holds_of_wide 3 Tryd.f3 rfl rfl rfl rfl rfl rfl rfl ⟨rfl, rfl, rfl, rfl, rfl⟩ rfl rfl rfl rfl rfl (by kernel_rfl) Tryd.func3 (by kernel_rfl)
    (of_decide_eq_true (by kernel_rfl)) (by unfold Func.isWrapper; first | (rw [if_pos (by decide +kernel)]; kernel_rfl) | (rw [if_neg (by decide +kernel)]; exact ⟨rfl, rfl⟩))
    (fun os started H enc _ => lifted3 os started H enc)
theorem proved3 : Rows.TopKeysInStepCardSaid :=
  Claim7.holds_tied_plain_at .later [] [.data] true (true, "86e86e81f19802ab7ac38010ce72b2899e4da109f49a941e02d8de23171cbd70") false
    over3 (fun _ h => by cases h) (by kernel_rfl) (fun _ h => by cases h) topKeysInStep_row_tie rfl ⟨rfl, rfl⟩ (by kernel_rfl) rfl
    (fun f fn hf hfn => by
      obtain rfl : f = 3 := Option.some.inj ((show Tryd.prog.funcNamed "slotmesh/slotmeshtop.TopKeysInStep" = some 3 by kernel_rfl).symm.trans hf) |>.symm
      obtain rfl : fn = Tryd.f3 := (Option.some.inj (Tryd.func3.symm.trans hfn)).symm
      exact ⟨by kernel_rfl, fun j t ht => by
        have hm : t ∈ Tryd.f3.params.toList := by simpa using Array.mem_of_getElem? ht
        have hall : (Tryd.f3.params.toList.all fun u => !Tryd.prog.wantsStandIn u) = true := by kernel_rfl
        exact (show Tryd.prog.wantsStandIn t = false by simpa using List.all_eq_true.1 hall t hm)⟩)
    (by kernel_rfl)
end Go.Proofs.YtlpcifknlncljaaDoor.TopOwn
