/- The law FlashOrder. -/
import Derived.Test.YthgdbpnddnbbdaaFlashP
import Derived.OpenShut
import Derived.Test.YthgdbpnddnbbdaaRows
namespace Go.Proofs.Ythgdbpnddnbbdaa.FlashOwn
open Go Go.Sx Go.Proofs.Ythgdbpnddnbbdaa
set_option maxRecDepth 100000
set_option maxHeartbeats 4000000
set_option linter.unusedVariables false
set_option linter.unusedSimpArgs false
variable {E : Mem} {K : SV → Mem → Prop}
noncomputable def tabL7 : FuncId → List SV → Mem → (SV → Mem → Prop) → Prop := fun f args E K => match f with
  | 10 => d0 args ((∀ E' : Mem, Mem.le E E' → K (B true) E'))
  | 11 => d2 args fun x0 x1 => dI x0 fun a1 => dI x1 fun a2 => (∀ (s' : Int) (b' : Option Addr) (l' c' : Nat) (ys : List Int) (e : Int) (E' : Mem), Mem.le E E' → Hyp (newF a1 a2 = ((s', ys), e)) → Bs E' b' l' c' ys → K (.tup [.agg [I s', L b' l' c'], I e]) E')
  | 13 => d2 args fun x0 x1 => dC x0 fun l1 => d2 l1 fun x0_0 x0_1 => dI x0_0 fun a1 => dS x0_1 fun b2 l3 c4 => dC x1 fun l2 => d2 l2 fun x1_0 x1_1 => dI x1_0 fun a5 => dS x1_1 fun b6 l7 c8 => ∃ (zs : List Int) (ys : List Int), Bs E b2 l3 c4 zs ∧ Bs E b6 l7 c8 ys ∧ l3 ≤ 100000 ∧ (K (B (decide (a1 = a5 ∧ zs = ys))) E)
  | 14 => d3 args fun x0 x1 x2 => dC x0 fun l1 => d2 l1 fun x0_0 x0_1 => dI x0_0 fun a1 => dS x0_1 fun b2 l3 c4 => dI x1 fun a5 => dS x2 fun b6 l7 c8 => ∃ (zs : List Int) (ds : List Int), Bs E b2 l3 c4 zs ∧ Bs E b6 l7 c8 ds ∧ (∀ (b' : Option Addr) (l' c' : Nat) (ms : List (Int × List Int)) (e : Int) (E' : Mem), Mem.le E E' → Hyp (progF a1 zs a5 ds = (ms, e)) → FL E' b' l' c' ms → K (.tup [L b' l' c', I e]) E')
  | 16 => d2 args fun x0 x1 => dC x0 fun l1 => d2 l1 fun x0_0 x0_1 => dI x0_0 fun a1 => dS x0_1 fun b2 l3 c4 => dI x1 fun a5 => ∃ (zs : List Int), Bs E b2 l3 c4 zs ∧ (∀ (b' : Option Addr) (l' c' : Nat) (ms : List (Int × List Int)) (e : Int) (E' : Mem), Mem.le E E' → Hyp (erasF a1 zs a5 = (ms, e)) → FL E' b' l' c' ms → K (.tup [L b' l' c', I e]) E')
  | 18 => d1 args fun x0 => dC x0 fun l1 => d2 l1 fun x0_0 x0_1 => dI x0_0 fun a1 => dS x0_1 fun b2 l3 c4 => (K (B (decide (validF a1 l3))) E)
  | 20 => d2 args fun x0 x1 => dS x0 fun b1 l2 c3 => dS x1 fun b4 l5 c6 => ∃ (ms : List (Int × List Int)) (ns : List (Int × List Int)), FL E b1 l2 c3 ms ∧ FL E b4 l5 c6 ns ∧ (∀ m ∈ ms, m.2.length ≤ 100000) ∧ l2 ≤ 100000 ∧ (K (B (decide (ms = ns))) E)
  | 21 => d2 args fun x0 x1 => dS x0 fun b1 l2 c3 => dS x1 fun b4 l5 c6 => ∃ (zs : List Int) (ys : List Int), Bs E b1 l2 c3 zs ∧ Bs E b4 l5 c6 ys ∧ l2 ≤ 100000 ∧ (K (.tup [I (oneF zs ys l2).1, I (oneF zs ys l2).2]) E)
  | 22 => d3 args fun x0 x1 x2 => dC x0 fun l1 => d2 l1 fun x0_0 x0_1 => dI x0_0 fun a1 => dS x0_1 fun b2 l3 c4 => dI x1 fun a5 => dS x2 fun b6 l7 c8 => ∃ (zs : List Int) (ds : List Int), Bs E b2 l3 c4 zs ∧ Bs E b6 l7 c8 ds ∧ (l7 ≤ 90000) ∧ (∀ (s' : Int) (b' : Option Addr) (l' c' : Nat) (ys : List Int) (ok : Bool) (E' : Mem), Mem.le E E' → Hyp (doneF a1 zs a5 ds = ((s', ys), ok)) → Bs E' b' l' c' ys → K (.tup [.agg [I s', L b' l' c'], B ok]) E')
  | 23 => d3 args fun x0 x1 x2 => dS x0 fun b1 l2 c3 => dI x1 fun a4 => dI x2 fun a5 => ∃ (ms : List (Int × List Int)), FL E b1 l2 c3 ms ∧ (l2 ≤ 100000) ∧ (∀ (s' : Int) (b' : Option Addr) (l' c' : Nat) (ys : List Int) (ok : Bool) (E' : Mem), Mem.le E E' → Hyp (lastF ms a4 a5 = ((s', ys), ok)) → Bs E' b' l' c' ys → K (.tup [.agg [I s', L b' l' c'], B ok]) E')
  | _ => False
theorem tabL7_ok : TabOK Try.prog tabL7 := by
  intro f args E K h
  unfold tabL7 at h
  split at h
  · obtain ⟨rfl, h⟩ := d0_elim h
    exact TabSem.congr rfl (Ent.sem okFI Try.func10 ⟨by kernel_rfl, by kernel_rfl⟩ rfl (s10 h))
  · replace h := d2_elim h
    obtain ⟨x0, x1, rfl, h⟩ := h
    replace h := dI_elim h
    obtain ⟨a1, rfl, h⟩ := h
    replace h := dI_elim h
    obtain ⟨a2, rfl, h⟩ := h
    exact TabSem.congr (valL_cons rfl (valL_cons rfl rfl)) (Ent.sem okF8 Try.func11 ⟨by kernel_rfl, by kernel_rfl⟩ rfl (s11 h))
  · replace h := d2_elim h
    obtain ⟨x0, x1, rfl, h⟩ := h
    replace h := dC_elim h
    obtain ⟨l1, hl1, h⟩ := h
    replace h := d2_elim h
    obtain ⟨x0_0, x0_1, rfl, h⟩ := h
    replace h := dI_elim h
    obtain ⟨a1, rfl, h⟩ := h
    replace h := dS_elim h
    obtain ⟨b2, l3, c4, rfl, h⟩ := h
    replace h := dC_elim h
    obtain ⟨l2, hl2, h⟩ := h
    replace h := d2_elim h
    obtain ⟨x1_0, x1_1, rfl, h⟩ := h
    replace h := dI_elim h
    obtain ⟨a5, rfl, h⟩ := h
    replace h := dS_elim h
    obtain ⟨b6, l7, c8, rfl, h⟩ := h
    obtain ⟨zs, ys, g0, g1, g2, h⟩ := h
    exact TabSem.congr (valL_cons (asCells_val hl1) (valL_cons (asCells_val hl2) rfl)) (Ent.sem okFA Try.func13 ⟨by kernel_rfl, by kernel_rfl⟩ rfl (s13 g0 g1 g2 h))
  · replace h := d3_elim h
    obtain ⟨x0, x1, x2, rfl, h⟩ := h
    replace h := dC_elim h
    obtain ⟨l1, hl1, h⟩ := h
    replace h := d2_elim h
    obtain ⟨x0_0, x0_1, rfl, h⟩ := h
    replace h := dI_elim h
    obtain ⟨a1, rfl, h⟩ := h
    replace h := dS_elim h
    obtain ⟨b2, l3, c4, rfl, h⟩ := h
    replace h := dI_elim h
    obtain ⟨a5, rfl, h⟩ := h
    replace h := dS_elim h
    obtain ⟨b6, l7, c8, rfl, h⟩ := h
    obtain ⟨zs, ds, g0, g1, h⟩ := h
    exact TabSem.congr (valL_cons (asCells_val hl1) (valL_cons rfl (valL_cons rfl rfl))) (Ent.sem okF3 Try.func14 ⟨by kernel_rfl, by kernel_rfl⟩ rfl (s14 g0 g1 h))
  · replace h := d2_elim h
    obtain ⟨x0, x1, rfl, h⟩ := h
    replace h := dC_elim h
    obtain ⟨l1, hl1, h⟩ := h
    replace h := d2_elim h
    obtain ⟨x0_0, x0_1, rfl, h⟩ := h
    replace h := dI_elim h
    obtain ⟨a1, rfl, h⟩ := h
    replace h := dS_elim h
    obtain ⟨b2, l3, c4, rfl, h⟩ := h
    replace h := dI_elim h
    obtain ⟨a5, rfl, h⟩ := h
    obtain ⟨zs, g0, h⟩ := h
    exact TabSem.congr (valL_cons (asCells_val hl1) (valL_cons rfl rfl)) (Ent.sem okF4 Try.func16 ⟨by kernel_rfl, by kernel_rfl⟩ rfl (s16 g0 h))
  · replace h := d1_elim h
    obtain ⟨x0, rfl, h⟩ := h
    replace h := dC_elim h
    obtain ⟨l1, hl1, h⟩ := h
    replace h := d2_elim h
    obtain ⟨x0_0, x0_1, rfl, h⟩ := h
    replace h := dI_elim h
    obtain ⟨a1, rfl, h⟩ := h
    replace h := dS_elim h
    obtain ⟨b2, l3, c4, rfl, h⟩ := h
    exact TabSem.congr (valL_cons (asCells_val hl1) rfl) (Ent.sem okF5 Try.func18 ⟨by kernel_rfl, by kernel_rfl⟩ rfl (s18 h))
  · replace h := d2_elim h
    obtain ⟨x0, x1, rfl, h⟩ := h
    replace h := dS_elim h
    obtain ⟨b1, l2, c3, rfl, h⟩ := h
    replace h := dS_elim h
    obtain ⟨b4, l5, c6, rfl, h⟩ := h
    obtain ⟨ms, ns, g0, g1, g2, g3, h⟩ := h
    exact TabSem.congr (valL_cons rfl (valL_cons rfl rfl)) (Ent.sem okFE Try.func20 ⟨by kernel_rfl, by kernel_rfl⟩ rfl (s20 g0 g1 g2 g3 h))
  · replace h := d2_elim h
    obtain ⟨x0, x1, rfl, h⟩ := h
    replace h := dS_elim h
    obtain ⟨b1, l2, c3, rfl, h⟩ := h
    replace h := dS_elim h
    obtain ⟨b4, l5, c6, rfl, h⟩ := h
    obtain ⟨zs, ys, g0, g1, g2, h⟩ := h
    exact TabSem.congr (valL_cons rfl (valL_cons rfl rfl)) (Ent.sem okFF Try.func21 ⟨by kernel_rfl, by kernel_rfl⟩ rfl (s21 g0 g1 g2 h))
  · replace h := d3_elim h
    obtain ⟨x0, x1, x2, rfl, h⟩ := h
    replace h := dC_elim h
    obtain ⟨l1, hl1, h⟩ := h
    replace h := d2_elim h
    obtain ⟨x0_0, x0_1, rfl, h⟩ := h
    replace h := dI_elim h
    obtain ⟨a1, rfl, h⟩ := h
    replace h := dS_elim h
    obtain ⟨b2, l3, c4, rfl, h⟩ := h
    replace h := dI_elim h
    obtain ⟨a5, rfl, h⟩ := h
    replace h := dS_elim h
    obtain ⟨b6, l7, c8, rfl, h⟩ := h
    obtain ⟨zs, ds, g0, g1, g2, h⟩ := h
    exact TabSem.congr (valL_cons (asCells_val hl1) (valL_cons rfl (valL_cons rfl rfl))) (Ent.sem okFH Try.func22 ⟨by kernel_rfl, by kernel_rfl⟩ rfl (s22 g0 g1 g2 h))
  · replace h := d3_elim h
    obtain ⟨x0, x1, x2, rfl, h⟩ := h
    replace h := dS_elim h
    obtain ⟨b1, l2, c3, rfl, h⟩ := h
    replace h := dI_elim h
    obtain ⟨a4, rfl, h⟩ := h
    replace h := dI_elim h
    obtain ⟨a5, rfl, h⟩ := h
    obtain ⟨ms, g0, g1, h⟩ := h
    exact TabSem.congr (valL_cons rfl (valL_cons rfl (valL_cons rfl rfl))) (Ent.sem okFG Try.func23 ⟨by kernel_rfl, by kernel_rfl⟩ rfl (s23 g0 g1 h))
  · exact h.elim
noncomputable def WL7 : Cx := { P := Try.prog, inl := fun f => List.contains [] f, tab := tabL7, isB := fun _ => false, tabB := fun _ _ _ _ _ => False, opt := { unroll := 0, carry := [94] }, muts := mutsD }
theorem okWL7 : CxOK WL7 := CxOK.four tabL7_ok (by kernel_rfl) (okInl (by kernel_rfl)) (fun _ _ _ _ _ h => h.elim)

def sh7 (a1 a2 : Int) (b1 b2 b3 b4 : Option Addr) (l1 c1 l2 c2 l3 c3 l4 c4 i cap tot : Nat) (ws : List Int) (E : Mem) : St := ⟨[none, some (I a2), some (L b2 l2 c2), none, some (L b3 l3 c3), some (.loc 0 0), none, none, none, none, none, some (B true), some (.loc 1 0), none, none, none, none, none, none, none, some (.slc 2 0 l2 cap), none, none, none, none, none, none, none, none, none, none, none, none, none, none, none, none, none, none, none, none, none, none, none, none, none, none, none, none, none, none, none, none, none, none, none, none, none, none, none, none, none, none, none, none, none, none, none, none, none, none, none, none, none, none, none, none, none, none, none, none, none, none, none, none, none, none, none, none, none, none, none, none, some (I (l2 : Nat)), some (I (i : Nat)), none, none, none, none, none, none, none, none, none, none, none, none, none, none, none, none, none, none, none, none, none, none, none, none, none, none, none, none, none, none, none, none, none, none, none, none, none, none, none, none, none, none, none, none, none, none, none, none, none], [⟨24, .lst [I a1, L b1 l1 c1], 2, true⟩, ⟨24, .lst [I a1, L b4 l4 c4], 2, true⟩, ⟨5, .vals (vB ws), tot, true⟩], E⟩
theorem rnd7 {a1 a2 : Int} {b1 b2 b3 b4 : Option Addr} {l1 c1 l2 c2 l3 c3 l4 c4 i cap tot : Nat} {E0 : Mem} {z1 z2 z3 : List Int} (hB1 : Bs E b1 l1 c1 z1) (hB2 : Bs E b2 l2 c2 z2) (hB3 : Bs E b3 l3 c3 z3) (hB4 : Bs E b4 l4 c4 (stp (gP z2) a2.toNat z1 l2))
    (v : validF a1 z1.length) (p1 : 0 ≤ a2) (p2 : a2 + l2 ≤ z1.length) (hl2 : l2 ≤ 300) (hl3 : l3 ≤ 300) (hc : l2 ≤ cap ∧ cap * 1 ≤ tot) (hi : i ≤ l2) (hE : Mem.le E0 E) (h : ∀ E', Mem.le E E' → K (B true) E')
    (ih : i < l2 → Lp WL7 8 Try.f7 [1, 1, 1, 1, 1, 1, 1, 1, 1, 1, 0, 1, 0] 0 (pubK E0 K) (sh7 a1 a2 b1 b2 b3 b4 l1 c1 l2 c2 l3 c3 l4 c4 (i + 1) cap tot (stp (gP z3) 0 z2 (min (i + 1) l3)) E)) :
    Rnd WL7 8 Try.f7 [1, 1, 1, 1, 1, 1, 1, 1, 1, 1, 0, 1, 0] 0 (pubK E0 K) (sh7 a1 a2 b1 b2 b3 b4 l1 c1 l2 c2 l3 c3 l4 c4 i cap tot (stp (gP z3) 0 z2 (min i l3)) E) := by
  refine same (by kernel_rfl) (?_ : 
      bif decide ((↑i : Int) < (↑l2 : Int)) then
        bif decide ((↑i : Int) < (↑l3 : Int)) then
          req ((0 : Int) ≤ (↑i : Int) ∧ (↑i : Int) < (↑l2 : Int))
            (∃ (n : Int),
              LoadV WL7.P 5 (vB (stp (gP z3) 0 z2 (min i l3))) (0 + Int.toNat (↑i : Int) * 1)
                  (SV.raw (Value.int IntKind.u8 n)) ∧
                req ((0 : Int) ≤ (↑i : Int) ∧ (↑i : Int) < (↑l3 : Int))
                  ((∃ (cs : List Value), E (Value.slice b3 l3 c3) cs ∧ (cs = [] → False)) ∧
                    ∃ (n_1 : Int),
                      LoadE WL7.P E 5 (Value.slice b3 l3 c3) (Int.toNat (↑i : Int) * 1)
                          (SV.raw (Value.int IntKind.u8 n_1)) ∧
                        req ((0 : Int) ≤ (↑i : Int) ∧ (↑i : Int) < (↑l2 : Int))
                          (0 + Int.toNat (↑i : Int) * 1 + 1 ≤
                              List.length (vB (stp (gP z3) 0 z2 (min i l3))) ∧
                            Lp WL7 8 Try.f7
                              [1, 1, 1, 1, 1, 1, 1, 1,
                                1, 1, 0, 1, 0]
                              0 (pubK E0 K)
                              {
                                fr :=
                                  [none, some (SV.raw (Value.int IntKind.i64 a2)), some (SV.raw (Value.slice b2 l2 c2)), none,
                                    some (SV.raw (Value.slice b3 l3 c3)), some (SV.loc 0 0), none, none, none,
                                    none, none, some (SV.raw (Value.bool true)), some (SV.loc 1 0), none,
                                    none, none, none, none, none, none, some (SV.slc 2 0 l2 cap), none, none,
                                    none, none, none, none, none, none, none, none, none, none, none, none, none, none, none,
                                    none, none, none, none, none, none, none, none, none, none, none, none, none, none, none,
                                    none, none, none, none, none, none, none, none, none, none, none, none, none, none, none,
                                    none, none, none, none, none, none, none, none, none, none, none, none, none, none, none,
                                    none, none, none, none, none, none, none, none, none, none,
                                    some (SV.raw (Value.int IntKind.i64 (↑l2 : Int))),
                                    some (SV.raw (Value.int IntKind.i64 (IntKind.wrap IntKind.i64 ((↑i : Int) + (1 : Int))))),
                                    none, none, none, none, none, none, none, none, none, none, none, none, none, none, none,
                                    none, none, none, none, none, none, none, none, none, none, none, none, none, none, none,
                                    none, none, none, none, none, none, none, none, none, none, none, none, none, none, none,
                                    none, none, none, none],
                                bx :=
                                  [{ elem := 24,
                                      row := Row.lst [SV.raw (Value.int IntKind.i64 a1), SV.raw (Value.slice b1 l1 c1)],
                                      total := 2, own := true : Box },
                                    { elem := 24,
                                      row := Row.lst [SV.raw (Value.int IntKind.i64 a1), SV.raw (Value.slice b4 l4 c4)],
                                      total := 2, own := true : Box },
                                    { elem := 5,
                                      row :=
                                        Row.vals
                                          (layV (vB (stp (gP z3) 0 z2 (min i l3)))
                                            (0 + Int.toNat (↑i : Int) * 1)
                                            [Value.int IntKind.u8
                                                (IntKind.wrap IntKind.u8
                                                  (↑(BitVec.toNat
                                                        (BitVec.ofInt (IntKind.bits IntKind.u8) n &&&
                                                          BitVec.ofInt (IntKind.bits IntKind.u8) n_1)) :
                                                    Int))]),
                                      total := tot, own := true : Box }],
                                E := E : St })))
        else
          Lp WL7 8 Try.f7
            [1, 1, 1, 1, 1, 1, 1, 1, 1, 1,
              0, 1, 0]
            0 (pubK E0 K)
            {
              fr :=
                [none, some (SV.raw (Value.int IntKind.i64 a2)), some (SV.raw (Value.slice b2 l2 c2)), none,
                  some (SV.raw (Value.slice b3 l3 c3)), some (SV.loc 0 0), none, none, none, none, none,
                  some (SV.raw (Value.bool true)), some (SV.loc 1 0), none, none, none, none, none, none,
                  none, some (SV.slc 2 0 l2 cap), none, none, none, none, none, none, none, none, none, none,
                  none, none, none, none, none, none, none, none, none, none, none, none, none, none, none, none, none, none,
                  none, none, none, none, none, none, none, none, none, none, none, none, none, none, none, none, none, none,
                  none, none, none, none, none, none, none, none, none, none, none, none, none, none, none, none, none, none,
                  none, none, none, none, none, none, none, none, some (SV.raw (Value.int IntKind.i64 (↑l2 : Int))),
                  some (SV.raw (Value.int IntKind.i64 (IntKind.wrap IntKind.i64 ((↑i : Int) + (1 : Int))))), none, none, none,
                  none, none, none, none, none, none, none, none, none, none, none, none, none, none, none, none, none, none,
                  none, none, none, none, none, none, none, none, none, none, none, none, none, none, none, none, none, none,
                  none, none, none, none, none, none, none, none, none, none],
              bx :=
                [{ elem := 24, row := Row.lst [SV.raw (Value.int IntKind.i64 a1), SV.raw (Value.slice b1 l1 c1)],
                    total := 2, own := true : Box },
                  { elem := 24, row := Row.lst [SV.raw (Value.int IntKind.i64 a1), SV.raw (Value.slice b4 l4 c4)],
                    total := 2, own := true : Box },
                  { elem := 5, row := Row.vals (vB (stp (gP z3) 0 z2 (min i l3))), total := tot, own := true :
                    Box }],
              E := E : St }
      else
        bif decide ((↑l3 : Int) > (↑l2 : Int)) then Mem.le E0 E ∧ K (SV.raw (Value.bool true)) E
        else
          ∃ (zs : List Int),
            ∃ (ds : List Int),
              Bs E b4 l4 c4 zs ∧
                Bs E b3 l3 c3 ds ∧
                  l3 ≤ 90000 ∧
                    ∀ (s' : Int) (b' : Option Addr) (l' c' : Nat) (ys : List Int) (ok : Bool) (E' : Mem),
                      Mem.le E E' →
                        Hyp (doneF a1 zs a2 ds = ((s', ys), ok)) →
                          Bs E' b' l' c' ys →
                            Mem.le E E' ∧
                              ∀ (base : Option Addr) (E'_1 : Mem),
                                Mem.le E' E'_1 →
                                  WinE E'_1 base (vB (stp (gP z3) 0 z2 (min i l3))) →
                                    ∃ (zs : List Int),
                                      ∃ (ds : List Int),
                                        Bs E'_1 b1 l1 c1 zs ∧
                                          Bs E'_1 (Option.map (fun (x : Addr) => Addr.add x 0) base) l2 cap ds ∧
                                            l2 ≤ 90000 ∧
                                              ∀ (s'_1 : Int) (b'_1 : Option Addr) (l'_1 c'_1 : Nat) (ys : List Int)
                                                (ok_1 : Bool) (E' : Mem),
                                                Mem.le E'_1 E' →
                                                  Hyp (doneF a1 zs a2 ds = ((s'_1, ys), ok_1)) →
                                                    Bs E' b'_1 l'_1 c'_1 ys →
                                                      bif bif true then ok else false then
                                                        bif bif true then ok_1 else false then
                                                          ∃ (zs : List Int),
                                                            ∃ (ys : List Int),
                                                              Bs E' b' l' c' zs ∧
                                                                Bs E' b'_1 l'_1 c'_1 ys ∧
                                                                  l' ≤ 100000 ∧
                                                                    Mem.le E' E' ∧
                                                                      Mem.le E0 E' ∧
                                                                        K
                                                                          (SV.raw
                                                                            (Value.bool
                                                                              (bif true then decide (s' = s'_1 ∧ zs = ys)
                                                                              else false)))
                                                                          E'
                                                        else Mem.le E0 E' ∧ K (SV.raw (Value.bool false)) E'
                                                      else Mem.le E0 E' ∧ K (SV.raw (Value.bool false)) E')
  have n1 := hB1.2.1
  have n2 := hB2.2.1
  have n3 := hB3.2.1
  have n4 := hB4.2.1
  rw [stp_len] at n4
  have v4 := v.2.2.2.1
  have hwl : ∀ m, (stp (gP z3) 0 z2 m).length = l2 := fun m => by rw [stp_len]; exact n2
  have e0 : 0 + Int.toNat (i : Int) * 1 = i := by simp
  have w1 : IntKind.wrap .i64 ((i : Int) + 1) = ((i + 1 : Nat) : Int) := by rw [wrap_i64 (by omega)]; simp
  refine condC (fun q => ?_) (fun q => ?_)
  · have q : i < l2 := by simpa using q
    have nx := ih q
    rw [w1, e0]
    refine condC (fun q3 => ?_) (fun q3 => ?_)
    · have q3 : i < l3 := by simpa using q3
      rw [Nat.min_eq_left (show i + 1 ≤ l3 by omega)] at nx
      rw [Nat.min_eq_left (show i ≤ l3 by omega)]
      refine req_intro (by omega) ⟨(stp (gP z3) 0 z2 i).getD i 0, loadV_byte rfl (by rw [hwl]; exact q), req_intro (by omega) ⟨hB3.ne q3, _, hB3.load (i := i) rfl q3, req_intro (by omega) ⟨by rw [List.length_map, hwl]; omega, ?_⟩⟩⟩
      rw [layS (by omega)]
      exact Lp_re [some 0, some 1, some 2] nx ⟨⟨by simp, by simp, fun j h => absurd h (Nat.not_lt_zero _)⟩, rfl, (by repeat' first | exact True.intro | refine And.intro (Or.inl rfl) ?_), (by repeat' first | exact True.intro | exact rfl | exact Or.inl rfl | fail | refine And.intro ?_ ?_), (show List.Nodup [0, 1, 2] from by decide), Mem.le_refl _⟩
    · have q3 : ¬ i < l3 := by simpa using q3
      rw [Nat.min_eq_right (show l3 ≤ i + 1 by omega)] at nx
      rw [Nat.min_eq_right (show l3 ≤ i by omega)]
      exact Lp_re [some 0, some 1, some 2] nx ⟨⟨by simp, by simp, fun j h => absurd h (Nat.not_lt_zero _)⟩, rfl, (by repeat' first | exact True.intro | refine And.intro (Or.inl rfl) ?_), (by repeat' first | exact True.intro | exact rfl | exact Or.inl rfl | fail | refine And.intro ?_ ?_), (show List.Nodup [0, 1, 2] from by decide), Mem.le_refl _⟩
  · have q : i = l2 := by simp at q; omega
    refine condC (fun _ => ⟨hE, h E (Mem.le_refl _)⟩) (fun q3 => ?_)
    have q3 : l3 ≤ l2 := by simp at q3; omega
    rw [Nat.min_eq_right (show l3 ≤ i by omega)]
    refine ⟨_, z3, hB4, hB3, by omega, fun s5 b5 l5 c5 y5 o5 E2 q2 r2 B2 => ⟨q2, fun base E3 q4 hW => ⟨z1, stp (gP z3) 0 z2 l3, hB1.mono (Mem.le_trans q2 q4), Bs.win hW rfl (hwl _) hc.1 (stp_byte hB2.2.2.2.1 (fun i x => band8_bd _ _) _), by omega, fun s6 b6 l6 c6 y6 o6 E4 q5 r4 B4 => ?_⟩⟩⟩
    have r2 : doneF a1 (stp (gP z2) a2.toNat z1 l2) a2 z3 = ((s5, y5), o5) := r2
    have r4 : doneF a1 z1 a2 (stp (gP z3) 0 z2 l3) = ((s6, y6), o6) := r4
    rw [doneF_mk (by rw [stp_len]; exact v) p1 (by rw [stp_len, n3]; omega), n3] at r2
    rw [doneF_mk v p1 (by rw [hwl]; exact p2), hwl] at r4
    obtain ⟨rfl, rfl, rfl⟩ := eq3 r2
    obtain ⟨rfl, rfl, rfl⟩ := eq3 r4
    have B2 : Bs E2 b5 l5 c5 _ := B2
    have n5 := B2.2.1
    simp only [stp_len] at n5
    have k4 := Mem.le_trans q2 (Mem.le_trans q4 q5)
    refine condC (fun _ => condC (fun _ => ⟨_, _, B2.mono (Mem.le_trans q4 q5), B4, by omega, Mem.le_refl _, Mem.le_trans hE k4, ?_⟩) (fun g => by simp at g)) (fun g => by simp at g)
    show K (B (decide (_ = _ ∧ _ = _))) E4
    rw [decide_eq_true ⟨rfl, stp_common q3 (by omega)⟩]
    exact h E4 k4
theorem lp7 {a1 a2 : Int} {b1 b2 b3 b4 : Option Addr} {l1 c1 l2 c2 l3 c3 l4 c4 i cap tot : Nat} {E0 : Mem} {z1 z2 z3 : List Int} (hB1 : Bs E b1 l1 c1 z1) (hB2 : Bs E b2 l2 c2 z2) (hB3 : Bs E b3 l3 c3 z3) (hB4 : Bs E b4 l4 c4 (stp (gP z2) a2.toNat z1 l2))
    (v : validF a1 z1.length) (p1 : 0 ≤ a2) (p2 : a2 + l2 ≤ z1.length) (hl2 : l2 ≤ 300) (hl3 : l3 ≤ 300) (hc : l2 ≤ cap ∧ cap * 1 ≤ tot) (hi : i ≤ l2) (hE : Mem.le E0 E) (h : ∀ E', Mem.le E E' → K (B true) E') :
    Lp WL7 8 Try.f7 [1, 1, 1, 1, 1, 1, 1, 1, 1, 1, 0, 1, 0] 0 (pubK E0 K) (sh7 a1 a2 b1 b2 b3 b4 l1 c1 l2 c2 l3 c3 l4 c4 i cap tot (stp (gP z3) 0 z2 (min i l3)) E) :=
  Lp_ind okWL7 (fun x : {i : Nat // i ≤ l2} => sh7 a1 a2 b1 b2 b3 b4 l1 c1 l2 c2 l3 c3 l4 c4 x.1 cap tot (stp (gP z3) 0 z2 (min x.1 l3)) E) (fun x => l2 - x.1) (fun x ih => rnd7 hB1 hB2 hB3 hB4 v p1 p2 hl2 hl3 hc x.2 hE h fun g => ih ⟨x.1 + 1, by omega⟩ (by show l2 - (_ + 1) < l2 - _; omega)) ⟨i, hi⟩
theorem e7 {a1 : Int} {b1 : Option Addr} {l1 : Nat} {c1 : Nat} {z1 : List Int} {a2 : Int} {b2 : Option Addr} {l2 : Nat} {c2 : Nat} {z2 : List Int} {a3 : Int} {b3 : Option Addr} {l3 : Nat} {c3 : Nat} {z3 : List Int} (ha1 : (Lit.int .i64 a1).wf = true) (hB1 : Bs E b1 l1 c1 z1) (ha2 : (Lit.int .i64 a2).wf = true) (hB2 : Bs E b2 l2 c2 z2) (ha3 : (Lit.int .i64 a3).wf = true) (hB3 : Bs E b3 l3 c3 z3) (h : ∀ E' : Mem, Mem.le E E' → K (B true) E') :
    Ent WL7 8 Try.f7 [.agg [I a1, L b1 l1 c1], I a2, L b2 l2 c2, I a3, L b3 l3 c3] E K := by
  refine same (by kernel_rfl) (?_ : 
      ∀ (E' : Mem),
        Mem.le E E' →
          Mem.le E E' ∧
            bif decide ((↑l1 : Int) > (300 : Int)) then Mem.le E E' ∧ K (SV.raw (Value.bool true)) E'
            else
              bif bif false then true else decide ((↑l2 : Int) > (300 : Int)) then
                Mem.le E E' ∧ K (SV.raw (Value.bool true)) E'
              else
                bif bif false then true else decide ((↑l3 : Int) > (300 : Int)) then
                  Mem.le E E' ∧ K (SV.raw (Value.bool true)) E'
                else
                  ∃ (zs : List Int),
                    ∃ (ds : List Int),
                      Bs E' b1 l1 c1 zs ∧
                        Bs E' b2 l2 c2 ds ∧
                          l2 ≤ 90000 ∧
                            ∀ (s' : Int) (b' : Option Addr) (l' c' : Nat) (ys : List Int) (ok : Bool) (E'_1 : Mem),
                              Mem.le E' E'_1 →
                                Hyp (doneF a1 zs a2 ds = ((s', ys), ok)) →
                                  Bs E'_1 b' l' c' ys →
                                    Mem.le E' E'_1 ∧
                                      ∃ (zs : List Int),
                                        ∃ (ds : List Int),
                                          Bs E'_1 b1 l1 c1 zs ∧
                                            Bs E'_1 b3 l3 c3 ds ∧
                                              l3 ≤ 90000 ∧
                                                ∀ (s'_1 : Int) (b'_1 : Option Addr) (l'_1 c'_1 : Nat) (ys : List Int)
                                                  (ok_1 : Bool) (E' : Mem),
                                                  Mem.le E'_1 E' →
                                                    Hyp (doneF a1 zs a3 ds = ((s'_1, ys), ok_1)) →
                                                      Bs E' b'_1 l'_1 c'_1 ys →
                                                        Mem.le E'_1 E' ∧
                                                          bif !ok then Mem.le E E' ∧ K (SV.raw (Value.bool true)) E'
                                                          else
                                                            bif bif false then true else !ok_1 then
                                                              Mem.le E E' ∧ K (SV.raw (Value.bool true)) E'
                                                            else
                                                              ∃ (zs : List Int),
                                                                ∃ (ds : List Int),
                                                                  Bs E' b' l' c' zs ∧
                                                                    Bs E' b3 l3 c3 ds ∧
                                                                      l3 ≤ 90000 ∧
                                                                        ∀ (s'_2 : Int) (b'_2 : Option Addr) (l'_2 c'_2 : Nat)
                                                                          (ys : List Int) (ok_2 : Bool) (E'_2 : Mem),
                                                                          Mem.le E' E'_2 →
                                                                            Hyp (doneF s' zs a3 ds = ((s'_2, ys), ok_2)) →
                                                                              Bs E'_2 b'_2 l'_2 c'_2 ys →
                                                                                Mem.le E' E'_2 ∧
                                                                                  ∃ (zs : List Int),
                                                                                    ∃ (ds : List Int),
                                                                                      Bs E'_2 b'_1 l'_1 c'_1 zs ∧
                                                                                        Bs E'_2 b2 l2 c2 ds ∧
                                                                                          l2 ≤ 90000 ∧
                                                                                            ∀ (s'_3 : Int)
                                                                                              (b'_3 : Option Addr)
                                                                                              (l'_3 c'_3 : Nat)
                                                                                              (ys : List Int) (ok_3 : Bool)
                                                                                              (E' : Mem),
                                                                                              Mem.le E'_2 E' →
                                                                                                Hyp
                                                                                                    (doneF s'_1 zs a2 ds =
                                                                                                      ((s'_3, ys), ok_3)) →
                                                                                                  Bs E' b'_3 l'_3 c'_3 ys →
                                                                                                    Mem.le E'_2 E' ∧
                                                                                                      bif !ok_2 then
                                                                                                        Mem.le E E' ∧
                                                                                                          K
                                                                                                            (SV.raw
                                                                                                              (Value.bool
                                                                                                                false))
                                                                                                            E'
                                                                                                      else
                                                                                                        bif
                                                                                                            bif false then
                                                                                                              true
                                                                                                            else !ok_3 then
                                                                                                          Mem.le E E' ∧
                                                                                                            K
                                                                                                              (SV.raw
                                                                                                                (Value.bool
                                                                                                                  false))
                                                                                                              E'
                                                                                                        else
                                                                                                          ∃ (zs : List Int),
                                                                                                            ∃ (ys : List Int),
                                                                                                              Bs E' b'_2 l'_2
                                                                                                                  c'_2 zs ∧
                                                                                                                Bs E' b'_3
                                                                                                                    l'_3 c'_3
                                                                                                                    ys ∧
                                                                                                                  l'_2 ≤
                                                                                                                      (100000 :
                                                                                                                        Nat) ∧
                                                                                                                    Mem.le E'
                                                                                                                        E' ∧
                                                                                                                      bif
                                                                                                                          bif
                                                                                                                              false then
                                                                                                                            true
                                                                                                                          else
                                                                                                                            !decide
                                                                                                                                (s'_2 =
                                                                                                                                    s'_3 ∧
                                                                                                                                  zs =
                                                                                                                                    ys) then
                                                                                                                        Mem.le
                                                                                                                            E
                                                                                                                            E' ∧
                                                                                                                          K
                                                                                                                            (SV.raw
                                                                                                                              (Value.bool
                                                                                                                                false))
                                                                                                                            E'
                                                                                                                      else
                                                                                                                        ∃ (cs
                                                                                                                          :
                                                                                                                          List
                                                                                                                            Value),
                                                                                                                          (cs =
                                                                                                                                [] ∨
                                                                                                                              E'
                                                                                                                                (Value.slice
                                                                                                                                  b2
                                                                                                                                  l2
                                                                                                                                  c2)
                                                                                                                                cs) ∧
                                                                                                                            l2 *
                                                                                                                                  (1 :
                                                                                                                                    Nat) ≤
                                                                                                                                List.length
                                                                                                                                  cs ∧
                                                                                                                              (∀
                                                                                                                                  (x :
                                                                                                                                    Value),
                                                                                                                                  List.Mem
                                                                                                                                      x
                                                                                                                                      cs →
                                                                                                                                    Value.oneCell'
                                                                                                                                        x =
                                                                                                                                      true) ∧
                                                                                                                                (0 :
                                                                                                                                      Nat) ≤
                                                                                                                                    (0 :
                                                                                                                                      Nat) ∧
                                                                                                                                  (0 :
                                                                                                                                        Nat) ≤
                                                                                                                                      (0 :
                                                                                                                                        Nat) ∧
                                                                                                                                    (0 :
                                                                                                                                          Nat) ≤
                                                                                                                                        (0 :
                                                                                                                                          Nat) ∧
                                                                                                                                      req
                                                                                                                                        (((0 :
                                                                                                                                                Nat) +
                                                                                                                                              l2) *
                                                                                                                                            (1 :
                                                                                                                                              Nat) ≤
                                                                                                                                          (140737488355328 :
                                                                                                                                            Nat))
                                                                                                                                        (∀
                                                                                                                                          (cap'
                                                                                                                                            tot' :
                                                                                                                                            Nat),
                                                                                                                                          (0 :
                                                                                                                                                  Nat) +
                                                                                                                                                l2 ≤
                                                                                                                                              cap' →
                                                                                                                                            cap' *
                                                                                                                                                  (1 :
                                                                                                                                                    Nat) ≤
                                                                                                                                                tot' →
                                                                                                                                              Lp
                                                                                                                                                WL7
                                                                                                                                                (8 :
                                                                                                                                                  Nat)
                                                                                                                                                Try.f7
                                                                                                                                                [(1 :
                                                                                                                                                    Nat),
                                                                                                                                                  (1 :
                                                                                                                                                    Nat),
                                                                                                                                                  (1 :
                                                                                                                                                    Nat),
                                                                                                                                                  (1 :
                                                                                                                                                    Nat),
                                                                                                                                                  (1 :
                                                                                                                                                    Nat),
                                                                                                                                                  (1 :
                                                                                                                                                    Nat),
                                                                                                                                                  (1 :
                                                                                                                                                    Nat),
                                                                                                                                                  (1 :
                                                                                                                                                    Nat),
                                                                                                                                                  (1 :
                                                                                                                                                    Nat),
                                                                                                                                                  (1 :
                                                                                                                                                    Nat),
                                                                                                                                                  (0 :
                                                                                                                                                    Nat),
                                                                                                                                                  (1 :
                                                                                                                                                    Nat),
                                                                                                                                                  (0 :
                                                                                                                                                    Nat)]
                                                                                                                                                (0 :
                                                                                                                                                  Nat)
                                                                                                                                                (pubK
                                                                                                                                                  E
                                                                                                                                                  K)
                                                                                                                                                {
                                                                                                                                                  fr :=
                                                                                                                                                    [some
                                                                                                                                                        (SV.agg
                                                                                                                                                          [SV.raw
                                                                                                                                                              (Value.int
                                                                                                                                                                IntKind.i64
                                                                                                                                                                a1),
                                                                                                                                                            SV.raw
                                                                                                                                                              (Value.slice
                                                                                                                                                                b1
                                                                                                                                                                l1
                                                                                                                                                                c1)]),
                                                                                                                                                      some
                                                                                                                                                        (SV.raw
                                                                                                                                                          (Value.int
                                                                                                                                                            IntKind.i64
                                                                                                                                                            a2)),
                                                                                                                                                      some
                                                                                                                                                        (SV.raw
                                                                                                                                                          (Value.slice
                                                                                                                                                            b2
                                                                                                                                                            l2
                                                                                                                                                            c2)),
                                                                                                                                                      some
                                                                                                                                                        (SV.raw
                                                                                                                                                          (Value.int
                                                                                                                                                            IntKind.i64
                                                                                                                                                            a3)),
                                                                                                                                                      some
                                                                                                                                                        (SV.raw
                                                                                                                                                          (Value.slice
                                                                                                                                                            b3
                                                                                                                                                            l3
                                                                                                                                                            c3)),
                                                                                                                                                      some
                                                                                                                                                        (SV.loc
                                                                                                                                                          (0 :
                                                                                                                                                            Nat)
                                                                                                                                                          (0 :
                                                                                                                                                            Nat)),
                                                                                                                                                      none,
                                                                                                                                                      none,
                                                                                                                                                      none,
                                                                                                                                                      none,
                                                                                                                                                      some
                                                                                                                                                        (SV.raw
                                                                                                                                                          (Value.bool
                                                                                                                                                            false)),
                                                                                                                                                      some
                                                                                                                                                        (SV.raw
                                                                                                                                                          (Value.bool
                                                                                                                                                            true)),
                                                                                                                                                      some
                                                                                                                                                        (SV.loc
                                                                                                                                                          (1 :
                                                                                                                                                            Nat)
                                                                                                                                                          (0 :
                                                                                                                                                            Nat)),
                                                                                                                                                      some
                                                                                                                                                        (SV.raw
                                                                                                                                                          (Value.bool
                                                                                                                                                            ok)),
                                                                                                                                                      some
                                                                                                                                                        (SV.loc
                                                                                                                                                          (2 :
                                                                                                                                                            Nat)
                                                                                                                                                          (0 :
                                                                                                                                                            Nat)),
                                                                                                                                                      some
                                                                                                                                                        (SV.raw
                                                                                                                                                          (Value.bool
                                                                                                                                                            ok_1)),
                                                                                                                                                      some
                                                                                                                                                        (SV.loc
                                                                                                                                                          (3 :
                                                                                                                                                            Nat)
                                                                                                                                                          (0 :
                                                                                                                                                            Nat)),
                                                                                                                                                      some
                                                                                                                                                        (SV.raw
                                                                                                                                                          (Value.bool
                                                                                                                                                            ok_2)),
                                                                                                                                                      some
                                                                                                                                                        (SV.loc
                                                                                                                                                          (4 :
                                                                                                                                                            Nat)
                                                                                                                                                          (0 :
                                                                                                                                                            Nat)),
                                                                                                                                                      some
                                                                                                                                                        (SV.raw
                                                                                                                                                          (Value.bool
                                                                                                                                                            ok_3)),
                                                                                                                                                      some
                                                                                                                                                        (SV.slc
                                                                                                                                                          (6 :
                                                                                                                                                            Nat)
                                                                                                                                                          (0 :
                                                                                                                                                            Nat)
                                                                                                                                                          ((0 :
                                                                                                                                                              Nat) +
                                                                                                                                                            l2)
                                                                                                                                                          cap'),
                                                                                                                                                      none,
                                                                                                                                                      none,
                                                                                                                                                      none,
                                                                                                                                                      none,
                                                                                                                                                      none,
                                                                                                                                                      some
                                                                                                                                                        (SV.raw
                                                                                                                                                          (Value.bool
                                                                                                                                                            true)),
                                                                                                                                                      some
                                                                                                                                                        (SV.loc
                                                                                                                                                          (0 :
                                                                                                                                                            Nat)
                                                                                                                                                          (1 :
                                                                                                                                                            Nat)),
                                                                                                                                                      some
                                                                                                                                                        (SV.raw
                                                                                                                                                          (Value.slice
                                                                                                                                                            b1
                                                                                                                                                            l1
                                                                                                                                                            c1)),
                                                                                                                                                      some
                                                                                                                                                        (SV.raw
                                                                                                                                                          (Value.int
                                                                                                                                                            IntKind.i64
                                                                                                                                                            (↑l1 :
                                                                                                                                                              Int))),
                                                                                                                                                      some
                                                                                                                                                        (SV.raw
                                                                                                                                                          (Value.bool
                                                                                                                                                            (decide
                                                                                                                                                              ((↑l1 :
                                                                                                                                                                  Int) >
                                                                                                                                                                (300 :
                                                                                                                                                                  Int))))),
                                                                                                                                                      some
                                                                                                                                                        (SV.raw
                                                                                                                                                          (Value.bool
                                                                                                                                                            false)),
                                                                                                                                                      some
                                                                                                                                                        (SV.raw
                                                                                                                                                          (Value.slice
                                                                                                                                                            b2
                                                                                                                                                            l2
                                                                                                                                                            c2)),
                                                                                                                                                      some
                                                                                                                                                        (SV.raw
                                                                                                                                                          (Value.int
                                                                                                                                                            IntKind.i64
                                                                                                                                                            (↑l2 :
                                                                                                                                                              Int))),
                                                                                                                                                      some
                                                                                                                                                        (SV.raw
                                                                                                                                                          (Value.bool
                                                                                                                                                            (decide
                                                                                                                                                              ((↑l2 :
                                                                                                                                                                  Int) >
                                                                                                                                                                (300 :
                                                                                                                                                                  Int))))),
                                                                                                                                                      some
                                                                                                                                                        (SV.raw
                                                                                                                                                          (Value.bool
                                                                                                                                                            (bif
                                                                                                                                                                false then
                                                                                                                                                              true
                                                                                                                                                            else
                                                                                                                                                              decide
                                                                                                                                                                ((↑l2 :
                                                                                                                                                                    Int) >
                                                                                                                                                                  (300 :
                                                                                                                                                                    Int))))),
                                                                                                                                                      some
                                                                                                                                                        (SV.raw
                                                                                                                                                          (Value.bool
                                                                                                                                                            false)),
                                                                                                                                                      some
                                                                                                                                                        (SV.raw
                                                                                                                                                          (Value.slice
                                                                                                                                                            b3
                                                                                                                                                            l3
                                                                                                                                                            c3)),
                                                                                                                                                      some
                                                                                                                                                        (SV.raw
                                                                                                                                                          (Value.int
                                                                                                                                                            IntKind.i64
                                                                                                                                                            (↑l3 :
                                                                                                                                                              Int))),
                                                                                                                                                      some
                                                                                                                                                        (SV.raw
                                                                                                                                                          (Value.bool
                                                                                                                                                            (decide
                                                                                                                                                              ((↑l3 :
                                                                                                                                                                  Int) >
                                                                                                                                                                (300 :
                                                                                                                                                                  Int))))),
                                                                                                                                                      some
                                                                                                                                                        (SV.raw
                                                                                                                                                          (Value.bool
                                                                                                                                                            (bif
                                                                                                                                                                false then
                                                                                                                                                              true
                                                                                                                                                            else
                                                                                                                                                              decide
                                                                                                                                                                ((↑l3 :
                                                                                                                                                                    Int) >
                                                                                                                                                                  (300 :
                                                                                                                                                                    Int))))),
                                                                                                                                                      none,
                                                                                                                                                      some
                                                                                                                                                        (SV.tup
                                                                                                                                                          [SV.agg
                                                                                                                                                              [SV.raw
                                                                                                                                                                  (Value.int
                                                                                                                                                                    IntKind.i64
                                                                                                                                                                    s'),
                                                                                                                                                                SV.raw
                                                                                                                                                                  (Value.slice
                                                                                                                                                                    b'
                                                                                                                                                                    l'
                                                                                                                                                                    c')],
                                                                                                                                                            SV.raw
                                                                                                                                                              (Value.bool
                                                                                                                                                                ok)]),
                                                                                                                                                      some
                                                                                                                                                        (SV.agg
                                                                                                                                                          [SV.raw
                                                                                                                                                              (Value.int
                                                                                                                                                                IntKind.i64
                                                                                                                                                                a1),
                                                                                                                                                            SV.raw
                                                                                                                                                              (Value.slice
                                                                                                                                                                b1
                                                                                                                                                                l1
                                                                                                                                                                c1)]),
                                                                                                                                                      some
                                                                                                                                                        (SV.raw
                                                                                                                                                          (Value.int
                                                                                                                                                            IntKind.i64
                                                                                                                                                            a2)),
                                                                                                                                                      some
                                                                                                                                                        (SV.raw
                                                                                                                                                          (Value.slice
                                                                                                                                                            b2
                                                                                                                                                            l2
                                                                                                                                                            c2)),
                                                                                                                                                      some
                                                                                                                                                        (SV.tup
                                                                                                                                                          [SV.agg
                                                                                                                                                              [SV.raw
                                                                                                                                                                  (Value.int
                                                                                                                                                                    IntKind.i64
                                                                                                                                                                    s'),
                                                                                                                                                                SV.raw
                                                                                                                                                                  (Value.slice
                                                                                                                                                                    b'
                                                                                                                                                                    l'
                                                                                                                                                                    c')],
                                                                                                                                                            SV.raw
                                                                                                                                                              (Value.bool
                                                                                                                                                                ok)]),
                                                                                                                                                      some
                                                                                                                                                        (SV.agg
                                                                                                                                                          [SV.raw
                                                                                                                                                              (Value.int
                                                                                                                                                                IntKind.i64
                                                                                                                                                                s'),
                                                                                                                                                            SV.raw
                                                                                                                                                              (Value.slice
                                                                                                                                                                b'
                                                                                                                                                                l'
                                                                                                                                                                c')]),
                                                                                                                                                      some
                                                                                                                                                        (SV.raw
                                                                                                                                                          (Value.bool
                                                                                                                                                            ok)),
                                                                                                                                                      some
                                                                                                                                                        (SV.tup
                                                                                                                                                          [SV.agg
                                                                                                                                                              [SV.raw
                                                                                                                                                                  (Value.int
                                                                                                                                                                    IntKind.i64
                                                                                                                                                                    s'_1),
                                                                                                                                                                SV.raw
                                                                                                                                                                  (Value.slice
                                                                                                                                                                    b'_1
                                                                                                                                                                    l'_1
                                                                                                                                                                    c'_1)],
                                                                                                                                                            SV.raw
                                                                                                                                                              (Value.bool
                                                                                                                                                                ok_1)]),
                                                                                                                                                      some
                                                                                                                                                        (SV.agg
                                                                                                                                                          [SV.raw
                                                                                                                                                              (Value.int
                                                                                                                                                                IntKind.i64
                                                                                                                                                                a1),
                                                                                                                                                            SV.raw
                                                                                                                                                              (Value.slice
                                                                                                                                                                b1
                                                                                                                                                                l1
                                                                                                                                                                c1)]),
                                                                                                                                                      some
                                                                                                                                                        (SV.raw
                                                                                                                                                          (Value.int
                                                                                                                                                            IntKind.i64
                                                                                                                                                            a3)),
                                                                                                                                                      some
                                                                                                                                                        (SV.raw
                                                                                                                                                          (Value.slice
                                                                                                                                                            b3
                                                                                                                                                            l3
                                                                                                                                                            c3)),
                                                                                                                                                      some
                                                                                                                                                        (SV.tup
                                                                                                                                                          [SV.agg
                                                                                                                                                              [SV.raw
                                                                                                                                                                  (Value.int
                                                                                                                                                                    IntKind.i64
                                                                                                                                                                    s'_1),
                                                                                                                                                                SV.raw
                                                                                                                                                                  (Value.slice
                                                                                                                                                                    b'_1
                                                                                                                                                                    l'_1
                                                                                                                                                                    c'_1)],
                                                                                                                                                            SV.raw
                                                                                                                                                              (Value.bool
                                                                                                                                                                ok_1)]),
                                                                                                                                                      some
                                                                                                                                                        (SV.agg
                                                                                                                                                          [SV.raw
                                                                                                                                                              (Value.int
                                                                                                                                                                IntKind.i64
                                                                                                                                                                s'_1),
                                                                                                                                                            SV.raw
                                                                                                                                                              (Value.slice
                                                                                                                                                                b'_1
                                                                                                                                                                l'_1
                                                                                                                                                                c'_1)]),
                                                                                                                                                      some
                                                                                                                                                        (SV.raw
                                                                                                                                                          (Value.bool
                                                                                                                                                            ok_1)),
                                                                                                                                                      some
                                                                                                                                                        (SV.raw
                                                                                                                                                          (Value.bool
                                                                                                                                                            ok)),
                                                                                                                                                      some
                                                                                                                                                        (SV.raw
                                                                                                                                                          (Value.bool
                                                                                                                                                            !ok)),
                                                                                                                                                      some
                                                                                                                                                        (SV.raw
                                                                                                                                                          (Value.bool
                                                                                                                                                            false)),
                                                                                                                                                      some
                                                                                                                                                        (SV.raw
                                                                                                                                                          (Value.bool
                                                                                                                                                            ok_1)),
                                                                                                                                                      some
                                                                                                                                                        (SV.raw
                                                                                                                                                          (Value.bool
                                                                                                                                                            !ok_1)),
                                                                                                                                                      some
                                                                                                                                                        (SV.raw
                                                                                                                                                          (Value.bool
                                                                                                                                                            (bif
                                                                                                                                                                false then
                                                                                                                                                              true
                                                                                                                                                            else
                                                                                                                                                              !ok_1))),
                                                                                                                                                      none,
                                                                                                                                                      some
                                                                                                                                                        (SV.tup
                                                                                                                                                          [SV.agg
                                                                                                                                                              [SV.raw
                                                                                                                                                                  (Value.int
                                                                                                                                                                    IntKind.i64
                                                                                                                                                                    s'_2),
                                                                                                                                                                SV.raw
                                                                                                                                                                  (Value.slice
                                                                                                                                                                    b'_2
                                                                                                                                                                    l'_2
                                                                                                                                                                    c'_2)],
                                                                                                                                                            SV.raw
                                                                                                                                                              (Value.bool
                                                                                                                                                                ok_2)]),
                                                                                                                                                      some
                                                                                                                                                        (SV.agg
                                                                                                                                                          [SV.raw
                                                                                                                                                              (Value.int
                                                                                                                                                                IntKind.i64
                                                                                                                                                                s'),
                                                                                                                                                            SV.raw
                                                                                                                                                              (Value.slice
                                                                                                                                                                b'
                                                                                                                                                                l'
                                                                                                                                                                c')]),
                                                                                                                                                      some
                                                                                                                                                        (SV.raw
                                                                                                                                                          (Value.int
                                                                                                                                                            IntKind.i64
                                                                                                                                                            a3)),
                                                                                                                                                      some
                                                                                                                                                        (SV.raw
                                                                                                                                                          (Value.slice
                                                                                                                                                            b3
                                                                                                                                                            l3
                                                                                                                                                            c3)),
                                                                                                                                                      some
                                                                                                                                                        (SV.tup
                                                                                                                                                          [SV.agg
                                                                                                                                                              [SV.raw
                                                                                                                                                                  (Value.int
                                                                                                                                                                    IntKind.i64
                                                                                                                                                                    s'_2),
                                                                                                                                                                SV.raw
                                                                                                                                                                  (Value.slice
                                                                                                                                                                    b'_2
                                                                                                                                                                    l'_2
                                                                                                                                                                    c'_2)],
                                                                                                                                                            SV.raw
                                                                                                                                                              (Value.bool
                                                                                                                                                                ok_2)]),
                                                                                                                                                      some
                                                                                                                                                        (SV.agg
                                                                                                                                                          [SV.raw
                                                                                                                                                              (Value.int
                                                                                                                                                                IntKind.i64
                                                                                                                                                                s'_2),
                                                                                                                                                            SV.raw
                                                                                                                                                              (Value.slice
                                                                                                                                                                b'_2
                                                                                                                                                                l'_2
                                                                                                                                                                c'_2)]),
                                                                                                                                                      some
                                                                                                                                                        (SV.raw
                                                                                                                                                          (Value.bool
                                                                                                                                                            ok_2)),
                                                                                                                                                      some
                                                                                                                                                        (SV.tup
                                                                                                                                                          [SV.agg
                                                                                                                                                              [SV.raw
                                                                                                                                                                  (Value.int
                                                                                                                                                                    IntKind.i64
                                                                                                                                                                    s'_3),
                                                                                                                                                                SV.raw
                                                                                                                                                                  (Value.slice
                                                                                                                                                                    b'_3
                                                                                                                                                                    l'_3
                                                                                                                                                                    c'_3)],
                                                                                                                                                            SV.raw
                                                                                                                                                              (Value.bool
                                                                                                                                                                ok_3)]),
                                                                                                                                                      some
                                                                                                                                                        (SV.agg
                                                                                                                                                          [SV.raw
                                                                                                                                                              (Value.int
                                                                                                                                                                IntKind.i64
                                                                                                                                                                s'_1),
                                                                                                                                                            SV.raw
                                                                                                                                                              (Value.slice
                                                                                                                                                                b'_1
                                                                                                                                                                l'_1
                                                                                                                                                                c'_1)]),
                                                                                                                                                      some
                                                                                                                                                        (SV.raw
                                                                                                                                                          (Value.int
                                                                                                                                                            IntKind.i64
                                                                                                                                                            a2)),
                                                                                                                                                      some
                                                                                                                                                        (SV.raw
                                                                                                                                                          (Value.slice
                                                                                                                                                            b2
                                                                                                                                                            l2
                                                                                                                                                            c2)),
                                                                                                                                                      some
                                                                                                                                                        (SV.tup
                                                                                                                                                          [SV.agg
                                                                                                                                                              [SV.raw
                                                                                                                                                                  (Value.int
                                                                                                                                                                    IntKind.i64
                                                                                                                                                                    s'_3),
                                                                                                                                                                SV.raw
                                                                                                                                                                  (Value.slice
                                                                                                                                                                    b'_3
                                                                                                                                                                    l'_3
                                                                                                                                                                    c'_3)],
                                                                                                                                                            SV.raw
                                                                                                                                                              (Value.bool
                                                                                                                                                                ok_3)]),
                                                                                                                                                      some
                                                                                                                                                        (SV.agg
                                                                                                                                                          [SV.raw
                                                                                                                                                              (Value.int
                                                                                                                                                                IntKind.i64
                                                                                                                                                                s'_3),
                                                                                                                                                            SV.raw
                                                                                                                                                              (Value.slice
                                                                                                                                                                b'_3
                                                                                                                                                                l'_3
                                                                                                                                                                c'_3)]),
                                                                                                                                                      some
                                                                                                                                                        (SV.raw
                                                                                                                                                          (Value.bool
                                                                                                                                                            ok_3)),
                                                                                                                                                      some
                                                                                                                                                        (SV.raw
                                                                                                                                                          (Value.bool
                                                                                                                                                            ok_2)),
                                                                                                                                                      some
                                                                                                                                                        (SV.raw
                                                                                                                                                          (Value.bool
                                                                                                                                                            !ok_2)),
                                                                                                                                                      some
                                                                                                                                                        (SV.raw
                                                                                                                                                          (Value.bool
                                                                                                                                                            false)),
                                                                                                                                                      some
                                                                                                                                                        (SV.raw
                                                                                                                                                          (Value.bool
                                                                                                                                                            ok_3)),
                                                                                                                                                      some
                                                                                                                                                        (SV.raw
                                                                                                                                                          (Value.bool
                                                                                                                                                            !ok_3)),
                                                                                                                                                      some
                                                                                                                                                        (SV.raw
                                                                                                                                                          (Value.bool
                                                                                                                                                            (bif
                                                                                                                                                                false then
                                                                                                                                                              true
                                                                                                                                                            else
                                                                                                                                                              !ok_3))),
                                                                                                                                                      some
                                                                                                                                                        (SV.raw
                                                                                                                                                          (Value.bool
                                                                                                                                                            false)),
                                                                                                                                                      some
                                                                                                                                                        (SV.agg
                                                                                                                                                          [SV.raw
                                                                                                                                                              (Value.int
                                                                                                                                                                IntKind.i64
                                                                                                                                                                s'_2),
                                                                                                                                                            SV.raw
                                                                                                                                                              (Value.slice
                                                                                                                                                                b'_2
                                                                                                                                                                l'_2
                                                                                                                                                                c'_2)]),
                                                                                                                                                      some
                                                                                                                                                        (SV.agg
                                                                                                                                                          [SV.raw
                                                                                                                                                              (Value.int
                                                                                                                                                                IntKind.i64
                                                                                                                                                                s'_3),
                                                                                                                                                            SV.raw
                                                                                                                                                              (Value.slice
                                                                                                                                                                b'_3
                                                                                                                                                                l'_3
                                                                                                                                                                c'_3)]),
                                                                                                                                                      some
                                                                                                                                                        (SV.raw
                                                                                                                                                          (Value.bool
                                                                                                                                                            (decide
                                                                                                                                                              (s'_2 =
                                                                                                                                                                  s'_3 ∧
                                                                                                                                                                zs =
                                                                                                                                                                  ys)))),
                                                                                                                                                      some
                                                                                                                                                        (SV.raw
                                                                                                                                                          (Value.bool
                                                                                                                                                            !decide
                                                                                                                                                                (s'_2 =
                                                                                                                                                                    s'_3 ∧
                                                                                                                                                                  zs =
                                                                                                                                                                    ys))),
                                                                                                                                                      some
                                                                                                                                                        (SV.raw
                                                                                                                                                          (Value.bool
                                                                                                                                                            (bif
                                                                                                                                                                false then
                                                                                                                                                              true
                                                                                                                                                            else
                                                                                                                                                              !decide
                                                                                                                                                                  (s'_2 =
                                                                                                                                                                      s'_3 ∧
                                                                                                                                                                    zs =
                                                                                                                                                                      ys)))),
                                                                                                                                                      some
                                                                                                                                                        (SV.slc
                                                                                                                                                          (5 :
                                                                                                                                                            Nat)
                                                                                                                                                          (0 :
                                                                                                                                                            Nat)
                                                                                                                                                          (0 :
                                                                                                                                                            Nat)
                                                                                                                                                          (0 :
                                                                                                                                                            Nat)),
                                                                                                                                                      some
                                                                                                                                                        (SV.raw
                                                                                                                                                          (Value.slice
                                                                                                                                                            b2
                                                                                                                                                            l2
                                                                                                                                                            c2)),
                                                                                                                                                      some
                                                                                                                                                        (SV.slc
                                                                                                                                                          (6 :
                                                                                                                                                            Nat)
                                                                                                                                                          (0 :
                                                                                                                                                            Nat)
                                                                                                                                                          ((0 :
                                                                                                                                                              Nat) +
                                                                                                                                                            l2)
                                                                                                                                                          cap'),
                                                                                                                                                      some
                                                                                                                                                        (SV.slc
                                                                                                                                                          (6 :
                                                                                                                                                            Nat)
                                                                                                                                                          (0 :
                                                                                                                                                            Nat)
                                                                                                                                                          ((0 :
                                                                                                                                                              Nat) +
                                                                                                                                                            l2)
                                                                                                                                                          cap'),
                                                                                                                                                      some
                                                                                                                                                        (SV.raw
                                                                                                                                                          (Value.int
                                                                                                                                                            IntKind.i64
                                                                                                                                                            (↑((0 :
                                                                                                                                                                    Nat) +
                                                                                                                                                                  l2) :
                                                                                                                                                              Int))),
                                                                                                                                                      some
                                                                                                                                                        (SV.raw
                                                                                                                                                          (Value.int
                                                                                                                                                            IntKind.i64
                                                                                                                                                            (0 :
                                                                                                                                                              Int))),
                                                                                                                                                      none,
                                                                                                                                                      none,
                                                                                                                                                      none,
                                                                                                                                                      none,
                                                                                                                                                      none,
                                                                                                                                                      none,
                                                                                                                                                      none,
                                                                                                                                                      none,
                                                                                                                                                      none,
                                                                                                                                                      none,
                                                                                                                                                      none,
                                                                                                                                                      none,
                                                                                                                                                      none,
                                                                                                                                                      none,
                                                                                                                                                      none,
                                                                                                                                                      none,
                                                                                                                                                      none,
                                                                                                                                                      none,
                                                                                                                                                      none,
                                                                                                                                                      none,
                                                                                                                                                      none,
                                                                                                                                                      none,
                                                                                                                                                      none,
                                                                                                                                                      none,
                                                                                                                                                      none,
                                                                                                                                                      none,
                                                                                                                                                      none,
                                                                                                                                                      none,
                                                                                                                                                      none,
                                                                                                                                                      none,
                                                                                                                                                      none,
                                                                                                                                                      none,
                                                                                                                                                      none,
                                                                                                                                                      none,
                                                                                                                                                      none,
                                                                                                                                                      none,
                                                                                                                                                      none,
                                                                                                                                                      none,
                                                                                                                                                      none,
                                                                                                                                                      none,
                                                                                                                                                      none,
                                                                                                                                                      none,
                                                                                                                                                      none,
                                                                                                                                                      none,
                                                                                                                                                      none,
                                                                                                                                                      none,
                                                                                                                                                      none,
                                                                                                                                                      none,
                                                                                                                                                      none],
                                                                                                                                                  bx :=
                                                                                                                                                    [{
                                                                                                                                                        elem :=
                                                                                                                                                          (24 :
                                                                                                                                                            Nat),
                                                                                                                                                        row :=
                                                                                                                                                          Row.lst
                                                                                                                                                            [SV.raw
                                                                                                                                                                (Value.int
                                                                                                                                                                  IntKind.i64
                                                                                                                                                                  a1),
                                                                                                                                                              SV.raw
                                                                                                                                                                (Value.slice
                                                                                                                                                                  b1
                                                                                                                                                                  l1
                                                                                                                                                                  c1)],
                                                                                                                                                        total :=
                                                                                                                                                          (2 :
                                                                                                                                                            Nat),
                                                                                                                                                        own :=
                                                                                                                                                          true :
                                                                                                                                                        Box },
                                                                                                                                                      {
                                                                                                                                                        elem :=
                                                                                                                                                          (24 :
                                                                                                                                                            Nat),
                                                                                                                                                        row :=
                                                                                                                                                          Row.lst
                                                                                                                                                            [SV.raw
                                                                                                                                                                (Value.int
                                                                                                                                                                  IntKind.i64
                                                                                                                                                                  s'),
                                                                                                                                                              SV.raw
                                                                                                                                                                (Value.slice
                                                                                                                                                                  b'
                                                                                                                                                                  l'
                                                                                                                                                                  c')],
                                                                                                                                                        total :=
                                                                                                                                                          (2 :
                                                                                                                                                            Nat),
                                                                                                                                                        own :=
                                                                                                                                                          true :
                                                                                                                                                        Box },
                                                                                                                                                      {
                                                                                                                                                        elem :=
                                                                                                                                                          (24 :
                                                                                                                                                            Nat),
                                                                                                                                                        row :=
                                                                                                                                                          Row.lst
                                                                                                                                                            [SV.raw
                                                                                                                                                                (Value.int
                                                                                                                                                                  IntKind.i64
                                                                                                                                                                  s'_1),
                                                                                                                                                              SV.raw
                                                                                                                                                                (Value.slice
                                                                                                                                                                  b'_1
                                                                                                                                                                  l'_1
                                                                                                                                                                  c'_1)],
                                                                                                                                                        total :=
                                                                                                                                                          (2 :
                                                                                                                                                            Nat),
                                                                                                                                                        own :=
                                                                                                                                                          true :
                                                                                                                                                        Box },
                                                                                                                                                      {
                                                                                                                                                        elem :=
                                                                                                                                                          (24 :
                                                                                                                                                            Nat),
                                                                                                                                                        row :=
                                                                                                                                                          Row.lst
                                                                                                                                                            [SV.raw
                                                                                                                                                                (Value.int
                                                                                                                                                                  IntKind.i64
                                                                                                                                                                  s'_2),
                                                                                                                                                              SV.raw
                                                                                                                                                                (Value.slice
                                                                                                                                                                  b'_2
                                                                                                                                                                  l'_2
                                                                                                                                                                  c'_2)],
                                                                                                                                                        total :=
                                                                                                                                                          (2 :
                                                                                                                                                            Nat),
                                                                                                                                                        own :=
                                                                                                                                                          true :
                                                                                                                                                        Box },
                                                                                                                                                      {
                                                                                                                                                        elem :=
                                                                                                                                                          (24 :
                                                                                                                                                            Nat),
                                                                                                                                                        row :=
                                                                                                                                                          Row.lst
                                                                                                                                                            [SV.raw
                                                                                                                                                                (Value.int
                                                                                                                                                                  IntKind.i64
                                                                                                                                                                  s'_3),
                                                                                                                                                              SV.raw
                                                                                                                                                                (Value.slice
                                                                                                                                                                  b'_3
                                                                                                                                                                  l'_3
                                                                                                                                                                  c'_3)],
                                                                                                                                                        total :=
                                                                                                                                                          (2 :
                                                                                                                                                            Nat),
                                                                                                                                                        own :=
                                                                                                                                                          true :
                                                                                                                                                        Box },
                                                                                                                                                      {
                                                                                                                                                        elem :=
                                                                                                                                                          (5 :
                                                                                                                                                            Nat),
                                                                                                                                                        row :=
                                                                                                                                                          Row.lst
                                                                                                                                                            [],
                                                                                                                                                        total :=
                                                                                                                                                          (0 :
                                                                                                                                                            Nat),
                                                                                                                                                        own :=
                                                                                                                                                          false :
                                                                                                                                                        Box },
                                                                                                                                                      {
                                                                                                                                                        elem :=
                                                                                                                                                          (5 :
                                                                                                                                                            Nat),
                                                                                                                                                        row :=
                                                                                                                                                          Row.vals
                                                                                                                                                            ([] ++
                                                                                                                                                              List.take
                                                                                                                                                                (l2 *
                                                                                                                                                                  (1 :
                                                                                                                                                                    Nat))
                                                                                                                                                                cs),
                                                                                                                                                        total :=
                                                                                                                                                          tot',
                                                                                                                                                        own :=
                                                                                                                                                          true :
                                                                                                                                                        Box }],
                                                                                                                                                  E :=
                                                                                                                                                    E' :
                                                                                                                                                  St }))
  have n1 := hB1.2.1
  have n2 := hB2.2.1
  have n3 := hB3.2.1
  intro E1 q1
  refine ⟨q1, condC (fun _ => ⟨q1, h E1 q1⟩) (fun g1 => condC (fun _ => ⟨q1, h E1 q1⟩) (fun g2 => condC (fun _ => ⟨q1, h E1 q1⟩) (fun g3 => ?_)))⟩
  have g1 : l1 ≤ 300 := by simp at g1; omega
  have g2 : l2 ≤ 300 := by simp at g2; omega
  have g3 : l3 ≤ 300 := by simp at g3; omega
  refine ⟨z1, z2, hB1.mono q1, hB2.mono q1, by omega, fun s4 b4 l4 c4 y4 o4 E2 q2 r2 B4 => ⟨q2, z1, z3, hB1.mono (Mem.le_trans q1 q2), hB3.mono (Mem.le_trans q1 q2), by omega, fun s5 b5 l5 c5 y5 o5 E3 q3 r3 B5 => ?_⟩⟩
  have k3 := Mem.le_trans q1 (Mem.le_trans q2 q3)
  refine ⟨q3, condC (fun g => ⟨k3, h E3 k3⟩) (fun g4 => condC (fun g => ⟨k3, h E3 k3⟩) (fun g5 => ?_))⟩
  have g4 : o4 = true := by simpa using g4
  have g5 : o5 = true := by simpa using g5
  subst g4
  subst g5
  obtain ⟨v, p1, p2, e4⟩ := doneF_ok r2
  obtain ⟨_, p3, p4, e5⟩ := doneF_ok r3
  obtain ⟨rfl, rfl⟩ := Prod.mk.inj e4
  obtain ⟨rfl, rfl⟩ := Prod.mk.inj e5
  have B4 : Bs E2 b4 l4 c4 _ := B4
  have B5 : Bs E3 b5 l5 c5 _ := B5
  have n4 := B4.2.1
  have n5 := B5.2.1
  simp only [stp_len] at n4 n5
  refine ⟨_, z3, B4.mono q3, hB3.mono k3, by omega, fun s6 b6 l6 c6 y6 o6 E4 q4 r4 B6 => ⟨q4, _, z2, B5.mono q4, hB2.mono (Mem.le_trans k3 q4), by omega, fun s7 b7 l7 c7 y7 o7 E5 q5 r5 B7 => ⟨q5, ?_⟩⟩⟩
  have r4 : doneF _ _ a3 z3 = ((s6, y6), o6) := r4
  have r5 : doneF _ _ a2 z2 = ((s7, y7), o7) := r5
  rw [doneF_mk (by rw [stp_len]; exact v) p3 (by rw [stp_len]; exact p4)] at r4
  rw [doneF_mk (by rw [stp_len]; exact v) p1 (by rw [stp_len]; exact p2)] at r5
  obtain ⟨rfl, rfl, rfl⟩ := eq3 r4
  obtain ⟨rfl, rfl, rfl⟩ := eq3 r5
  have B6 : Bs E4 b6 l6 c6 _ := B6
  have n6 := B6.2.1
  simp only [stp_len] at n6
  have k5 := Mem.le_trans k3 (Mem.le_trans q4 q5)
  refine condC (fun g => by simp at g) (fun _ => condC (fun g => by simp at g) (fun _ => ⟨_, _, B6.mono q5, B7, by omega, Mem.le_refl _, condC (fun g => ?_) (fun _ => ?_)⟩))
  · have g : (!decide (_ = _ ∧ _ = _)) = true := g
    rw [decide_eq_true ⟨rfl, stp_swap⟩] at g
    simp at g
  obtain ⟨t1, t2, t3⟩ := (hB2.mono k5).src
  refine ⟨_, t1, t2, t3, Nat.le_refl _, Nat.le_refl _, Nat.le_refl _, req_intro (by omega) (fun cap tot d1 d2 => ?_)⟩
  have B4' := B4.mono (Mem.le_trans q3 (Mem.le_trans q4 q5))
  rw [n2] at B4' p2
  have e : (List.map (Value.int .u8) z2) = vB z2 := rfl
  rw [List.nil_append, e, tkB (Nat.le_of_eq n2), Nat.zero_add]
  exact Lp_re [some 0, some 1, some 6] (lp7 (i := 0) (hB1.mono k5) (hB2.mono k5) (hB3.mono k5) B4' v p1 p2 g2 g3 ⟨by omega, d2⟩ (Nat.zero_le _) k5 (fun E' k => h E' (Mem.le_trans k5 k))) ⟨⟨by simp, by simp, fun j h => absurd h (Nat.not_lt_zero _)⟩, rfl, (by repeat' first | exact True.intro | refine And.intro (Or.inl rfl) ?_), (by repeat' first | exact True.intro | exact rfl | exact Or.inl rfl | fail | refine And.intro ?_ ?_), (show List.Nodup [0, 1, 6] from by decide), Mem.le_refl _⟩


theorem opn7 (W : World) (K : List SV → Prop) (h : ∀ a1 : Int, (Lit.int .i64 a1).wf = true → ∀ (b1 : Option Addr) (l1 c1 : Nat) (z1 : List Int), (l1 ≤ c1) → (c1 ≤ maxLen) → (b1 = none → c1 = 0) → (z1.length = c1) → (∀ x ∈ z1, (Lit.int .u8 x).wf = true) → RowAt W (.slice b1 l1 c1) (z1.map (.int .u8)) → ∀ a2 : Int, (Lit.int .i64 a2).wf = true → ∀ (b2 : Option Addr) (l2 c2 : Nat) (z2 : List Int), (l2 ≤ c2) → (c2 ≤ maxLen) → (b2 = none → c2 = 0) → (z2.length = c2) → (∀ x ∈ z2, (Lit.int .u8 x).wf = true) → RowAt W (.slice b2 l2 c2) (z2.map (.int .u8)) → ∀ a3 : Int, (Lit.int .i64 a3).wf = true → ∀ (b3 : Option Addr) (l3 c3 : Nat) (z3 : List Int), (l3 ≤ c3) → (c3 ≤ maxLen) → (b3 = none → c3 = 0) → (z3.length = c3) → (∀ x ∈ z3, (Lit.int .u8 x).wf = true) → RowAt W (.slice b3 l3 c3) (z3.map (.int .u8)) → K [.agg [I a1, L b1 l1 c1], I a2, L b2 l2 c2, I a3, L b3 l3 c3]) : opnAll Try.prog W Try.f7.params.toList K :=
  same (by kernel_rfl) h

theorem sem7 (W : World) : opnAll Try.prog W Try.f7.params.toList fun ss => TabSem Try.prog 7 ss (fun v cs => RowAt W v cs) fun r _ => r = .raw (.bool true) := by
  refine opn7 W _ ?_
  intro a1 ha1 b1 l1 c1 z1 hl1 hc1 hb1 hz1 hw1 hE1 a2 ha2 b2 l2 c2 z2 hl2 hc2 hb2 hz2 hw2 hE2 a3 ha3 b3 l3 c3 z3 hl3 hc3 hb3 hz3 hw3 hE3
  exact Ent.sem okWL7 Try.func7 ⟨by kernel_rfl, by kernel_rfl⟩ rfl (e7 ha1 (Bs.of hl1 hb1 hz1 hw1 hE1) ha2 (Bs.of hl2 hb2 hz2 hw2 hE2) ha3 (Bs.of hl3 hb3 hz3 hw3 hE3) (fun _ _ => rfl))

theorem lifted7 (os : Os) (started : os.Started) (H : Type) (enc : TypeId × Value → H) :
    ReturnsInHanded {} Try.checked os 7 .any (Rows.flashOrderSpec.pre6 enc Try.prog Try.f7 Rows.flashOrderRow.domain false) (Rows.flashOrderSpec.post enc Try.prog Try.f7 false true false false) :=
  lift_true (C := Try.checked) (by kernel_rfl) (by kernel_rfl) started (by kernel_rfl) Try.func7
    (ChangeSpec.witness6 (enc := enc) (C := Try.checked) false ⟨#[], #[.agg #[.int .i64 0, .slice none 0 0], .int .i64 0, .slice none 0 0, .int .i64 0, .slice none 0 0], []⟩ 8 (by kernel_rfl) (by kernel_rfl) (by kernel_rfl) (by kernel_rfl))
    (Tb := 4) (by kernel_rfl) (by kernel_rfl) (by kernel_rfl) rfl
    (fun ds hl => by
      match ds, hl with
      | [d0, d1, d2, d3, d4], _ => exact ⟨rfl, rfl, rfl⟩)
    sem7

theorem over7 : Rows.flashOrderRow.holds Try.pinned (OpenSpec.ofChange Rows.flashOrderSpec) :=
  OpenClaim.holds_of_wide 7 Try.f7 rfl rfl rfl rfl rfl rfl rfl ⟨rfl, rfl, rfl, rfl, rfl⟩ rfl rfl rfl rfl rfl (by kernel_rfl) Try.func7 (by kernel_rfl)
    (of_decide_eq_true (by kernel_rfl)) (by unfold Func.isWrapper; first | (rw [if_pos (by decide +kernel)]; kernel_rfl) | (rw [if_neg (by decide +kernel)]; exact ⟨rfl, rfl⟩))
    (fun os started H enc _ => lifted7 os started H enc)

theorem proved7 : Rows.FlashOrderSaid := over7
end Go.Proofs.Ythgdbpnddnbbdaa.FlashOwn
