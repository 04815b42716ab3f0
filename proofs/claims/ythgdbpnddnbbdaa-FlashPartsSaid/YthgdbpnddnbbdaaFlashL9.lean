/- The law FlashParts. -/
import Derived.Test.YthgdbpnddnbbdaaFlashP
import Derived.OpenShut
import Derived.Test.YthgdbpnddnbbdaaRows
namespace Go.Proofs.Ythgdbpnddnbbdaa.FlashOwn
open Go Go.Sx Go.Proofs.Ythgdbpnddnbbdaa
set_option maxRecDepth 100000
set_option maxHeartbeats 4000000
set_option linter.unusedVariables false
set_option linter.unusedSimpArgs false
variable {E : Mem} {K : SV → Mem → Prop}
noncomputable def tabL9 : FuncId → List SV → Mem → (SV → Mem → Prop) → Prop := fun f args E K => match f with
  | 10 => d0 args ((∀ E' : Mem, Mem.le E E' → K (B true) E'))
  | 11 => d2 args fun x0 x1 => dI x0 fun a1 => dI x1 fun a2 => (∀ (s' : Int) (b' : Option Addr) (l' c' : Nat) (ys : List Int) (e : Int) (E' : Mem), Mem.le E E' → Hyp (newF a1 a2 = ((s', ys), e)) → Bs E' b' l' c' ys → K (.tup [.agg [I s', L b' l' c'], I e]) E')
  | 13 => d2 args fun x0 x1 => dC x0 fun l1 => d2 l1 fun x0_0 x0_1 => dI x0_0 fun a1 => dS x0_1 fun b2 l3 c4 => dC x1 fun l2 => d2 l2 fun x1_0 x1_1 => dI x1_0 fun a5 => dS x1_1 fun b6 l7 c8 => ∃ (zs : List Int) (ys : List Int), Bs E b2 l3 c4 zs ∧ Bs E b6 l7 c8 ys ∧ l3 ≤ 100000 ∧ (K (B (decide (a1 = a5 ∧ zs = ys))) E)
  | 14 => d3 args fun x0 x1 x2 => dC x0 fun l1 => d2 l1 fun x0_0 x0_1 => dI x0_0 fun a1 => dS x0_1 fun b2 l3 c4 => dI x1 fun a5 => dS x2 fun b6 l7 c8 => ∃ (zs : List Int) (ds : List Int), Bs E b2 l3 c4 zs ∧ Bs E b6 l7 c8 ds ∧ (∀ (b' : Option Addr) (l' c' : Nat) (ms : List (Int × List Int)) (e : Int) (E' : Mem), Mem.le E E' → Hyp (progF a1 zs a5 ds = (ms, e)) → FL E' b' l' c' ms → K (.tup [L b' l' c', I e]) E')
  | 16 => d2 args fun x0 x1 => dC x0 fun l1 => d2 l1 fun x0_0 x0_1 => dI x0_0 fun a1 => dS x0_1 fun b2 l3 c4 => dI x1 fun a5 => ∃ (zs : List Int), Bs E b2 l3 c4 zs ∧ (∀ (b' : Option Addr) (l' c' : Nat) (ms : List (Int × List Int)) (e : Int) (E' : Mem), Mem.le E E' → Hyp (erasF a1 zs a5 = (ms, e)) → FL E' b' l' c' ms → K (.tup [L b' l' c', I e]) E')
  | 18 => d1 args fun x0 => dC x0 fun l1 => d2 l1 fun x0_0 x0_1 => dI x0_0 fun a1 => dS x0_1 fun b2 l3 c4 => (K (B (decide (validF a1 l3))) E)
  | 20 => d2 args fun x0 x1 => dS x0 fun b1 l2 c3 => dS x1 fun b4 l5 c6 => ∃ (ms : List (Int × List Int)) (ns : List (Int × List Int)), FL E b1 l2 c3 ms ∧ FL E b4 l5 c6 ns ∧ (∀ m ∈ ms, m.2.length ≤ 100000) ∧ l2 ≤ 100000 ∧ (K (B (decide (ms = ns))) E)
  | 21 => d2 args fun x0 x1 => dS x0 fun b1 l2 c3 => dS x1 fun b4 l5 c6 => ∃ (zs : List Int) (ys : List Int), Bs E b1 l2 c3 zs ∧ Bs E b4 l5 c6 ys ∧ l2 ≤ 100000 ∧ (K (.tup [I (oneF zs ys l2).1, I (oneF zs ys l2).2]) E)
  | 22 => d3 args fun x0 x1 x2 => dC x0 fun l1 => d2 l1 fun x0_0 x0_1 => dI x0_0 fun a1 => dS x0_1 fun b2 l3 c4 => dI x1 fun a5 => dS x2 fun b6 l7 c8 => ∃ (zs : List Int) (ds : List Int), Bs E b2 l3 c4 zs ∧ Bs E b6 l7 c8 ds ∧ (l7 ≤ 90000) ∧ (∀ (s' : Int) (b' : Option Addr) (l' c' : Nat) (ys : List Int) (ok : Bool) (E' : Mem), Mem.le E E' → Hyp (doneF a1 zs a5 ds = ((s', ys), ok)) → Bs E' b' l' c' ys → K (.tup [.agg [I s', L b' l' c'], B ok]) E')
  | 23 => d3 args fun x0 x1 x2 => dS x0 fun b1 l2 c3 => dI x1 fun a4 => dI x2 fun a5 => ∃ (ms : List (Int × List Int)), FL E b1 l2 c3 ms ∧ (l2 ≤ 100000) ∧ (∀ (s' : Int) (b' : Option Addr) (l' c' : Nat) (ys : List Int) (ok : Bool) (E' : Mem), Mem.le E E' → Hyp (lastF ms a4 a5 = ((s', ys), ok)) → Bs E' b' l' c' ys → K (.tup [.agg [I s', L b' l' c'], B ok]) E')
  | _ => False
theorem tabL9_ok : TabOK Try.prog tabL9 := by
  intro f args E K h
  unfold tabL9 at h
  split at h
  · obtain ⟨rfl, h⟩ := d0_elim h
    exact TabSem.congr rfl (Ent.sem okFI Try.func10 ⟨by kernel_rfl, by kernel_rfl⟩ rfl (s10 h))
  · replace h := d2_elim h
    obtain ⟨x0, x1, rfl, h⟩ := h
    replace h := dI_elim h
    obtain ⟨a1, rfl, h⟩ := h
    replace h := dI_elim h
    obtain ⟨a2, rfl, h⟩ := h
    exact TabSem.congr (valL_cons rfl (valL_cons rfl rfl)) (Ent.sem okF8 Try.func11 ⟨by kernel_rfl, by kernel_rfl⟩ rfl (s11 h))
  · replace h := d2_elim h
    obtain ⟨x0, x1, rfl, h⟩ := h
    replace h := dC_elim h
    obtain ⟨l1, hl1, h⟩ := h
    replace h := d2_elim h
    obtain ⟨x0_0, x0_1, rfl, h⟩ := h
    replace h := dI_elim h
    obtain ⟨a1, rfl, h⟩ := h
    replace h := dS_elim h
    obtain ⟨b2, l3, c4, rfl, h⟩ := h
    replace h := dC_elim h
    obtain ⟨l2, hl2, h⟩ := h
    replace h := d2_elim h
    obtain ⟨x1_0, x1_1, rfl, h⟩ := h
    replace h := dI_elim h
    obtain ⟨a5, rfl, h⟩ := h
    replace h := dS_elim h
    obtain ⟨b6, l7, c8, rfl, h⟩ := h
    obtain ⟨zs, ys, g0, g1, g2, h⟩ := h
    exact TabSem.congr (valL_cons (asCells_val hl1) (valL_cons (asCells_val hl2) rfl)) (Ent.sem okFA Try.func13 ⟨by kernel_rfl, by kernel_rfl⟩ rfl (s13 g0 g1 g2 h))
  · replace h := d3_elim h
    obtain ⟨x0, x1, x2, rfl, h⟩ := h
    replace h := dC_elim h
    obtain ⟨l1, hl1, h⟩ := h
    replace h := d2_elim h
    obtain ⟨x0_0, x0_1, rfl, h⟩ := h
    replace h := dI_elim h
    obtain ⟨a1, rfl, h⟩ := h
    replace h := dS_elim h
    obtain ⟨b2, l3, c4, rfl, h⟩ := h
    replace h := dI_elim h
    obtain ⟨a5, rfl, h⟩ := h
    replace h := dS_elim h
    obtain ⟨b6, l7, c8, rfl, h⟩ := h
    obtain ⟨zs, ds, g0, g1, h⟩ := h
    exact TabSem.congr (valL_cons (asCells_val hl1) (valL_cons rfl (valL_cons rfl rfl))) (Ent.sem okF3 Try.func14 ⟨by kernel_rfl, by kernel_rfl⟩ rfl (s14 g0 g1 h))
  · replace h := d2_elim h
    obtain ⟨x0, x1, rfl, h⟩ := h
    replace h := dC_elim h
    obtain ⟨l1, hl1, h⟩ := h
    replace h := d2_elim h
    obtain ⟨x0_0, x0_1, rfl, h⟩ := h
    replace h := dI_elim h
    obtain ⟨a1, rfl, h⟩ := h
    replace h := dS_elim h
    obtain ⟨b2, l3, c4, rfl, h⟩ := h
    replace h := dI_elim h
    obtain ⟨a5, rfl, h⟩ := h
    obtain ⟨zs, g0, h⟩ := h
    exact TabSem.congr (valL_cons (asCells_val hl1) (valL_cons rfl rfl)) (Ent.sem okF4 Try.func16 ⟨by kernel_rfl, by kernel_rfl⟩ rfl (s16 g0 h))
  · replace h := d1_elim h
    obtain ⟨x0, rfl, h⟩ := h
    replace h := dC_elim h
    obtain ⟨l1, hl1, h⟩ := h
    replace h := d2_elim h
    obtain ⟨x0_0, x0_1, rfl, h⟩ := h
    replace h := dI_elim h
    obtain ⟨a1, rfl, h⟩ := h
    replace h := dS_elim h
    obtain ⟨b2, l3, c4, rfl, h⟩ := h
    exact TabSem.congr (valL_cons (asCells_val hl1) rfl) (Ent.sem okF5 Try.func18 ⟨by kernel_rfl, by kernel_rfl⟩ rfl (s18 h))
  · replace h := d2_elim h
    obtain ⟨x0, x1, rfl, h⟩ := h
    replace h := dS_elim h
    obtain ⟨b1, l2, c3, rfl, h⟩ := h
    replace h := dS_elim h
    obtain ⟨b4, l5, c6, rfl, h⟩ := h
    obtain ⟨ms, ns, g0, g1, g2, g3, h⟩ := h
    exact TabSem.congr (valL_cons rfl (valL_cons rfl rfl)) (Ent.sem okFE Try.func20 ⟨by kernel_rfl, by kernel_rfl⟩ rfl (s20 g0 g1 g2 g3 h))
  · replace h := d2_elim h
    obtain ⟨x0, x1, rfl, h⟩ := h
    replace h := dS_elim h
    obtain ⟨b1, l2, c3, rfl, h⟩ := h
    replace h := dS_elim h
    obtain ⟨b4, l5, c6, rfl, h⟩ := h
    obtain ⟨zs, ys, g0, g1, g2, h⟩ := h
    exact TabSem.congr (valL_cons rfl (valL_cons rfl rfl)) (Ent.sem okFF Try.func21 ⟨by kernel_rfl, by kernel_rfl⟩ rfl (s21 g0 g1 g2 h))
  · replace h := d3_elim h
    obtain ⟨x0, x1, x2, rfl, h⟩ := h
    replace h := dC_elim h
    obtain ⟨l1, hl1, h⟩ := h
    replace h := d2_elim h
    obtain ⟨x0_0, x0_1, rfl, h⟩ := h
    replace h := dI_elim h
    obtain ⟨a1, rfl, h⟩ := h
    replace h := dS_elim h
    obtain ⟨b2, l3, c4, rfl, h⟩ := h
    replace h := dI_elim h
    obtain ⟨a5, rfl, h⟩ := h
    replace h := dS_elim h
    obtain ⟨b6, l7, c8, rfl, h⟩ := h
    obtain ⟨zs, ds, g0, g1, g2, h⟩ := h
    exact TabSem.congr (valL_cons (asCells_val hl1) (valL_cons rfl (valL_cons rfl rfl))) (Ent.sem okFH Try.func22 ⟨by kernel_rfl, by kernel_rfl⟩ rfl (s22 g0 g1 g2 h))
  · replace h := d3_elim h
    obtain ⟨x0, x1, x2, rfl, h⟩ := h
    replace h := dS_elim h
    obtain ⟨b1, l2, c3, rfl, h⟩ := h
    replace h := dI_elim h
    obtain ⟨a4, rfl, h⟩ := h
    replace h := dI_elim h
    obtain ⟨a5, rfl, h⟩ := h
    obtain ⟨ms, g0, g1, h⟩ := h
    exact TabSem.congr (valL_cons rfl (valL_cons rfl (valL_cons rfl rfl))) (Ent.sem okFG Try.func23 ⟨by kernel_rfl, by kernel_rfl⟩ rfl (s23 g0 g1 h))
  · exact h.elim
noncomputable def WL9 : Cx := { P := Try.prog, inl := fun f => List.contains [] f, tab := tabL9, isB := fun _ => false, tabB := fun _ _ _ _ _ => False, opt := { unroll := 0, carry := [] }, muts := mutsD }
theorem okWL9 : CxOK WL9 := CxOK.four tabL9_ok (by kernel_rfl) (okInl (by kernel_rfl)) (fun _ _ _ _ _ h => h.elim)
theorem e9 {a1 : Int} {b1 : Option Addr} {l1 : Nat} {c1 : Nat} {z1 : List Int} {a2 : Int} {b2 : Option Addr} {l2 : Nat} {c2 : Nat} {z2 : List Int} {a3 : Int} (ha1 : (Lit.int .i64 a1).wf = true) (hB1 : Bs E b1 l1 c1 z1) (ha2 : (Lit.int .i64 a2).wf = true) (hB2 : Bs E b2 l2 c2 z2) (ha3 : (Lit.int .u16 a3).wf = true) (h : ∀ E' : Mem, Mem.le E E' → K (B true) E') :
    Ent WL9 8 Try.f9 [.agg [I a1, L b1 l1 c1], I a2, L b2 l2 c2, .raw (.int .u16 a3)] E K := by
  refine same (by kernel_rfl) (?_ : 
      ∀ (E' : Mem),
        Mem.le E E' →
          Mem.le E E' ∧
            bif decide ((↑l1 : Int) > (300 : Int)) then Mem.le E E' ∧ K (SV.raw (Value.bool true)) E'
            else
              bif bif false then true else decide ((↑l2 : Int) > (300 : Int)) then
                Mem.le E E' ∧ K (SV.raw (Value.bool true)) E'
              else
                ∃ (zs : List Int),
                  ∃ (ds : List Int),
                    Bs E' b1 l1 c1 zs ∧
                      Bs E' b2 l2 c2 ds ∧
                        ∀ (b' : Option Addr) (l' c' : Nat) (ms : List (Int × List Int)) (e : Int) (E'_1 : Mem),
                          Mem.le E' E'_1 →
                            Hyp (progF a1 zs a2 ds = (ms, e)) →
                              FL E'_1 b' l' c' ms →
                                Mem.le E' E'_1 ∧
                                  bif e != (0 : Int) then
                                    Mem.le E E'_1 ∧ K (SV.raw (Value.bool (bif true then e != (0 : Int) else false))) E'_1
                                  else
                                    bif
                                        bif false then true
                                        else (↑l' : Int) != IntKind.wrap IntKind.i64 ((↑l2 : Int) + (1 : Int)) then
                                      Mem.le E E'_1 ∧ K (SV.raw (Value.bool (bif true then e != (0 : Int) else false))) E'_1
                                    else
                                      (IntKind.wrap IntKind.i64 ((↑l2 : Int) + (1 : Int)) = (0 : Int) → False) ∧
                                        req (l2 ≤ c2)
                                          (req
                                            ((0 : Int) ≤
                                                Int.tmod (IntKind.wrap IntKind.i64 a3)
                                                  (IntKind.wrap IntKind.i64 ((↑l2 : Int) + (1 : Int))) ∧
                                              Int.tmod (IntKind.wrap IntKind.i64 a3)
                                                  (IntKind.wrap IntKind.i64 ((↑l2 : Int) + (1 : Int))) ≤
                                                (↑(toN none c2) : Int))
                                            (∀ (base' : Option Addr) (E' : Mem),
                                              Mem.le E'_1 E' →
                                                (∀ (cs : List Value),
                                                    E'_1 (Value.slice b2 l2 c2) cs →
                                                      E'
                                                        (Value.slice base'
                                                          (toN
                                                              (some
                                                                (Int.tmod (IntKind.wrap IntKind.i64 a3)
                                                                  (IntKind.wrap IntKind.i64 ((↑l2 : Int) + (1 : Int)))))
                                                              l2 -
                                                            0)
                                                          (toN none c2 - 0))
                                                        (List.take
                                                          ((toN
                                                                (some
                                                                  (Int.tmod (IntKind.wrap IntKind.i64 a3)
                                                                    (IntKind.wrap IntKind.i64 ((↑l2 : Int) + (1 : Int)))))
                                                                l2 -
                                                              0) *
                                                            1)
                                                          (List.drop 0 cs))) →
                                                  Option.isNone base' = Option.isNone b2 →
                                                    ∃ (zs : List Int),
                                                      ∃ (ds : List Int),
                                                        Bs E' b1 l1 c1 zs ∧
                                                          Bs E' base'
                                                              (toN
                                                                  (some
                                                                    (Int.tmod (IntKind.wrap IntKind.i64 a3)
                                                                      (IntKind.wrap IntKind.i64 ((↑l2 : Int) + (1 : Int)))))
                                                                  l2 -
                                                                0)
                                                              (toN none c2 - 0) ds ∧
                                                            ∀ (b'_1 : Option Addr) (l'_1 c'_1 : Nat)
                                                              (ms : List (Int × List Int)) (e : Int) (E'_2 : Mem),
                                                              Mem.le E' E'_2 →
                                                                Hyp (progF a1 zs a2 ds = (ms, e)) →
                                                                  FL E'_2 b'_1 l'_1 c'_1 ms →
                                                                    Mem.le E' E'_2 ∧
                                                                      ∃ (ms : List (Int × List Int)),
                                                                        FL E'_2 b'_1 l'_1 c'_1 ms ∧
                                                                          l'_1 ≤ 100000 ∧
                                                                            ∀ (s' : Int) (b'_2 : Option Addr)
                                                                              (l'_2 c'_2 : Nat) (ys : List Int) (ok : Bool)
                                                                              (E' : Mem),
                                                                              Mem.le E'_2 E' →
                                                                                Hyp
                                                                                    (lastF ms e
                                                                                        (IntKind.wrap IntKind.i64
                                                                                          (Int.tmod
                                                                                              (IntKind.wrap IntKind.i64 a3)
                                                                                              (IntKind.wrap IntKind.i64
                                                                                                ((↑l2 : Int) + (1 : Int))) +
                                                                                            (1 : Int))) =
                                                                                      ((s', ys), ok)) →
                                                                                  Bs E' b'_2 l'_2 c'_2 ys →
                                                                                    Mem.le E'_2 E' ∧
                                                                                      req (l2 ≤ c2)
                                                                                        (req
                                                                                          ((0 : Int) ≤
                                                                                              Int.tmod
                                                                                                (IntKind.wrap IntKind.i64 a3)
                                                                                                (IntKind.wrap IntKind.i64
                                                                                                  ((↑l2 : Int) + (1 : Int))) ∧
                                                                                            Int.tmod
                                                                                                (IntKind.wrap IntKind.i64 a3)
                                                                                                (IntKind.wrap IntKind.i64
                                                                                                  ((↑l2 : Int) + (1 : Int))) ≤
                                                                                              (↑(toN none l2) : Int))
                                                                                          (∀ (base' : Option Addr)
                                                                                            (E'_3 : Mem),
                                                                                            Mem.le E' E'_3 →
                                                                                              (∀ (cs : List Value),
                                                                                                  E' (Value.slice b2 l2 c2)
                                                                                                      cs →
                                                                                                    E'_3
                                                                                                      (Value.slice base'
                                                                                                        (toN none l2 -
                                                                                                          toN
                                                                                                            (some
                                                                                                              (Int.tmod
                                                                                                                (IntKind.wrap
                                                                                                                  IntKind.i64
                                                                                                                  a3)
                                                                                                                (IntKind.wrap
                                                                                                                  IntKind.i64
                                                                                                                  ((↑l2 :
                                                                                                                      Int) +
                                                                                                                    (1 :
                                                                                                                      Int)))))
                                                                                                            0)
                                                                                                        (toN none c2 -
                                                                                                          toN
                                                                                                            (some
                                                                                                              (Int.tmod
                                                                                                                (IntKind.wrap
                                                                                                                  IntKind.i64
                                                                                                                  a3)
                                                                                                                (IntKind.wrap
                                                                                                                  IntKind.i64
                                                                                                                  ((↑l2 :
                                                                                                                      Int) +
                                                                                                                    (1 :
                                                                                                                      Int)))))
                                                                                                            0))
                                                                                                      (List.take
                                                                                                        ((toN none l2 -
                                                                                                            toN
                                                                                                              (some
                                                                                                                (Int.tmod
                                                                                                                  (IntKind.wrap
                                                                                                                    IntKind.i64
                                                                                                                    a3)
                                                                                                                  (IntKind.wrap
                                                                                                                    IntKind.i64
                                                                                                                    ((↑l2 :
                                                                                                                        Int) +
                                                                                                                      (1 :
                                                                                                                        Int)))))
                                                                                                              0) *
                                                                                                          1)
                                                                                                        (List.drop
                                                                                                          (toN
                                                                                                              (some
                                                                                                                (Int.tmod
                                                                                                                  (IntKind.wrap
                                                                                                                    IntKind.i64
                                                                                                                    a3)
                                                                                                                  (IntKind.wrap
                                                                                                                    IntKind.i64
                                                                                                                    ((↑l2 :
                                                                                                                        Int) +
                                                                                                                      (1 :
                                                                                                                        Int)))))
                                                                                                              0 *
                                                                                                            1)
                                                                                                          cs))) →
                                                                                                Option.isNone base' =
                                                                                                    Option.isNone b2 →
                                                                                                  ∃ (zs : List Int),
                                                                                                    ∃ (ds : List Int),
                                                                                                      Bs E'_3 b'_2 l'_2 c'_2
                                                                                                          zs ∧
                                                                                                        Bs E'_3 base'
                                                                                                            (toN none l2 -
                                                                                                              toN
                                                                                                                (some
                                                                                                                  (Int.tmod
                                                                                                                    (IntKind.wrap
                                                                                                                      IntKind.i64
                                                                                                                      a3)
                                                                                                                    (IntKind.wrap
                                                                                                                      IntKind.i64
                                                                                                                      ((↑l2 :
                                                                                                                          Int) +
                                                                                                                        (1 :
                                                                                                                          Int)))))
                                                                                                                0)
                                                                                                            (toN none c2 -
                                                                                                              toN
                                                                                                                (some
                                                                                                                  (Int.tmod
                                                                                                                    (IntKind.wrap
                                                                                                                      IntKind.i64
                                                                                                                      a3)
                                                                                                                    (IntKind.wrap
                                                                                                                      IntKind.i64
                                                                                                                      ((↑l2 :
                                                                                                                          Int) +
                                                                                                                        (1 :
                                                                                                                          Int)))))
                                                                                                                0)
                                                                                                            ds ∧
                                                                                                          ∀
                                                                                                            (b'_3 :
                                                                                                              Option Addr)
                                                                                                            (l'_3 c'_3 : Nat)
                                                                                                            (ms :
                                                                                                              List
                                                                                                                (Int ×
                                                                                                                  List Int))
                                                                                                            (e : Int)
                                                                                                            (E' : Mem),
                                                                                                            Mem.le E'_3 E' →
                                                                                                              Hyp
                                                                                                                  (progF s' zs
                                                                                                                      (IntKind.wrap
                                                                                                                        IntKind.i64
                                                                                                                        (a2 +
                                                                                                                          Int.tmod
                                                                                                                            (IntKind.wrap
                                                                                                                              IntKind.i64
                                                                                                                              a3)
                                                                                                                            (IntKind.wrap
                                                                                                                              IntKind.i64
                                                                                                                              ((↑l2 :
                                                                                                                                  Int) +
                                                                                                                                (1 :
                                                                                                                                  Int)))))
                                                                                                                      ds =
                                                                                                                    (ms, e)) →
                                                                                                                FL E' b'_3
                                                                                                                    l'_3 c'_3
                                                                                                                    ms →
                                                                                                                  Mem.le E'_3
                                                                                                                      E' ∧
                                                                                                                    bif
                                                                                                                        !ok then
                                                                                                                      Mem.le E
                                                                                                                          E' ∧
                                                                                                                        K
                                                                                                                          (SV.raw
                                                                                                                            (Value.bool
                                                                                                                              false))
                                                                                                                          E'
                                                                                                                    else
                                                                                                                      bif
                                                                                                                          bif
                                                                                                                              false then
                                                                                                                            true
                                                                                                                          else
                                                                                                                            e !=
                                                                                                                              (0 :
                                                                                                                                Int) then
                                                                                                                        Mem.le
                                                                                                                            E
                                                                                                                            E' ∧
                                                                                                                          K
                                                                                                                            (SV.raw
                                                                                                                              (Value.bool
                                                                                                                                false))
                                                                                                                            E'
                                                                                                                      else
                                                                                                                        bif
                                                                                                                            bif
                                                                                                                                false then
                                                                                                                              true
                                                                                                                            else
                                                                                                                              (↑l'_3 :
                                                                                                                                  Int) !=
                                                                                                                                IntKind.wrap
                                                                                                                                  IntKind.i64
                                                                                                                                  (IntKind.wrap
                                                                                                                                      IntKind.i64
                                                                                                                                      ((↑l2 :
                                                                                                                                          Int) -
                                                                                                                                        Int.tmod
                                                                                                                                          (IntKind.wrap
                                                                                                                                            IntKind.i64
                                                                                                                                            a3)
                                                                                                                                          (IntKind.wrap
                                                                                                                                            IntKind.i64
                                                                                                                                            ((↑l2 :
                                                                                                                                                Int) +
                                                                                                                                              (1 :
                                                                                                                                                Int)))) +
                                                                                                                                    (1 :
                                                                                                                                      Int)) then
                                                                                                                          Mem.le
                                                                                                                              E
                                                                                                                              E' ∧
                                                                                                                            K
                                                                                                                              (SV.raw
                                                                                                                                (Value.bool
                                                                                                                                  false))
                                                                                                                              E'
                                                                                                                        else
                                                                                                                          req
                                                                                                                            (l'_3 ≤
                                                                                                                              c'_3)
                                                                                                                            (req
                                                                                                                              ((0 :
                                                                                                                                    Int) ≤
                                                                                                                                  (1 :
                                                                                                                                    Int) ∧
                                                                                                                                (1 :
                                                                                                                                    Int) ≤
                                                                                                                                  (↑(toN
                                                                                                                                        none
                                                                                                                                        l'_3) :
                                                                                                                                    Int))
                                                                                                                              (∀
                                                                                                                                (base' :
                                                                                                                                  Option
                                                                                                                                    Addr)
                                                                                                                                (E'_4 :
                                                                                                                                  Mem),
                                                                                                                                Mem.le
                                                                                                                                    E'
                                                                                                                                    E'_4 →
                                                                                                                                  (∀
                                                                                                                                      (cs :
                                                                                                                                        List
                                                                                                                                          Value),
                                                                                                                                      E'
                                                                                                                                          (Value.slice
                                                                                                                                            b'_3
                                                                                                                                            l'_3
                                                                                                                                            c'_3)
                                                                                                                                          cs →
                                                                                                                                        E'_4
                                                                                                                                          (Value.slice
                                                                                                                                            base'
                                                                                                                                            (toN
                                                                                                                                                none
                                                                                                                                                l'_3 -
                                                                                                                                              (1 :
                                                                                                                                                Nat))
                                                                                                                                            (toN
                                                                                                                                                none
                                                                                                                                                c'_3 -
                                                                                                                                              (1 :
                                                                                                                                                Nat)))
                                                                                                                                          (List.take
                                                                                                                                            ((toN
                                                                                                                                                  none
                                                                                                                                                  l'_3 -
                                                                                                                                                (1 :
                                                                                                                                                  Nat)) *
                                                                                                                                              (2 :
                                                                                                                                                Nat))
                                                                                                                                            (List.drop
                                                                                                                                              (2 :
                                                                                                                                                Nat)
                                                                                                                                              cs))) →
                                                                                                                                    Option.isNone
                                                                                                                                          base' =
                                                                                                                                        Option.isNone
                                                                                                                                          b'_3 →
                                                                                                                                      ∃
                                                                                                                                        (cs
                                                                                                                                        :
                                                                                                                                        List
                                                                                                                                          Value),
                                                                                                                                        (cs =
                                                                                                                                              [] ∨
                                                                                                                                            E'_4
                                                                                                                                              (Value.slice
                                                                                                                                                b'_1
                                                                                                                                                l'_1
                                                                                                                                                c'_1)
                                                                                                                                              cs) ∧
                                                                                                                                          l'_1 *
                                                                                                                                                (2 :
                                                                                                                                                  Nat) ≤
                                                                                                                                              List.length
                                                                                                                                                cs ∧
                                                                                                                                            (∀
                                                                                                                                                (x :
                                                                                                                                                  Value),
                                                                                                                                                List.Mem
                                                                                                                                                    x
                                                                                                                                                    cs →
                                                                                                                                                  Value.oneCell'
                                                                                                                                                      x =
                                                                                                                                                    true) ∧
                                                                                                                                              (0 :
                                                                                                                                                    Nat) ≤
                                                                                                                                                  (0 :
                                                                                                                                                    Nat) ∧
                                                                                                                                                (0 :
                                                                                                                                                      Nat) ≤
                                                                                                                                                    (0 :
                                                                                                                                                      Nat) ∧
                                                                                                                                                  (0 :
                                                                                                                                                        Nat) ≤
                                                                                                                                                      (0 :
                                                                                                                                                        Nat) ∧
                                                                                                                                                    req
                                                                                                                                                      (((0 :
                                                                                                                                                              Nat) +
                                                                                                                                                            l'_1) *
                                                                                                                                                          (32 :
                                                                                                                                                            Nat) ≤
                                                                                                                                                        (140737488355328 :
                                                                                                                                                          Nat))
                                                                                                                                                      (∀
                                                                                                                                                        (cap'
                                                                                                                                                          tot' :
                                                                                                                                                          Nat),
                                                                                                                                                        (0 :
                                                                                                                                                                Nat) +
                                                                                                                                                              l'_1 ≤
                                                                                                                                                            cap' →
                                                                                                                                                          cap' *
                                                                                                                                                                (2 :
                                                                                                                                                                  Nat) ≤
                                                                                                                                                              tot' →
                                                                                                                                                            ∃
                                                                                                                                                              (cs_1
                                                                                                                                                              :
                                                                                                                                                              List
                                                                                                                                                                Value),
                                                                                                                                                              (cs_1 =
                                                                                                                                                                    [] ∨
                                                                                                                                                                  E'_4
                                                                                                                                                                    (Value.slice
                                                                                                                                                                      base'
                                                                                                                                                                      (toN
                                                                                                                                                                          none
                                                                                                                                                                          l'_3 -
                                                                                                                                                                        (1 :
                                                                                                                                                                          Nat))
                                                                                                                                                                      (toN
                                                                                                                                                                          none
                                                                                                                                                                          c'_3 -
                                                                                                                                                                        (1 :
                                                                                                                                                                          Nat)))
                                                                                                                                                                    cs_1) ∧
                                                                                                                                                                (toN
                                                                                                                                                                          none
                                                                                                                                                                          l'_3 -
                                                                                                                                                                        (1 :
                                                                                                                                                                          Nat)) *
                                                                                                                                                                      (2 :
                                                                                                                                                                        Nat) ≤
                                                                                                                                                                    List.length
                                                                                                                                                                      cs_1 ∧
                                                                                                                                                                  (∀
                                                                                                                                                                      (x :
                                                                                                                                                                        Value),
                                                                                                                                                                      List.Mem
                                                                                                                                                                          x
                                                                                                                                                                          cs_1 →
                                                                                                                                                                        Value.oneCell'
                                                                                                                                                                            x =
                                                                                                                                                                          true) ∧
                                                                                                                                                                    ((0 :
                                                                                                                                                                              Nat) +
                                                                                                                                                                            l'_1) *
                                                                                                                                                                          (2 :
                                                                                                                                                                            Nat) ≤
                                                                                                                                                                        List.length
                                                                                                                                                                          (Row.cells
                                                                                                                                                                            (Row.vals
                                                                                                                                                                              ([] ++
                                                                                                                                                                                List.take
                                                                                                                                                                                  (l'_1 *
                                                                                                                                                                                    (2 :
                                                                                                                                                                                      Nat))
                                                                                                                                                                                  cs))) ∧
                                                                                                                                                                      cap' *
                                                                                                                                                                            (2 :
                                                                                                                                                                              Nat) ≤
                                                                                                                                                                          tot' ∧
                                                                                                                                                                        (0 :
                                                                                                                                                                                Nat) +
                                                                                                                                                                              l'_1 ≤
                                                                                                                                                                            cap' ∧
                                                                                                                                                                          req
                                                                                                                                                                            (((0 :
                                                                                                                                                                                      Nat) +
                                                                                                                                                                                    l'_1 +
                                                                                                                                                                                  (toN
                                                                                                                                                                                      none
                                                                                                                                                                                      l'_3 -
                                                                                                                                                                                    (1 :
                                                                                                                                                                                      Nat))) *
                                                                                                                                                                                (32 :
                                                                                                                                                                                  Nat) ≤
                                                                                                                                                                              (140737488355328 :
                                                                                                                                                                                Nat))
                                                                                                                                                                            (∀
                                                                                                                                                                              (cap'
                                                                                                                                                                                tot' :
                                                                                                                                                                                Nat),
                                                                                                                                                                              (0 :
                                                                                                                                                                                        Nat) +
                                                                                                                                                                                      l'_1 +
                                                                                                                                                                                    (toN
                                                                                                                                                                                        none
                                                                                                                                                                                        l'_3 -
                                                                                                                                                                                      (1 :
                                                                                                                                                                                        Nat)) ≤
                                                                                                                                                                                  cap' →
                                                                                                                                                                                cap' *
                                                                                                                                                                                      (2 :
                                                                                                                                                                                        Nat) ≤
                                                                                                                                                                                    tot' →
                                                                                                                                                                                  ∀
                                                                                                                                                                                    (base :
                                                                                                                                                                                      Option
                                                                                                                                                                                        Addr)
                                                                                                                                                                                    (E' :
                                                                                                                                                                                      Mem),
                                                                                                                                                                                    Mem.le
                                                                                                                                                                                        E'_4
                                                                                                                                                                                        E' →
                                                                                                                                                                                      WinE
                                                                                                                                                                                          E'
                                                                                                                                                                                          base
                                                                                                                                                                                          (List.take
                                                                                                                                                                                              (((0 :
                                                                                                                                                                                                    Nat) +
                                                                                                                                                                                                  l'_1) *
                                                                                                                                                                                                (2 :
                                                                                                                                                                                                  Nat))
                                                                                                                                                                                              ([] ++
                                                                                                                                                                                                List.take
                                                                                                                                                                                                  (l'_1 *
                                                                                                                                                                                                    (2 :
                                                                                                                                                                                                      Nat))
                                                                                                                                                                                                  cs) ++
                                                                                                                                                                                            List.take
                                                                                                                                                                                              ((toN
                                                                                                                                                                                                    none
                                                                                                                                                                                                    l'_3 -
                                                                                                                                                                                                  (1 :
                                                                                                                                                                                                    Nat)) *
                                                                                                                                                                                                (2 :
                                                                                                                                                                                                  Nat))
                                                                                                                                                                                              cs_1) →
                                                                                                                                                                                        ∃
                                                                                                                                                                                          (ms
                                                                                                                                                                                          :
                                                                                                                                                                                          List
                                                                                                                                                                                            (Int ×
                                                                                                                                                                                              List
                                                                                                                                                                                                Int)),
                                                                                                                                                                                          ∃
                                                                                                                                                                                            (ns
                                                                                                                                                                                            :
                                                                                                                                                                                            List
                                                                                                                                                                                              (Int ×
                                                                                                                                                                                                List
                                                                                                                                                                                                  Int)),
                                                                                                                                                                                            FL
                                                                                                                                                                                                E'
                                                                                                                                                                                                b'
                                                                                                                                                                                                l'
                                                                                                                                                                                                c'
                                                                                                                                                                                                ms ∧
                                                                                                                                                                                              FL
                                                                                                                                                                                                  E'
                                                                                                                                                                                                  (Option.map
                                                                                                                                                                                                    (fun
                                                                                                                                                                                                        (x :
                                                                                                                                                                                                          Addr) =>
                                                                                                                                                                                                      Addr.add
                                                                                                                                                                                                        x
                                                                                                                                                                                                        (0 :
                                                                                                                                                                                                          Nat))
                                                                                                                                                                                                    base)
                                                                                                                                                                                                  ((0 :
                                                                                                                                                                                                        Nat) +
                                                                                                                                                                                                      l'_1 +
                                                                                                                                                                                                    (toN
                                                                                                                                                                                                        none
                                                                                                                                                                                                        l'_3 -
                                                                                                                                                                                                      (1 :
                                                                                                                                                                                                        Nat)))
                                                                                                                                                                                                  cap'
                                                                                                                                                                                                  ns ∧
                                                                                                                                                                                                (∀
                                                                                                                                                                                                    (m :
                                                                                                                                                                                                      Int ×
                                                                                                                                                                                                        List
                                                                                                                                                                                                          Int),
                                                                                                                                                                                                    List.Mem
                                                                                                                                                                                                        m
                                                                                                                                                                                                        ms →
                                                                                                                                                                                                      List.length
                                                                                                                                                                                                          m.snd ≤
                                                                                                                                                                                                        (100000 :
                                                                                                                                                                                                          Nat)) ∧
                                                                                                                                                                                                  l' ≤
                                                                                                                                                                                                      (100000 :
                                                                                                                                                                                                        Nat) ∧
                                                                                                                                                                                                    Mem.le
                                                                                                                                                                                                        E
                                                                                                                                                                                                        E' ∧
                                                                                                                                                                                                      K
                                                                                                                                                                                                        (SV.raw
                                                                                                                                                                                                          (Value.bool
                                                                                                                                                                                                            (bif
                                                                                                                                                                                                                true then
                                                                                                                                                                                                              decide
                                                                                                                                                                                                                (ms =
                                                                                                                                                                                                                  ns)
                                                                                                                                                                                                            else
                                                                                                                                                                                                              false)))
                                                                                                                                                                                                        E')))))))))
  have n1 := hB1.2.1
  have n2 := hB2.2.1
  have ha3 := wf16 ha3
  intro E1 q1
  refine ⟨q1, condC (fun _ => ⟨q1, h E1 q1⟩) (fun g1 => condC (fun _ => ⟨q1, h E1 q1⟩) (fun g2 => ?_))⟩
  have g1 : l1 ≤ 300 := by simp at g1; omega
  have g2 : l2 ≤ 300 := by simp at g2; omega
  refine ⟨z1, z2, hB1.mono q1, hB2.mono q1, fun b3 l3 c3 ms e E2 q2 r2 F2 => ⟨q2, ?_⟩⟩
  have r2 : progF a1 z1 a2 z2 = (ms, e) := r2
  have F2 : FL E2 b3 l3 c3 ms := F2
  have k2 := Mem.le_trans q1 q2
  refine condC (fun g => ?_) (fun g => ?_)
  · have g : (e != 0) = true := g
    exact ⟨k2, by have := h E2 k2; show K (B (e != 0)) E2; rw [g]; exact this⟩
  have g : e = 0 := by simpa using g
  subst g
  obtain ⟨v, p1, p2, rfl⟩ := progF_ok r2
  have n3 : z2.length + 1 = l3 := by rw [← F2.len, mems_len]
  rw [wrap_i64 (x := (l2 : Int) + 1) (by omega)]
  refine condC (fun g => by simp at g; omega) (fun _ => ⟨by omega, ?_⟩)
  rw [wrap_i64 (x := a3) (by omega)]
  obtain ⟨k, hk, hk2⟩ := tmodN (x := a3) (n := l2 + 1) ha3.1 (by omega)
  rw [show ((l2 : Int) + 1) = ((l2 + 1 : Nat) : Int) by omega, hk]
  refine req_intro hB2.2.2.1 (req_intro ⟨by omega, by show (k : Int) ≤ c2; have := hB2.2.2.1; omega⟩ ?_)
  intro b4 E3 q3 hF3 hN3
  have B3 : Bs E3 b4 (k - 0) (c2 - 0) ((z2.drop 0).take (k - 0)) := Bs.sub (hB2.mono k2) hF3 hN3 (by omega) (by omega)
  rw [List.drop_zero, Nat.sub_zero] at B3
  have k3 := Mem.le_trans k2 q3
  refine ⟨z1, _, hB1.mono k3, B3, fun b5 l5 c5 ms5 e5 E4 q4 r4 F4 => ⟨q4, ?_⟩⟩
  have r4 : progF a1 z1 a2 (z2.take k) = (ms5, e5) := r4
  have F4 : FL E4 b5 l5 c5 ms5 := F4
  have hkl : (z2.take k).length = k := by rw [List.length_take]; omega
  rw [progF_mk v p1 (by rw [hkl]; omega), hkl] at r4
  obtain ⟨rfl, rfl⟩ := Prod.mk.inj r4
  have n5 : k + 1 = l5 := by rw [← F4.len, mems_len]
  refine ⟨_, F4, by omega, fun s6 b6 l6 c6 y6 o6 E5 q5 r5 B5 => ⟨q5, ?_⟩⟩
  rw [wrap_i64 (by omega)] at r5
  have r5 : lastF _ 0 _ = ((s6, y6), o6) := r5
  rw [lastF_ok (mems_len _ _ _ _ _), mems_getD (by omega), stp_take (Nat.le_refl _)] at r5
  obtain ⟨rfl, rfl, rfl⟩ := eq3 r5
  refine req_intro hB2.2.2.1 (req_intro ⟨by omega, by show (k : Int) ≤ l2; omega⟩ ?_)
  intro b7 E6 q6 hF6 hN6
  have k5 := Mem.le_trans k3 (Mem.le_trans q4 q5)
  have B6 : Bs E6 b7 (l2 - k) (c2 - k) ((z2.drop k).take (l2 - k)) := Bs.sub (hB2.mono k5) hF6 hN6 (by omega) (by omega)
  rw [List.take_of_length_le (by rw [List.length_drop]; omega)] at B6
  refine ⟨_, _, B5.mono q6, B6, fun b8 l8 c8 ms8 e8 E7 q7 r7 F7 => ⟨q7, ?_⟩⟩
  rw [wrap_i64 (x := a2 + k) (by omega)] at r7
  have r7 : progF a1 (stp (gP z2) a2.toNat z1 k) (a2 + k) (z2.drop k) = (ms8, e8) := r7
  have F7 : FL E7 b8 l8 c8 ms8 := F7
  rw [progF_mk (by rw [stp_len]; exact v) (by omega) (by rw [stp_len, List.length_drop]; omega), show (a2 + (k : Int)).toNat = a2.toNat + k by omega, List.length_drop] at r7
  obtain ⟨rfl, rfl⟩ := Prod.mk.inj r7
  have n8 : z2.length - k + 1 = l8 := by rw [← F7.len, mems_len]
  refine condC (fun g => by simp at g) (fun _ => condC (fun g => by simp at g) (fun _ => ?_))
  rw [wrap_i64 (x := (l2 : Int) - k) (by omega), wrap_i64 (x := (l2 : Int) - k + 1) (by omega)]
  refine condC (fun g => by simp at g; omega) (fun _ => ?_)
  refine req_intro F7.cap (req_intro ⟨by omega, by show (1 : Int) ≤ l8; omega⟩ ?_)
  intro b9 E8 q8 hF8 hN8
  have F8 := FL.tail F7 q8 hF8 hN8 (by omega)
  have q48 := Mem.le_trans q5 (Mem.le_trans q6 (Mem.le_trans q7 q8))
  obtain ⟨rs, s1, s2, s3, s4, s5⟩ := (F4.mono q48).src
  obtain ⟨rt, t1, t2, t3, t4, t5⟩ := F8.src
  refine ⟨_, s2, s3, s4, Nat.le_refl _, Nat.le_refl _, Nat.le_refl _, req_intro (by omega) (fun cap1 tot1 d1 d2 => ⟨_, t2, t3, t4, ?_, d2, d1, req_intro (by show (0 + l5 + (l8 - 1)) * 32 ≤ _; omega) (fun cap2 tot2 d3 d4 base E9 q9 hW => ?_)⟩)⟩
  · show _ ≤ (List.map SV.raw _).length
    rw [List.length_map, List.nil_append, List.length_take, rows_len, s5]; omega
  have e : List.take ((0 + l5) * 2) ([] ++ List.take (l5 * 2) (rs.flatMap rowV)) ++ List.take ((l8 - 1) * 2) (rt.flatMap rowV) = (rs ++ rt).flatMap rowV := by
    rw [List.nil_append, List.take_of_length_le (l := rs.flatMap rowV) (by rw [rows_len, s5]; omega), List.take_of_length_le (l := rs.flatMap rowV) (by rw [rows_len, s5]; omega), List.take_of_length_le (l := rt.flatMap rowV) (by rw [rows_len, t5]; omega), List.flatMap_append]
  have FW := FL.win hW e ((s1.mono q9).app (t1.mono q9)) (n := 0 + l5 + (l8 - 1)) (by simp [mems_len]; omega) d3
  have k9 := Mem.le_trans k3 (Mem.le_trans q4 (Mem.le_trans q48 q9))
  refine ⟨_, _, F2.mono (Mem.le_trans q3 (Mem.le_trans q4 (Mem.le_trans q48 q9))), FW, fun m hm => by have := (mems_el m hm).1; omega, by omega, k9, ?_⟩
  show K (B (decide (_ = _))) E9
  rw [decide_eq_true (mems_parts (by omega))]
  exact h E9 k9


theorem opn9 (W : World) (K : List SV → Prop) (h : ∀ a1 : Int, (Lit.int .i64 a1).wf = true → ∀ (b1 : Option Addr) (l1 c1 : Nat) (z1 : List Int), (l1 ≤ c1) → (c1 ≤ maxLen) → (b1 = none → c1 = 0) → (z1.length = c1) → (∀ x ∈ z1, (Lit.int .u8 x).wf = true) → RowAt W (.slice b1 l1 c1) (z1.map (.int .u8)) → ∀ a2 : Int, (Lit.int .i64 a2).wf = true → ∀ (b2 : Option Addr) (l2 c2 : Nat) (z2 : List Int), (l2 ≤ c2) → (c2 ≤ maxLen) → (b2 = none → c2 = 0) → (z2.length = c2) → (∀ x ∈ z2, (Lit.int .u8 x).wf = true) → RowAt W (.slice b2 l2 c2) (z2.map (.int .u8)) → ∀ a3 : Int, (Lit.int .u16 a3).wf = true → K [.agg [I a1, L b1 l1 c1], I a2, L b2 l2 c2, .raw (.int .u16 a3)]) : opnAll Try.prog W Try.f9.params.toList K :=
  same (by kernel_rfl) h

theorem sem9 (W : World) : opnAll Try.prog W Try.f9.params.toList fun ss => TabSem Try.prog 9 ss (fun v cs => RowAt W v cs) fun r _ => r = .raw (.bool true) := by
  refine opn9 W _ ?_
  intro a1 ha1 b1 l1 c1 z1 hl1 hc1 hb1 hz1 hw1 hE1 a2 ha2 b2 l2 c2 z2 hl2 hc2 hb2 hz2 hw2 hE2 a3 ha3
  exact Ent.sem okWL9 Try.func9 ⟨by kernel_rfl, by kernel_rfl⟩ rfl (e9 ha1 (Bs.of hl1 hb1 hz1 hw1 hE1) ha2 (Bs.of hl2 hb2 hz2 hw2 hE2) ha3 (fun _ _ => rfl))

theorem lifted9 (os : Os) (started : os.Started) (H : Type) (enc : TypeId × Value → H) :
    ReturnsInHanded {} Try.checked os 9 .any (Rows.flashPartsSpec.pre6 enc Try.prog Try.f9 Rows.flashPartsRow.domain false) (Rows.flashPartsSpec.post enc Try.prog Try.f9 false true false false) :=
  lift_true (C := Try.checked) (by kernel_rfl) (by kernel_rfl) started (by kernel_rfl) Try.func9
    (ChangeSpec.witness6 (enc := enc) (C := Try.checked) false ⟨#[], #[.agg #[.int .i64 0, .slice none 0 0], .int .i64 0, .slice none 0 0, .int .u16 0], []⟩ 8 (by kernel_rfl) (by kernel_rfl) (by kernel_rfl) (by kernel_rfl))
    (Tb := 4) (by kernel_rfl) (by kernel_rfl) (by kernel_rfl) rfl
    (fun ds hl => by
      match ds, hl with
      | [d0, d1, d2, d3], _ => exact ⟨rfl, rfl, rfl⟩)
    sem9

theorem over9 : Rows.flashPartsRow.holds Try.pinned (OpenSpec.ofChange Rows.flashPartsSpec) :=
  OpenClaim.holds_of_wide 9 Try.f9 rfl rfl rfl rfl rfl rfl rfl ⟨rfl, rfl, rfl, rfl, rfl⟩ rfl rfl rfl rfl rfl (by kernel_rfl) Try.func9 (by kernel_rfl)
    (of_decide_eq_true (by kernel_rfl)) (by unfold Func.isWrapper; first | (rw [if_pos (by decide +kernel)]; kernel_rfl) | (rw [if_neg (by decide +kernel)]; exact ⟨rfl, rfl⟩))
    (fun os started H enc _ => lifted9 os started H enc)

theorem proved9 : Rows.FlashPartsSaid := over9
end Go.Proofs.Ythgdbpnddnbbdaa.FlashOwn
