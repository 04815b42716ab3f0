/- The law FlashAgain. -/
import Derived.Test.YthgdbpnddnbbdaaFlashP
import Derived.OpenShut
import Derived.Test.YthgdbpnddnbbdaaRows
namespace Go.Proofs.Ythgdbpnddnbbdaa.FlashOwn
open Go Go.Sx Go.Proofs.Ythgdbpnddnbbdaa
set_option maxRecDepth 100000
set_option maxHeartbeats 4000000
set_option linter.unusedVariables false
set_option linter.unusedSimpArgs false
variable {E : Mem} {K : SV → Mem → Prop}
noncomputable def tabL6 : FuncId → List SV → Mem → (SV → Mem → Prop) → Prop := fun f args E K => match f with
  | 10 => d0 args ((∀ E' : Mem, Mem.le E E' → K (B true) E'))
  | 11 => d2 args fun x0 x1 => dI x0 fun a1 => dI x1 fun a2 => (∀ (s' : Int) (b' : Option Addr) (l' c' : Nat) (ys : List Int) (e : Int) (E' : Mem), Mem.le E E' → Hyp (newF a1 a2 = ((s', ys), e)) → Bs E' b' l' c' ys → K (.tup [.agg [I s', L b' l' c'], I e]) E')
  | 13 => d2 args fun x0 x1 => dC x0 fun l1 => d2 l1 fun x0_0 x0_1 => dI x0_0 fun a1 => dS x0_1 fun b2 l3 c4 => dC x1 fun l2 => d2 l2 fun x1_0 x1_1 => dI x1_0 fun a5 => dS x1_1 fun b6 l7 c8 => ∃ (zs : List Int) (ys : List Int), Bs E b2 l3 c4 zs ∧ Bs E b6 l7 c8 ys ∧ l3 ≤ 100000 ∧ (K (B (decide (a1 = a5 ∧ zs = ys))) E)
  | 14 => d3 args fun x0 x1 x2 => dC x0 fun l1 => d2 l1 fun x0_0 x0_1 => dI x0_0 fun a1 => dS x0_1 fun b2 l3 c4 => dI x1 fun a5 => dS x2 fun b6 l7 c8 => ∃ (zs : List Int) (ds : List Int), Bs E b2 l3 c4 zs ∧ Bs E b6 l7 c8 ds ∧ (∀ (b' : Option Addr) (l' c' : Nat) (ms : List (Int × List Int)) (e : Int) (E' : Mem), Mem.le E E' → Hyp (progF a1 zs a5 ds = (ms, e)) → FL E' b' l' c' ms → K (.tup [L b' l' c', I e]) E')
  | 16 => d2 args fun x0 x1 => dC x0 fun l1 => d2 l1 fun x0_0 x0_1 => dI x0_0 fun a1 => dS x0_1 fun b2 l3 c4 => dI x1 fun a5 => ∃ (zs : List Int), Bs E b2 l3 c4 zs ∧ (∀ (b' : Option Addr) (l' c' : Nat) (ms : List (Int × List Int)) (e : Int) (E' : Mem), Mem.le E E' → Hyp (erasF a1 zs a5 = (ms, e)) → FL E' b' l' c' ms → K (.tup [L b' l' c', I e]) E')
  | 18 => d1 args fun x0 => dC x0 fun l1 => d2 l1 fun x0_0 x0_1 => dI x0_0 fun a1 => dS x0_1 fun b2 l3 c4 => (K (B (decide (validF a1 l3))) E)
  | 20 => d2 args fun x0 x1 => dS x0 fun b1 l2 c3 => dS x1 fun b4 l5 c6 => ∃ (ms : List (Int × List Int)) (ns : List (Int × List Int)), FL E b1 l2 c3 ms ∧ FL E b4 l5 c6 ns ∧ (∀ m ∈ ms, m.2.length ≤ 100000) ∧ l2 ≤ 100000 ∧ (K (B (decide (ms = ns))) E)
  | 21 => d2 args fun x0 x1 => dS x0 fun b1 l2 c3 => dS x1 fun b4 l5 c6 => ∃ (zs : List Int) (ys : List Int), Bs E b1 l2 c3 zs ∧ Bs E b4 l5 c6 ys ∧ l2 ≤ 100000 ∧ (K (.tup [I (oneF zs ys l2).1, I (oneF zs ys l2).2]) E)
  | 22 => d3 args fun x0 x1 x2 => dC x0 fun l1 => d2 l1 fun x0_0 x0_1 => dI x0_0 fun a1 => dS x0_1 fun b2 l3 c4 => dI x1 fun a5 => dS x2 fun b6 l7 c8 => ∃ (zs : List Int) (ds : List Int), Bs E b2 l3 c4 zs ∧ Bs E b6 l7 c8 ds ∧ (l7 ≤ 90000) ∧ (∀ (s' : Int) (b' : Option Addr) (l' c' : Nat) (ys : List Int) (ok : Bool) (E' : Mem), Mem.le E E' → Hyp (doneF a1 zs a5 ds = ((s', ys), ok)) → Bs E' b' l' c' ys → K (.tup [.agg [I s', L b' l' c'], B ok]) E')
  | 23 => d3 args fun x0 x1 x2 => dS x0 fun b1 l2 c3 => dI x1 fun a4 => dI x2 fun a5 => ∃ (ms : List (Int × List Int)), FL E b1 l2 c3 ms ∧ (l2 ≤ 100000) ∧ (∀ (s' : Int) (b' : Option Addr) (l' c' : Nat) (ys : List Int) (ok : Bool) (E' : Mem), Mem.le E E' → Hyp (lastF ms a4 a5 = ((s', ys), ok)) → Bs E' b' l' c' ys → K (.tup [.agg [I s', L b' l' c'], B ok]) E')
  | _ => False
theorem tabL6_ok : TabOK Try.prog tabL6 := by
  intro f args E K h
  unfold tabL6 at h
  split at h
  · obtain ⟨rfl, h⟩ := d0_elim h
    exact TabSem.congr rfl (Ent.sem okFI Try.func10 ⟨by kernel_rfl, by kernel_rfl⟩ rfl (s10 h))
  · replace h := d2_elim h
    obtain ⟨x0, x1, rfl, h⟩ := h
    replace h := dI_elim h
    obtain ⟨a1, rfl, h⟩ := h
    replace h := dI_elim h
    obtain ⟨a2, rfl, h⟩ := h
    exact TabSem.congr (valL_cons rfl (valL_cons rfl rfl)) (Ent.sem okF8 Try.func11 ⟨by kernel_rfl, by kernel_rfl⟩ rfl (s11 h))
  · replace h := d2_elim h
    obtain ⟨x0, x1, rfl, h⟩ := h
    replace h := dC_elim h
    obtain ⟨l1, hl1, h⟩ := h
    replace h := d2_elim h
    obtain ⟨x0_0, x0_1, rfl, h⟩ := h
    replace h := dI_elim h
    obtain ⟨a1, rfl, h⟩ := h
    replace h := dS_elim h
    obtain ⟨b2, l3, c4, rfl, h⟩ := h
    replace h := dC_elim h
    obtain ⟨l2, hl2, h⟩ := h
    replace h := d2_elim h
    obtain ⟨x1_0, x1_1, rfl, h⟩ := h
    replace h := dI_elim h
    obtain ⟨a5, rfl, h⟩ := h
    replace h := dS_elim h
    obtain ⟨b6, l7, c8, rfl, h⟩ := h
    obtain ⟨zs, ys, g0, g1, g2, h⟩ := h
    exact TabSem.congr (valL_cons (asCells_val hl1) (valL_cons (asCells_val hl2) rfl)) (Ent.sem okFA Try.func13 ⟨by kernel_rfl, by kernel_rfl⟩ rfl (s13 g0 g1 g2 h))
  · replace h := d3_elim h
    obtain ⟨x0, x1, x2, rfl, h⟩ := h
    replace h := dC_elim h
    obtain ⟨l1, hl1, h⟩ := h
    replace h := d2_elim h
    obtain ⟨x0_0, x0_1, rfl, h⟩ := h
    replace h := dI_elim h
    obtain ⟨a1, rfl, h⟩ := h
    replace h := dS_elim h
    obtain ⟨b2, l3, c4, rfl, h⟩ := h
    replace h := dI_elim h
    obtain ⟨a5, rfl, h⟩ := h
    replace h := dS_elim h
    obtain ⟨b6, l7, c8, rfl, h⟩ := h
    obtain ⟨zs, ds, g0, g1, h⟩ := h
    exact TabSem.congr (valL_cons (asCells_val hl1) (valL_cons rfl (valL_cons rfl rfl))) (Ent.sem okF3 Try.func14 ⟨by kernel_rfl, by kernel_rfl⟩ rfl (s14 g0 g1 h))
  · replace h := d2_elim h
    obtain ⟨x0, x1, rfl, h⟩ := h
    replace h := dC_elim h
    obtain ⟨l1, hl1, h⟩ := h
    replace h := d2_elim h
    obtain ⟨x0_0, x0_1, rfl, h⟩ := h
    replace h := dI_elim h
    obtain ⟨a1, rfl, h⟩ := h
    replace h := dS_elim h
    obtain ⟨b2, l3, c4, rfl, h⟩ := h
    replace h := dI_elim h
    obtain ⟨a5, rfl, h⟩ := h
    obtain ⟨zs, g0, h⟩ := h
    exact TabSem.congr (valL_cons (asCells_val hl1) (valL_cons rfl rfl)) (Ent.sem okF4 Try.func16 ⟨by kernel_rfl, by kernel_rfl⟩ rfl (s16 g0 h))
  · replace h := d1_elim h
    obtain ⟨x0, rfl, h⟩ := h
    replace h := dC_elim h
    obtain ⟨l1, hl1, h⟩ := h
    replace h := d2_elim h
    obtain ⟨x0_0, x0_1, rfl, h⟩ := h
    replace h := dI_elim h
    obtain ⟨a1, rfl, h⟩ := h
    replace h := dS_elim h
    obtain ⟨b2, l3, c4, rfl, h⟩ := h
    exact TabSem.congr (valL_cons (asCells_val hl1) rfl) (Ent.sem okF5 Try.func18 ⟨by kernel_rfl, by kernel_rfl⟩ rfl (s18 h))
  · replace h := d2_elim h
    obtain ⟨x0, x1, rfl, h⟩ := h
    replace h := dS_elim h
    obtain ⟨b1, l2, c3, rfl, h⟩ := h
    replace h := dS_elim h
    obtain ⟨b4, l5, c6, rfl, h⟩ := h
    obtain ⟨ms, ns, g0, g1, g2, g3, h⟩ := h
    exact TabSem.congr (valL_cons rfl (valL_cons rfl rfl)) (Ent.sem okFE Try.func20 ⟨by kernel_rfl, by kernel_rfl⟩ rfl (s20 g0 g1 g2 g3 h))
  · replace h := d2_elim h
    obtain ⟨x0, x1, rfl, h⟩ := h
    replace h := dS_elim h
    obtain ⟨b1, l2, c3, rfl, h⟩ := h
    replace h := dS_elim h
    obtain ⟨b4, l5, c6, rfl, h⟩ := h
    obtain ⟨zs, ys, g0, g1, g2, h⟩ := h
    exact TabSem.congr (valL_cons rfl (valL_cons rfl rfl)) (Ent.sem okFF Try.func21 ⟨by kernel_rfl, by kernel_rfl⟩ rfl (s21 g0 g1 g2 h))
  · replace h := d3_elim h
    obtain ⟨x0, x1, x2, rfl, h⟩ := h
    replace h := dC_elim h
    obtain ⟨l1, hl1, h⟩ := h
    replace h := d2_elim h
    obtain ⟨x0_0, x0_1, rfl, h⟩ := h
    replace h := dI_elim h
    obtain ⟨a1, rfl, h⟩ := h
    replace h := dS_elim h
    obtain ⟨b2, l3, c4, rfl, h⟩ := h
    replace h := dI_elim h
    obtain ⟨a5, rfl, h⟩ := h
    replace h := dS_elim h
    obtain ⟨b6, l7, c8, rfl, h⟩ := h
    obtain ⟨zs, ds, g0, g1, g2, h⟩ := h
    exact TabSem.congr (valL_cons (asCells_val hl1) (valL_cons rfl (valL_cons rfl rfl))) (Ent.sem okFH Try.func22 ⟨by kernel_rfl, by kernel_rfl⟩ rfl (s22 g0 g1 g2 h))
  · replace h := d3_elim h
    obtain ⟨x0, x1, x2, rfl, h⟩ := h
    replace h := dS_elim h
    obtain ⟨b1, l2, c3, rfl, h⟩ := h
    replace h := dI_elim h
    obtain ⟨a4, rfl, h⟩ := h
    replace h := dI_elim h
    obtain ⟨a5, rfl, h⟩ := h
    obtain ⟨ms, g0, g1, h⟩ := h
    exact TabSem.congr (valL_cons rfl (valL_cons rfl (valL_cons rfl rfl))) (Ent.sem okFG Try.func23 ⟨by kernel_rfl, by kernel_rfl⟩ rfl (s23 g0 g1 h))
  · exact h.elim
noncomputable def WL6 : Cx := { P := Try.prog, inl := fun f => List.contains [] f, tab := tabL6, isB := fun _ => false, tabB := fun _ _ _ _ _ => False, opt := { unroll := 0, carry := [] }, muts := mutsD }
theorem okWL6 : CxOK WL6 := CxOK.four tabL6_ok (by kernel_rfl) (okInl (by kernel_rfl)) (fun _ _ _ _ _ h => h.elim)
theorem e6 {a1 : Int} {b1 : Option Addr} {l1 : Nat} {c1 : Nat} {z1 : List Int} {a2 : Int} {b2 : Option Addr} {l2 : Nat} {c2 : Nat} {z2 : List Int} {a3 : Int} (ha1 : (Lit.int .i64 a1).wf = true) (hB1 : Bs E b1 l1 c1 z1) (ha2 : (Lit.int .i64 a2).wf = true) (hB2 : Bs E b2 l2 c2 z2) (ha3 : (Lit.int .u16 a3).wf = true) (h : ∀ E' : Mem, Mem.le E E' → K (B true) E') :
    Ent WL6 8 Try.f6 [.agg [I a1, L b1 l1 c1], I a2, L b2 l2 c2, .raw (.int .u16 a3)] E K := by
  refine same (by kernel_rfl) (?_ : 
      ∀ (E' : Mem),
        Mem.le E E' →
          Mem.le E E' ∧
            bif decide ((↑l1 : Int) > (300 : Int)) then Mem.le E E' ∧ K (SV.raw (Value.bool true)) E'
            else
              bif bif false then true else decide ((↑l2 : Int) > (300 : Int)) then
                Mem.le E E' ∧ K (SV.raw (Value.bool true)) E'
              else
                ∃ (zs : List Int),
                  ∃ (ds : List Int),
                    Bs E' b1 l1 c1 zs ∧
                      Bs E' b2 l2 c2 ds ∧
                        ∀ (b' : Option Addr) (l' c' : Nat) (ms : List (Int × List Int)) (e : Int) (E'_1 : Mem),
                          Mem.le E' E'_1 →
                            Hyp (progF a1 zs a2 ds = (ms, e)) →
                              FL E'_1 b' l' c' ms →
                                Mem.le E' E'_1 ∧
                                  bif e != (0 : Int) then
                                    Mem.le E E'_1 ∧
                                      K (SV.raw (Value.bool (bif true then (↑l' : Int) == (0 : Int) else false))) E'_1
                                  else
                                    ∃ (ms : List (Int × List Int)),
                                      FL E'_1 b' l' c' ms ∧
                                        l' ≤ 100000 ∧
                                          ∀ (s' : Int) (b'_1 : Option Addr) (l'_1 c'_1 : Nat) (ys : List Int) (ok : Bool)
                                            (E' : Mem),
                                            Mem.le E'_1 E' →
                                              Hyp
                                                  (lastF ms e (IntKind.wrap IntKind.i64 ((↑l2 : Int) + (1 : Int))) =
                                                    ((s', ys), ok)) →
                                                Bs E' b'_1 l'_1 c'_1 ys →
                                                  Mem.le E'_1 E' ∧
                                                    bif !ok then Mem.le E E' ∧ K (SV.raw (Value.bool false)) E'
                                                    else
                                                      ((↑l' : Int) = (0 : Int) → False) ∧
                                                        req
                                                          ((0 : Int) ≤ Int.tmod (IntKind.wrap IntKind.i64 a3) (↑l' : Int) ∧
                                                            Int.tmod (IntKind.wrap IntKind.i64 a3) (↑l' : Int) < (↑l' : Int))
                                                          ((∃ (cs : List Value),
                                                              E' (Value.slice b' l' c') cs ∧ (cs = [] → False)) ∧
                                                            ∃ (n : Int),
                                                              ∃ (base : Option Addr),
                                                                ∃ (len : Nat),
                                                                  ∃ (cap : Nat),
                                                                    LoadE WL6.P E' 24 (Value.slice b' l' c')
                                                                        (Int.toNat
                                                                            (Int.tmod (IntKind.wrap IntKind.i64 a3)
                                                                              (↑l' : Int)) *
                                                                          2)
                                                                        (SV.agg
                                                                          [SV.raw (Value.int IntKind.i64 n),
                                                                            SV.raw (Value.slice base len cap)]) ∧
                                                                      ∃ (zs : List Int),
                                                                        ∃ (ds : List Int),
                                                                          Bs E' base len cap zs ∧
                                                                            Bs E' b2 l2 c2 ds ∧
                                                                              l2 ≤ 90000 ∧
                                                                                ∀ (s'_1 : Int) (b' : Option Addr)
                                                                                  (l' c' : Nat) (ys : List Int) (ok : Bool)
                                                                                  (E'_2 : Mem),
                                                                                  Mem.le E' E'_2 →
                                                                                    Hyp
                                                                                        (doneF n zs a2 ds =
                                                                                          ((s'_1, ys), ok)) →
                                                                                      Bs E'_2 b' l' c' ys →
                                                                                        Mem.le E' E'_2 ∧
                                                                                          ∃ (zs : List Int),
                                                                                            ∃ (ds : List Int),
                                                                                              Bs E'_2 b'_1 l'_1 c'_1 zs ∧
                                                                                                Bs E'_2 b2 l2 c2 ds ∧
                                                                                                  l2 ≤ 90000 ∧
                                                                                                    ∀ (s'_2 : Int)
                                                                                                      (b'_2 : Option Addr)
                                                                                                      (l'_2 c'_2 : Nat)
                                                                                                      (ys : List Int)
                                                                                                      (ok_1 : Bool)
                                                                                                      (E' : Mem),
                                                                                                      Mem.le E'_2 E' →
                                                                                                        Hyp
                                                                                                            (doneF s' zs a2
                                                                                                                ds =
                                                                                                              ((s'_2, ys),
                                                                                                                ok_1)) →
                                                                                                          Bs E' b'_2 l'_2 c'_2
                                                                                                              ys →
                                                                                                            Mem.le E'_2 E' ∧
                                                                                                              bif
                                                                                                                  bif
                                                                                                                      true then
                                                                                                                    ok
                                                                                                                  else
                                                                                                                    false then
                                                                                                                bif
                                                                                                                    bif
                                                                                                                        true then
                                                                                                                      ok_1
                                                                                                                    else
                                                                                                                      false then
                                                                                                                  ∃ (zs :
                                                                                                                    List Int),
                                                                                                                    ∃ (ys :
                                                                                                                      List
                                                                                                                        Int),
                                                                                                                      Bs E' b'
                                                                                                                          l'
                                                                                                                          c'
                                                                                                                          zs ∧
                                                                                                                        Bs E'
                                                                                                                            b'_1
                                                                                                                            l'_1
                                                                                                                            c'_1
                                                                                                                            ys ∧
                                                                                                                          l' ≤
                                                                                                                              (100000 :
                                                                                                                                Nat) ∧
                                                                                                                            Mem.le
                                                                                                                                E'
                                                                                                                                E' ∧
                                                                                                                              bif
                                                                                                                                  bif
                                                                                                                                      true then
                                                                                                                                    decide
                                                                                                                                      (s'_1 =
                                                                                                                                          s' ∧
                                                                                                                                        zs =
                                                                                                                                          ys)
                                                                                                                                  else
                                                                                                                                    false then
                                                                                                                                ∃
                                                                                                                                  (zs
                                                                                                                                  :
                                                                                                                                  List
                                                                                                                                    Int),
                                                                                                                                  ∃
                                                                                                                                    (ys
                                                                                                                                    :
                                                                                                                                    List
                                                                                                                                      Int),
                                                                                                                                    Bs
                                                                                                                                        E'
                                                                                                                                        b'_2
                                                                                                                                        l'_2
                                                                                                                                        c'_2
                                                                                                                                        zs ∧
                                                                                                                                      Bs
                                                                                                                                          E'
                                                                                                                                          b'_1
                                                                                                                                          l'_1
                                                                                                                                          c'_1
                                                                                                                                          ys ∧
                                                                                                                                        l'_2 ≤
                                                                                                                                            (100000 :
                                                                                                                                              Nat) ∧
                                                                                                                                          Mem.le
                                                                                                                                              E'
                                                                                                                                              E' ∧
                                                                                                                                            Mem.le
                                                                                                                                                E
                                                                                                                                                E' ∧
                                                                                                                                              K
                                                                                                                                                (SV.raw
                                                                                                                                                  (Value.bool
                                                                                                                                                    (bif
                                                                                                                                                        true then
                                                                                                                                                      decide
                                                                                                                                                        (s'_2 =
                                                                                                                                                            s' ∧
                                                                                                                                                          zs =
                                                                                                                                                            ys)
                                                                                                                                                    else
                                                                                                                                                      false)))
                                                                                                                                                E'
                                                                                                                              else
                                                                                                                                Mem.le
                                                                                                                                    E
                                                                                                                                    E' ∧
                                                                                                                                  K
                                                                                                                                    (SV.raw
                                                                                                                                      (Value.bool
                                                                                                                                        false))
                                                                                                                                    E'
                                                                                                                else
                                                                                                                  Mem.le E
                                                                                                                      E' ∧
                                                                                                                    K
                                                                                                                      (SV.raw
                                                                                                                        (Value.bool
                                                                                                                          false))
                                                                                                                      E'
                                                                                                              else
                                                                                                                Mem.le E E' ∧
                                                                                                                  K
                                                                                                                    (SV.raw
                                                                                                                      (Value.bool
                                                                                                                        false))
                                                                                                                    E'))
  have n1 := hB1.2.1
  have n2 := hB2.2.1
  have ha3 := wf16 ha3
  intro E1 q1
  refine ⟨q1, condC (fun _ => ⟨q1, h E1 q1⟩) (fun g1 => condC (fun _ => ⟨q1, h E1 q1⟩) (fun g2 => ?_))⟩
  have g2 : l2 ≤ 300 := by simp at g2; omega
  refine ⟨z1, z2, hB1.mono q1, hB2.mono q1, fun b3 l3 c3 ms e E2 q2 r2 F2 => ⟨q2, ?_⟩⟩
  have r2 : progF a1 z1 a2 z2 = (ms, e) := r2
  have k2 := Mem.le_trans q1 q2
  refine condC (fun g => ?_) (fun g => ?_)
  · have g : e ≠ 0 := by simpa using g
    have hm := progF_bad r2 g
    have hn := F2.len
    rw [hm] at hn
    subst hn
    exact ⟨k2, h E2 k2⟩
  have g : e = 0 := by simpa using g
  subst g
  obtain ⟨v, p1, p2, rfl⟩ := progF_ok r2
  have n3 : z2.length + 1 = l3 := by rw [← F2.len, mems_len]
  refine ⟨_, F2, by omega, fun s4 b4 l4 c4 y4 o4 E3 q3 r3 B3 => ⟨q3, ?_⟩⟩
  have r3 : lastF _ 0 _ = ((s4, y4), o4) := r3
  rw [wrap_i64 (by omega), ← n2, lastF_ok (mems_len _ _ _ _ _), mems_getD (by omega)] at r3
  obtain ⟨rfl, rfl, rfl⟩ := eq3 r3
  have k3 := Mem.le_trans k2 q3
  refine condC (fun g => by simp at g) (fun _ => ⟨by omega, ?_⟩)
  rw [wrap_i64 (by omega)]
  obtain ⟨k, hk, hk2⟩ := tmodN (x := a3) (n := l3) ha3.1 (by omega)
  rw [hk]
  have F3 := F2.mono q3
  obtain ⟨x1, b5, l5, c5, x2, x3⟩ := F3.load (mems_get (i := k) (by omega))
  have hl5 := x3.2.1
  simp only [stp_len] at hl5
  refine req_intro (by omega) ⟨x1, a1, b5, l5, c5, x2, _, z2, x3, hB2.mono k3, by omega, fun s6 b6 l6 c6 y6 o6 E4 q4 r4 B4 => ⟨q4, _, z2, B3.mono q4, hB2.mono (Mem.le_trans k3 q4), by omega, fun s7 b7 l7 c7 y7 o7 E5 q5 r5 B5 => ⟨q5, ?_⟩⟩⟩
  have r4 : doneF _ _ _ _ = ((s6, y6), o6) := r4
  have r5 : doneF _ _ _ _ = ((s7, y7), o7) := r5
  rw [doneF_mk (by rw [stp_len]; exact v) p1 (by rw [stp_len]; exact p2), stp_again (by omega)] at r4
  rw [doneF_mk (by rw [stp_len]; exact v) p1 (by rw [stp_len]; exact p2), stp_again (by omega)] at r5
  obtain ⟨rfl, rfl, rfl⟩ := eq3 r4
  obtain ⟨rfl, rfl, rfl⟩ := eq3 r5
  have hl6 := B4.2.1
  have hl7 := B5.2.1
  simp only [stp_len] at hl6 hl7
  have hv : z1.length ≤ 16384 := v.2.2.2.1
  have k5 := Mem.le_trans k3 (Mem.le_trans q4 q5)
  refine condC (fun _ => condC (fun _ => ⟨_, _, B4.mono q5, B3.mono (Mem.le_trans q4 q5), by omega, Mem.le_refl _, ?_⟩) (fun g => by simp at g)) (fun g => by simp at g)
  refine condC (fun _ => ⟨_, _, B5, B3.mono (Mem.le_trans q4 q5), by omega, Mem.le_refl _, k5, ?_⟩) (fun g => by simp at g)
  simpa using h E5 k5


theorem opn6 (W : World) (K : List SV → Prop) (h : ∀ a1 : Int, (Lit.int .i64 a1).wf = true → ∀ (b1 : Option Addr) (l1 c1 : Nat) (z1 : List Int), (l1 ≤ c1) → (c1 ≤ maxLen) → (b1 = none → c1 = 0) → (z1.length = c1) → (∀ x ∈ z1, (Lit.int .u8 x).wf = true) → RowAt W (.slice b1 l1 c1) (z1.map (.int .u8)) → ∀ a2 : Int, (Lit.int .i64 a2).wf = true → ∀ (b2 : Option Addr) (l2 c2 : Nat) (z2 : List Int), (l2 ≤ c2) → (c2 ≤ maxLen) → (b2 = none → c2 = 0) → (z2.length = c2) → (∀ x ∈ z2, (Lit.int .u8 x).wf = true) → RowAt W (.slice b2 l2 c2) (z2.map (.int .u8)) → ∀ a3 : Int, (Lit.int .u16 a3).wf = true → K [.agg [I a1, L b1 l1 c1], I a2, L b2 l2 c2, .raw (.int .u16 a3)]) : opnAll Try.prog W Try.f6.params.toList K :=
  same (by kernel_rfl) h

theorem sem6 (W : World) : opnAll Try.prog W Try.f6.params.toList fun ss => TabSem Try.prog 6 ss (fun v cs => RowAt W v cs) fun r _ => r = .raw (.bool true) := by
  refine opn6 W _ ?_
  intro a1 ha1 b1 l1 c1 z1 hl1 hc1 hb1 hz1 hw1 hE1 a2 ha2 b2 l2 c2 z2 hl2 hc2 hb2 hz2 hw2 hE2 a3 ha3
  exact Ent.sem okWL6 Try.func6 ⟨by kernel_rfl, by kernel_rfl⟩ rfl (e6 ha1 (Bs.of hl1 hb1 hz1 hw1 hE1) ha2 (Bs.of hl2 hb2 hz2 hw2 hE2) ha3 (fun _ _ => rfl))

theorem lifted6 (os : Os) (started : os.Started) (H : Type) (enc : TypeId × Value → H) :
    ReturnsInHanded {} Try.checked os 6 .any (Rows.flashAgainSpec.pre6 enc Try.prog Try.f6 Rows.flashAgainRow.domain false) (Rows.flashAgainSpec.post enc Try.prog Try.f6 false true false false) :=
  lift_true (C := Try.checked) (by kernel_rfl) (by kernel_rfl) started (by kernel_rfl) Try.func6
    (ChangeSpec.witness6 (enc := enc) (C := Try.checked) false ⟨#[], #[.agg #[.int .i64 0, .slice none 0 0], .int .i64 0, .slice none 0 0, .int .u16 0], []⟩ 8 (by kernel_rfl) (by kernel_rfl) (by kernel_rfl) (by kernel_rfl))
    (Tb := 4) (by kernel_rfl) (by kernel_rfl) (by kernel_rfl) rfl
    (fun ds hl => by
      match ds, hl with
      | [d0, d1, d2, d3], _ => exact ⟨rfl, rfl, rfl⟩)
    sem6

theorem over6 : Rows.flashAgainRow.holds Try.pinned (OpenSpec.ofChange Rows.flashAgainSpec) :=
  OpenClaim.holds_of_wide 6 Try.f6 rfl rfl rfl rfl rfl rfl rfl ⟨rfl, rfl, rfl, rfl, rfl⟩ rfl rfl rfl rfl rfl (by kernel_rfl) Try.func6 (by kernel_rfl)
    (of_decide_eq_true (by kernel_rfl)) (by unfold Func.isWrapper; first | (rw [if_pos (by decide +kernel)]; kernel_rfl) | (rw [if_neg (by decide +kernel)]; exact ⟨rfl, rfl⟩))
    (fun os started H enc _ => lifted6 os started H enc)

theorem proved6 : Rows.FlashAgainSaid := over6
end Go.Proofs.Ythgdbpnddnbbdaa.FlashOwn
