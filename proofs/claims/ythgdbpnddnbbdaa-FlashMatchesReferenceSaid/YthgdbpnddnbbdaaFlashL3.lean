/- The law FlashMatchesReference. -/
import Derived.Test.YthgdbpnddnbbdaaFlash11
import Derived.OpenShut
import Derived.Test.YthgdbpnddnbbdaaRows
namespace Go.Proofs.Ythgdbpnddnbbdaa.FlashOwn
open Go Go.Sx Go.Proofs.Ythgdbpnddnbbdaa
set_option maxRecDepth 100000
set_option maxHeartbeats 4000000
set_option linter.unusedVariables false
set_option linter.unusedSimpArgs false
variable {E : Mem} {K : SV → Mem → Prop}
noncomputable def tabL3 : FuncId → List SV → Mem → (SV → Mem → Prop) → Prop := fun f args E K => match f with
  | 10 => d0 args ((∀ E' : Mem, Mem.le E E' → K (B true) E'))
  | 11 => d2 args fun x0 x1 => dI x0 fun a1 => dI x1 fun a2 => (∀ (s' : Int) (b' : Option Addr) (l' c' : Nat) (ys : List Int) (e : Int) (E' : Mem), Mem.le E E' → Hyp (newF a1 a2 = ((s', ys), e)) → Bs E' b' l' c' ys → K (.tup [.agg [I s', L b' l' c'], I e]) E')
  | 12 => d2 args fun x0 x1 => dI x0 fun a1 => dI x1 fun a2 => (∀ (s' : Int) (b' : Option Addr) (l' c' : Nat) (ys : List Int) (e : Int) (E' : Mem), Mem.le E E' → Hyp (newF a1 a2 = ((s', ys), e)) → Bs E' b' l' c' ys → K (.tup [.agg [I s', L b' l' c'], I e]) E')
  | 13 => d2 args fun x0 x1 => dC x0 fun l1 => d2 l1 fun x0_0 x0_1 => dI x0_0 fun a1 => dS x0_1 fun b2 l3 c4 => dC x1 fun l2 => d2 l2 fun x1_0 x1_1 => dI x1_0 fun a5 => dS x1_1 fun b6 l7 c8 => ∃ (zs : List Int) (ys : List Int), Bs E b2 l3 c4 zs ∧ Bs E b6 l7 c8 ys ∧ l3 ≤ 100000 ∧ (K (B (decide (a1 = a5 ∧ zs = ys))) E)
  | 14 => d3 args fun x0 x1 x2 => dC x0 fun l1 => d2 l1 fun x0_0 x0_1 => dI x0_0 fun a1 => dS x0_1 fun b2 l3 c4 => dI x1 fun a5 => dS x2 fun b6 l7 c8 => ∃ (zs : List Int) (ds : List Int), Bs E b2 l3 c4 zs ∧ Bs E b6 l7 c8 ds ∧ (∀ (b' : Option Addr) (l' c' : Nat) (ms : List (Int × List Int)) (e : Int) (E' : Mem), Mem.le E E' → Hyp (progF a1 zs a5 ds = (ms, e)) → FL E' b' l' c' ms → K (.tup [L b' l' c', I e]) E')
  | 15 => d3 args fun x0 x1 x2 => dC x0 fun l1 => d2 l1 fun x0_0 x0_1 => dI x0_0 fun a1 => dS x0_1 fun b2 l3 c4 => dI x1 fun a5 => dS x2 fun b6 l7 c8 => ∃ (zs : List Int) (ds : List Int), Bs E b2 l3 c4 zs ∧ Bs E b6 l7 c8 ds ∧ (∀ (b' : Option Addr) (l' c' : Nat) (ms : List (Int × List Int)) (e : Int) (E' : Mem), Mem.le E E' → Hyp (progF a1 zs a5 ds = (ms, e)) → FL E' b' l' c' ms → K (.tup [L b' l' c', I e]) E')
  | 16 => d2 args fun x0 x1 => dC x0 fun l1 => d2 l1 fun x0_0 x0_1 => dI x0_0 fun a1 => dS x0_1 fun b2 l3 c4 => dI x1 fun a5 => ∃ (zs : List Int), Bs E b2 l3 c4 zs ∧ (∀ (b' : Option Addr) (l' c' : Nat) (ms : List (Int × List Int)) (e : Int) (E' : Mem), Mem.le E E' → Hyp (erasF a1 zs a5 = (ms, e)) → FL E' b' l' c' ms → K (.tup [L b' l' c', I e]) E')
  | 17 => d2 args fun x0 x1 => dC x0 fun l1 => d2 l1 fun x0_0 x0_1 => dI x0_0 fun a1 => dS x0_1 fun b2 l3 c4 => dI x1 fun a5 => ∃ (zs : List Int), Bs E b2 l3 c4 zs ∧ (∀ (b' : Option Addr) (l' c' : Nat) (ms : List (Int × List Int)) (e : Int) (E' : Mem), Mem.le E E' → Hyp (erasF a1 zs a5 = (ms, e)) → FL E' b' l' c' ms → K (.tup [L b' l' c', I e]) E')
  | 18 => d1 args fun x0 => dC x0 fun l1 => d2 l1 fun x0_0 x0_1 => dI x0_0 fun a1 => dS x0_1 fun b2 l3 c4 => (K (B (decide (validF a1 l3))) E)
  | 19 => d1 args fun x0 => dC x0 fun l1 => d2 l1 fun x0_0 x0_1 => dI x0_0 fun a1 => dS x0_1 fun b2 l3 c4 => (K (B (decide (validF a1 l3))) E)
  | 20 => d2 args fun x0 x1 => dS x0 fun b1 l2 c3 => dS x1 fun b4 l5 c6 => ∃ (ms : List (Int × List Int)) (ns : List (Int × List Int)), FL E b1 l2 c3 ms ∧ FL E b4 l5 c6 ns ∧ (∀ m ∈ ms, m.2.length ≤ 100000) ∧ l2 ≤ 100000 ∧ (K (B (decide (ms = ns))) E)
  | _ => False
theorem tabL3_ok : TabOK Try.prog tabL3 := by
  intro f args E K h
  unfold tabL3 at h
  split at h
  · obtain ⟨rfl, h⟩ := d0_elim h
    exact TabSem.congr rfl (Ent.sem okFI Try.func10 ⟨by kernel_rfl, by kernel_rfl⟩ rfl (s10 h))
  · replace h := d2_elim h
    obtain ⟨x0, x1, rfl, h⟩ := h
    replace h := dI_elim h
    obtain ⟨a1, rfl, h⟩ := h
    replace h := dI_elim h
    obtain ⟨a2, rfl, h⟩ := h
    exact TabSem.congr (valL_cons rfl (valL_cons rfl rfl)) (Ent.sem okF8 Try.func11 ⟨by kernel_rfl, by kernel_rfl⟩ rfl (s11 h))
  · replace h := d2_elim h
    obtain ⟨x0, x1, rfl, h⟩ := h
    replace h := dI_elim h
    obtain ⟨a1, rfl, h⟩ := h
    replace h := dI_elim h
    obtain ⟨a2, rfl, h⟩ := h
    exact TabSem.congr (valL_cons rfl (valL_cons rfl rfl)) (Ent.sem okF9 Try.func12 ⟨by kernel_rfl, by kernel_rfl⟩ rfl (s12 h))
  · replace h := d2_elim h
    obtain ⟨x0, x1, rfl, h⟩ := h
    replace h := dC_elim h
    obtain ⟨l1, hl1, h⟩ := h
    replace h := d2_elim h
    obtain ⟨x0_0, x0_1, rfl, h⟩ := h
    replace h := dI_elim h
    obtain ⟨a1, rfl, h⟩ := h
    replace h := dS_elim h
    obtain ⟨b2, l3, c4, rfl, h⟩ := h
    replace h := dC_elim h
    obtain ⟨l2, hl2, h⟩ := h
    replace h := d2_elim h
    obtain ⟨x1_0, x1_1, rfl, h⟩ := h
    replace h := dI_elim h
    obtain ⟨a5, rfl, h⟩ := h
    replace h := dS_elim h
    obtain ⟨b6, l7, c8, rfl, h⟩ := h
    obtain ⟨zs, ys, g0, g1, g2, h⟩ := h
    exact TabSem.congr (valL_cons (asCells_val hl1) (valL_cons (asCells_val hl2) rfl)) (Ent.sem okFA Try.func13 ⟨by kernel_rfl, by kernel_rfl⟩ rfl (s13 g0 g1 g2 h))
  · replace h := d3_elim h
    obtain ⟨x0, x1, x2, rfl, h⟩ := h
    replace h := dC_elim h
    obtain ⟨l1, hl1, h⟩ := h
    replace h := d2_elim h
    obtain ⟨x0_0, x0_1, rfl, h⟩ := h
    replace h := dI_elim h
    obtain ⟨a1, rfl, h⟩ := h
    replace h := dS_elim h
    obtain ⟨b2, l3, c4, rfl, h⟩ := h
    replace h := dI_elim h
    obtain ⟨a5, rfl, h⟩ := h
    replace h := dS_elim h
    obtain ⟨b6, l7, c8, rfl, h⟩ := h
    obtain ⟨zs, ds, g0, g1, h⟩ := h
    exact TabSem.congr (valL_cons (asCells_val hl1) (valL_cons rfl (valL_cons rfl rfl))) (Ent.sem okF3 Try.func14 ⟨by kernel_rfl, by kernel_rfl⟩ rfl (s14 g0 g1 h))
  · replace h := d3_elim h
    obtain ⟨x0, x1, x2, rfl, h⟩ := h
    replace h := dC_elim h
    obtain ⟨l1, hl1, h⟩ := h
    replace h := d2_elim h
    obtain ⟨x0_0, x0_1, rfl, h⟩ := h
    replace h := dI_elim h
    obtain ⟨a1, rfl, h⟩ := h
    replace h := dS_elim h
    obtain ⟨b2, l3, c4, rfl, h⟩ := h
    replace h := dI_elim h
    obtain ⟨a5, rfl, h⟩ := h
    replace h := dS_elim h
    obtain ⟨b6, l7, c8, rfl, h⟩ := h
    obtain ⟨zs, ds, g0, g1, h⟩ := h
    exact TabSem.congr (valL_cons (asCells_val hl1) (valL_cons rfl (valL_cons rfl rfl))) (Ent.sem okFC Try.func15 ⟨by kernel_rfl, by kernel_rfl⟩ rfl (s15 g0 g1 h))
  · replace h := d2_elim h
    obtain ⟨x0, x1, rfl, h⟩ := h
    replace h := dC_elim h
    obtain ⟨l1, hl1, h⟩ := h
    replace h := d2_elim h
    obtain ⟨x0_0, x0_1, rfl, h⟩ := h
    replace h := dI_elim h
    obtain ⟨a1, rfl, h⟩ := h
    replace h := dS_elim h
    obtain ⟨b2, l3, c4, rfl, h⟩ := h
    replace h := dI_elim h
    obtain ⟨a5, rfl, h⟩ := h
    obtain ⟨zs, g0, h⟩ := h
    exact TabSem.congr (valL_cons (asCells_val hl1) (valL_cons rfl rfl)) (Ent.sem okF4 Try.func16 ⟨by kernel_rfl, by kernel_rfl⟩ rfl (s16 g0 h))
  · replace h := d2_elim h
    obtain ⟨x0, x1, rfl, h⟩ := h
    replace h := dC_elim h
    obtain ⟨l1, hl1, h⟩ := h
    replace h := d2_elim h
    obtain ⟨x0_0, x0_1, rfl, h⟩ := h
    replace h := dI_elim h
    obtain ⟨a1, rfl, h⟩ := h
    replace h := dS_elim h
    obtain ⟨b2, l3, c4, rfl, h⟩ := h
    replace h := dI_elim h
    obtain ⟨a5, rfl, h⟩ := h
    obtain ⟨zs, g0, h⟩ := h
    exact TabSem.congr (valL_cons (asCells_val hl1) (valL_cons rfl rfl)) (Ent.sem okFD Try.func17 ⟨by kernel_rfl, by kernel_rfl⟩ rfl (s17 g0 h))
  · replace h := d1_elim h
    obtain ⟨x0, rfl, h⟩ := h
    replace h := dC_elim h
    obtain ⟨l1, hl1, h⟩ := h
    replace h := d2_elim h
    obtain ⟨x0_0, x0_1, rfl, h⟩ := h
    replace h := dI_elim h
    obtain ⟨a1, rfl, h⟩ := h
    replace h := dS_elim h
    obtain ⟨b2, l3, c4, rfl, h⟩ := h
    exact TabSem.congr (valL_cons (asCells_val hl1) rfl) (Ent.sem okF5 Try.func18 ⟨by kernel_rfl, by kernel_rfl⟩ rfl (s18 h))
  · replace h := d1_elim h
    obtain ⟨x0, rfl, h⟩ := h
    replace h := dC_elim h
    obtain ⟨l1, hl1, h⟩ := h
    replace h := d2_elim h
    obtain ⟨x0_0, x0_1, rfl, h⟩ := h
    replace h := dI_elim h
    obtain ⟨a1, rfl, h⟩ := h
    replace h := dS_elim h
    obtain ⟨b2, l3, c4, rfl, h⟩ := h
    exact TabSem.congr (valL_cons (asCells_val hl1) rfl) (Ent.sem okF5 Try.func19 ⟨by kernel_rfl, by kernel_rfl⟩ rfl (s19 h))
  · replace h := d2_elim h
    obtain ⟨x0, x1, rfl, h⟩ := h
    replace h := dS_elim h
    obtain ⟨b1, l2, c3, rfl, h⟩ := h
    replace h := dS_elim h
    obtain ⟨b4, l5, c6, rfl, h⟩ := h
    obtain ⟨ms, ns, g0, g1, g2, g3, h⟩ := h
    exact TabSem.congr (valL_cons rfl (valL_cons rfl rfl)) (Ent.sem okFE Try.func20 ⟨by kernel_rfl, by kernel_rfl⟩ rfl (s20 g0 g1 g2 g3 h))
  · exact h.elim
noncomputable def WL3 : Cx := { P := Try.prog, inl := fun f => List.contains [] f, tab := tabL3, isB := fun _ => false, tabB := fun _ _ _ _ _ => False, opt := { unroll := 0, carry := [] }, muts := mutsD }
theorem okWL3 : CxOK WL3 := CxOK.four tabL3_ok (by kernel_rfl) (okInl (by kernel_rfl)) (fun _ _ _ _ _ h => h.elim)
theorem e3 {a1 : Int} {b1 : Option Addr} {l1 : Nat} {c1 : Nat} {z1 : List Int} {a2 : Int} {b2 : Option Addr} {l2 : Nat} {c2 : Nat} {z2 : List Int} {a3 : Int} {a4 : Int} (ha1 : (Lit.int .i64 a1).wf = true) (hB1 : Bs E b1 l1 c1 z1) (ha2 : (Lit.int .i64 a2).wf = true) (hB2 : Bs E b2 l2 c2 z2) (ha3 : (Lit.int .i64 a3).wf = true) (ha4 : (Lit.int .i64 a4).wf = true) (h : ∀ E' : Mem, Mem.le E E' → K (B true) E') :
    Ent WL3 8 Try.f3 [.agg [I a1, L b1 l1 c1], I a2, L b2 l2 c2, I a3, I a4] E K := by
  refine same (by kernel_rfl) (?_ : 
      ∀ (E' : Mem),
        Mem.le E E' →
          Mem.le E E' ∧
            ∀ (s' : Int) (b' : Option Addr) (l' c' : Nat) (ys : List Int) (e : Int) (E'_1 : Mem),
              Mem.le E' E'_1 →
                Hyp (newF a3 a4 = ((s', ys), e)) →
                  Bs E'_1 b' l' c' ys →
                    Mem.le E' E'_1 ∧
                      ∀ (s'_1 : Int) (b'_1 : Option Addr) (l'_1 c'_1 : Nat) (ys : List Int) (e_1 : Int) (E' : Mem),
                        Mem.le E'_1 E' →
                          Hyp (newF a3 a4 = ((s'_1, ys), e_1)) →
                            Bs E' b'_1 l'_1 c'_1 ys →
                              Mem.le E'_1 E' ∧
                                bif e != e_1 then Mem.le E E' ∧ K (SV.raw (Value.bool false)) E'
                                else
                                  ∃ (zs : List Int),
                                    ∃ (ys : List Int),
                                      Bs E' b' l' c' zs ∧
                                        Bs E' b'_1 l'_1 c'_1 ys ∧
                                          l' ≤ 100000 ∧
                                            Mem.le E' E' ∧
                                              bif bif false then true else !decide (s' = s'_1 ∧ zs = ys) then
                                                Mem.le E E' ∧ K (SV.raw (Value.bool false)) E'
                                              else
                                                bif decide ((↑l1 : Int) > (300 : Int)) then
                                                  Mem.le E E' ∧ K (SV.raw (Value.bool true)) E'
                                                else
                                                  bif bif false then true else decide ((↑l2 : Int) > (300 : Int)) then
                                                    Mem.le E E' ∧ K (SV.raw (Value.bool true)) E'
                                                  else
                                                    ∃ (zs : List Int),
                                                      ∃ (ds : List Int),
                                                        Bs E' b1 l1 c1 zs ∧
                                                          Bs E' b2 l2 c2 ds ∧
                                                            ∀ (b' : Option Addr) (l' c' : Nat) (ms : List (Int × List Int))
                                                              (e : Int) (E'_2 : Mem),
                                                              Mem.le E' E'_2 →
                                                                Hyp (progF a1 zs a2 ds = (ms, e)) →
                                                                  FL E'_2 b' l' c' ms →
                                                                    Mem.le E' E'_2 ∧
                                                                      ∃ (zs : List Int),
                                                                        ∃ (ds : List Int),
                                                                          Bs E'_2 b1 l1 c1 zs ∧
                                                                            Bs E'_2 b2 l2 c2 ds ∧
                                                                              ∀ (b'_2 : Option Addr) (l'_2 c'_2 : Nat)
                                                                                (ms : List (Int × List Int)) (e_2 : Int)
                                                                                (E' : Mem),
                                                                                Mem.le E'_2 E' →
                                                                                  Hyp (progF a1 zs a2 ds = (ms, e_2)) →
                                                                                    FL E' b'_2 l'_2 c'_2 ms →
                                                                                      Mem.le E'_2 E' ∧
                                                                                        ∃ (zs : List Int),
                                                                                          Bs E' b1 l1 c1 zs ∧
                                                                                            ∀ (b'_3 : Option Addr)
                                                                                              (l'_3 c'_3 : Nat)
                                                                                              (ms : List (Int × List Int))
                                                                                              (e_3 : Int) (E'_3 : Mem),
                                                                                              Mem.le E' E'_3 →
                                                                                                Hyp
                                                                                                    (erasF a1 zs a3 =
                                                                                                      (ms, e_3)) →
                                                                                                  FL E'_3 b'_3 l'_3 c'_3 ms →
                                                                                                    Mem.le E' E'_3 ∧
                                                                                                      ∃ (zs : List Int),
                                                                                                        Bs E'_3 b1 l1 c1 zs ∧
                                                                                                          ∀
                                                                                                            (b'_4 :
                                                                                                              Option Addr)
                                                                                                            (l'_4 c'_4 : Nat)
                                                                                                            (ms :
                                                                                                              List
                                                                                                                (Int ×
                                                                                                                  List Int))
                                                                                                            (e_4 : Int)
                                                                                                            (E' : Mem),
                                                                                                            Mem.le E'_3 E' →
                                                                                                              Hyp
                                                                                                                  (erasF a1 zs
                                                                                                                      a3 =
                                                                                                                    (ms,
                                                                                                                      e_4)) →
                                                                                                                FL E' b'_4
                                                                                                                    l'_4 c'_4
                                                                                                                    ms →
                                                                                                                  Mem.le E'_3
                                                                                                                      E' ∧
                                                                                                                    Mem.le E'
                                                                                                                        E' ∧
                                                                                                                      Mem.le
                                                                                                                          E'
                                                                                                                          E' ∧
                                                                                                                        bif
                                                                                                                            bif
                                                                                                                                true then
                                                                                                                              decide
                                                                                                                                  (validF
                                                                                                                                    a1
                                                                                                                                    l1) ==
                                                                                                                                decide
                                                                                                                                  (validF
                                                                                                                                    a1
                                                                                                                                    l1)
                                                                                                                            else
                                                                                                                              false then
                                                                                                                          bif
                                                                                                                              bif
                                                                                                                                  true then
                                                                                                                                e ==
                                                                                                                                  e_2
                                                                                                                              else
                                                                                                                                false then
                                                                                                                            ∃
                                                                                                                              (ms
                                                                                                                              :
                                                                                                                              List
                                                                                                                                (Int ×
                                                                                                                                  List
                                                                                                                                    Int)),
                                                                                                                              ∃
                                                                                                                                (ns
                                                                                                                                :
                                                                                                                                List
                                                                                                                                  (Int ×
                                                                                                                                    List
                                                                                                                                      Int)),
                                                                                                                                FL
                                                                                                                                    E'
                                                                                                                                    b'
                                                                                                                                    l'
                                                                                                                                    c'
                                                                                                                                    ms ∧
                                                                                                                                  FL
                                                                                                                                      E'
                                                                                                                                      b'_2
                                                                                                                                      l'_2
                                                                                                                                      c'_2
                                                                                                                                      ns ∧
                                                                                                                                    (∀
                                                                                                                                        (m :
                                                                                                                                          Int ×
                                                                                                                                            List
                                                                                                                                              Int),
                                                                                                                                        List.Mem
                                                                                                                                            m
                                                                                                                                            ms →
                                                                                                                                          List.length
                                                                                                                                              m.snd ≤
                                                                                                                                            (100000 :
                                                                                                                                              Nat)) ∧
                                                                                                                                      l' ≤
                                                                                                                                          (100000 :
                                                                                                                                            Nat) ∧
                                                                                                                                        Mem.le
                                                                                                                                            E'
                                                                                                                                            E' ∧
                                                                                                                                          bif
                                                                                                                                              bif
                                                                                                                                                  true then
                                                                                                                                                decide
                                                                                                                                                  (ms =
                                                                                                                                                    ns)
                                                                                                                                              else
                                                                                                                                                false then
                                                                                                                                            bif
                                                                                                                                                bif
                                                                                                                                                    true then
                                                                                                                                                  e_3 ==
                                                                                                                                                    e_4
                                                                                                                                                else
                                                                                                                                                  false then
                                                                                                                                              ∃
                                                                                                                                                (ms
                                                                                                                                                :
                                                                                                                                                List
                                                                                                                                                  (Int ×
                                                                                                                                                    List
                                                                                                                                                      Int)),
                                                                                                                                                ∃
                                                                                                                                                  (ns
                                                                                                                                                  :
                                                                                                                                                  List
                                                                                                                                                    (Int ×
                                                                                                                                                      List
                                                                                                                                                        Int)),
                                                                                                                                                  FL
                                                                                                                                                      E'
                                                                                                                                                      b'_3
                                                                                                                                                      l'_3
                                                                                                                                                      c'_3
                                                                                                                                                      ms ∧
                                                                                                                                                    FL
                                                                                                                                                        E'
                                                                                                                                                        b'_4
                                                                                                                                                        l'_4
                                                                                                                                                        c'_4
                                                                                                                                                        ns ∧
                                                                                                                                                      (∀
                                                                                                                                                          (m :
                                                                                                                                                            Int ×
                                                                                                                                                              List
                                                                                                                                                                Int),
                                                                                                                                                          List.Mem
                                                                                                                                                              m
                                                                                                                                                              ms →
                                                                                                                                                            List.length
                                                                                                                                                                m.snd ≤
                                                                                                                                                              (100000 :
                                                                                                                                                                Nat)) ∧
                                                                                                                                                        l'_3 ≤
                                                                                                                                                            (100000 :
                                                                                                                                                              Nat) ∧
                                                                                                                                                          Mem.le
                                                                                                                                                              E'
                                                                                                                                                              E' ∧
                                                                                                                                                            Mem.le
                                                                                                                                                                E
                                                                                                                                                                E' ∧
                                                                                                                                                              K
                                                                                                                                                                (SV.raw
                                                                                                                                                                  (Value.bool
                                                                                                                                                                    (bif
                                                                                                                                                                        true then
                                                                                                                                                                      decide
                                                                                                                                                                        (ms =
                                                                                                                                                                          ns)
                                                                                                                                                                    else
                                                                                                                                                                      false)))
                                                                                                                                                                E'
                                                                                                                                            else
                                                                                                                                              Mem.le
                                                                                                                                                  E
                                                                                                                                                  E' ∧
                                                                                                                                                K
                                                                                                                                                  (SV.raw
                                                                                                                                                    (Value.bool
                                                                                                                                                      false))
                                                                                                                                                  E'
                                                                                                                                          else
                                                                                                                                            Mem.le
                                                                                                                                                E
                                                                                                                                                E' ∧
                                                                                                                                              K
                                                                                                                                                (SV.raw
                                                                                                                                                  (Value.bool
                                                                                                                                                    false))
                                                                                                                                                E'
                                                                                                                          else
                                                                                                                            Mem.le
                                                                                                                                E
                                                                                                                                E' ∧
                                                                                                                              K
                                                                                                                                (SV.raw
                                                                                                                                  (Value.bool
                                                                                                                                    false))
                                                                                                                                E'
                                                                                                                        else
                                                                                                                          Mem.le
                                                                                                                              E
                                                                                                                              E' ∧
                                                                                                                            K
                                                                                                                              (SV.raw
                                                                                                                                (Value.bool
                                                                                                                                  false))
                                                                                                                              E')
  have z1l := hB1.2.1
  have z2l := hB2.2.1
  intro E1 q1
  refine ⟨q1, fun s1 b3 l3 c3 y3 e3 E2 q2 r2 B2 => ⟨q2, fun s2 b4 l4 c4 y4 e4 E3 q3 r3 B3 => ⟨q3, ?_⟩⟩⟩
  have r2 : newF a3 a4 = ((s1, y3), e3) := r2
  have r3 : newF a3 a4 = ((s2, y4), e4) := r3
  have hl := newF_len a3 a4
  rw [r2] at r3 hl
  obtain ⟨⟨rfl, rfl⟩, rfl⟩ : (s1 = s2 ∧ y3 = y4) ∧ e3 = e4 := by simpa using r3
  have k3 : Mem.le E E3 := Mem.le_trans q1 (Mem.le_trans q2 q3)
  refine condC (fun g => by simp at g) (fun _ => ⟨y3, y3, B2.mono q3, B3, by rw [← B2.2.1]; have hl : y3.length ≤ 16384 := hl; omega, Mem.le_refl _, condC (fun g => by simp at g) (fun _ => condC (fun g => ⟨k3, h E3 k3⟩) (fun g1 => condC (fun g => ⟨k3, h E3 k3⟩) (fun g2 => ?_)))⟩)
  have g1 : l1 ≤ 300 := by simp at g1; omega
  have g2 : l2 ≤ 300 := by simp at g2; omega
  refine ⟨z1, z2, hB1.mono k3, hB2.mono k3, fun b5 l5 c5 m5 e5 E5 q5 r5 F5 => ⟨q5, z1, z2, hB1.mono (Mem.le_trans k3 q5), hB2.mono (Mem.le_trans k3 q5), fun b6 l6 c6 m6 e6 E6 q6 r6 F6 => ⟨q6, z1, hB1.mono (Mem.le_trans k3 (Mem.le_trans q5 q6)), fun b7 l7 c7 m7 e7 E7 q7 r7 F7 => ⟨q7, z1, hB1.mono (Mem.le_trans k3 (Mem.le_trans q5 (Mem.le_trans q6 q7))), fun b8 l8 c8 m8 e8 E8 q8 r8 F8 => ⟨q8, Mem.le_refl _, Mem.le_refl _, ?_⟩⟩⟩⟩⟩
  have r5 : progF a1 z1 a2 z2 = (m5, e5) := r5
  have r6 : progF a1 z1 a2 z2 = (m6, e6) := r6
  have r7 : erasF a1 z1 a3 = (m7, e7) := r7
  have r8 : erasF a1 z1 a3 = (m8, e8) := r8
  have el5 := progF_el a1 z1 a2 z2
  have ln5 := progF_len a1 z1 a2 z2
  have el7 := erasF_el a1 z1 a3
  have ln7 := erasF_len a1 z1 a3
  rw [r5] at r6 el5 ln5
  rw [r7] at r8 el7 ln7
  obtain ⟨rfl, rfl⟩ : m5 = m6 ∧ e5 = e6 := by simpa using r6
  obtain ⟨rfl, rfl⟩ : m7 = m8 ∧ e7 = e8 := by simpa using r8
  have n5 := F5.len
  have n7 := F7.len
  have ln5 : m5.length ≤ z2.length + 1 := ln5
  have ln7 : m7.length ≤ 1025 := ln7
  have k8 : Mem.le E E8 := Mem.le_trans k3 (Mem.le_trans q5 (Mem.le_trans q6 (Mem.le_trans q7 q8)))
  refine condC (fun _ => condC (fun _ => ⟨m5, m5, F5.mono (Mem.le_trans q6 (Mem.le_trans q7 q8)), F6.mono (Mem.le_trans q7 q8), fun m hm => by have := (el5 m hm).1; omega, by omega, Mem.le_refl _, condC (fun _ => condC (fun _ => ⟨m7, m7, F7.mono q8, F8, fun m hm => by have := (el7 m hm).1; omega, by omega, Mem.le_refl _, k8, ?_⟩) (fun g => by simp at g)) (fun g => by simp at g)⟩) (fun g => by simp at g)) (fun g => by simp at g)
  have := h E8 k8
  simpa using this


theorem opn3 (W : World) (K : List SV → Prop) (h : ∀ a1 : Int, (Lit.int .i64 a1).wf = true → ∀ (b1 : Option Addr) (l1 c1 : Nat) (z1 : List Int), (l1 ≤ c1) → (c1 ≤ maxLen) → (b1 = none → c1 = 0) → (z1.length = c1) → (∀ x ∈ z1, (Lit.int .u8 x).wf = true) → RowAt W (.slice b1 l1 c1) (z1.map (.int .u8)) → ∀ a2 : Int, (Lit.int .i64 a2).wf = true → ∀ (b2 : Option Addr) (l2 c2 : Nat) (z2 : List Int), (l2 ≤ c2) → (c2 ≤ maxLen) → (b2 = none → c2 = 0) → (z2.length = c2) → (∀ x ∈ z2, (Lit.int .u8 x).wf = true) → RowAt W (.slice b2 l2 c2) (z2.map (.int .u8)) → ∀ a3 : Int, (Lit.int .i64 a3).wf = true → ∀ a4 : Int, (Lit.int .i64 a4).wf = true → K [.agg [I a1, L b1 l1 c1], I a2, L b2 l2 c2, I a3, I a4]) : opnAll Try.prog W Try.f3.params.toList K :=
  same (by kernel_rfl) h

theorem sem3 (W : World) : opnAll Try.prog W Try.f3.params.toList fun ss => TabSem Try.prog 3 ss (fun v cs => RowAt W v cs) fun r _ => r = .raw (.bool true) := by
  refine opn3 W _ ?_
  intro a1 ha1 b1 l1 c1 z1 hl1 hc1 hb1 hz1 hw1 hE1 a2 ha2 b2 l2 c2 z2 hl2 hc2 hb2 hz2 hw2 hE2 a3 ha3 a4 ha4
  exact Ent.sem okWL3 Try.func3 ⟨by kernel_rfl, by kernel_rfl⟩ rfl (e3 ha1 (Bs.of hl1 hb1 hz1 hw1 hE1) ha2 (Bs.of hl2 hb2 hz2 hw2 hE2) ha3 ha4 (fun _ _ => rfl))

theorem lifted3 (os : Os) (started : os.Started) (H : Type) (enc : TypeId × Value → H) :
    ReturnsInHanded {} Try.checked os 3 .any (Rows.flashMatchesReferenceSpec.pre6 enc Try.prog Try.f3 Rows.flashMatchesReferenceRow.domain false) (Rows.flashMatchesReferenceSpec.post enc Try.prog Try.f3 false true false false) :=
  lift_true (C := Try.checked) (by kernel_rfl) (by kernel_rfl) started (by kernel_rfl) Try.func3
    (ChangeSpec.witness6 (enc := enc) (C := Try.checked) false ⟨#[], #[.agg #[.int .i64 0, .slice none 0 0], .int .i64 0, .slice none 0 0, .int .i64 0, .int .i64 0], []⟩ 8 (by kernel_rfl) (by kernel_rfl) (by kernel_rfl) (by kernel_rfl))
    (Tb := 4) (by kernel_rfl) (by kernel_rfl) (by kernel_rfl) rfl
    (fun ds hl => by
      match ds, hl with
      | [d0, d1, d2, d3, d4], _ => exact ⟨rfl, rfl, rfl⟩)
    sem3

theorem over3 : Rows.flashMatchesReferenceRow.holds Try.pinned (OpenSpec.ofChange Rows.flashMatchesReferenceSpec) :=
  OpenClaim.holds_of_wide 3 Try.f3 rfl rfl rfl rfl rfl rfl rfl ⟨rfl, rfl, rfl, rfl, rfl⟩ rfl rfl rfl rfl rfl (by kernel_rfl) Try.func3 (by kernel_rfl)
    (of_decide_eq_true (by kernel_rfl)) (by unfold Func.isWrapper; first | (rw [if_pos (by decide +kernel)]; kernel_rfl) | (rw [if_neg (by decide +kernel)]; exact ⟨rfl, rfl⟩))
    (fun os started H enc _ => lifted3 os started H enc)

theorem proved3 : Rows.FlashMatchesReferenceSaid := over3
end Go.Proofs.Ythgdbpnddnbbdaa.FlashOwn
