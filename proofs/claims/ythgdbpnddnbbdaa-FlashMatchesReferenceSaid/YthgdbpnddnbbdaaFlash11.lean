/- The flash package: what its functions answer. -/
import Derived.Test.YthgdbpnddnbbdaaFlash10
namespace Go.Proofs.Ythgdbpnddnbbdaa.FlashOwn
open Go Go.Sx
set_option maxRecDepth 100000
set_option maxHeartbeats 4000000
set_option linter.unusedVariables false
set_option linter.unusedSimpArgs false
variable {E : Mem} {K : SV → Mem → Prop}
noncomputable def tabH : FuncId → List SV → Mem → (SV → Mem → Prop) → Prop := fun f args E K => match f with
  | 11 => d2 args fun x0 x1 => dI x0 fun a1 => dI x1 fun a2 => (∀ (s' : Int) (b' : Option Addr) (l' c' : Nat) (ys : List Int) (e : Int) (E' : Mem), Mem.le E E' → Hyp (newF a1 a2 = ((s', ys), e)) → Bs E' b' l' c' ys → K (.tup [.agg [I s', L b' l' c'], I e]) E')
  | 13 => d2 args fun x0 x1 => dC x0 fun l1 => d2 l1 fun x0_0 x0_1 => dI x0_0 fun a1 => dS x0_1 fun b2 l3 c4 => dC x1 fun l2 => d2 l2 fun x1_0 x1_1 => dI x1_0 fun a5 => dS x1_1 fun b6 l7 c8 => ∃ (zs : List Int) (ys : List Int), Bs E b2 l3 c4 zs ∧ Bs E b6 l7 c8 ys ∧ l3 ≤ 100000 ∧ (K (B (decide (a1 = a5 ∧ zs = ys))) E)
  | 14 => d3 args fun x0 x1 x2 => dC x0 fun l1 => d2 l1 fun x0_0 x0_1 => dI x0_0 fun a1 => dS x0_1 fun b2 l3 c4 => dI x1 fun a5 => dS x2 fun b6 l7 c8 => ∃ (zs : List Int) (ds : List Int), Bs E b2 l3 c4 zs ∧ Bs E b6 l7 c8 ds ∧ (∀ (b' : Option Addr) (l' c' : Nat) (ms : List (Int × List Int)) (e : Int) (E' : Mem), Mem.le E E' → Hyp (progF a1 zs a5 ds = (ms, e)) → FL E' b' l' c' ms → K (.tup [L b' l' c', I e]) E')
  | 16 => d2 args fun x0 x1 => dC x0 fun l1 => d2 l1 fun x0_0 x0_1 => dI x0_0 fun a1 => dS x0_1 fun b2 l3 c4 => dI x1 fun a5 => ∃ (zs : List Int), Bs E b2 l3 c4 zs ∧ (∀ (b' : Option Addr) (l' c' : Nat) (ms : List (Int × List Int)) (e : Int) (E' : Mem), Mem.le E E' → Hyp (erasF a1 zs a5 = (ms, e)) → FL E' b' l' c' ms → K (.tup [L b' l' c', I e]) E')
  | 18 => d1 args fun x0 => dC x0 fun l1 => d2 l1 fun x0_0 x0_1 => dI x0_0 fun a1 => dS x0_1 fun b2 l3 c4 => (K (B (decide (validF a1 l3))) E)
  | 23 => d3 args fun x0 x1 x2 => dS x0 fun b1 l2 c3 => dI x1 fun a4 => dI x2 fun a5 => ∃ (ms : List (Int × List Int)), FL E b1 l2 c3 ms ∧ (l2 ≤ 100000) ∧ (∀ (s' : Int) (b' : Option Addr) (l' c' : Nat) (ys : List Int) (ok : Bool) (E' : Mem), Mem.le E E' → Hyp (lastF ms a4 a5 = ((s', ys), ok)) → Bs E' b' l' c' ys → K (.tup [.agg [I s', L b' l' c'], B ok]) E')
  | 24 => d2 args fun x0 x1 => dC x0 fun l1 => d2 l1 fun x0_0 x0_1 => dI x0_0 fun a1 => dS x0_1 fun b2 l3 c4 => dS x1 fun b5 l6 c7 => ∃ (zs : List Int) (ys : List Int), Bs E b2 l3 c4 zs ∧ Bs E b5 l6 c7 ys ∧ l3 ≤ 100000 ∧ (K (B (decide (a1 = 2 ∧ zs = ys))) E)
  | _ => False
theorem tabH_ok : TabOK Try.prog tabH := by
  intro f args E K h
  unfold tabH at h
  split at h
  · replace h := d2_elim h
    obtain ⟨x0, x1, rfl, h⟩ := h
    replace h := dI_elim h
    obtain ⟨a1, rfl, h⟩ := h
    replace h := dI_elim h
    obtain ⟨a2, rfl, h⟩ := h
    exact TabSem.congr (valL_cons rfl (valL_cons rfl rfl)) (Ent.sem okF8 Try.func11 ⟨by kernel_rfl, by kernel_rfl⟩ rfl (s11 h))
  · replace h := d2_elim h
    obtain ⟨x0, x1, rfl, h⟩ := h
    replace h := dC_elim h
    obtain ⟨l1, hl1, h⟩ := h
    replace h := d2_elim h
    obtain ⟨x0_0, x0_1, rfl, h⟩ := h
    replace h := dI_elim h
    obtain ⟨a1, rfl, h⟩ := h
    replace h := dS_elim h
    obtain ⟨b2, l3, c4, rfl, h⟩ := h
    replace h := dC_elim h
    obtain ⟨l2, hl2, h⟩ := h
    replace h := d2_elim h
    obtain ⟨x1_0, x1_1, rfl, h⟩ := h
    replace h := dI_elim h
    obtain ⟨a5, rfl, h⟩ := h
    replace h := dS_elim h
    obtain ⟨b6, l7, c8, rfl, h⟩ := h
    obtain ⟨zs, ys, g0, g1, g2, h⟩ := h
    exact TabSem.congr (valL_cons (asCells_val hl1) (valL_cons (asCells_val hl2) rfl)) (Ent.sem okFA Try.func13 ⟨by kernel_rfl, by kernel_rfl⟩ rfl (s13 g0 g1 g2 h))
  · replace h := d3_elim h
    obtain ⟨x0, x1, x2, rfl, h⟩ := h
    replace h := dC_elim h
    obtain ⟨l1, hl1, h⟩ := h
    replace h := d2_elim h
    obtain ⟨x0_0, x0_1, rfl, h⟩ := h
    replace h := dI_elim h
    obtain ⟨a1, rfl, h⟩ := h
    replace h := dS_elim h
    obtain ⟨b2, l3, c4, rfl, h⟩ := h
    replace h := dI_elim h
    obtain ⟨a5, rfl, h⟩ := h
    replace h := dS_elim h
    obtain ⟨b6, l7, c8, rfl, h⟩ := h
    obtain ⟨zs, ds, g0, g1, h⟩ := h
    exact TabSem.congr (valL_cons (asCells_val hl1) (valL_cons rfl (valL_cons rfl rfl))) (Ent.sem okF3 Try.func14 ⟨by kernel_rfl, by kernel_rfl⟩ rfl (s14 g0 g1 h))
  · replace h := d2_elim h
    obtain ⟨x0, x1, rfl, h⟩ := h
    replace h := dC_elim h
    obtain ⟨l1, hl1, h⟩ := h
    replace h := d2_elim h
    obtain ⟨x0_0, x0_1, rfl, h⟩ := h
    replace h := dI_elim h
    obtain ⟨a1, rfl, h⟩ := h
    replace h := dS_elim h
    obtain ⟨b2, l3, c4, rfl, h⟩ := h
    replace h := dI_elim h
    obtain ⟨a5, rfl, h⟩ := h
    obtain ⟨zs, g0, h⟩ := h
    exact TabSem.congr (valL_cons (asCells_val hl1) (valL_cons rfl rfl)) (Ent.sem okF4 Try.func16 ⟨by kernel_rfl, by kernel_rfl⟩ rfl (s16 g0 h))
  · replace h := d1_elim h
    obtain ⟨x0, rfl, h⟩ := h
    replace h := dC_elim h
    obtain ⟨l1, hl1, h⟩ := h
    replace h := d2_elim h
    obtain ⟨x0_0, x0_1, rfl, h⟩ := h
    replace h := dI_elim h
    obtain ⟨a1, rfl, h⟩ := h
    replace h := dS_elim h
    obtain ⟨b2, l3, c4, rfl, h⟩ := h
    exact TabSem.congr (valL_cons (asCells_val hl1) rfl) (Ent.sem okF5 Try.func18 ⟨by kernel_rfl, by kernel_rfl⟩ rfl (s18 h))
  · replace h := d3_elim h
    obtain ⟨x0, x1, x2, rfl, h⟩ := h
    replace h := dS_elim h
    obtain ⟨b1, l2, c3, rfl, h⟩ := h
    replace h := dI_elim h
    obtain ⟨a4, rfl, h⟩ := h
    replace h := dI_elim h
    obtain ⟨a5, rfl, h⟩ := h
    obtain ⟨ms, g0, g1, h⟩ := h
    exact TabSem.congr (valL_cons rfl (valL_cons rfl (valL_cons rfl rfl))) (Ent.sem okFG Try.func23 ⟨by kernel_rfl, by kernel_rfl⟩ rfl (s23 g0 g1 h))
  · replace h := d2_elim h
    obtain ⟨x0, x1, rfl, h⟩ := h
    replace h := dC_elim h
    obtain ⟨l1, hl1, h⟩ := h
    replace h := d2_elim h
    obtain ⟨x0_0, x0_1, rfl, h⟩ := h
    replace h := dI_elim h
    obtain ⟨a1, rfl, h⟩ := h
    replace h := dS_elim h
    obtain ⟨b2, l3, c4, rfl, h⟩ := h
    replace h := dS_elim h
    obtain ⟨b5, l6, c7, rfl, h⟩ := h
    obtain ⟨zs, ys, g0, g1, g2, h⟩ := h
    exact TabSem.congr (valL_cons (asCells_val hl1) (valL_cons rfl rfl)) (Ent.sem okFE Try.func24 ⟨by kernel_rfl, by kernel_rfl⟩ rfl (s24 g0 g1 g2 h))
  · exact h.elim
noncomputable def FI : Cx := { P := Try.prog, inl := fun f => List.contains [] f, tab := tabH, isB := fun _ => false, tabB := fun _ _ _ _ _ => False, opt := { unroll := 0, carry := [] }, muts := mutsD }
theorem okFI : CxOK FI := CxOK.four tabH_ok (by kernel_rfl) (okInl (by kernel_rfl)) (fun _ _ _ _ _ h => h.elim)

theorem win4 {base : Option Addr} {E : Mem} {zs : List Int} (h : WinE E base (vB zs)) (hz : ∀ z ∈ zs, 0 ≤ z ∧ z ≤ 255) : Bs E (base.map fun x => x.add 0) zs.length zs.length zs := Bs.win h rfl rfl (Nat.le_refl _) hz
theorem hd1 : progF 2 [255, 255, 255, 255] 1 [240, 15] = ([(2, [255, 255, 255, 255]), (2, [255, 240, 255, 255]), (2, [255, 240, 15, 255])], 0) := by decide +kernel
theorem hd2 : lastF [(2, [255, 255, 255, 255]), (2, [255, 240, 255, 255]), (2, [255, 240, 15, 255])] 0 3 = ((2, [255, 240, 15, 255]), true) := by decide +kernel
theorem hd3 : progF 2 [255, 240, 15, 255] 1 [51] = ([(2, [255, 240, 15, 255]), (2, [255, 48, 15, 255])], 0) := by decide +kernel
theorem hd4 : lastF [(2, [255, 240, 15, 255]), (2, [255, 48, 15, 255])] 0 2 = ((2, [255, 48, 15, 255]), true) := by decide +kernel
theorem hd5 : erasF 2 [255, 48, 15, 255] 0 = ([(2, [255, 48, 15, 255]), (2, [255, 48, 15, 255]), (2, [255, 255, 15, 255])], 0) := by decide +kernel
theorem hd6 : lastF [(2, [255, 48, 15, 255]), (2, [255, 48, 15, 255]), (2, [255, 255, 15, 255])] 0 3 = ((2, [255, 255, 15, 255]), true) := by decide +kernel
theorem hd7 : progF 2 [255, 255, 255, 255] 3 [1, 2] = ([], 3) := by decide +kernel
theorem hd8 : erasF 2 [255, 255, 255, 255] 2 = ([], 1) := by decide +kernel
theorem bytes_dec (zs : List Int) (h : zs.all (fun z => decide (0 ≤ z) && decide (z ≤ 255)) = true) : ∀ z ∈ zs, 0 ≤ z ∧ z ≤ 255 := fun z hz => by simpa using List.all_eq_true.1 h z hz
theorem s10  (h : ∀ E' : Mem, Mem.le E E' → K (B true) E') :
    Ent FI 8 Try.f10 [] E K := by
  refine same (by kernel_rfl) (?_ : 
      ∀ (s' : Int) (b' : Option Addr) (l' c' : Nat) (ys : List Int) (e : Int) (E' : Mem),
        Mem.le E E' →
          Hyp ((((2 : Int), [(255 : Int), (255 : Int), (255 : Int), (255 : Int)]), (0 : Int)) = ((s', ys), e)) →
            Bs E' b' l' c' ys →
              Mem.le E E' ∧
                ∀ (base : Option Addr) (E'_1 : Mem),
                  Mem.le E' E'_1 →
                    WinE E'_1 base [Value.int IntKind.u8 (240 : Int), Value.int IntKind.u8 (15 : Int)] →
                      ∃ (zs : List Int),
                        ∃ (ds : List Int),
                          Bs E'_1 b' l' c' zs ∧
                            Bs E'_1 (Option.map (fun (x : Addr) => Addr.add x 0) base) 2 2 ds ∧
                              ∀ (b'_1 : Option Addr) (l'_1 c'_1 : Nat) (ms : List (Int × List Int)) (e_1 : Int) (E' : Mem),
                                Mem.le E'_1 E' →
                                  Hyp (progF s' zs (1 : Int) ds = (ms, e_1)) →
                                    FL E' b'_1 l'_1 c'_1 ms →
                                      ∃ (ms : List (Int × List Int)),
                                        FL E' b'_1 l'_1 c'_1 ms ∧
                                          l'_1 ≤ 100000 ∧
                                            ∀ (s'_1 : Int) (b'_2 : Option Addr) (l'_2 c'_2 : Nat) (ys : List Int) (ok : Bool)
                                              (E'_2 : Mem),
                                              Mem.le E' E'_2 →
                                                Hyp (lastF ms e_1 (3 : Int) = ((s'_1, ys), ok)) →
                                                  Bs E'_2 b'_2 l'_2 c'_2 ys →
                                                    Mem.le E' E'_2 ∧
                                                      ∀ (base : Option Addr) (E' : Mem),
                                                        Mem.le E'_2 E' →
                                                          WinE E' base [Value.int IntKind.u8 (51 : Int)] →
                                                            ∃ (zs : List Int),
                                                              ∃ (ds : List Int),
                                                                Bs E' b'_2 l'_2 c'_2 zs ∧
                                                                  Bs E'
                                                                      (Option.map (fun (x : Addr) => Addr.add x 0)
                                                                        base)
                                                                      1 1 ds ∧
                                                                    ∀ (b'_3 : Option Addr) (l'_3 c'_3 : Nat)
                                                                      (ms : List (Int × List Int)) (e_2 : Int) (E'_3 : Mem),
                                                                      Mem.le E' E'_3 →
                                                                        Hyp (progF s'_1 zs (1 : Int) ds = (ms, e_2)) →
                                                                          FL E'_3 b'_3 l'_3 c'_3 ms →
                                                                            ∃ (ms : List (Int × List Int)),
                                                                              FL E'_3 b'_3 l'_3 c'_3 ms ∧
                                                                                l'_3 ≤ 100000 ∧
                                                                                  ∀ (s'_2 : Int) (b'_4 : Option Addr)
                                                                                    (l'_4 c'_4 : Nat) (ys : List Int)
                                                                                    (ok_1 : Bool) (E' : Mem),
                                                                                    Mem.le E'_3 E' →
                                                                                      Hyp
                                                                                          (lastF ms e_2 (2 : Int) =
                                                                                            ((s'_2, ys), ok_1)) →
                                                                                        Bs E' b'_4 l'_4 c'_4 ys →
                                                                                          Mem.le E'_3 E' ∧
                                                                                            ∃ (zs : List Int),
                                                                                              Bs E' b'_4 l'_4 c'_4 zs ∧
                                                                                                ∀ (b'_5 : Option Addr)
                                                                                                  (l'_5 c'_5 : Nat)
                                                                                                  (ms : List (Int × List Int))
                                                                                                  (e_3 : Int) (E'_4 : Mem),
                                                                                                  Mem.le E' E'_4 →
                                                                                                    Hyp
                                                                                                        (erasF s'_2 zs
                                                                                                            (0 : Int) =
                                                                                                          (ms, e_3)) →
                                                                                                      FL E'_4 b'_5 l'_5 c'_5
                                                                                                          ms →
                                                                                                        Mem.le E' E'_4 ∧
                                                                                                          ∃ (ms :
                                                                                                            List
                                                                                                              (Int ×
                                                                                                                List Int)),
                                                                                                            FL E'_4 b'_5 l'_5
                                                                                                                c'_5 ms ∧
                                                                                                              l'_5 ≤
                                                                                                                  (100000 :
                                                                                                                    Nat) ∧
                                                                                                                ∀ (s'_3 : Int)
                                                                                                                  (b'_6 :
                                                                                                                    Option
                                                                                                                      Addr)
                                                                                                                  (l'_6 c'_6 :
                                                                                                                    Nat)
                                                                                                                  (ys :
                                                                                                                    List Int)
                                                                                                                  (ok_2 :
                                                                                                                    Bool)
                                                                                                                  (E' : Mem),
                                                                                                                  Mem.le E'_4
                                                                                                                      E' →
                                                                                                                    Hyp
                                                                                                                        (lastF
                                                                                                                            ms
                                                                                                                            e_3
                                                                                                                            (3 :
                                                                                                                              Int) =
                                                                                                                          ((s'_3,
                                                                                                                              ys),
                                                                                                                            ok_2)) →
                                                                                                                      Bs E'
                                                                                                                          b'_6
                                                                                                                          l'_6
                                                                                                                          c'_6
                                                                                                                          ys →
                                                                                                                        Mem.le
                                                                                                                            E'_4
                                                                                                                            E' ∧
                                                                                                                          ∀
                                                                                                                            (base :
                                                                                                                              Option
                                                                                                                                Addr)
                                                                                                                            (E'_5 :
                                                                                                                              Mem),
                                                                                                                            Mem.le
                                                                                                                                E'
                                                                                                                                E'_5 →
                                                                                                                              WinE
                                                                                                                                  E'_5
                                                                                                                                  base
                                                                                                                                  [Value.int
                                                                                                                                      IntKind.u8
                                                                                                                                      (1 :
                                                                                                                                        Int),
                                                                                                                                    Value.int
                                                                                                                                      IntKind.u8
                                                                                                                                      (2 :
                                                                                                                                        Int)] →
                                                                                                                                ∃
                                                                                                                                  (zs
                                                                                                                                  :
                                                                                                                                  List
                                                                                                                                    Int),
                                                                                                                                  ∃
                                                                                                                                    (ds
                                                                                                                                    :
                                                                                                                                    List
                                                                                                                                      Int),
                                                                                                                                    Bs
                                                                                                                                        E'_5
                                                                                                                                        b'
                                                                                                                                        l'
                                                                                                                                        c'
                                                                                                                                        zs ∧
                                                                                                                                      Bs
                                                                                                                                          E'_5
                                                                                                                                          (Option.map
                                                                                                                                            (fun
                                                                                                                                                (x :
                                                                                                                                                  Addr) =>
                                                                                                                                              Addr.add
                                                                                                                                                x
                                                                                                                                                (0 :
                                                                                                                                                  Nat))
                                                                                                                                            base)
                                                                                                                                          (2 :
                                                                                                                                            Nat)
                                                                                                                                          (2 :
                                                                                                                                            Nat)
                                                                                                                                          ds ∧
                                                                                                                                        ∀
                                                                                                                                          (b'_7 :
                                                                                                                                            Option
                                                                                                                                              Addr)
                                                                                                                                          (l'_7
                                                                                                                                            c'_7 :
                                                                                                                                            Nat)
                                                                                                                                          (ms :
                                                                                                                                            List
                                                                                                                                              (Int ×
                                                                                                                                                List
                                                                                                                                                  Int))
                                                                                                                                          (e_4 :
                                                                                                                                            Int)
                                                                                                                                          (E' :
                                                                                                                                            Mem),
                                                                                                                                          Mem.le
                                                                                                                                              E'_5
                                                                                                                                              E' →
                                                                                                                                            Hyp
                                                                                                                                                (progF
                                                                                                                                                    s'
                                                                                                                                                    zs
                                                                                                                                                    (3 :
                                                                                                                                                      Int)
                                                                                                                                                    ds =
                                                                                                                                                  (ms,
                                                                                                                                                    e_4)) →
                                                                                                                                              FL
                                                                                                                                                  E'
                                                                                                                                                  b'_7
                                                                                                                                                  l'_7
                                                                                                                                                  c'_7
                                                                                                                                                  ms →
                                                                                                                                                ∃
                                                                                                                                                  (zs
                                                                                                                                                  :
                                                                                                                                                  List
                                                                                                                                                    Int),
                                                                                                                                                  Bs
                                                                                                                                                      E'
                                                                                                                                                      b'
                                                                                                                                                      l'
                                                                                                                                                      c'
                                                                                                                                                      zs ∧
                                                                                                                                                    ∀
                                                                                                                                                      (b'_8 :
                                                                                                                                                        Option
                                                                                                                                                          Addr)
                                                                                                                                                      (l'_8
                                                                                                                                                        c'_8 :
                                                                                                                                                        Nat)
                                                                                                                                                      (ms :
                                                                                                                                                        List
                                                                                                                                                          (Int ×
                                                                                                                                                            List
                                                                                                                                                              Int))
                                                                                                                                                      (e_5 :
                                                                                                                                                        Int)
                                                                                                                                                      (E'_6 :
                                                                                                                                                        Mem),
                                                                                                                                                      Mem.le
                                                                                                                                                          E'
                                                                                                                                                          E'_6 →
                                                                                                                                                        Hyp
                                                                                                                                                            (erasF
                                                                                                                                                                s'
                                                                                                                                                                zs
                                                                                                                                                                (2 :
                                                                                                                                                                  Int) =
                                                                                                                                                              (ms,
                                                                                                                                                                e_5)) →
                                                                                                                                                          FL
                                                                                                                                                              E'_6
                                                                                                                                                              b'_8
                                                                                                                                                              l'_8
                                                                                                                                                              c'_8
                                                                                                                                                              ms →
                                                                                                                                                            Mem.le
                                                                                                                                                                E'
                                                                                                                                                                E'_6 ∧
                                                                                                                                                              bif
                                                                                                                                                                  e ==
                                                                                                                                                                    (0 :
                                                                                                                                                                      Int) then
                                                                                                                                                                bif
                                                                                                                                                                    bif
                                                                                                                                                                        true then
                                                                                                                                                                      ok
                                                                                                                                                                    else
                                                                                                                                                                      false then
                                                                                                                                                                  bif
                                                                                                                                                                      bif
                                                                                                                                                                          true then
                                                                                                                                                                        ok_1
                                                                                                                                                                      else
                                                                                                                                                                        false then
                                                                                                                                                                    bif
                                                                                                                                                                        bif
                                                                                                                                                                            true then
                                                                                                                                                                          ok_2
                                                                                                                                                                        else
                                                                                                                                                                          false then
                                                                                                                                                                      bif
                                                                                                                                                                          bif
                                                                                                                                                                              true then
                                                                                                                                                                            e_4 ==
                                                                                                                                                                              (3 :
                                                                                                                                                                                Int)
                                                                                                                                                                          else
                                                                                                                                                                            false then
                                                                                                                                                                        bif
                                                                                                                                                                            bif
                                                                                                                                                                                true then
                                                                                                                                                                              e_5 ==
                                                                                                                                                                                (1 :
                                                                                                                                                                                  Int)
                                                                                                                                                                            else
                                                                                                                                                                              false then
                                                                                                                                                                          Mem.le
                                                                                                                                                                              E'_6
                                                                                                                                                                              E'_6 ∧
                                                                                                                                                                            bif
                                                                                                                                                                                bif
                                                                                                                                                                                    true then
                                                                                                                                                                                  decide
                                                                                                                                                                                    (validF
                                                                                                                                                                                      s'
                                                                                                                                                                                      l')
                                                                                                                                                                                else
                                                                                                                                                                                  false then
                                                                                                                                                                              Mem.le
                                                                                                                                                                                  E'_6
                                                                                                                                                                                  E'_6 ∧
                                                                                                                                                                                ∀
                                                                                                                                                                                  (base :
                                                                                                                                                                                    Option
                                                                                                                                                                                      Addr)
                                                                                                                                                                                  (E' :
                                                                                                                                                                                    Mem),
                                                                                                                                                                                  Mem.le
                                                                                                                                                                                      E'_6
                                                                                                                                                                                      E' →
                                                                                                                                                                                    WinE
                                                                                                                                                                                        E'
                                                                                                                                                                                        base
                                                                                                                                                                                        [Value.int
                                                                                                                                                                                            IntKind.u8
                                                                                                                                                                                            (255 :
                                                                                                                                                                                              Int),
                                                                                                                                                                                          Value.int
                                                                                                                                                                                            IntKind.u8
                                                                                                                                                                                            (255 :
                                                                                                                                                                                              Int),
                                                                                                                                                                                          Value.int
                                                                                                                                                                                            IntKind.u8
                                                                                                                                                                                            (255 :
                                                                                                                                                                                              Int),
                                                                                                                                                                                          Value.int
                                                                                                                                                                                            IntKind.u8
                                                                                                                                                                                            (255 :
                                                                                                                                                                                              Int)] →
                                                                                                                                                                                      ∃
                                                                                                                                                                                        (zs
                                                                                                                                                                                        :
                                                                                                                                                                                        List
                                                                                                                                                                                          Int),
                                                                                                                                                                                        ∃
                                                                                                                                                                                          (ys
                                                                                                                                                                                          :
                                                                                                                                                                                          List
                                                                                                                                                                                            Int),
                                                                                                                                                                                          Bs
                                                                                                                                                                                              E'
                                                                                                                                                                                              b'
                                                                                                                                                                                              l'
                                                                                                                                                                                              c'
                                                                                                                                                                                              zs ∧
                                                                                                                                                                                            Bs
                                                                                                                                                                                                E'
                                                                                                                                                                                                (Option.map
                                                                                                                                                                                                  (fun
                                                                                                                                                                                                      (x :
                                                                                                                                                                                                        Addr) =>
                                                                                                                                                                                                    Addr.add
                                                                                                                                                                                                      x
                                                                                                                                                                                                      (0 :
                                                                                                                                                                                                        Nat))
                                                                                                                                                                                                  base)
                                                                                                                                                                                                (4 :
                                                                                                                                                                                                  Nat)
                                                                                                                                                                                                (4 :
                                                                                                                                                                                                  Nat)
                                                                                                                                                                                                ys ∧
                                                                                                                                                                                              l' ≤
                                                                                                                                                                                                  (100000 :
                                                                                                                                                                                                    Nat) ∧
                                                                                                                                                                                                bif
                                                                                                                                                                                                    bif
                                                                                                                                                                                                        true then
                                                                                                                                                                                                      decide
                                                                                                                                                                                                        (s' =
                                                                                                                                                                                                            (2 :
                                                                                                                                                                                                              Int) ∧
                                                                                                                                                                                                          zs =
                                                                                                                                                                                                            ys)
                                                                                                                                                                                                    else
                                                                                                                                                                                                      false then
                                                                                                                                                                                                  ∀
                                                                                                                                                                                                    (base :
                                                                                                                                                                                                      Option
                                                                                                                                                                                                        Addr)
                                                                                                                                                                                                    (E'_7 :
                                                                                                                                                                                                      Mem),
                                                                                                                                                                                                    Mem.le
                                                                                                                                                                                                        E'
                                                                                                                                                                                                        E'_7 →
                                                                                                                                                                                                      WinE
                                                                                                                                                                                                          E'_7
                                                                                                                                                                                                          base
                                                                                                                                                                                                          [Value.int
                                                                                                                                                                                                              IntKind.u8
                                                                                                                                                                                                              (255 :
                                                                                                                                                                                                                Int),
                                                                                                                                                                                                            Value.int
                                                                                                                                                                                                              IntKind.u8
                                                                                                                                                                                                              (240 :
                                                                                                                                                                                                                Int),
                                                                                                                                                                                                            Value.int
                                                                                                                                                                                                              IntKind.u8
                                                                                                                                                                                                              (15 :
                                                                                                                                                                                                                Int),
                                                                                                                                                                                                            Value.int
                                                                                                                                                                                                              IntKind.u8
                                                                                                                                                                                                              (255 :
                                                                                                                                                                                                                Int)] →
                                                                                                                                                                                                        ∃
                                                                                                                                                                                                          (zs
                                                                                                                                                                                                          :
                                                                                                                                                                                                          List
                                                                                                                                                                                                            Int),
                                                                                                                                                                                                          ∃
                                                                                                                                                                                                            (ys
                                                                                                                                                                                                            :
                                                                                                                                                                                                            List
                                                                                                                                                                                                              Int),
                                                                                                                                                                                                            Bs
                                                                                                                                                                                                                E'_7
                                                                                                                                                                                                                b'_2
                                                                                                                                                                                                                l'_2
                                                                                                                                                                                                                c'_2
                                                                                                                                                                                                                zs ∧
                                                                                                                                                                                                              Bs
                                                                                                                                                                                                                  E'_7
                                                                                                                                                                                                                  (Option.map
                                                                                                                                                                                                                    (fun
                                                                                                                                                                                                                        (x :
                                                                                                                                                                                                                          Addr) =>
                                                                                                                                                                                                                      Addr.add
                                                                                                                                                                                                                        x
                                                                                                                                                                                                                        (0 :
                                                                                                                                                                                                                          Nat))
                                                                                                                                                                                                                    base)
                                                                                                                                                                                                                  (4 :
                                                                                                                                                                                                                    Nat)
                                                                                                                                                                                                                  (4 :
                                                                                                                                                                                                                    Nat)
                                                                                                                                                                                                                  ys ∧
                                                                                                                                                                                                                l'_2 ≤
                                                                                                                                                                                                                    (100000 :
                                                                                                                                                                                                                      Nat) ∧
                                                                                                                                                                                                                  bif
                                                                                                                                                                                                                      bif
                                                                                                                                                                                                                          true then
                                                                                                                                                                                                                        decide
                                                                                                                                                                                                                          (s'_1 =
                                                                                                                                                                                                                              (2 :
                                                                                                                                                                                                                                Int) ∧
                                                                                                                                                                                                                            zs =
                                                                                                                                                                                                                              ys)
                                                                                                                                                                                                                      else
                                                                                                                                                                                                                        false then
                                                                                                                                                                                                                    ∀
                                                                                                                                                                                                                      (base :
                                                                                                                                                                                                                        Option
                                                                                                                                                                                                                          Addr)
                                                                                                                                                                                                                      (E' :
                                                                                                                                                                                                                        Mem),
                                                                                                                                                                                                                      Mem.le
                                                                                                                                                                                                                          E'_7
                                                                                                                                                                                                                          E' →
                                                                                                                                                                                                                        WinE
                                                                                                                                                                                                                            E'
                                                                                                                                                                                                                            base
                                                                                                                                                                                                                            [Value.int
                                                                                                                                                                                                                                IntKind.u8
                                                                                                                                                                                                                                (255 :
                                                                                                                                                                                                                                  Int),
                                                                                                                                                                                                                              Value.int
                                                                                                                                                                                                                                IntKind.u8
                                                                                                                                                                                                                                (48 :
                                                                                                                                                                                                                                  Int),
                                                                                                                                                                                                                              Value.int
                                                                                                                                                                                                                                IntKind.u8
                                                                                                                                                                                                                                (15 :
                                                                                                                                                                                                                                  Int),
                                                                                                                                                                                                                              Value.int
                                                                                                                                                                                                                                IntKind.u8
                                                                                                                                                                                                                                (255 :
                                                                                                                                                                                                                                  Int)] →
                                                                                                                                                                                                                          ∃
                                                                                                                                                                                                                            (zs
                                                                                                                                                                                                                            :
                                                                                                                                                                                                                            List
                                                                                                                                                                                                                              Int),
                                                                                                                                                                                                                            ∃
                                                                                                                                                                                                                              (ys
                                                                                                                                                                                                                              :
                                                                                                                                                                                                                              List
                                                                                                                                                                                                                                Int),
                                                                                                                                                                                                                              Bs
                                                                                                                                                                                                                                  E'
                                                                                                                                                                                                                                  b'_4
                                                                                                                                                                                                                                  l'_4
                                                                                                                                                                                                                                  c'_4
                                                                                                                                                                                                                                  zs ∧
                                                                                                                                                                                                                                Bs
                                                                                                                                                                                                                                    E'
                                                                                                                                                                                                                                    (Option.map
                                                                                                                                                                                                                                      (fun
                                                                                                                                                                                                                                          (x :
                                                                                                                                                                                                                                            Addr) =>
                                                                                                                                                                                                                                        Addr.add
                                                                                                                                                                                                                                          x
                                                                                                                                                                                                                                          (0 :
                                                                                                                                                                                                                                            Nat))
                                                                                                                                                                                                                                      base)
                                                                                                                                                                                                                                    (4 :
                                                                                                                                                                                                                                      Nat)
                                                                                                                                                                                                                                    (4 :
                                                                                                                                                                                                                                      Nat)
                                                                                                                                                                                                                                    ys ∧
                                                                                                                                                                                                                                  l'_4 ≤
                                                                                                                                                                                                                                      (100000 :
                                                                                                                                                                                                                                        Nat) ∧
                                                                                                                                                                                                                                    bif
                                                                                                                                                                                                                                        bif
                                                                                                                                                                                                                                            true then
                                                                                                                                                                                                                                          decide
                                                                                                                                                                                                                                            (s'_2 =
                                                                                                                                                                                                                                                (2 :
                                                                                                                                                                                                                                                  Int) ∧
                                                                                                                                                                                                                                              zs =
                                                                                                                                                                                                                                                ys)
                                                                                                                                                                                                                                        else
                                                                                                                                                                                                                                          false then
                                                                                                                                                                                                                                      ∀
                                                                                                                                                                                                                                        (base :
                                                                                                                                                                                                                                          Option
                                                                                                                                                                                                                                            Addr)
                                                                                                                                                                                                                                        (E'_8 :
                                                                                                                                                                                                                                          Mem),
                                                                                                                                                                                                                                        Mem.le
                                                                                                                                                                                                                                            E'
                                                                                                                                                                                                                                            E'_8 →
                                                                                                                                                                                                                                          WinE
                                                                                                                                                                                                                                              E'_8
                                                                                                                                                                                                                                              base
                                                                                                                                                                                                                                              [Value.int
                                                                                                                                                                                                                                                  IntKind.u8
                                                                                                                                                                                                                                                  (255 :
                                                                                                                                                                                                                                                    Int),
                                                                                                                                                                                                                                                Value.int
                                                                                                                                                                                                                                                  IntKind.u8
                                                                                                                                                                                                                                                  (255 :
                                                                                                                                                                                                                                                    Int),
                                                                                                                                                                                                                                                Value.int
                                                                                                                                                                                                                                                  IntKind.u8
                                                                                                                                                                                                                                                  (15 :
                                                                                                                                                                                                                                                    Int),
                                                                                                                                                                                                                                                Value.int
                                                                                                                                                                                                                                                  IntKind.u8
                                                                                                                                                                                                                                                  (255 :
                                                                                                                                                                                                                                                    Int)] →
                                                                                                                                                                                                                                            ∃
                                                                                                                                                                                                                                              (zs
                                                                                                                                                                                                                                              :
                                                                                                                                                                                                                                              List
                                                                                                                                                                                                                                                Int),
                                                                                                                                                                                                                                              ∃
                                                                                                                                                                                                                                                (ys
                                                                                                                                                                                                                                                :
                                                                                                                                                                                                                                                List
                                                                                                                                                                                                                                                  Int),
                                                                                                                                                                                                                                                Bs
                                                                                                                                                                                                                                                    E'_8
                                                                                                                                                                                                                                                    b'_6
                                                                                                                                                                                                                                                    l'_6
                                                                                                                                                                                                                                                    c'_6
                                                                                                                                                                                                                                                    zs ∧
                                                                                                                                                                                                                                                  Bs
                                                                                                                                                                                                                                                      E'_8
                                                                                                                                                                                                                                                      (Option.map
                                                                                                                                                                                                                                                        (fun
                                                                                                                                                                                                                                                            (x :
                                                                                                                                                                                                                                                              Addr) =>
                                                                                                                                                                                                                                                          Addr.add
                                                                                                                                                                                                                                                            x
                                                                                                                                                                                                                                                            (0 :
                                                                                                                                                                                                                                                              Nat))
                                                                                                                                                                                                                                                        base)
                                                                                                                                                                                                                                                      (4 :
                                                                                                                                                                                                                                                        Nat)
                                                                                                                                                                                                                                                      (4 :
                                                                                                                                                                                                                                                        Nat)
                                                                                                                                                                                                                                                      ys ∧
                                                                                                                                                                                                                                                    l'_6 ≤
                                                                                                                                                                                                                                                        (100000 :
                                                                                                                                                                                                                                                          Nat) ∧
                                                                                                                                                                                                                                                      Mem.le
                                                                                                                                                                                                                                                          E
                                                                                                                                                                                                                                                          E'_8 ∧
                                                                                                                                                                                                                                                        K
                                                                                                                                                                                                                                                          (SV.raw
                                                                                                                                                                                                                                                            (Value.bool
                                                                                                                                                                                                                                                              (bif
                                                                                                                                                                                                                                                                  true then
                                                                                                                                                                                                                                                                decide
                                                                                                                                                                                                                                                                  (s'_3 =
                                                                                                                                                                                                                                                                      (2 :
                                                                                                                                                                                                                                                                        Int) ∧
                                                                                                                                                                                                                                                                    zs =
                                                                                                                                                                                                                                                                      ys)
                                                                                                                                                                                                                                                              else
                                                                                                                                                                                                                                                                false)))
                                                                                                                                                                                                                                                          E'_8
                                                                                                                                                                                                                                    else
                                                                                                                                                                                                                                      Mem.le
                                                                                                                                                                                                                                          E
                                                                                                                                                                                                                                          E' ∧
                                                                                                                                                                                                                                        K
                                                                                                                                                                                                                                          (SV.raw
                                                                                                                                                                                                                                            (Value.bool
                                                                                                                                                                                                                                              false))
                                                                                                                                                                                                                                          E'
                                                                                                                                                                                                                  else
                                                                                                                                                                                                                    Mem.le
                                                                                                                                                                                                                        E
                                                                                                                                                                                                                        E'_7 ∧
                                                                                                                                                                                                                      K
                                                                                                                                                                                                                        (SV.raw
                                                                                                                                                                                                                          (Value.bool
                                                                                                                                                                                                                            false))
                                                                                                                                                                                                                        E'_7
                                                                                                                                                                                                else
                                                                                                                                                                                                  Mem.le
                                                                                                                                                                                                      E
                                                                                                                                                                                                      E' ∧
                                                                                                                                                                                                    K
                                                                                                                                                                                                      (SV.raw
                                                                                                                                                                                                        (Value.bool
                                                                                                                                                                                                          false))
                                                                                                                                                                                                      E'
                                                                                                                                                                            else
                                                                                                                                                                              Mem.le
                                                                                                                                                                                  E
                                                                                                                                                                                  E'_6 ∧
                                                                                                                                                                                K
                                                                                                                                                                                  (SV.raw
                                                                                                                                                                                    (Value.bool
                                                                                                                                                                                      false))
                                                                                                                                                                                  E'_6
                                                                                                                                                                        else
                                                                                                                                                                          Mem.le
                                                                                                                                                                              E
                                                                                                                                                                              E'_6 ∧
                                                                                                                                                                            K
                                                                                                                                                                              (SV.raw
                                                                                                                                                                                (Value.bool
                                                                                                                                                                                  false))
                                                                                                                                                                              E'_6
                                                                                                                                                                      else
                                                                                                                                                                        Mem.le
                                                                                                                                                                            E
                                                                                                                                                                            E'_6 ∧
                                                                                                                                                                          K
                                                                                                                                                                            (SV.raw
                                                                                                                                                                              (Value.bool
                                                                                                                                                                                false))
                                                                                                                                                                            E'_6
                                                                                                                                                                    else
                                                                                                                                                                      Mem.le
                                                                                                                                                                          E
                                                                                                                                                                          E'_6 ∧
                                                                                                                                                                        K
                                                                                                                                                                          (SV.raw
                                                                                                                                                                            (Value.bool
                                                                                                                                                                              false))
                                                                                                                                                                          E'_6
                                                                                                                                                                  else
                                                                                                                                                                    Mem.le
                                                                                                                                                                        E
                                                                                                                                                                        E'_6 ∧
                                                                                                                                                                      K
                                                                                                                                                                        (SV.raw
                                                                                                                                                                          (Value.bool
                                                                                                                                                                            false))
                                                                                                                                                                        E'_6
                                                                                                                                                                else
                                                                                                                                                                  Mem.le
                                                                                                                                                                      E
                                                                                                                                                                      E'_6 ∧
                                                                                                                                                                    K
                                                                                                                                                                      (SV.raw
                                                                                                                                                                        (Value.bool
                                                                                                                                                                          false))
                                                                                                                                                                      E'_6
                                                                                                                                                              else
                                                                                                                                                                Mem.le
                                                                                                                                                                    E
                                                                                                                                                                    E'_6 ∧
                                                                                                                                                                  K
                                                                                                                                                                    (SV.raw
                                                                                                                                                                      (Value.bool
                                                                                                                                                                        false))
                                                                                                                                                                    E'_6)
  intro s1 b1 l1 c1 y1 e1 E1 q1 r1 B1
  obtain ⟨⟨rfl, rfl⟩, rfl⟩ : (2 = s1 ∧ [255, 255, 255, 255] = y1) ∧ 0 = e1 := by have r1 : ((2, [255, 255, 255, 255]), 0) = ((s1, y1), e1) := r1; simpa using r1
  have z1 := B1.2.1
  subst z1
  refine ⟨q1, fun t2 E2 q2 w2 => ⟨[255, 255, 255, 255], [240, 15], B1.mono q2, win4 (zs := [240, 15]) w2 (bytes_dec _ rfl), fun b3 l3 c3 m3 e3 E3 q3 r3 F3 => ?_⟩⟩
  obtain ⟨rfl, rfl⟩ : _ = m3 ∧ _ = e3 := by have r3 : progF 2 [255, 255, 255, 255] 1 [240, 15] = (m3, e3) := r3; rw [hd1] at r3; exact Prod.mk.inj r3
  have z3 := F3.len
  refine ⟨_, F3, by rw [← z3]; decide, fun s4 b4 l4 c4 y4 o4 E4 q4 r4 B4 => ?_⟩
  obtain ⟨⟨rfl, rfl⟩, rfl⟩ : (_ = s4 ∧ _ = y4) ∧ _ = o4 := by have r4 : lastF _ 0 3 = ((s4, y4), o4) := r4; rw [hd2] at r4; exact ⟨Prod.mk.inj (Prod.mk.inj r4).1, (Prod.mk.inj r4).2⟩
  have z4 := B4.2.1
  subst z4
  refine ⟨q4, fun t5 E5 q5 w5 => ⟨_, [51], B4.mono q5, win4 (zs := [51]) w5 (bytes_dec _ rfl), fun b6 l6 c6 m6 e6 E6 q6 r6 F6 => ?_⟩⟩
  obtain ⟨rfl, rfl⟩ : _ = m6 ∧ _ = e6 := by have r6 : progF 2 [255, 240, 15, 255] 1 [51] = (m6, e6) := r6; rw [hd3] at r6; exact Prod.mk.inj r6
  have z6 := F6.len
  refine ⟨_, F6, by rw [← z6]; decide, fun s7 b7 l7 c7 y7 o7 E7 q7 r7 B7 => ?_⟩
  obtain ⟨⟨rfl, rfl⟩, rfl⟩ : (_ = s7 ∧ _ = y7) ∧ _ = o7 := by have r7 : lastF _ 0 2 = ((s7, y7), o7) := r7; rw [hd4] at r7; exact ⟨Prod.mk.inj (Prod.mk.inj r7).1, (Prod.mk.inj r7).2⟩
  have z7 := B7.2.1
  subst z7
  refine ⟨q7, _, B7, fun b8 l8 c8 m8 e8 E8 q8 r8 F8 => ⟨q8, ?_⟩⟩
  obtain ⟨rfl, rfl⟩ : _ = m8 ∧ _ = e8 := by have r8 : erasF 2 [255, 48, 15, 255] 0 = (m8, e8) := r8; rw [hd5] at r8; exact Prod.mk.inj r8
  have z8 := F8.len
  refine ⟨_, F8, by rw [← z8]; decide, fun s9 b9 l9 c9 y9 o9 E9 q9 r9 B9 => ?_⟩
  obtain ⟨⟨rfl, rfl⟩, rfl⟩ : (_ = s9 ∧ _ = y9) ∧ _ = o9 := by have r9 : lastF _ 0 3 = ((s9, y9), o9) := r9; rw [hd6] at r9; exact ⟨Prod.mk.inj (Prod.mk.inj r9).1, (Prod.mk.inj r9).2⟩
  have z9 := B9.2.1
  subst z9
  have k2 : Mem.le E1 E9 := Mem.le_trans q2 (Mem.le_trans q3 (Mem.le_trans q4 (Mem.le_trans q5 (Mem.le_trans q6 (Mem.le_trans q7 (Mem.le_trans q8 q9))))))
  refine ⟨q9, fun tA EA qA wA => ⟨[255, 255, 255, 255], [1, 2], B1.mono (Mem.le_trans k2 qA), win4 (zs := [1, 2]) wA (bytes_dec _ rfl), fun bB lB cB mB eB EB qB rB FB => ?_⟩⟩
  obtain ⟨rfl, rfl⟩ : _ = mB ∧ _ = eB := by have rB : progF 2 [255, 255, 255, 255] 3 [1, 2] = (mB, eB) := rB; rw [hd7] at rB; exact Prod.mk.inj rB
  refine ⟨[255, 255, 255, 255], B1.mono (Mem.le_trans k2 (Mem.le_trans qA qB)), fun bC lC cC mC eC EC qC rC FC => ⟨qC, ?_⟩⟩
  obtain ⟨rfl, rfl⟩ : _ = mC ∧ _ = eC := by have rC : erasF 2 [255, 255, 255, 255] 2 = (mC, eC) := rC; rw [hd8] at rC; exact Prod.mk.inj rC
  have kC : Mem.le E9 EC := Mem.le_trans qA (Mem.le_trans qB qC)
  refine ⟨Mem.le_refl _, Mem.le_refl _, fun tD ED qD wD => ⟨[255, 255, 255, 255], [255, 255, 255, 255], B1.mono (Mem.le_trans k2 (Mem.le_trans kC qD)), win4 (zs := [255, 255, 255, 255]) wD (bytes_dec _ rfl), by decide, ?_⟩⟩
  refine fun tE EE qE wE => ⟨_, [255, 240, 15, 255], B4.mono (Mem.le_trans q5 (Mem.le_trans q6 (Mem.le_trans q7 (Mem.le_trans q8 (Mem.le_trans q9 (Mem.le_trans kC (Mem.le_trans qD qE))))))), win4 (zs := [255, 240, 15, 255]) wE (bytes_dec _ rfl), by decide, ?_⟩
  refine fun tF EF qF wF => ⟨_, [255, 48, 15, 255], B7.mono (Mem.le_trans q8 (Mem.le_trans q9 (Mem.le_trans kC (Mem.le_trans qD (Mem.le_trans qE qF))))), win4 (zs := [255, 48, 15, 255]) wF (bytes_dec _ rfl), by decide, ?_⟩
  refine fun tG EG qG wG => ⟨_, [255, 255, 15, 255], B9.mono (Mem.le_trans kC (Mem.le_trans qD (Mem.le_trans qE (Mem.le_trans qF qG)))), win4 (zs := [255, 255, 15, 255]) wG (bytes_dec _ rfl), by decide, ?_⟩
  have kG : Mem.le E EG := Mem.le_trans q1 (Mem.le_trans k2 (Mem.le_trans kC (Mem.le_trans qD (Mem.le_trans qE (Mem.le_trans qF qG)))))
  exact ⟨kG, h EG kG⟩

theorem newF_len (a b : Int) : (newF a b).1.2.length ≤ 16384 := by
  unfold newF
  split
  · simp
  · rename_i h
    have g1 : 1 ≤ a := by omega
    have g4 : b ≤ 16384 / a := by omega
    have h8 : a * b ≤ 16384 := by
      have := Int.mul_le_mul_of_nonneg_right g4 (show 0 ≤ a by omega)
      have h2 := Int.ediv_mul_le 16384 (show a ≠ 0 by omega)
      rw [Int.mul_comm a b]; omega
    simp; omega
theorem mems_el {s : Int} {g : Nat → Int → Int} {a : Nat} {zs : List Int} {n : Nat} : ∀ m ∈ mems s g a zs n, m.2.length = zs.length ∧ m.1 = s := fun m hm => by
  obtain ⟨i, _, rfl⟩ := List.mem_map.1 hm
  exact ⟨stp_len g a zs i, rfl⟩
theorem progF_el (s : Int) (zs : List Int) (a : Int) (ds : List Int) : ∀ m ∈ (progF s zs a ds).1, m.2.length = zs.length ∧ m.1 = s := by
  unfold progF
  split
  · simp
  · split
    · simp
    · exact mems_el
theorem erasF_el (s : Int) (zs : List Int) (k : Int) : ∀ m ∈ (erasF s zs k).1, m.2.length = zs.length ∧ m.1 = s := by
  unfold erasF
  split
  · simp
  · exact mems_el
theorem erasF_len (s : Int) (zs : List Int) (k : Int) : (erasF s zs k).1.length ≤ 1025 := by
  unfold erasF
  split
  · simp
  · rename_i h
    have : validF s zs.length := Decidable.not_not.1 (fun q => h (.inl q))
    obtain ⟨_, h2, _⟩ := this
    rw [mems_len]; omega

end Go.Proofs.Ythgdbpnddnbbdaa.FlashOwn
