/- The law FlashSteps. -/
import Derived.Test.YthgdbpnddnbbdaaFlashP
import Derived.OpenShut
import Derived.Test.YthgdbpnddnbbdaaRows
namespace Go.Proofs.Ythgdbpnddnbbdaa.FlashOwn
open Go Go.Sx Go.Proofs.Ythgdbpnddnbbdaa
set_option maxRecDepth 100000
set_option maxHeartbeats 4000000
set_option linter.unusedVariables false
set_option linter.unusedSimpArgs false
variable {E : Mem} {K : SV → Mem → Prop}
noncomputable def tabL4 : FuncId → List SV → Mem → (SV → Mem → Prop) → Prop := fun f args E K => match f with
  | 10 => d0 args ((∀ E' : Mem, Mem.le E E' → K (B true) E'))
  | 11 => d2 args fun x0 x1 => dI x0 fun a1 => dI x1 fun a2 => (∀ (s' : Int) (b' : Option Addr) (l' c' : Nat) (ys : List Int) (e : Int) (E' : Mem), Mem.le E E' → Hyp (newF a1 a2 = ((s', ys), e)) → Bs E' b' l' c' ys → K (.tup [.agg [I s', L b' l' c'], I e]) E')
  | 13 => d2 args fun x0 x1 => dC x0 fun l1 => d2 l1 fun x0_0 x0_1 => dI x0_0 fun a1 => dS x0_1 fun b2 l3 c4 => dC x1 fun l2 => d2 l2 fun x1_0 x1_1 => dI x1_0 fun a5 => dS x1_1 fun b6 l7 c8 => ∃ (zs : List Int) (ys : List Int), Bs E b2 l3 c4 zs ∧ Bs E b6 l7 c8 ys ∧ l3 ≤ 100000 ∧ (K (B (decide (a1 = a5 ∧ zs = ys))) E)
  | 14 => d3 args fun x0 x1 x2 => dC x0 fun l1 => d2 l1 fun x0_0 x0_1 => dI x0_0 fun a1 => dS x0_1 fun b2 l3 c4 => dI x1 fun a5 => dS x2 fun b6 l7 c8 => ∃ (zs : List Int) (ds : List Int), Bs E b2 l3 c4 zs ∧ Bs E b6 l7 c8 ds ∧ (∀ (b' : Option Addr) (l' c' : Nat) (ms : List (Int × List Int)) (e : Int) (E' : Mem), Mem.le E E' → Hyp (progF a1 zs a5 ds = (ms, e)) → FL E' b' l' c' ms → K (.tup [L b' l' c', I e]) E')
  | 16 => d2 args fun x0 x1 => dC x0 fun l1 => d2 l1 fun x0_0 x0_1 => dI x0_0 fun a1 => dS x0_1 fun b2 l3 c4 => dI x1 fun a5 => ∃ (zs : List Int), Bs E b2 l3 c4 zs ∧ (∀ (b' : Option Addr) (l' c' : Nat) (ms : List (Int × List Int)) (e : Int) (E' : Mem), Mem.le E E' → Hyp (erasF a1 zs a5 = (ms, e)) → FL E' b' l' c' ms → K (.tup [L b' l' c', I e]) E')
  | 18 => d1 args fun x0 => dC x0 fun l1 => d2 l1 fun x0_0 x0_1 => dI x0_0 fun a1 => dS x0_1 fun b2 l3 c4 => (K (B (decide (validF a1 l3))) E)
  | 20 => d2 args fun x0 x1 => dS x0 fun b1 l2 c3 => dS x1 fun b4 l5 c6 => ∃ (ms : List (Int × List Int)) (ns : List (Int × List Int)), FL E b1 l2 c3 ms ∧ FL E b4 l5 c6 ns ∧ (∀ m ∈ ms, m.2.length ≤ 100000) ∧ l2 ≤ 100000 ∧ (K (B (decide (ms = ns))) E)
  | 21 => d2 args fun x0 x1 => dS x0 fun b1 l2 c3 => dS x1 fun b4 l5 c6 => ∃ (zs : List Int) (ys : List Int), Bs E b1 l2 c3 zs ∧ Bs E b4 l5 c6 ys ∧ l2 ≤ 100000 ∧ (K (.tup [I (oneF zs ys l2).1, I (oneF zs ys l2).2]) E)
  | 22 => d3 args fun x0 x1 x2 => dC x0 fun l1 => d2 l1 fun x0_0 x0_1 => dI x0_0 fun a1 => dS x0_1 fun b2 l3 c4 => dI x1 fun a5 => dS x2 fun b6 l7 c8 => ∃ (zs : List Int) (ds : List Int), Bs E b2 l3 c4 zs ∧ Bs E b6 l7 c8 ds ∧ (l7 ≤ 90000) ∧ (∀ (s' : Int) (b' : Option Addr) (l' c' : Nat) (ys : List Int) (ok : Bool) (E' : Mem), Mem.le E E' → Hyp (doneF a1 zs a5 ds = ((s', ys), ok)) → Bs E' b' l' c' ys → K (.tup [.agg [I s', L b' l' c'], B ok]) E')
  | 23 => d3 args fun x0 x1 x2 => dS x0 fun b1 l2 c3 => dI x1 fun a4 => dI x2 fun a5 => ∃ (ms : List (Int × List Int)), FL E b1 l2 c3 ms ∧ (l2 ≤ 100000) ∧ (∀ (s' : Int) (b' : Option Addr) (l' c' : Nat) (ys : List Int) (ok : Bool) (E' : Mem), Mem.le E E' → Hyp (lastF ms a4 a5 = ((s', ys), ok)) → Bs E' b' l' c' ys → K (.tup [.agg [I s', L b' l' c'], B ok]) E')
  | _ => False
theorem tabL4_ok : TabOK Try.prog tabL4 := by
  intro f args E K h
  unfold tabL4 at h
  split at h
  · obtain ⟨rfl, h⟩ := d0_elim h
    exact TabSem.congr rfl (Ent.sem okFI Try.func10 ⟨by kernel_rfl, by kernel_rfl⟩ rfl (s10 h))
  · replace h := d2_elim h
    obtain ⟨x0, x1, rfl, h⟩ := h
    replace h := dI_elim h
    obtain ⟨a1, rfl, h⟩ := h
    replace h := dI_elim h
    obtain ⟨a2, rfl, h⟩ := h
    exact TabSem.congr (valL_cons rfl (valL_cons rfl rfl)) (Ent.sem okF8 Try.func11 ⟨by kernel_rfl, by kernel_rfl⟩ rfl (s11 h))
  · replace h := d2_elim h
    obtain ⟨x0, x1, rfl, h⟩ := h
    replace h := dC_elim h
    obtain ⟨l1, hl1, h⟩ := h
    replace h := d2_elim h
    obtain ⟨x0_0, x0_1, rfl, h⟩ := h
    replace h := dI_elim h
    obtain ⟨a1, rfl, h⟩ := h
    replace h := dS_elim h
    obtain ⟨b2, l3, c4, rfl, h⟩ := h
    replace h := dC_elim h
    obtain ⟨l2, hl2, h⟩ := h
    replace h := d2_elim h
    obtain ⟨x1_0, x1_1, rfl, h⟩ := h
    replace h := dI_elim h
    obtain ⟨a5, rfl, h⟩ := h
    replace h := dS_elim h
    obtain ⟨b6, l7, c8, rfl, h⟩ := h
    obtain ⟨zs, ys, g0, g1, g2, h⟩ := h
    exact TabSem.congr (valL_cons (asCells_val hl1) (valL_cons (asCells_val hl2) rfl)) (Ent.sem okFA Try.func13 ⟨by kernel_rfl, by kernel_rfl⟩ rfl (s13 g0 g1 g2 h))
  · replace h := d3_elim h
    obtain ⟨x0, x1, x2, rfl, h⟩ := h
    replace h := dC_elim h
    obtain ⟨l1, hl1, h⟩ := h
    replace h := d2_elim h
    obtain ⟨x0_0, x0_1, rfl, h⟩ := h
    replace h := dI_elim h
    obtain ⟨a1, rfl, h⟩ := h
    replace h := dS_elim h
    obtain ⟨b2, l3, c4, rfl, h⟩ := h
    replace h := dI_elim h
    obtain ⟨a5, rfl, h⟩ := h
    replace h := dS_elim h
    obtain ⟨b6, l7, c8, rfl, h⟩ := h
    obtain ⟨zs, ds, g0, g1, h⟩ := h
    exact TabSem.congr (valL_cons (asCells_val hl1) (valL_cons rfl (valL_cons rfl rfl))) (Ent.sem okF3 Try.func14 ⟨by kernel_rfl, by kernel_rfl⟩ rfl (s14 g0 g1 h))
  · replace h := d2_elim h
    obtain ⟨x0, x1, rfl, h⟩ := h
    replace h := dC_elim h
    obtain ⟨l1, hl1, h⟩ := h
    replace h := d2_elim h
    obtain ⟨x0_0, x0_1, rfl, h⟩ := h
    replace h := dI_elim h
    obtain ⟨a1, rfl, h⟩ := h
    replace h := dS_elim h
    obtain ⟨b2, l3, c4, rfl, h⟩ := h
    replace h := dI_elim h
    obtain ⟨a5, rfl, h⟩ := h
    obtain ⟨zs, g0, h⟩ := h
    exact TabSem.congr (valL_cons (asCells_val hl1) (valL_cons rfl rfl)) (Ent.sem okF4 Try.func16 ⟨by kernel_rfl, by kernel_rfl⟩ rfl (s16 g0 h))
  · replace h := d1_elim h
    obtain ⟨x0, rfl, h⟩ := h
    replace h := dC_elim h
    obtain ⟨l1, hl1, h⟩ := h
    replace h := d2_elim h
    obtain ⟨x0_0, x0_1, rfl, h⟩ := h
    replace h := dI_elim h
    obtain ⟨a1, rfl, h⟩ := h
    replace h := dS_elim h
    obtain ⟨b2, l3, c4, rfl, h⟩ := h
    exact TabSem.congr (valL_cons (asCells_val hl1) rfl) (Ent.sem okF5 Try.func18 ⟨by kernel_rfl, by kernel_rfl⟩ rfl (s18 h))
  · replace h := d2_elim h
    obtain ⟨x0, x1, rfl, h⟩ := h
    replace h := dS_elim h
    obtain ⟨b1, l2, c3, rfl, h⟩ := h
    replace h := dS_elim h
    obtain ⟨b4, l5, c6, rfl, h⟩ := h
    obtain ⟨ms, ns, g0, g1, g2, g3, h⟩ := h
    exact TabSem.congr (valL_cons rfl (valL_cons rfl rfl)) (Ent.sem okFE Try.func20 ⟨by kernel_rfl, by kernel_rfl⟩ rfl (s20 g0 g1 g2 g3 h))
  · replace h := d2_elim h
    obtain ⟨x0, x1, rfl, h⟩ := h
    replace h := dS_elim h
    obtain ⟨b1, l2, c3, rfl, h⟩ := h
    replace h := dS_elim h
    obtain ⟨b4, l5, c6, rfl, h⟩ := h
    obtain ⟨zs, ys, g0, g1, g2, h⟩ := h
    exact TabSem.congr (valL_cons rfl (valL_cons rfl rfl)) (Ent.sem okFF Try.func21 ⟨by kernel_rfl, by kernel_rfl⟩ rfl (s21 g0 g1 g2 h))
  · replace h := d3_elim h
    obtain ⟨x0, x1, x2, rfl, h⟩ := h
    replace h := dC_elim h
    obtain ⟨l1, hl1, h⟩ := h
    replace h := d2_elim h
    obtain ⟨x0_0, x0_1, rfl, h⟩ := h
    replace h := dI_elim h
    obtain ⟨a1, rfl, h⟩ := h
    replace h := dS_elim h
    obtain ⟨b2, l3, c4, rfl, h⟩ := h
    replace h := dI_elim h
    obtain ⟨a5, rfl, h⟩ := h
    replace h := dS_elim h
    obtain ⟨b6, l7, c8, rfl, h⟩ := h
    obtain ⟨zs, ds, g0, g1, g2, h⟩ := h
    exact TabSem.congr (valL_cons (asCells_val hl1) (valL_cons rfl (valL_cons rfl rfl))) (Ent.sem okFH Try.func22 ⟨by kernel_rfl, by kernel_rfl⟩ rfl (s22 g0 g1 g2 h))
  · replace h := d3_elim h
    obtain ⟨x0, x1, x2, rfl, h⟩ := h
    replace h := dS_elim h
    obtain ⟨b1, l2, c3, rfl, h⟩ := h
    replace h := dI_elim h
    obtain ⟨a4, rfl, h⟩ := h
    replace h := dI_elim h
    obtain ⟨a5, rfl, h⟩ := h
    obtain ⟨ms, g0, g1, h⟩ := h
    exact TabSem.congr (valL_cons rfl (valL_cons rfl (valL_cons rfl rfl))) (Ent.sem okFG Try.func23 ⟨by kernel_rfl, by kernel_rfl⟩ rfl (s23 g0 g1 h))
  · exact h.elim
noncomputable def WL4 : Cx := { P := Try.prog, inl := fun f => List.contains [] f, tab := tabL4, isB := fun _ => false, tabB := fun _ _ _ _ _ => False, opt := { unroll := 0, carry := [12, 19], cuts := [9, 19] }, muts := mutsD }
theorem okWL4 : CxOK WL4 := CxOK.four tabL4_ok (by kernel_rfl) (okInl (by kernel_rfl)) (fun _ _ _ _ _ h => h.elim)

def sh4b (a1 a3 e g : Int) (b1 b2 b3 b4 : Option Addr) (l1 c1 l2 c2 l3 c3 l4 c4 i : Nat) (E : Mem) : St := ⟨[none, none, some (L b2 l2 c2), some (I a3), some (.loc 0 0), none, none, none, none, some (B true), some (L b3 l3 c3), some (I e), none, none, none, none, none, some (L b4 l4 c4), some (I g), some (I (i : Nat)), none, none, none, none, none, none, none, none, none, none, none, none, none, none, none, none, none, none, none, none, none, none, none, none, none, none, none, none, none, none, none, none, none, none, none, none, none, none, none, none, none, none, none, none, none, none, none, none, none, none, none, none, none, none, none, none, none, none, none, none, none, none, none, none, none, none, none, none, none, none, none, none, none, none, none, none, none, none, none, none, none, none, none, none, none, none, none, none, none, none, none, none, none, none, none, none, none, none, none, none, none, none, none, none, none, none, none, none, none, none, none, none, none, none, none, none, none, none, none, none, none, none, none, none, none, none, none, none, none, none, none, none, none, none, none, none, none, none, none, none, none, none, none, none, none, none, none, none, none, none, none, none, none, none, none, none, none, none, none, none, none, none, none, none, none, none, none, none, none, none, none, none, none, none, none, none, none, none, none, none, none, none, none, none, none, none, none, none, none, none, none, none, none, none, none, none, none, none, none, none, none, none, none, none, none, none, none, none], [⟨24, .lst [I a1, L b1 l1 c1], 2, true⟩], E⟩
def sh4a (a1 a2 a3 e : Int) (b1 b2 b3 : Option Addr) (l1 c1 l2 c2 l3 c3 i : Nat) (E : Mem) : St := ⟨[none, some (I a2), some (L b2 l2 c2), some (I a3), some (.loc 0 0), none, none, none, none, some (B true), some (L b3 l3 c3), some (I e), some (I (i : Nat)), none, none, none, none, none, none, none, none, none, none, none, none, none, none, none, none, none, none, none, none, none, none, none, none, none, none, none, none, none, none, none, none, none, none, none, none, none, none, none, none, none, none, none, none, none, none, none, none, none, none, none, none, none, none, none, none, none, none, none, none, none, none, none, none, none, none, none, none, none, none, none, none, none, none, none, none, none, none, none, none, none, none, none, none, none, none, none, none, none, none, none, none, none, none, none, none, none, none, none, none, none, none, none, none, none, none, none, none, none, none, none, none, none, none, none, none, none, none, none, none, none, none, none, none, none, none, none, none, none, none, none, none, none, none, none, none, none, none, none, none, none, none, none, none, none, none, none, none, none, none, none, none, none, none, none, none, none, none, none, none, none, none, none, none, none, none, none, none, none, none, none, none, none, none, none, none, none, none, none, none, none, none, none, none, none, none, none, none, none, none, none, none, none, none, none, none, none, none, none, none, none, none, none, none, none, none, none, none, none, none, none, none, none, none, none], [⟨24, .lst [I a1, L b1 l1 c1], 2, true⟩], E⟩
def sh4d (a1 a3 e g : Int) (b1 b2 b3 b4 : Option Addr) (l1 c1 l2 c2 l3 c3 l4 c4 i : Nat) (b5 b6 : Option Addr) (l5 c5 l6 c6 : Nat) (E : Mem) : St := ⟨[none, none, some (L b2 l2 c2), some (I a3), some (.loc 0 0), none, none, none, none, some (B true), some (L b3 l3 c3), some (I e), none, none, none, none, none, some (L b4 l4 c4), some (I g), some (I (i : Nat)), some (.loc 1 0), some (.loc 2 0), none, none, none, none, none, none, none, none, none, none, none, none, none, none, none, none, none, none, none, none, none, none, none, none, none, none, none, none, none, none, none, none, none, none, none, none, none, none, none, none, none, none, none, none, none, none, none, none, none, none, none, none, none, none, none, none, none, none, none, none, none, none, none, none, none, none, none, none, none, none, none, none, none, none, none, none, none, none, none, none, none, none, none, none, none, none, none, none, none, none, none, none, none, none, none, none, none, none, none, none, none, none, none, none, none, none, none, none, none, none, none, none, none, none, none, none, none, none, none, none, none, none, none, none, none, none, none, none, none, none, none, none, none, none, none, none, none, none, none, none, none, none, none, none, none, none, none, none, none, none, none, none, none, none, none, none, none, none, none, none, none, none, none, none, none, none, none, none, none, none, none, none, none, none, none, none, none, none, none, none, none, none, none, none, none, none, none, none, none, none, none, none, none, none, none, none, none, none, none, none, none, none, none, none, none, none], [⟨24, .lst [I a1, L b1 l1 c1], 2, true⟩, ⟨24, .lst [I a1, L b5 l5 c5], 2, true⟩, ⟨24, .lst [I a1, L b6 l6 c6], 2, true⟩], E⟩
theorem pc4d {a1 a3 e g : Int} {b1 b2 b3 b4 : Option Addr} {l1 c1 l2 c2 l3 c3 l4 c4 i : Nat} {b5 b6 : Option Addr} {l5 c5 l6 c6 : Nat} {E0 : Mem} {z1 : List Int} {a : Nat} (hB1 : Bs E b1 l1 c1 z1) (v : validF a1 z1.length) (hl1 : l1 ≤ 300) (ha : a3 * a1 = a) (hle : (a : Int) + a1 ≤ z1.length) (hi : 1 ≤ i ∧ i ≤ a1) (h5 : Bs E b5 l5 c5 (stp gE a z1 (i - 1))) (h6 : Bs E b6 l6 c6 (stp gE a z1 i)) (hE : Mem.le E0 E)
    (ih : Lp WL4 8 Try.f4 [1, 1, 1, 1, 1, 1, 0, 1, 0] 0 (pubK E0 K) (sh4b a1 a3 e g b1 b2 b3 b4 l1 c1 l2 c2 l3 c3 l4 c4 (i + 1) E)) : Pc WL4 8 Try.f4 [1, 1, 1, 1, 1, 1, 0, 1, 0, 0, 1, 0, 0, 1] 0 (pubK E0 K) (sh4d a1 a3 e g b1 b2 b3 b4 l1 c1 l2 c2 l3 c3 l4 c4 i  b5 b6 l5 c5 l6 c6 E) := by
  refine same (by kernel_rfl) (?_ : 
      bif (↑l5 : Int) != (↑l1 : Int) then Mem.le E0 E ∧ K (SV.raw (Value.bool false)) E
      else
        bif bif false then true else (↑l6 : Int) != (↑l1 : Int) then Mem.le E0 E ∧ K (SV.raw (Value.bool false)) E
        else
          Mem.le E E ∧
            bif bif false then true else !decide (validF a1 l6) then Mem.le E0 E ∧ K (SV.raw (Value.bool false)) E
            else
              ∃ (zs : List Int),
                ∃ (ys : List Int),
                  Bs E b5 l5 c5 zs ∧
                    Bs E b6 l6 c6 ys ∧
                      l5 ≤ 100000 ∧
                        Mem.le E E ∧
                          bif decide ((oneF zs ys l5).fst > (1 : Int)) then Mem.le E0 E ∧ K (SV.raw (Value.bool false)) E
                          else
                            bif (oneF zs ys l5).fst == (1 : Int) then
                              bif
                                  (oneF zs ys l5).snd !=
                                    IntKind.wrap IntKind.i64
                                      (IntKind.wrap IntKind.i64 (IntKind.wrap IntKind.i64 (a3 * a1) + (↑i : Int)) -
                                        (1 : Int)) then
                                Mem.le E0 E ∧ K (SV.raw (Value.bool false)) E
                              else
                                req ((0 : Int) ≤ (oneF zs ys l5).snd ∧ (oneF zs ys l5).snd < (↑l6 : Int))
                                  ((∃ (cs : List Value), E (Value.slice b6 l6 c6) cs ∧ (cs = [] → False)) ∧
                                    ∃ (n : Int),
                                      LoadE WL4.P E 5 (Value.slice b6 l6 c6)
                                          (Int.toNat (oneF zs ys l5).snd * 1) (SV.raw (Value.int IntKind.u8 n)) ∧
                                        bif
                                            bif false then true
                                            else bif true then bif false then true else n != (255 : Int) else false then
                                          Mem.le E0 E ∧ K (SV.raw (Value.bool false)) E
                                        else
                                          Lp WL4 8 Try.f4
                                            [1, 1, 1, 1, 1, 1, 0,
                                              1, 0]
                                            0 (pubK E0 K)
                                            {
                                              fr :=
                                                [none, none, some (SV.raw (Value.slice b2 l2 c2)),
                                                  some (SV.raw (Value.int IntKind.i64 a3)), some (SV.loc 0 0),
                                                  none, none, none, none, some (SV.raw (Value.bool true)),
                                                  some (SV.raw (Value.slice b3 l3 c3)),
                                                  some (SV.raw (Value.int IntKind.i64 e)), none, none, none, none, none,
                                                  some (SV.raw (Value.slice b4 l4 c4)),
                                                  some (SV.raw (Value.int IntKind.i64 g)),
                                                  some
                                                    (SV.raw
                                                      (Value.int IntKind.i64
                                                        (IntKind.wrap IntKind.i64 ((↑i : Int) + (1 : Int))))),
                                                  none, none, none, none, none, none, none, none, none, none, none, none,
                                                  none, none, none, none, none, none, none, none, none, none, none, none,
                                                  none, none, none, none, none, none, none, none, none, none, none, none,
                                                  none, none, none, none, none, none, none, none, none, none, none, none,
                                                  none, none, none, none, none, none, none, none, none, none, none, none,
                                                  none, none, none, none, none, none, none, none, none, none, none, none,
                                                  none, none, none, none, none, none, none, none, none, none, none, none,
                                                  none, none, none, none, none, none, none, none, none, none, none, none,
                                                  none, none, none, none, none, none, none, none, none, none, none, none,
                                                  none, none, none, none, none, none, none, none, none, none, none, none,
                                                  none, none, none, none, none, none, none, none, none, none, none, none,
                                                  none, none, none, none, none, none, none, none, none, none, none, none,
                                                  none, none, none, none, none, none, none, none, none, none, none, none,
                                                  none, none, none, none, none, none, none, none, none, none, none, none,
                                                  none, none, none, none, none, none, none, none, none, none, none, none,
                                                  none, none, none, none, none, none, none, none, none, none, none, none,
                                                  none, none, none, none, none, none, none, none, none, none, none, none,
                                                  none, none, none, none],
                                              bx :=
                                                [{ elem := 24,
                                                    row :=
                                                      Row.lst
                                                        [SV.raw (Value.int IntKind.i64 a1), SV.raw (Value.slice b1 l1 c1)],
                                                    total := 2, own := true : Box },
                                                  { elem := 24,
                                                    row :=
                                                      Row.lst
                                                        [SV.raw (Value.int IntKind.i64 a1), SV.raw (Value.slice b5 l5 c5)],
                                                    total := 2, own := true : Box },
                                                  { elem := 24,
                                                    row :=
                                                      Row.lst
                                                        [SV.raw (Value.int IntKind.i64 a1), SV.raw (Value.slice b6 l6 c6)],
                                                    total := 2, own := true : Box }],
                                              E := E : St })
                            else
                              Lp WL4 8 Try.f4
                                [1, 1, 1, 1, 1, 1, 0, 1,
                                  0]
                                0 (pubK E0 K)
                                {
                                  fr :=
                                    [none, none, some (SV.raw (Value.slice b2 l2 c2)),
                                      some (SV.raw (Value.int IntKind.i64 a3)), some (SV.loc 0 0), none, none,
                                      none, none, some (SV.raw (Value.bool true)), some (SV.raw (Value.slice b3 l3 c3)),
                                      some (SV.raw (Value.int IntKind.i64 e)), none, none, none, none, none,
                                      some (SV.raw (Value.slice b4 l4 c4)), some (SV.raw (Value.int IntKind.i64 g)),
                                      some
                                        (SV.raw (Value.int IntKind.i64 (IntKind.wrap IntKind.i64 ((↑i : Int) + (1 : Int))))),
                                      none, none, none, none, none, none, none, none, none, none, none, none, none, none,
                                      none, none, none, none, none, none, none, none, none, none, none, none, none, none,
                                      none, none, none, none, none, none, none, none, none, none, none, none, none, none,
                                      none, none, none, none, none, none, none, none, none, none, none, none, none, none,
                                      none, none, none, none, none, none, none, none, none, none, none, none, none, none,
                                      none, none, none, none, none, none, none, none, none, none, none, none, none, none,
                                      none, none, none, none, none, none, none, none, none, none, none, none, none, none,
                                      none, none, none, none, none, none, none, none, none, none, none, none, none, none,
                                      none, none, none, none, none, none, none, none, none, none, none, none, none, none,
                                      none, none, none, none, none, none, none, none, none, none, none, none, none, none,
                                      none, none, none, none, none, none, none, none, none, none, none, none, none, none,
                                      none, none, none, none, none, none, none, none, none, none, none, none, none, none,
                                      none, none, none, none, none, none, none, none, none, none, none, none, none, none,
                                      none, none, none, none, none, none, none, none, none, none, none, none, none, none,
                                      none, none, none, none, none, none, none, none, none, none, none, none],
                                  bx :=
                                    [{ elem := 24,
                                        row := Row.lst [SV.raw (Value.int IntKind.i64 a1), SV.raw (Value.slice b1 l1 c1)],
                                        total := 2, own := true : Box },
                                      { elem := 24,
                                        row := Row.lst [SV.raw (Value.int IntKind.i64 a1), SV.raw (Value.slice b5 l5 c5)],
                                        total := 2, own := true : Box },
                                      { elem := 24,
                                        row := Row.lst [SV.raw (Value.int IntKind.i64 a1), SV.raw (Value.slice b6 l6 c6)],
                                        total := 2, own := true : Box }],
                                  E := E : St })
  obtain ⟨j, rfl⟩ : ∃ j, i = j + 1 := ⟨i - 1, by omega⟩
  rw [Nat.add_sub_cancel] at h5
  have n1 := hB1.2.1
  have n5 := h5.2.1
  have n6 := h6.2.1
  simp only [stp_len] at n5 n6
  have w1 : IntKind.wrap .i64 (((j + 1 : Nat) : Int) + 1) = ((j + 1 + 1 : Nat) : Int) := by rw [wrap_i64 (by omega)]; simp
  have w2 : IntKind.wrap .i64 (IntKind.wrap .i64 (IntKind.wrap .i64 (a3 * a1) + ((j + 1 : Nat) : Int)) - 1) = ((a + j : Nat) : Int) := by rw [ha, wrap_i64 (x := (a : Int)) (by omega)]; rw [wrap_i64 (x := (a : Int) + ((j + 1 : Nat) : Int)) (by omega), wrap_i64 (x := (a : Int) + ((j + 1 : Nat) : Int) - 1) (by omega)]; omega
  rw [w1, w2]
  refine condC (fun g => by simp at g; omega) (fun _ => condC (fun g => by simp at g; omega) (fun _ => ⟨Mem.le_refl _, condC (fun g => by rw [show l6 = z1.length from n6.symm] at g; simp [v] at g) (fun _ => ⟨_, _, h5, h6, by have := v.2.2.2.1; omega, Mem.le_refl _, ?_⟩)⟩))
  have ho := oneF_stp (g := gE) (a := a) (i := j) (zs := z1)
  rw [n5] at ho
  rcases ho with ho | ho
  · rw [ho]
    exact condC (fun g => by simp at g) (fun _ => condC (fun g => by simp at g) (fun _ => Lp_re [some 0] ih ⟨⟨by simp, by simp, fun j h => absurd h (Nat.not_lt_zero _)⟩, rfl, (by repeat' first | exact True.intro | refine And.intro (Or.inl rfl) ?_), (by repeat' first | exact True.intro | exact rfl | exact Or.inl rfl | fail | refine And.intro ?_ ?_), (show List.Nodup [0] from by decide), Mem.le_refl _⟩))
  · rw [ho]
    dsimp only
    refine condC (fun g => by simp at g) (fun _ => condC (fun _ => condC (fun g => by simp at g) (fun _ => ?_)) (fun g => by simp at g))
    have e6 : (stp (gE) (a) z1 (j + 1)).getD (a + j) 0 = gE j (z1.getD (a + j) 0) := by rw [stp_get, if_pos ⟨by omega, by omega, by omega⟩, Nat.add_sub_cancel_left]
    have e5 : (stp (gE) (a) z1 j).getD (a + j) 0 = z1.getD (a + j) 0 := by rw [stp_get, if_neg (by omega)]
    exact req_intro (by omega) ⟨h6.ne (i := a + j) (by omega), _, h6.load (i := a + j) rfl (by omega), condC (fun g => by rw [e6] at g; have g : ((255 : Int) != 255) = true := g; exact absurd g (by decide)) (fun _ => Lp_re [some 0] ih ⟨⟨by simp, by simp, fun j h => absurd h (Nat.not_lt_zero _)⟩, rfl, (by repeat' first | exact True.intro | refine And.intro (Or.inl rfl) ?_), (by repeat' first | exact True.intro | exact rfl | exact Or.inl rfl | fail | refine And.intro ?_ ?_), (show List.Nodup [0] from by decide), Mem.le_refl _⟩)⟩
def sh4c (a1 a2 a3 e : Int) (b1 b2 b3 : Option Addr) (l1 c1 l2 c2 l3 c3 i : Nat) (b5 b6 : Option Addr) (l5 c5 l6 c6 : Nat) (E : Mem) : St := ⟨[none, some (I a2), some (L b2 l2 c2), some (I a3), some (.loc 0 0), none, none, none, none, some (B true), some (L b3 l3 c3), some (I e), some (I (i : Nat)), some (.loc 1 0), some (.loc 2 0), none, none, none, none, none, none, none, none, none, none, none, none, none, none, none, none, none, none, none, none, none, none, none, none, none, none, none, none, none, none, none, none, none, none, none, none, none, none, none, none, none, none, none, none, none, none, none, none, none, none, none, none, none, none, none, none, none, none, none, none, none, none, none, none, none, none, none, none, none, none, none, none, none, none, none, none, none, none, none, none, none, none, none, none, none, none, none, none, none, none, none, none, none, none, none, none, none, none, none, none, none, none, none, none, none, none, none, none, none, none, none, none, none, none, none, none, none, none, none, none, none, none, none, none, none, none, none, none, none, none, none, none, none, none, none, none, none, none, none, none, none, none, none, none, none, none, none, none, none, none, none, none, none, none, none, none, none, none, none, none, none, none, none, none, none, none, none, none, none, none, none, none, none, none, none, none, none, none, none, none, none, none, none, none, none, none, none, none, none, none, none, none, none, none, none, none, none, none, none, none, none, none, none, none, none, none, none, none, none, none, none, none, none], [⟨24, .lst [I a1, L b1 l1 c1], 2, true⟩, ⟨24, .lst [I a1, L b5 l5 c5], 2, true⟩, ⟨24, .lst [I a1, L b6 l6 c6], 2, true⟩], E⟩
theorem pc4c {a1 a2 a3 e : Int} {b1 b2 b3 : Option Addr} {l1 c1 l2 c2 l3 c3 i : Nat} {b5 b6 : Option Addr} {l5 c5 l6 c6 : Nat} {E0 : Mem} {z1 z2 : List Int} (hB1 : Bs E b1 l1 c1 z1) (v : validF a1 z1.length) (hl1 : l1 ≤ 300) (p1 : 0 ≤ a2) (p2 : a2 + z2.length ≤ z1.length) (hi : 1 ≤ i ∧ i ≤ z2.length) (h5 : Bs E b5 l5 c5 (stp (gP z2) a2.toNat z1 (i - 1))) (h6 : Bs E b6 l6 c6 (stp (gP z2) a2.toNat z1 i)) (hE : Mem.le E0 E)
    (ih : Lp WL4 8 Try.f4 [1, 1, 1, 1, 0, 1, 0] 0 (pubK E0 K) (sh4a a1 a2 a3 e b1 b2 b3 l1 c1 l2 c2 l3 c3 (i + 1) E)) : Pc WL4 8 Try.f4 [1, 1, 1, 1, 0, 1, 0, 0, 1, 0, 0, 1] 0 (pubK E0 K) (sh4c a1 a2 a3 e b1 b2 b3 l1 c1 l2 c2 l3 c3 i  b5 b6 l5 c5 l6 c6 E) := by
  refine same (by kernel_rfl) (?_ : 
      bif (↑l5 : Int) != (↑l1 : Int) then Mem.le E0 E ∧ K (SV.raw (Value.bool false)) E
      else
        bif bif false then true else (↑l6 : Int) != (↑l1 : Int) then Mem.le E0 E ∧ K (SV.raw (Value.bool false)) E
        else
          Mem.le E E ∧
            bif bif false then true else !decide (validF a1 l6) then Mem.le E0 E ∧ K (SV.raw (Value.bool false)) E
            else
              ∃ (zs : List Int),
                ∃ (ys : List Int),
                  Bs E b5 l5 c5 zs ∧
                    Bs E b6 l6 c6 ys ∧
                      l5 ≤ 100000 ∧
                        Mem.le E E ∧
                          bif decide ((oneF zs ys l5).fst > (1 : Int)) then Mem.le E0 E ∧ K (SV.raw (Value.bool false)) E
                          else
                            bif (oneF zs ys l5).fst == (1 : Int) then
                              bif
                                  (oneF zs ys l5).snd !=
                                    IntKind.wrap IntKind.i64 (IntKind.wrap IntKind.i64 (a2 + (↑i : Int)) - (1 : Int)) then
                                Mem.le E0 E ∧ K (SV.raw (Value.bool false)) E
                              else
                                req ((0 : Int) ≤ (oneF zs ys l5).snd ∧ (oneF zs ys l5).snd < (↑l6 : Int))
                                  ((∃ (cs : List Value), E (Value.slice b6 l6 c6) cs ∧ (cs = [] → False)) ∧
                                    ∃ (n : Int),
                                      LoadE WL4.P E 5 (Value.slice b6 l6 c6)
                                          (Int.toNat (oneF zs ys l5).snd * 1) (SV.raw (Value.int IntKind.u8 n)) ∧
                                        req ((0 : Int) ≤ (oneF zs ys l5).snd ∧ (oneF zs ys l5).snd < (↑l5 : Int))
                                          ((∃ (cs : List Value), E (Value.slice b5 l5 c5) cs ∧ (cs = [] → False)) ∧
                                            ∃ (n_1 : Int),
                                              LoadE WL4.P E 5 (Value.slice b5 l5 c5)
                                                  (Int.toNat (oneF zs ys l5).snd * 1)
                                                  (SV.raw (Value.int IntKind.u8 n_1)) ∧
                                                bif
                                                    bif false then true
                                                    else
                                                      bif true then
                                                        bif false then true
                                                        else
                                                          IntKind.wrap IntKind.u8
                                                              (↑(BitVec.toNat
                                                                    (BitVec.ofInt (IntKind.bits IntKind.u8) n &&&
                                                                      ~~~BitVec.ofInt (IntKind.bits IntKind.u8) n_1)) :
                                                                Int) !=
                                                            (0 : Int)
                                                      else false then
                                                  Mem.le E0 E ∧ K (SV.raw (Value.bool false)) E
                                                else
                                                  Lp WL4 8 Try.f4
                                                    [1, 1, 1, 1, 0, 1,
                                                      0]
                                                    0 (pubK E0 K)
                                                    {
                                                      fr :=
                                                        [none, some (SV.raw (Value.int IntKind.i64 a2)),
                                                          some (SV.raw (Value.slice b2 l2 c2)),
                                                          some (SV.raw (Value.int IntKind.i64 a3)),
                                                          some (SV.loc 0 0), none, none, none, none,
                                                          some (SV.raw (Value.bool true)),
                                                          some (SV.raw (Value.slice b3 l3 c3)),
                                                          some (SV.raw (Value.int IntKind.i64 e)),
                                                          some
                                                            (SV.raw
                                                              (Value.int IntKind.i64
                                                                (IntKind.wrap IntKind.i64 ((↑i : Int) + (1 : Int))))),
                                                          none, none, none, none, none, none, none, none, none, none, none,
                                                          none, none, none, none, none, none, none, none, none, none, none,
                                                          none, none, none, none, none, none, none, none, none, none, none,
                                                          none, none, none, none, none, none, none, none, none, none, none,
                                                          none, none, none, none, none, none, none, none, none, none, none,
                                                          none, none, none, none, none, none, none, none, none, none, none,
                                                          none, none, none, none, none, none, none, none, none, none, none,
                                                          none, none, none, none, none, none, none, none, none, none, none,
                                                          none, none, none, none, none, none, none, none, none, none, none,
                                                          none, none, none, none, none, none, none, none, none, none, none,
                                                          none, none, none, none, none, none, none, none, none, none, none,
                                                          none, none, none, none, none, none, none, none, none, none, none,
                                                          none, none, none, none, none, none, none, none, none, none, none,
                                                          none, none, none, none, none, none, none, none, none, none, none,
                                                          none, none, none, none, none, none, none, none, none, none, none,
                                                          none, none, none, none, none, none, none, none, none, none, none,
                                                          none, none, none, none, none, none, none, none, none, none, none,
                                                          none, none, none, none, none, none, none, none, none, none, none,
                                                          none, none, none, none, none, none, none, none, none, none, none,
                                                          none, none, none, none, none, none],
                                                      bx :=
                                                        [{ elem := 24,
                                                            row :=
                                                              Row.lst
                                                                [SV.raw (Value.int IntKind.i64 a1),
                                                                  SV.raw (Value.slice b1 l1 c1)],
                                                            total := 2, own := true : Box },
                                                          { elem := 24,
                                                            row :=
                                                              Row.lst
                                                                [SV.raw (Value.int IntKind.i64 a1),
                                                                  SV.raw (Value.slice b5 l5 c5)],
                                                            total := 2, own := true : Box },
                                                          { elem := 24,
                                                            row :=
                                                              Row.lst
                                                                [SV.raw (Value.int IntKind.i64 a1),
                                                                  SV.raw (Value.slice b6 l6 c6)],
                                                            total := 2, own := true : Box }],
                                                      E := E : St }))
                            else
                              Lp WL4 8 Try.f4
                                [1, 1, 1, 1, 0, 1, 0] 0
                                (pubK E0 K)
                                {
                                  fr :=
                                    [none, some (SV.raw (Value.int IntKind.i64 a2)), some (SV.raw (Value.slice b2 l2 c2)),
                                      some (SV.raw (Value.int IntKind.i64 a3)), some (SV.loc 0 0), none, none,
                                      none, none, some (SV.raw (Value.bool true)), some (SV.raw (Value.slice b3 l3 c3)),
                                      some (SV.raw (Value.int IntKind.i64 e)),
                                      some
                                        (SV.raw (Value.int IntKind.i64 (IntKind.wrap IntKind.i64 ((↑i : Int) + (1 : Int))))),
                                      none, none, none, none, none, none, none, none, none, none, none, none, none, none,
                                      none, none, none, none, none, none, none, none, none, none, none, none, none, none,
                                      none, none, none, none, none, none, none, none, none, none, none, none, none, none,
                                      none, none, none, none, none, none, none, none, none, none, none, none, none, none,
                                      none, none, none, none, none, none, none, none, none, none, none, none, none, none,
                                      none, none, none, none, none, none, none, none, none, none, none, none, none, none,
                                      none, none, none, none, none, none, none, none, none, none, none, none, none, none,
                                      none, none, none, none, none, none, none, none, none, none, none, none, none, none,
                                      none, none, none, none, none, none, none, none, none, none, none, none, none, none,
                                      none, none, none, none, none, none, none, none, none, none, none, none, none, none,
                                      none, none, none, none, none, none, none, none, none, none, none, none, none, none,
                                      none, none, none, none, none, none, none, none, none, none, none, none, none, none,
                                      none, none, none, none, none, none, none, none, none, none, none, none, none, none,
                                      none, none, none, none, none, none, none, none, none, none, none, none, none, none,
                                      none, none, none, none, none, none, none, none, none, none, none, none, none, none,
                                      none, none, none, none, none],
                                  bx :=
                                    [{ elem := 24,
                                        row := Row.lst [SV.raw (Value.int IntKind.i64 a1), SV.raw (Value.slice b1 l1 c1)],
                                        total := 2, own := true : Box },
                                      { elem := 24,
                                        row := Row.lst [SV.raw (Value.int IntKind.i64 a1), SV.raw (Value.slice b5 l5 c5)],
                                        total := 2, own := true : Box },
                                      { elem := 24,
                                        row := Row.lst [SV.raw (Value.int IntKind.i64 a1), SV.raw (Value.slice b6 l6 c6)],
                                        total := 2, own := true : Box }],
                                  E := E : St })
  obtain ⟨j, rfl⟩ : ∃ j, i = j + 1 := ⟨i - 1, by omega⟩
  rw [Nat.add_sub_cancel] at h5
  have n1 := hB1.2.1
  have n5 := h5.2.1
  have n6 := h6.2.1
  simp only [stp_len] at n5 n6
  have w1 : IntKind.wrap .i64 (((j + 1 : Nat) : Int) + 1) = ((j + 1 + 1 : Nat) : Int) := by rw [wrap_i64 (by omega)]; simp
  have w2 : IntKind.wrap .i64 (IntKind.wrap .i64 (a2 + ((j + 1 : Nat) : Int)) - 1) = ((a2.toNat + j : Nat) : Int) := by rw [wrap_i64 (x := a2 + ((j + 1 : Nat) : Int)) (by omega), wrap_i64 (x := a2 + ((j + 1 : Nat) : Int) - 1) (by omega)]; omega
  rw [w1, w2]
  refine condC (fun g => by simp at g; omega) (fun _ => condC (fun g => by simp at g; omega) (fun _ => ⟨Mem.le_refl _, condC (fun g => by rw [show l6 = z1.length from n6.symm] at g; simp [v] at g) (fun _ => ⟨_, _, h5, h6, by have := v.2.2.2.1; omega, Mem.le_refl _, ?_⟩)⟩))
  have ho := oneF_stp (g := gP z2) (a := a2.toNat) (i := j) (zs := z1)
  rw [n5] at ho
  rcases ho with ho | ho
  · rw [ho]
    exact condC (fun g => by simp at g) (fun _ => condC (fun g => by simp at g) (fun _ => Lp_re [some 0] ih ⟨⟨by simp, by simp, fun j h => absurd h (Nat.not_lt_zero _)⟩, rfl, (by repeat' first | exact True.intro | refine And.intro (Or.inl rfl) ?_), (by repeat' first | exact True.intro | exact rfl | exact Or.inl rfl | fail | refine And.intro ?_ ?_), (show List.Nodup [0] from by decide), Mem.le_refl _⟩))
  · rw [ho]
    dsimp only
    refine condC (fun g => by simp at g) (fun _ => condC (fun _ => condC (fun g => by simp at g) (fun _ => ?_)) (fun g => by simp at g))
    have e6 : (stp (gP z2) (a2.toNat) z1 (j + 1)).getD (a2.toNat + j) 0 = gP z2 j (z1.getD (a2.toNat + j) 0) := by rw [stp_get, if_pos ⟨by omega, by omega, by omega⟩, Nat.add_sub_cancel_left]
    have e5 : (stp (gP z2) (a2.toNat) z1 j).getD (a2.toNat + j) 0 = z1.getD (a2.toNat + j) 0 := by rw [stp_get, if_neg (by omega)]
    exact req_intro (by omega) ⟨h6.ne (i := a2.toNat + j) (by omega), _, h6.load (i := a2.toNat + j) rfl (by omega), req_intro (by omega) ⟨h5.ne (i := a2.toNat + j) (by omega), _, h5.load (i := a2.toNat + j) rfl (by omega), condC (fun g => by rw [e6, e5] at g; have g : (_ != (0 : Int)) = true := g; rw [show gP z2 j (z1.getD (a2.toNat + j) 0) = band8 (z1.getD (a2.toNat + j) 0) (z2.getD j 0) from rfl, band8_not] at g; simp at g) (fun _ => Lp_re [some 0] ih ⟨⟨by simp, by simp, fun j h => absurd h (Nat.not_lt_zero _)⟩, rfl, (by repeat' first | exact True.intro | refine And.intro (Or.inl rfl) ?_), (by repeat' first | exact True.intro | exact rfl | exact Or.inl rfl | fail | refine And.intro ?_ ?_), (show List.Nodup [0] from by decide), Mem.le_refl _⟩)⟩⟩

theorem rnd4b {a1 a3 e g : Int} {b1 b2 b3 b4 : Option Addr} {l1 c1 l2 c2 l3 c3 l4 c4 i : Nat} {E0 : Mem} {z1 z2 : List Int} {ms : List (Int × List Int)} {a2 : Int} (hB1 : Bs E b1 l1 c1 z1) (hB2 : Bs E b2 l2 c2 z2) (hl1 : l1 ≤ 300) (hl2 : l2 ≤ 300) (hF : FL E b3 l3 c3 ms) (hP : progF a1 z1 a2 z2 = (ms, e)) {ns : List (Int × List Int)} (hG : FL E b4 l4 c4 ns) (hQ : erasF a1 z1 a3 = (ns, g)) (hi : 1 ≤ i ∧ i ≤ max 1 l4) (hE : Mem.le E0 E) (h : ∀ E', Mem.le E E' → K (B true) E')
    (ih : i < l4 → Lp WL4 8 Try.f4 [1, 1, 1, 1, 1, 1, 0, 1, 0] 0 (pubK E0 K) (sh4b a1 a3 e g b1 b2 b3 b4 l1 c1 l2 c2 l3 c3 l4 c4 (i + 1) E)) : Rnd WL4 8 Try.f4 [1, 1, 1, 1, 1, 1, 0, 1, 0] 0 (pubK E0 K) (sh4b a1 a3 e g b1 b2 b3 b4 l1 c1 l2 c2 l3 c3 l4 c4 i E) := by
  refine same (by kernel_rfl) (?_ : 
      bif decide ((↑i : Int) < (↑l4 : Int)) then
        req
          ((0 : Int) ≤ IntKind.wrap IntKind.i64 ((↑i : Int) - (1 : Int)) ∧
            IntKind.wrap IntKind.i64 ((↑i : Int) - (1 : Int)) < (↑l4 : Int))
          ((∃ (cs : List Value), E (Value.slice b4 l4 c4) cs ∧ (cs = [] → False)) ∧
            ∃ (n : Int),
              ∃ (base : Option Addr),
                ∃ (len : Nat),
                  ∃ (cap : Nat),
                    LoadE WL4.P E 24 (Value.slice b4 l4 c4)
                        (Int.toNat (IntKind.wrap IntKind.i64 ((↑i : Int) - (1 : Int))) * 2)
                        (SV.agg [SV.raw (Value.int IntKind.i64 n), SV.raw (Value.slice base len cap)]) ∧
                      req ((0 : Int) ≤ (↑i : Int) ∧ (↑i : Int) < (↑l4 : Int))
                        ((∃ (cs : List Value), E (Value.slice b4 l4 c4) cs ∧ (cs = [] → False)) ∧
                          (∃ (n_1 : Int),
                              ∃ (base_1 : Option Addr),
                                ∃ (len_1 : Nat),
                                  ∃ (cap_1 : Nat),
                                    LoadE WL4.P E 24 (Value.slice b4 l4 c4) (Int.toNat (↑i : Int) * 2)
                                        (SV.agg
                                          [SV.raw (Value.int IntKind.i64 n_1), SV.raw (Value.slice base_1 len_1 cap_1)]) ∧
                                      Ct WL4 8 Try.f4
                                        [1, 1, 1, 1, 1, 1, 0,
                                          1, 0, 0, 1, 0, 0, 1]
                                        0 (pubK E0 K)
                                        {
                                          fr :=
                                            [none, none, some (SV.raw (Value.slice b2 l2 c2)),
                                              some (SV.raw (Value.int IntKind.i64 a3)), some (SV.loc 0 0),
                                              none, none, none, none, some (SV.raw (Value.bool true)),
                                              some (SV.raw (Value.slice b3 l3 c3)), some (SV.raw (Value.int IntKind.i64 e)),
                                              none, none, none, none, none, some (SV.raw (Value.slice b4 l4 c4)),
                                              some (SV.raw (Value.int IntKind.i64 g)),
                                              some (SV.raw (Value.int IntKind.i64 (↑i : Int))),
                                              some (SV.loc 1 0), some (SV.loc 2 0), none,
                                              none, none, none, none, none, none, none, none, none, none, none, none, none,
                                              none, none, none, none, none, none, none, none, none, none, none, none, none,
                                              none, none, none, none, none, none, none, none, none, none, none, none, none,
                                              none, none, none, none, none, none, none, none, none, none, none, none, none,
                                              none, none, none, none, none, none, none, none, none, none, none, none, none,
                                              none, none, none, none, none, none, none, none, none, none, none, none, none,
                                              none, none, none, none, none, none, none, none, none, none, none, none, none,
                                              none, none, none, none, none, none,
                                              some (SV.raw (Value.int IntKind.i64 (↑i : Int))),
                                              some (SV.raw (Value.slice b4 l4 c4)),
                                              some (SV.raw (Value.int IntKind.i64 (↑l4 : Int))),
                                              some (SV.raw (Value.bool (decide ((↑i : Int) < (↑l4 : Int))))), none, none,
                                              some (SV.raw (Value.slice b4 l4 c4)),
                                              some (SV.raw (Value.int IntKind.i64 (↑i : Int))),
                                              some
                                                (SV.raw
                                                  (Value.int IntKind.i64
                                                    (IntKind.wrap IntKind.i64 ((↑i : Int) - (1 : Int))))),
                                              some
                                                (SV.rp (Value.slice b4 l4 c4)
                                                  (Int.toNat (IntKind.wrap IntKind.i64 ((↑i : Int) - (1 : Int))) *
                                                    2)),
                                              some
                                                (SV.agg
                                                  [SV.raw (Value.int IntKind.i64 n), SV.raw (Value.slice base len cap)]),
                                              some (SV.raw (Value.slice b4 l4 c4)),
                                              some (SV.raw (Value.int IntKind.i64 (↑i : Int))),
                                              some (SV.rp (Value.slice b4 l4 c4) (Int.toNat (↑i : Int) * 2)),
                                              some
                                                (SV.agg
                                                  [SV.raw (Value.int IntKind.i64 n_1),
                                                    SV.raw (Value.slice base_1 len_1 cap_1)]),
                                              none, none, none, none, none, none, none, none, none, none, none, none, none,
                                              none, none, none, none, none, none, none, none, none, none, none, none, none,
                                              none, none, none, none, none, none, none, none, none, none, none, none, none,
                                              none, none, none, none, none, none, none, none, none, none, none, none, none,
                                              none, none, none, none, none, none, none, none, none, none, none, none, none,
                                              none, none, none, none, none, none, none, none, none, none, none, none, none,
                                              none, none, none, none, none, none, none, none, none, none, none, none, none,
                                              none, none],
                                          bx :=
                                            [{ elem := 24,
                                                row :=
                                                  Row.lst [SV.raw (Value.int IntKind.i64 a1), SV.raw (Value.slice b1 l1 c1)],
                                                total := 2, own := true : Box },
                                              { elem := 24,
                                                row :=
                                                  Row.lst
                                                    [SV.raw (Value.int IntKind.i64 n), SV.raw (Value.slice base len cap)],
                                                total := 2, own := true : Box },
                                              { elem := 24,
                                                row :=
                                                  Row.lst
                                                    [SV.raw (Value.int IntKind.i64 n_1),
                                                      SV.raw (Value.slice base_1 len_1 cap_1)],
                                                total := 2, own := true : Box }],
                                          E := E : St }) ∧
                            Sx.Alike (AlikeT.n AlikeT.l (AlikeT.n AlikeT.l AlikeT.l))
                                (∃ (n_1 : Int),
                                  ∃ (base_1 : Option Addr),
                                    ∃ (len_1 : Nat),
                                      ∃ (cap_1 : Nat),
                                        LoadE WL4.P E 24 (Value.slice b4 l4 c4) (Int.toNat (↑i : Int) * 2)
                                            (SV.agg
                                              [SV.raw (Value.int IntKind.i64 n_1), SV.raw (Value.slice base_1 len_1 cap_1)]) ∧
                                          Ct WL4 8 Try.f4
                                            [1, 1, 1, 1, 1, 1, 0,
                                              1, 0, 0, 1, 0, 0, 1]
                                            0 (pubK E0 K)
                                            {
                                              fr :=
                                                [none, none, some (SV.raw (Value.slice b2 l2 c2)),
                                                  some (SV.raw (Value.int IntKind.i64 a3)), some (SV.loc 0 0),
                                                  none, none, none, none, some (SV.raw (Value.bool true)),
                                                  some (SV.raw (Value.slice b3 l3 c3)),
                                                  some (SV.raw (Value.int IntKind.i64 e)), none, none, none, none, none,
                                                  some (SV.raw (Value.slice b4 l4 c4)),
                                                  some (SV.raw (Value.int IntKind.i64 g)),
                                                  some (SV.raw (Value.int IntKind.i64 (↑i : Int))),
                                                  some (SV.loc 1 0), some (SV.loc 2 0), none,
                                                  none, none, none, none, none, none, none, none, none, none, none, none,
                                                  none, none, none, none, none, none, none, none, none, none, none, none,
                                                  none, none, none, none, none, none, none, none, none, none, none, none,
                                                  none, none, none, none, none, none, none, none, none, none, none, none,
                                                  none, none, none, none, none, none, none, none, none, none, none, none,
                                                  none, none, none, none, none, none, none, none, none, none, none, none,
                                                  none, none, none, none, none, none, none, none, none, none, none, none,
                                                  none, none, none, none, none, none, none, none, none, none, none, none,
                                                  none, some (SV.raw (Value.int IntKind.i64 (↑i : Int))),
                                                  some (SV.raw (Value.slice b4 l4 c4)),
                                                  some (SV.raw (Value.int IntKind.i64 (↑l4 : Int))),
                                                  some (SV.raw (Value.bool (decide ((↑i : Int) < (↑l4 : Int))))), none, none,
                                                  some (SV.raw (Value.slice b4 l4 c4)),
                                                  some (SV.raw (Value.int IntKind.i64 (↑i : Int))),
                                                  some
                                                    (SV.raw
                                                      (Value.int IntKind.i64
                                                        (IntKind.wrap IntKind.i64 ((↑i : Int) - (1 : Int))))),
                                                  some
                                                    (SV.rp (Value.slice b4 l4 c4)
                                                      (Int.toNat (IntKind.wrap IntKind.i64 ((↑i : Int) - (1 : Int))) *
                                                        2)),
                                                  some
                                                    (SV.agg
                                                      [SV.raw (Value.int IntKind.i64 n), SV.raw (Value.slice base len cap)]),
                                                  some (SV.raw (Value.slice b4 l4 c4)),
                                                  some (SV.raw (Value.int IntKind.i64 (↑i : Int))),
                                                  some (SV.rp (Value.slice b4 l4 c4) (Int.toNat (↑i : Int) * 2)),
                                                  some
                                                    (SV.agg
                                                      [SV.raw (Value.int IntKind.i64 n_1),
                                                        SV.raw (Value.slice base_1 len_1 cap_1)]),
                                                  none, none, none, none, none, none, none, none, none, none, none, none,
                                                  none, none, none, none, none, none, none, none, none, none, none, none,
                                                  none, none, none, none, none, none, none, none, none, none, none, none,
                                                  none, none, none, none, none, none, none, none, none, none, none, none,
                                                  none, none, none, none, none, none, none, none, none, none, none, none,
                                                  none, none, none, none, none, none, none, none, none, none, none, none,
                                                  none, none, none, none, none, none, none, none, none, none, none, none,
                                                  none, none, none, none, none, none, none, none, none],
                                              bx :=
                                                [{ elem := 24,
                                                    row :=
                                                      Row.lst
                                                        [SV.raw (Value.int IntKind.i64 a1), SV.raw (Value.slice b1 l1 c1)],
                                                    total := 2, own := true : Box },
                                                  { elem := 24,
                                                    row :=
                                                      Row.lst
                                                        [SV.raw (Value.int IntKind.i64 n), SV.raw (Value.slice base len cap)],
                                                    total := 2, own := true : Box },
                                                  { elem := 24,
                                                    row :=
                                                      Row.lst
                                                        [SV.raw (Value.int IntKind.i64 n_1),
                                                          SV.raw (Value.slice base_1 len_1 cap_1)],
                                                    total := 2, own := true : Box }],
                                              E := E : St }) ∧
                              Sx.Alike (AlikeT.n AlikeT.l (AlikeT.n AlikeT.l AlikeT.l))
                                (∃ (n_1 : Int),
                                  ∃ (base_1 : Option Addr),
                                    ∃ (len_1 : Nat),
                                      ∃ (cap_1 : Nat),
                                        LoadE WL4.P E 24 (Value.slice b4 l4 c4) (Int.toNat (↑i : Int) * 2)
                                            (SV.agg
                                              [SV.raw (Value.int IntKind.i64 n_1), SV.raw (Value.slice base_1 len_1 cap_1)]) ∧
                                          Ct WL4 8 Try.f4
                                            [1, 1, 1, 1, 1, 1, 0,
                                              1, 0, 0, 1, 0, 0, 1]
                                            0 (pubK E0 K)
                                            {
                                              fr :=
                                                [none, none, some (SV.raw (Value.slice b2 l2 c2)),
                                                  some (SV.raw (Value.int IntKind.i64 a3)), some (SV.loc 0 0),
                                                  none, none, none, none, some (SV.raw (Value.bool true)),
                                                  some (SV.raw (Value.slice b3 l3 c3)),
                                                  some (SV.raw (Value.int IntKind.i64 e)), none, none, none, none, none,
                                                  some (SV.raw (Value.slice b4 l4 c4)),
                                                  some (SV.raw (Value.int IntKind.i64 g)),
                                                  some (SV.raw (Value.int IntKind.i64 (↑i : Int))),
                                                  some (SV.loc 2 0), some (SV.loc 1 0), none,
                                                  none, none, none, none, none, none, none, none, none, none, none, none,
                                                  none, none, none, none, none, none, none, none, none, none, none, none,
                                                  none, none, none, none, none, none, none, none, none, none, none, none,
                                                  none, none, none, none, none, none, none, none, none, none, none, none,
                                                  none, none, none, none, none, none, none, none, none, none, none, none,
                                                  none, none, none, none, none, none, none, none, none, none, none, none,
                                                  none, none, none, none, none, none, none, none, none, none, none, none,
                                                  none, none, none, none, none, none, none, none, none, none, none, none,
                                                  none, some (SV.raw (Value.int IntKind.i64 (↑i : Int))),
                                                  some (SV.raw (Value.slice b4 l4 c4)),
                                                  some (SV.raw (Value.int IntKind.i64 (↑l4 : Int))),
                                                  some (SV.raw (Value.bool (decide ((↑i : Int) < (↑l4 : Int))))), none, none,
                                                  some (SV.raw (Value.slice b4 l4 c4)),
                                                  some (SV.raw (Value.int IntKind.i64 (↑i : Int))),
                                                  some
                                                    (SV.raw
                                                      (Value.int IntKind.i64
                                                        (IntKind.wrap IntKind.i64 ((↑i : Int) - (1 : Int))))),
                                                  some
                                                    (SV.rp (Value.slice b4 l4 c4)
                                                      (Int.toNat (IntKind.wrap IntKind.i64 ((↑i : Int) - (1 : Int))) *
                                                        2)),
                                                  some
                                                    (SV.agg
                                                      [SV.raw (Value.int IntKind.i64 n), SV.raw (Value.slice base len cap)]),
                                                  some (SV.raw (Value.slice b4 l4 c4)),
                                                  some (SV.raw (Value.int IntKind.i64 (↑i : Int))),
                                                  some (SV.rp (Value.slice b4 l4 c4) (Int.toNat (↑i : Int) * 2)),
                                                  some
                                                    (SV.agg
                                                      [SV.raw (Value.int IntKind.i64 n_1),
                                                        SV.raw (Value.slice base_1 len_1 cap_1)]),
                                                  none, none, none, none, none, none, none, none, none, none, none, none,
                                                  none, none, none, none, none, none, none, none, none, none, none, none,
                                                  none, none, none, none, none, none, none, none, none, none, none, none,
                                                  none, none, none, none, none, none, none, none, none, none, none, none,
                                                  none, none, none, none, none, none, none, none, none, none, none, none,
                                                  none, none, none, none, none, none, none, none, none, none, none, none,
                                                  none, none, none, none, none, none, none, none, none, none, none, none,
                                                  none, none, none, none, none, none, none, none, none],
                                              bx :=
                                                [{ elem := 24,
                                                    row :=
                                                      Row.lst
                                                        [SV.raw (Value.int IntKind.i64 a1), SV.raw (Value.slice b1 l1 c1)],
                                                    total := 2, own := true : Box },
                                                  { elem := 24,
                                                    row :=
                                                      Row.lst
                                                        [SV.raw (Value.int IntKind.i64 n_1),
                                                          SV.raw (Value.slice base_1 len_1 cap_1)],
                                                    total := 2, own := true : Box },
                                                  { elem := 24,
                                                    row :=
                                                      Row.lst
                                                        [SV.raw (Value.int IntKind.i64 n), SV.raw (Value.slice base len cap)],
                                                    total := 2, own := true : Box }],
                                              E := E : St })))
      else
        bif e != (0 : Int) then
          bif g != (0 : Int) then Mem.le E0 E ∧ K (SV.raw (Value.bool true)) E
          else
            bif (↑l4 : Int) == IntKind.wrap IntKind.i64 (a1 + (1 : Int)) then
              req ((0 : Int) ≤ (0 : Int) ∧ (0 : Int) < (↑l4 : Int))
                ((∃ (cs : List Value), E (Value.slice b4 l4 c4) cs ∧ (cs = [] → False)) ∧
                  ∃ (n : Int),
                    ∃ (base : Option Addr),
                      ∃ (len : Nat),
                        ∃ (cap : Nat),
                          LoadE WL4.P E 24 (Value.slice b4 l4 c4) 0
                              (SV.agg [SV.raw (Value.int IntKind.i64 n), SV.raw (Value.slice base len cap)]) ∧
                            ∃ (zs : List Int),
                              ∃ (ys : List Int),
                                Bs E base len cap zs ∧
                                  Bs E b1 l1 c1 ys ∧
                                    len ≤ 100000 ∧
                                      Mem.le E E ∧
                                        Mem.le E0 E ∧
                                          K
                                            (SV.raw
                                              (Value.bool
                                                (bif true then
                                                  bif false then true else bif true then decide (n = a1 ∧ zs = ys) else false
                                                else false)))
                                            E)
            else Mem.le E0 E ∧ K (SV.raw (Value.bool false)) E
        else
          bif (↑l3 : Int) == IntKind.wrap IntKind.i64 ((↑l2 : Int) + (1 : Int)) then
            req ((0 : Int) ≤ (0 : Int) ∧ (0 : Int) < (↑l3 : Int))
              ((∃ (cs : List Value), E (Value.slice b3 l3 c3) cs ∧ (cs = [] → False)) ∧
                ∃ (n : Int),
                  ∃ (base : Option Addr),
                    ∃ (len : Nat),
                      ∃ (cap : Nat),
                        LoadE WL4.P E 24 (Value.slice b3 l3 c3) 0
                            (SV.agg [SV.raw (Value.int IntKind.i64 n), SV.raw (Value.slice base len cap)]) ∧
                          ∃ (zs : List Int),
                            ∃ (ys : List Int),
                              Bs E base len cap zs ∧
                                Bs E b1 l1 c1 ys ∧
                                  len ≤ 100000 ∧
                                    Mem.le E E ∧
                                      bif
                                          bif true then
                                            bif false then true else bif true then decide (n = a1 ∧ zs = ys) else false
                                          else false then
                                        bif g != (0 : Int) then Mem.le E0 E ∧ K (SV.raw (Value.bool true)) E
                                        else
                                          bif (↑l4 : Int) == IntKind.wrap IntKind.i64 (a1 + (1 : Int)) then
                                            req ((0 : Int) ≤ (0 : Int) ∧ (0 : Int) < (↑l4 : Int))
                                              ((∃ (cs : List Value), E (Value.slice b4 l4 c4) cs ∧ (cs = [] → False)) ∧
                                                ∃ (n : Int),
                                                  ∃ (base : Option Addr),
                                                    ∃ (len : Nat),
                                                      ∃ (cap : Nat),
                                                        LoadE WL4.P E 24 (Value.slice b4 l4 c4) 0
                                                            (SV.agg
                                                              [SV.raw (Value.int IntKind.i64 n),
                                                                SV.raw (Value.slice base len cap)]) ∧
                                                          ∃ (zs : List Int),
                                                            ∃ (ys : List Int),
                                                              Bs E base len cap zs ∧
                                                                Bs E b1 l1 c1 ys ∧
                                                                  len ≤ 100000 ∧
                                                                    Mem.le E E ∧
                                                                      Mem.le E0 E ∧
                                                                        K
                                                                          (SV.raw
                                                                            (Value.bool
                                                                              (bif true then
                                                                                bif false then true
                                                                                else
                                                                                  bif true then decide (n = a1 ∧ zs = ys)
                                                                                  else false
                                                                              else false)))
                                                                          E)
                                          else Mem.le E0 E ∧ K (SV.raw (Value.bool false)) E
                                      else Mem.le E0 E ∧ K (SV.raw (Value.bool false)) E)
          else Mem.le E0 E ∧ K (SV.raw (Value.bool false)) E)
  have n1 := hB1.2.1
  have n2 := hB2.2.1
  refine condC (fun q => ?_) (fun q => ?_)
  · have q : i < l4 := by simpa using q
    have z4 := hG.len
    have he : g = 0 := Decidable.byContradiction fun q => by have := erasF_bad hQ q; rw [this] at z4; simp at z4; omega
    subst he
    obtain ⟨v, r1, r2, hn⟩ := erasF_ok hQ
    have v1 := v.1
    have v2 := v.2.1
    rw [hn, mems_len] at z4
    rw [hn] at hG
    rw [wrap_i64 (x := (i : Int) - 1) (by omega), show (i : Int) - 1 = ((i - 1 : Nat) : Int) by omega]
    obtain ⟨x1, b5, l5, c5, x2, x3⟩ := hG.load (mems_get (i := i - 1) (by omega))
    obtain ⟨y1, b6, l6, c6, y2, y3⟩ := hG.load (mems_get (i := i) (by omega))
    have h0 : 0 ≤ a3 * a1 := Int.mul_nonneg r1 (by omega)
    have h8 : (a3 + 1) * a1 ≤ z1.length := by
      have := Int.mul_le_mul_of_nonneg_right (show a3 + 1 ≤ (z1.length : Int) / a1 by omega) (show 0 ≤ a1 by omega)
      have h2 := Int.ediv_mul_le (z1.length : Int) (show a1 ≠ 0 by omega)
      omega
    rw [Int.add_mul, Int.one_mul] at h8
    have K0 := Ct_intro okWL4 (pc4d hB1 v hl1 (show a3 * a1 = ((a3 * a1).toNat : Int) by omega) (by omega) (by omega) x3 y3 hE (ih q))
    exact req_intro (by omega) ⟨x1, a1, b5, l5, c5, x2, req_intro (by omega) ⟨y1, ⟨a1, b6, l6, c6, y2, Ct_re [some 0, some 1, some 2] K0 ⟨⟨by simp, by simp, fun j h => absurd h (Nat.not_lt_zero _)⟩, rfl, (by repeat' first | exact True.intro | refine And.intro (Or.inl rfl) ?_), (by repeat' first | exact True.intro | exact rfl | exact Or.inl rfl | fail | refine And.intro ?_ ?_), (show List.Nodup [0, 1, 2] from by decide), Mem.le_refl _⟩⟩, alike ⟨a1, b6, l6, c6, y2, Ct_re [some 0, some 1, some 2] K0 ⟨⟨by simp, by simp, fun j h => absurd h (Nat.not_lt_zero _)⟩, rfl, (by repeat' first | exact True.intro | refine And.intro (Or.inl rfl) ?_), (by repeat' first | exact True.intro | exact rfl | exact Or.inl rfl | fail | refine And.intro ?_ ?_), (show List.Nodup [0, 1, 2] from by decide), Mem.le_refl _⟩⟩, alike ⟨a1, b6, l6, c6, y2, Ct_re [some 0, some 2, some 1] K0 ⟨⟨by simp, by simp, fun j h => absurd h (Nat.not_lt_zero _)⟩, rfl, (by repeat' first | exact True.intro | refine And.intro (Or.inl rfl) ?_), (by repeat' first | exact True.intro | exact rfl | exact Or.inl rfl | fail | refine And.intro ?_ ?_), (show List.Nodup [0, 2, 1] from by decide), Mem.le_refl _⟩⟩⟩⟩
  refine condC (fun ge => ?_) (fun ge => ?_)
  · refine condC (fun _ => ⟨hE, h E (Mem.le_refl _)⟩) (fun gg => ?_)
    have gg : g = 0 := by simpa using gg
    subst gg
    obtain ⟨v, r1, r2, hn⟩ := erasF_ok hQ
    have v1 := v.1
    have v2 := v.2.1
    have z4 := hG.len
    rw [hn, mems_len] at z4
    rw [hn] at hG
    rw [wrap_i64 (x := a1 + 1) (by omega)]
    refine condC (fun _ => ?_) (fun q => by simp at q; omega)
    obtain ⟨y1, b6, l6, c6, y2, y3⟩ := hG.load (mems_get (i := 0) (by omega))
    have y4 := y3.2.1
    rw [stp_len] at y4
    refine req_intro (by omega) ⟨y1, a1, b6, l6, c6, y2, _, _, y3, hB1, by omega, Mem.le_refl _, hE, ?_⟩
    show K (B (decide (_ = _ ∧ _ = _))) E
    rw [decide_eq_true ⟨rfl, rfl⟩]
    exact h E (Mem.le_refl _)
  have ge : e = 0 := by simpa using ge
  subst ge
  obtain ⟨v, p1, p2, hm⟩ := progF_ok hP
  have v4 := v.2.2.2.1
  have z3 := hF.len
  rw [hm, mems_len] at z3
  rw [hm] at hF
  rw [wrap_i64 (x := (l2 : Int) + 1) (by omega)]
  refine condC (fun _ => ?_) (fun q => by simp at q; omega)
  obtain ⟨x1, b5, l5, c5, x2, x3⟩ := hF.load (mems_get (i := 0) (by omega))
  have x4 := x3.2.1
  rw [stp_len] at x4
  refine req_intro (by omega) ⟨x1, a1, b5, l5, c5, x2, _, _, x3, hB1, by omega, Mem.le_refl _, condC (fun _ => ?_) (fun q => by exact absurd q (by show ¬ decide (_ = _ ∧ _ = _) = false; rw [decide_eq_true ⟨rfl, rfl⟩]; simp))⟩
  refine condC (fun _ => ⟨hE, h E (Mem.le_refl _)⟩) (fun gg => ?_)
  have gg : g = 0 := by simpa using gg
  subst gg
  obtain ⟨v, r1, r2, hn⟩ := erasF_ok hQ
  have v1 := v.1
  have v2 := v.2.1
  have z4 := hG.len
  rw [hn, mems_len] at z4
  rw [hn] at hG
  rw [wrap_i64 (x := a1 + 1) (by omega)]
  refine condC (fun _ => ?_) (fun q => by simp at q; omega)
  obtain ⟨y1, b6, l6, c6, y2, y3⟩ := hG.load (mems_get (i := 0) (by omega))
  have y4 := y3.2.1
  rw [stp_len] at y4
  refine req_intro (by omega) ⟨y1, a1, b6, l6, c6, y2, _, _, y3, hB1, by omega, Mem.le_refl _, hE, ?_⟩
  show K (B (decide (_ = _ ∧ _ = _))) E
  rw [decide_eq_true ⟨rfl, rfl⟩]
  exact h E (Mem.le_refl _)
theorem lp4b {a1 a3 e g : Int} {b1 b2 b3 b4 : Option Addr} {l1 c1 l2 c2 l3 c3 l4 c4 i : Nat} {E0 : Mem} {z1 z2 : List Int} {ms : List (Int × List Int)} {a2 : Int} (hB1 : Bs E b1 l1 c1 z1) (hB2 : Bs E b2 l2 c2 z2) (hl1 : l1 ≤ 300) (hl2 : l2 ≤ 300) (hF : FL E b3 l3 c3 ms) (hP : progF a1 z1 a2 z2 = (ms, e)) {ns : List (Int × List Int)} (hG : FL E b4 l4 c4 ns) (hQ : erasF a1 z1 a3 = (ns, g)) (hi : 1 ≤ i ∧ i ≤ max 1 l4) (hE : Mem.le E0 E) (h : ∀ E', Mem.le E E' → K (B true) E') :
    Lp WL4 8 Try.f4 [1, 1, 1, 1, 1, 1, 0, 1, 0] 0 (pubK E0 K) (sh4b a1 a3 e g b1 b2 b3 b4 l1 c1 l2 c2 l3 c3 l4 c4 i E) :=
  Lp_ind okWL4 (fun x : {i : Nat // 1 ≤ i ∧ i ≤ max 1 l4} => sh4b a1 a3 e g b1 b2 b3 b4 l1 c1 l2 c2 l3 c3 l4 c4 x.1 E) (fun x => max 1 l4 - x.1) (fun x ih => rnd4b hB1 hB2 hl1 hl2 hF hP hG hQ x.2 hE h fun g => ih ⟨x.1 + 1, by omega⟩ (by show max 1 l4 - (_ + 1) < max 1 l4 - _; have := x.2; omega)) ⟨i, hi⟩
theorem rnd4a {a1 a2 a3 e : Int} {b1 b2 b3 : Option Addr} {l1 c1 l2 c2 l3 c3 i : Nat} {E0 : Mem} {z1 z2 : List Int} {ms : List (Int × List Int)} (hB1 : Bs E b1 l1 c1 z1) (hB2 : Bs E b2 l2 c2 z2) (hl1 : l1 ≤ 300) (hl2 : l2 ≤ 300) (hF : FL E b3 l3 c3 ms) (hP : progF a1 z1 a2 z2 = (ms, e)) (hi : 1 ≤ i ∧ i ≤ max 1 l3) (hE : Mem.le E0 E) (h : ∀ E', Mem.le E E' → K (B true) E')
    (ih : i < l3 → Lp WL4 8 Try.f4 [1, 1, 1, 1, 0, 1, 0] 0 (pubK E0 K) (sh4a a1 a2 a3 e b1 b2 b3 l1 c1 l2 c2 l3 c3 (i + 1) E)) : Rnd WL4 8 Try.f4 [1, 1, 1, 1, 0, 1, 0] 0 (pubK E0 K) (sh4a a1 a2 a3 e b1 b2 b3 l1 c1 l2 c2 l3 c3 i E) := by
  refine same (by kernel_rfl) (?_ : 
      bif decide ((↑i : Int) < (↑l3 : Int)) then
        req
          ((0 : Int) ≤ IntKind.wrap IntKind.i64 ((↑i : Int) - (1 : Int)) ∧
            IntKind.wrap IntKind.i64 ((↑i : Int) - (1 : Int)) < (↑l3 : Int))
          ((∃ (cs : List Value), E (Value.slice b3 l3 c3) cs ∧ (cs = [] → False)) ∧
            ∃ (n : Int),
              ∃ (base : Option Addr),
                ∃ (len : Nat),
                  ∃ (cap : Nat),
                    LoadE WL4.P E 24 (Value.slice b3 l3 c3)
                        (Int.toNat (IntKind.wrap IntKind.i64 ((↑i : Int) - (1 : Int))) * 2)
                        (SV.agg [SV.raw (Value.int IntKind.i64 n), SV.raw (Value.slice base len cap)]) ∧
                      req ((0 : Int) ≤ (↑i : Int) ∧ (↑i : Int) < (↑l3 : Int))
                        ((∃ (cs : List Value), E (Value.slice b3 l3 c3) cs ∧ (cs = [] → False)) ∧
                          (∃ (n_1 : Int),
                              ∃ (base_1 : Option Addr),
                                ∃ (len_1 : Nat),
                                  ∃ (cap_1 : Nat),
                                    LoadE WL4.P E 24 (Value.slice b3 l3 c3) (Int.toNat (↑i : Int) * 2)
                                        (SV.agg
                                          [SV.raw (Value.int IntKind.i64 n_1), SV.raw (Value.slice base_1 len_1 cap_1)]) ∧
                                      Ct WL4 8 Try.f4
                                        [1, 1, 1, 1, 0, 1, 0,
                                          0, 1, 0, 0, 1]
                                        0 (pubK E0 K)
                                        {
                                          fr :=
                                            [none, some (SV.raw (Value.int IntKind.i64 a2)),
                                              some (SV.raw (Value.slice b2 l2 c2)), some (SV.raw (Value.int IntKind.i64 a3)),
                                              some (SV.loc 0 0), none, none, none, none,
                                              some (SV.raw (Value.bool true)), some (SV.raw (Value.slice b3 l3 c3)),
                                              some (SV.raw (Value.int IntKind.i64 e)),
                                              some (SV.raw (Value.int IntKind.i64 (↑i : Int))),
                                              some (SV.loc 1 0), some (SV.loc 2 0), none,
                                              none, none, none, none, none, none, none, none, none, none, none, none, none,
                                              none, none, none, none, none, none, none, none, none, none, none, none, none,
                                              some (SV.raw (Value.int IntKind.i64 (↑i : Int))),
                                              some (SV.raw (Value.slice b3 l3 c3)),
                                              some (SV.raw (Value.int IntKind.i64 (↑l3 : Int))),
                                              some (SV.raw (Value.bool (decide ((↑i : Int) < (↑l3 : Int))))), none, none,
                                              some (SV.raw (Value.slice b3 l3 c3)),
                                              some (SV.raw (Value.int IntKind.i64 (↑i : Int))),
                                              some
                                                (SV.raw
                                                  (Value.int IntKind.i64
                                                    (IntKind.wrap IntKind.i64 ((↑i : Int) - (1 : Int))))),
                                              some
                                                (SV.rp (Value.slice b3 l3 c3)
                                                  (Int.toNat (IntKind.wrap IntKind.i64 ((↑i : Int) - (1 : Int))) *
                                                    2)),
                                              some
                                                (SV.agg
                                                  [SV.raw (Value.int IntKind.i64 n), SV.raw (Value.slice base len cap)]),
                                              some (SV.raw (Value.slice b3 l3 c3)),
                                              some (SV.raw (Value.int IntKind.i64 (↑i : Int))),
                                              some (SV.rp (Value.slice b3 l3 c3) (Int.toNat (↑i : Int) * 2)),
                                              some
                                                (SV.agg
                                                  [SV.raw (Value.int IntKind.i64 n_1),
                                                    SV.raw (Value.slice base_1 len_1 cap_1)]),
                                              none, none, none, none, none, none, none, none, none, none, none, none, none,
                                              none, none, none, none, none, none, none, none, none, none, none, none, none,
                                              none, none, none, none, none, none, none, none, none, none, none, none, none,
                                              none, none, none, none, none, none, none, none, none, none, none, none, none,
                                              none, none, none, none, none, none, none, none, none, none, none, none, none,
                                              none, none, none, none, none, none, none, none, none, none, none, none, none,
                                              none, none, none, none, none, none, none, none, none, none, none, none, none,
                                              none, none, none, none, none, none, none, none, none, none, none, none, none,
                                              none, none, none, none, none, none, none, none, none, none, none, none, none,
                                              none, none, none, none, none, none, none, none, none, none, none, none, none,
                                              none, none, none, none, none, none, none, none, none, none, none, none, none,
                                              none, none, none, none, none, none, none, none, none, none, none, none, none,
                                              none, none, none, none, none, none, none, none, none, none, none, none, none,
                                              none, none],
                                          bx :=
                                            [{ elem := 24,
                                                row :=
                                                  Row.lst [SV.raw (Value.int IntKind.i64 a1), SV.raw (Value.slice b1 l1 c1)],
                                                total := 2, own := true : Box },
                                              { elem := 24,
                                                row :=
                                                  Row.lst
                                                    [SV.raw (Value.int IntKind.i64 n), SV.raw (Value.slice base len cap)],
                                                total := 2, own := true : Box },
                                              { elem := 24,
                                                row :=
                                                  Row.lst
                                                    [SV.raw (Value.int IntKind.i64 n_1),
                                                      SV.raw (Value.slice base_1 len_1 cap_1)],
                                                total := 2, own := true : Box }],
                                          E := E : St }) ∧
                            Sx.Alike (AlikeT.n AlikeT.l (AlikeT.n AlikeT.l AlikeT.l))
                                (∃ (n_1 : Int),
                                  ∃ (base_1 : Option Addr),
                                    ∃ (len_1 : Nat),
                                      ∃ (cap_1 : Nat),
                                        LoadE WL4.P E 24 (Value.slice b3 l3 c3) (Int.toNat (↑i : Int) * 2)
                                            (SV.agg
                                              [SV.raw (Value.int IntKind.i64 n_1), SV.raw (Value.slice base_1 len_1 cap_1)]) ∧
                                          Ct WL4 8 Try.f4
                                            [1, 1, 1, 1, 0, 1, 0,
                                              0, 1, 0, 0, 1]
                                            0 (pubK E0 K)
                                            {
                                              fr :=
                                                [none, some (SV.raw (Value.int IntKind.i64 a2)),
                                                  some (SV.raw (Value.slice b2 l2 c2)),
                                                  some (SV.raw (Value.int IntKind.i64 a3)), some (SV.loc 0 0),
                                                  none, none, none, none, some (SV.raw (Value.bool true)),
                                                  some (SV.raw (Value.slice b3 l3 c3)),
                                                  some (SV.raw (Value.int IntKind.i64 e)),
                                                  some (SV.raw (Value.int IntKind.i64 (↑i : Int))),
                                                  some (SV.loc 1 0), some (SV.loc 2 0), none,
                                                  none, none, none, none, none, none, none, none, none, none, none, none,
                                                  none, none, none, none, none, none, none, none, none, none, none, none,
                                                  none, none, some (SV.raw (Value.int IntKind.i64 (↑i : Int))),
                                                  some (SV.raw (Value.slice b3 l3 c3)),
                                                  some (SV.raw (Value.int IntKind.i64 (↑l3 : Int))),
                                                  some (SV.raw (Value.bool (decide ((↑i : Int) < (↑l3 : Int))))), none, none,
                                                  some (SV.raw (Value.slice b3 l3 c3)),
                                                  some (SV.raw (Value.int IntKind.i64 (↑i : Int))),
                                                  some
                                                    (SV.raw
                                                      (Value.int IntKind.i64
                                                        (IntKind.wrap IntKind.i64 ((↑i : Int) - (1 : Int))))),
                                                  some
                                                    (SV.rp (Value.slice b3 l3 c3)
                                                      (Int.toNat (IntKind.wrap IntKind.i64 ((↑i : Int) - (1 : Int))) *
                                                        2)),
                                                  some
                                                    (SV.agg
                                                      [SV.raw (Value.int IntKind.i64 n), SV.raw (Value.slice base len cap)]),
                                                  some (SV.raw (Value.slice b3 l3 c3)),
                                                  some (SV.raw (Value.int IntKind.i64 (↑i : Int))),
                                                  some (SV.rp (Value.slice b3 l3 c3) (Int.toNat (↑i : Int) * 2)),
                                                  some
                                                    (SV.agg
                                                      [SV.raw (Value.int IntKind.i64 n_1),
                                                        SV.raw (Value.slice base_1 len_1 cap_1)]),
                                                  none, none, none, none, none, none, none, none, none, none, none, none,
                                                  none, none, none, none, none, none, none, none, none, none, none, none,
                                                  none, none, none, none, none, none, none, none, none, none, none, none,
                                                  none, none, none, none, none, none, none, none, none, none, none, none,
                                                  none, none, none, none, none, none, none, none, none, none, none, none,
                                                  none, none, none, none, none, none, none, none, none, none, none, none,
                                                  none, none, none, none, none, none, none, none, none, none, none, none,
                                                  none, none, none, none, none, none, none, none, none, none, none, none,
                                                  none, none, none, none, none, none, none, none, none, none, none, none,
                                                  none, none, none, none, none, none, none, none, none, none, none, none,
                                                  none, none, none, none, none, none, none, none, none, none, none, none,
                                                  none, none, none, none, none, none, none, none, none, none, none, none,
                                                  none, none, none, none, none, none, none, none, none, none, none, none,
                                                  none, none, none, none, none, none, none, none, none, none, none, none,
                                                  none, none, none],
                                              bx :=
                                                [{ elem := 24,
                                                    row :=
                                                      Row.lst
                                                        [SV.raw (Value.int IntKind.i64 a1), SV.raw (Value.slice b1 l1 c1)],
                                                    total := 2, own := true : Box },
                                                  { elem := 24,
                                                    row :=
                                                      Row.lst
                                                        [SV.raw (Value.int IntKind.i64 n), SV.raw (Value.slice base len cap)],
                                                    total := 2, own := true : Box },
                                                  { elem := 24,
                                                    row :=
                                                      Row.lst
                                                        [SV.raw (Value.int IntKind.i64 n_1),
                                                          SV.raw (Value.slice base_1 len_1 cap_1)],
                                                    total := 2, own := true : Box }],
                                              E := E : St }) ∧
                              Sx.Alike (AlikeT.n AlikeT.l (AlikeT.n AlikeT.l AlikeT.l))
                                (∃ (n_1 : Int),
                                  ∃ (base_1 : Option Addr),
                                    ∃ (len_1 : Nat),
                                      ∃ (cap_1 : Nat),
                                        LoadE WL4.P E 24 (Value.slice b3 l3 c3) (Int.toNat (↑i : Int) * 2)
                                            (SV.agg
                                              [SV.raw (Value.int IntKind.i64 n_1), SV.raw (Value.slice base_1 len_1 cap_1)]) ∧
                                          Ct WL4 8 Try.f4
                                            [1, 1, 1, 1, 0, 1, 0,
                                              0, 1, 0, 0, 1]
                                            0 (pubK E0 K)
                                            {
                                              fr :=
                                                [none, some (SV.raw (Value.int IntKind.i64 a2)),
                                                  some (SV.raw (Value.slice b2 l2 c2)),
                                                  some (SV.raw (Value.int IntKind.i64 a3)), some (SV.loc 0 0),
                                                  none, none, none, none, some (SV.raw (Value.bool true)),
                                                  some (SV.raw (Value.slice b3 l3 c3)),
                                                  some (SV.raw (Value.int IntKind.i64 e)),
                                                  some (SV.raw (Value.int IntKind.i64 (↑i : Int))),
                                                  some (SV.loc 2 0), some (SV.loc 1 0), none,
                                                  none, none, none, none, none, none, none, none, none, none, none, none,
                                                  none, none, none, none, none, none, none, none, none, none, none, none,
                                                  none, none, some (SV.raw (Value.int IntKind.i64 (↑i : Int))),
                                                  some (SV.raw (Value.slice b3 l3 c3)),
                                                  some (SV.raw (Value.int IntKind.i64 (↑l3 : Int))),
                                                  some (SV.raw (Value.bool (decide ((↑i : Int) < (↑l3 : Int))))), none, none,
                                                  some (SV.raw (Value.slice b3 l3 c3)),
                                                  some (SV.raw (Value.int IntKind.i64 (↑i : Int))),
                                                  some
                                                    (SV.raw
                                                      (Value.int IntKind.i64
                                                        (IntKind.wrap IntKind.i64 ((↑i : Int) - (1 : Int))))),
                                                  some
                                                    (SV.rp (Value.slice b3 l3 c3)
                                                      (Int.toNat (IntKind.wrap IntKind.i64 ((↑i : Int) - (1 : Int))) *
                                                        2)),
                                                  some
                                                    (SV.agg
                                                      [SV.raw (Value.int IntKind.i64 n), SV.raw (Value.slice base len cap)]),
                                                  some (SV.raw (Value.slice b3 l3 c3)),
                                                  some (SV.raw (Value.int IntKind.i64 (↑i : Int))),
                                                  some (SV.rp (Value.slice b3 l3 c3) (Int.toNat (↑i : Int) * 2)),
                                                  some
                                                    (SV.agg
                                                      [SV.raw (Value.int IntKind.i64 n_1),
                                                        SV.raw (Value.slice base_1 len_1 cap_1)]),
                                                  none, none, none, none, none, none, none, none, none, none, none, none,
                                                  none, none, none, none, none, none, none, none, none, none, none, none,
                                                  none, none, none, none, none, none, none, none, none, none, none, none,
                                                  none, none, none, none, none, none, none, none, none, none, none, none,
                                                  none, none, none, none, none, none, none, none, none, none, none, none,
                                                  none, none, none, none, none, none, none, none, none, none, none, none,
                                                  none, none, none, none, none, none, none, none, none, none, none, none,
                                                  none, none, none, none, none, none, none, none, none, none, none, none,
                                                  none, none, none, none, none, none, none, none, none, none, none, none,
                                                  none, none, none, none, none, none, none, none, none, none, none, none,
                                                  none, none, none, none, none, none, none, none, none, none, none, none,
                                                  none, none, none, none, none, none, none, none, none, none, none, none,
                                                  none, none, none, none, none, none, none, none, none, none, none, none,
                                                  none, none, none, none, none, none, none, none, none, none, none, none,
                                                  none, none, none],
                                              bx :=
                                                [{ elem := 24,
                                                    row :=
                                                      Row.lst
                                                        [SV.raw (Value.int IntKind.i64 a1), SV.raw (Value.slice b1 l1 c1)],
                                                    total := 2, own := true : Box },
                                                  { elem := 24,
                                                    row :=
                                                      Row.lst
                                                        [SV.raw (Value.int IntKind.i64 n_1),
                                                          SV.raw (Value.slice base_1 len_1 cap_1)],
                                                    total := 2, own := true : Box },
                                                  { elem := 24,
                                                    row :=
                                                      Row.lst
                                                        [SV.raw (Value.int IntKind.i64 n), SV.raw (Value.slice base len cap)],
                                                    total := 2, own := true : Box }],
                                              E := E : St })))
      else
        ∃ (zs : List Int),
          Bs E b1 l1 c1 zs ∧
            ∀ (b' : Option Addr) (l' c' : Nat) (ms : List (Int × List Int)) (e_1 : Int) (E' : Mem),
              Mem.le E E' →
                Hyp (erasF a1 zs a3 = (ms, e_1)) →
                  FL E' b' l' c' ms →
                    Mem.le E E' ∧
                      Lp WL4 8 Try.f4
                        [1, 1, 1, 1, 1, 1, 0, 1, 0]
                        0 (pubK E0 K)
                        {
                          fr :=
                            [none, some (SV.raw (Value.int IntKind.i64 a2)), some (SV.raw (Value.slice b2 l2 c2)),
                              some (SV.raw (Value.int IntKind.i64 a3)), some (SV.loc 0 0), none, none, none,
                              none, some (SV.raw (Value.bool true)), some (SV.raw (Value.slice b3 l3 c3)),
                              some (SV.raw (Value.int IntKind.i64 e)), some (SV.raw (Value.int IntKind.i64 (↑i : Int))), none,
                              none, none, none, some (SV.raw (Value.slice b' l' c')),
                              some (SV.raw (Value.int IntKind.i64 e_1)), some (SV.raw (Value.int IntKind.i64 (1 : Int))),
                              none, none, none, none, none, none, none, none, none, none, none, none, none, none, none, none,
                              none, none, none, none, none, none, some (SV.raw (Value.int IntKind.i64 (↑i : Int))),
                              some (SV.raw (Value.slice b3 l3 c3)), some (SV.raw (Value.int IntKind.i64 (↑l3 : Int))),
                              some (SV.raw (Value.bool (decide ((↑i : Int) < (↑l3 : Int))))), none, none, none, none, none,
                              none, none, none, none, none, none, none, none, none, none, none, none, none, none, none, none,
                              none, none, none, none, none, none, none, none, none, none, none, none, none, none, none, none,
                              none, none, none, none, none, none, none, none, none, none, none, none, none, none, none, none,
                              none, none, none, none, none, none, none, none, none, none, none, none, none, none, none,
                              some (SV.tup [SV.raw (Value.slice b' l' c'), SV.raw (Value.int IntKind.i64 e_1)]),
                              some (SV.agg [SV.raw (Value.int IntKind.i64 a1), SV.raw (Value.slice b1 l1 c1)]),
                              some (SV.raw (Value.int IntKind.i64 a3)),
                              some (SV.tup [SV.raw (Value.slice b' l' c'), SV.raw (Value.int IntKind.i64 e_1)]),
                              some (SV.raw (Value.slice b' l' c')), some (SV.raw (Value.int IntKind.i64 e_1)), none, none,
                              none, none, none, none, none, none, none, none, none, none, none, none, none, none, none, none,
                              none, none, none, none, none, none, none, none, none, none, none, none, none, none, none, none,
                              none, none, none, none, none, none, none, none, none, none, none, none, none, none, none, none,
                              none, none, none, none, none, none, none, none, none, none, none, none, none, none, none, none,
                              none, none, none, none, none, none, none, none, none, none, none, none, none, none, none, none,
                              none, none, none, none, none, none, none, none, none, none, none, none, none, none, none, none,
                              none, none, none, none, none, none, none, none, none, none],
                          bx :=
                            [{ elem := 24,
                                row := Row.lst [SV.raw (Value.int IntKind.i64 a1), SV.raw (Value.slice b1 l1 c1)],
                                total := 2, own := true : Box }],
                          E := E' : St })
  have n1 := hB1.2.1
  have n2 := hB2.2.1
  refine condC (fun q => ?_) (fun q => ?_)
  · have q : i < l3 := by simpa using q
    have z3 := hF.len
    have he : e = 0 := Decidable.byContradiction fun q => by have := progF_bad hP q; rw [this] at z3; simp at z3; omega
    subst he
    obtain ⟨v, p1, p2, hm⟩ := progF_ok hP
    rw [hm, mems_len] at z3
    rw [hm] at hF
    rw [wrap_i64 (x := (i : Int) - 1) (by omega), show (i : Int) - 1 = ((i - 1 : Nat) : Int) by omega]
    obtain ⟨x1, b5, l5, c5, x2, x3⟩ := hF.load (mems_get (i := i - 1) (by omega))
    obtain ⟨y1, b6, l6, c6, y2, y3⟩ := hF.load (mems_get (i := i) (by omega))
    have K0 := Ct_intro okWL4 (pc4c hB1 v hl1 p1 p2 (by omega) x3 y3 hE (ih q))
    exact req_intro (by omega) ⟨x1, a1, b5, l5, c5, x2, req_intro (by omega) ⟨y1, ⟨a1, b6, l6, c6, y2, Ct_re [some 0, some 1, some 2] K0 ⟨⟨by simp, by simp, fun j h => absurd h (Nat.not_lt_zero _)⟩, rfl, (by repeat' first | exact True.intro | refine And.intro (Or.inl rfl) ?_), (by repeat' first | exact True.intro | exact rfl | exact Or.inl rfl | fail | refine And.intro ?_ ?_), (show List.Nodup [0, 1, 2] from by decide), Mem.le_refl _⟩⟩, alike ⟨a1, b6, l6, c6, y2, Ct_re [some 0, some 1, some 2] K0 ⟨⟨by simp, by simp, fun j h => absurd h (Nat.not_lt_zero _)⟩, rfl, (by repeat' first | exact True.intro | refine And.intro (Or.inl rfl) ?_), (by repeat' first | exact True.intro | exact rfl | exact Or.inl rfl | fail | refine And.intro ?_ ?_), (show List.Nodup [0, 1, 2] from by decide), Mem.le_refl _⟩⟩, alike ⟨a1, b6, l6, c6, y2, Ct_re [some 0, some 2, some 1] K0 ⟨⟨by simp, by simp, fun j h => absurd h (Nat.not_lt_zero _)⟩, rfl, (by repeat' first | exact True.intro | refine And.intro (Or.inl rfl) ?_), (by repeat' first | exact True.intro | exact rfl | exact Or.inl rfl | fail | refine And.intro ?_ ?_), (show List.Nodup [0, 2, 1] from by decide), Mem.le_refl _⟩⟩⟩⟩
  exact ⟨z1, hB1, fun b4 l4 c4 ns g E2 q2 r2 F2 => ⟨q2, Lp_re [some 0] (lp4b (i := 1) (hB1.mono q2) (hB2.mono q2) hl1 hl2 (hF.mono q2) hP F2 r2 (by omega) (Mem.le_trans hE q2) (fun E' k => h E' (Mem.le_trans q2 k))) ⟨⟨by simp, by simp, fun j h => absurd h (Nat.not_lt_zero _)⟩, rfl, (by repeat' first | exact True.intro | refine And.intro (Or.inl rfl) ?_), (by repeat' first | exact True.intro | exact rfl | exact Or.inl rfl | fail | refine And.intro ?_ ?_), (show List.Nodup [0] from by decide), Mem.le_refl _⟩⟩⟩
theorem lp4a {a1 a2 a3 e : Int} {b1 b2 b3 : Option Addr} {l1 c1 l2 c2 l3 c3 i : Nat} {E0 : Mem} {z1 z2 : List Int} {ms : List (Int × List Int)} (hB1 : Bs E b1 l1 c1 z1) (hB2 : Bs E b2 l2 c2 z2) (hl1 : l1 ≤ 300) (hl2 : l2 ≤ 300) (hF : FL E b3 l3 c3 ms) (hP : progF a1 z1 a2 z2 = (ms, e)) (hi : 1 ≤ i ∧ i ≤ max 1 l3) (hE : Mem.le E0 E) (h : ∀ E', Mem.le E E' → K (B true) E') :
    Lp WL4 8 Try.f4 [1, 1, 1, 1, 0, 1, 0] 0 (pubK E0 K) (sh4a a1 a2 a3 e b1 b2 b3 l1 c1 l2 c2 l3 c3 i E) :=
  Lp_ind okWL4 (fun x : {i : Nat // 1 ≤ i ∧ i ≤ max 1 l3} => sh4a a1 a2 a3 e b1 b2 b3 l1 c1 l2 c2 l3 c3 x.1 E) (fun x => max 1 l3 - x.1) (fun x ih => rnd4a hB1 hB2 hl1 hl2 hF hP x.2 hE h fun g => ih ⟨x.1 + 1, by omega⟩ (by show max 1 l3 - (_ + 1) < max 1 l3 - _; have := x.2; omega)) ⟨i, hi⟩
theorem e4 {a1 : Int} {b1 : Option Addr} {l1 : Nat} {c1 : Nat} {z1 : List Int} {a2 : Int} {b2 : Option Addr} {l2 : Nat} {c2 : Nat} {z2 : List Int} {a3 : Int} (ha1 : (Lit.int .i64 a1).wf = true) (hB1 : Bs E b1 l1 c1 z1) (ha2 : (Lit.int .i64 a2).wf = true) (hB2 : Bs E b2 l2 c2 z2) (ha3 : (Lit.int .i64 a3).wf = true) (h : ∀ E' : Mem, Mem.le E E' → K (B true) E') :
    Ent WL4 8 Try.f4 [.agg [I a1, L b1 l1 c1], I a2, L b2 l2 c2, I a3] E K := by
  refine same (by kernel_rfl) (?_ : 
      ∀ (E' : Mem),
        Mem.le E E' →
          Mem.le E E' ∧
            bif decide ((↑l1 : Int) > (300 : Int)) then Mem.le E E' ∧ K (SV.raw (Value.bool true)) E'
            else
              bif bif false then true else decide ((↑l2 : Int) > (300 : Int)) then
                Mem.le E E' ∧ K (SV.raw (Value.bool true)) E'
              else
                ∃ (zs : List Int),
                  ∃ (ds : List Int),
                    Bs E' b1 l1 c1 zs ∧
                      Bs E' b2 l2 c2 ds ∧
                        ∀ (b' : Option Addr) (l' c' : Nat) (ms : List (Int × List Int)) (e : Int) (E'_1 : Mem),
                          Mem.le E' E'_1 →
                            Hyp (progF a1 zs a2 ds = (ms, e)) →
                              FL E'_1 b' l' c' ms →
                                Mem.le E' E'_1 ∧
                                  Lp WL4 8 Try.f4
                                    [1, 1, 1, 1, 0, 1, 0] 0
                                    (pubK E K)
                                    {
                                      fr :=
                                        [some (SV.agg [SV.raw (Value.int IntKind.i64 a1), SV.raw (Value.slice b1 l1 c1)]),
                                          some (SV.raw (Value.int IntKind.i64 a2)), some (SV.raw (Value.slice b2 l2 c2)),
                                          some (SV.raw (Value.int IntKind.i64 a3)), some (SV.loc 0 0), none,
                                          none, none, none, some (SV.raw (Value.bool true)),
                                          some (SV.raw (Value.slice b' l' c')), some (SV.raw (Value.int IntKind.i64 e)),
                                          some (SV.raw (Value.int IntKind.i64 (1 : Int))), none, none, none, none, none, none,
                                          none, none, none, none, none, some (SV.raw (Value.bool true)),
                                          some (SV.loc 0 1), some (SV.raw (Value.slice b1 l1 c1)),
                                          some (SV.raw (Value.int IntKind.i64 (↑l1 : Int))),
                                          some (SV.raw (Value.bool (decide ((↑l1 : Int) > (300 : Int))))),
                                          some (SV.raw (Value.bool false)), some (SV.raw (Value.slice b2 l2 c2)),
                                          some (SV.raw (Value.int IntKind.i64 (↑l2 : Int))),
                                          some (SV.raw (Value.bool (decide ((↑l2 : Int) > (300 : Int))))),
                                          some
                                            (SV.raw
                                              (Value.bool (bif false then true else decide ((↑l2 : Int) > (300 : Int))))),
                                          none,
                                          some (SV.tup [SV.raw (Value.slice b' l' c'), SV.raw (Value.int IntKind.i64 e)]),
                                          some (SV.agg [SV.raw (Value.int IntKind.i64 a1), SV.raw (Value.slice b1 l1 c1)]),
                                          some (SV.raw (Value.int IntKind.i64 a2)), some (SV.raw (Value.slice b2 l2 c2)),
                                          some (SV.tup [SV.raw (Value.slice b' l' c'), SV.raw (Value.int IntKind.i64 e)]),
                                          some (SV.raw (Value.slice b' l' c')), some (SV.raw (Value.int IntKind.i64 e)), none,
                                          none, none, none, none, none, none, none, none, none, none, none, none, none, none,
                                          none, none, none, none, none, none, none, none, none, none, none, none, none, none,
                                          none, none, none, none, none, none, none, none, none, none, none, none, none, none,
                                          none, none, none, none, none, none, none, none, none, none, none, none, none, none,
                                          none, none, none, none, none, none, none, none, none, none, none, none, none, none,
                                          none, none, none, none, none, none, none, none, none, none, none, none, none, none,
                                          none, none, none, none, none, none, none, none, none, none, none, none, none, none,
                                          none, none, none, none, none, none, none, none, none, none, none, none, none, none,
                                          none, none, none, none, none, none, none, none, none, none, none, none, none, none,
                                          none, none, none, none, none, none, none, none, none, none, none, none, none, none,
                                          none, none, none, none, none, none, none, none, none, none, none, none, none, none,
                                          none, none, none, none, none, none, none, none, none, none, none, none, none, none,
                                          none, none, none, none, none, none, none, none, none, none, none, none, none, none,
                                          none, none, none],
                                      bx :=
                                        [{ elem := 24,
                                            row := Row.lst [SV.raw (Value.int IntKind.i64 a1), SV.raw (Value.slice b1 l1 c1)],
                                            total := 2, own := true : Box }],
                                      E := E'_1 : St })
  intro E1 q1
  refine ⟨q1, condC (fun _ => ⟨q1, h E1 q1⟩) (fun g1 => condC (fun _ => ⟨q1, h E1 q1⟩) (fun g2 => ?_))⟩
  have g1 : l1 ≤ 300 := by simp at g1; omega
  have g2 : l2 ≤ 300 := by simp at g2; omega
  refine ⟨z1, z2, hB1.mono q1, hB2.mono q1, fun b3 l3 c3 ms e E2 q2 r2 F2 => ⟨q2, ?_⟩⟩
  have r2 : progF a1 z1 a2 z2 = (ms, e) := r2
  have k2 := Mem.le_trans q1 q2
  exact Lp_re [some 0] (lp4a (i := 1) (hB1.mono k2) (hB2.mono k2) g1 g2 F2 r2 (by omega) k2 (fun E' k => h E' (Mem.le_trans k2 k))) ⟨⟨by simp, by simp, fun j h => absurd h (Nat.not_lt_zero _)⟩, rfl, (by repeat' first | exact True.intro | refine And.intro (Or.inl rfl) ?_), (by repeat' first | exact True.intro | exact rfl | exact Or.inl rfl | fail | refine And.intro ?_ ?_), (show List.Nodup [0] from by decide), Mem.le_refl _⟩


theorem opn4 (W : World) (K : List SV → Prop) (h : ∀ a1 : Int, (Lit.int .i64 a1).wf = true → ∀ (b1 : Option Addr) (l1 c1 : Nat) (z1 : List Int), (l1 ≤ c1) → (c1 ≤ maxLen) → (b1 = none → c1 = 0) → (z1.length = c1) → (∀ x ∈ z1, (Lit.int .u8 x).wf = true) → RowAt W (.slice b1 l1 c1) (z1.map (.int .u8)) → ∀ a2 : Int, (Lit.int .i64 a2).wf = true → ∀ (b2 : Option Addr) (l2 c2 : Nat) (z2 : List Int), (l2 ≤ c2) → (c2 ≤ maxLen) → (b2 = none → c2 = 0) → (z2.length = c2) → (∀ x ∈ z2, (Lit.int .u8 x).wf = true) → RowAt W (.slice b2 l2 c2) (z2.map (.int .u8)) → ∀ a3 : Int, (Lit.int .i64 a3).wf = true → K [.agg [I a1, L b1 l1 c1], I a2, L b2 l2 c2, I a3]) : opnAll Try.prog W Try.f4.params.toList K :=
  same (by kernel_rfl) h

theorem sem4 (W : World) : opnAll Try.prog W Try.f4.params.toList fun ss => TabSem Try.prog 4 ss (fun v cs => RowAt W v cs) fun r _ => r = .raw (.bool true) := by
  refine opn4 W _ ?_
  intro a1 ha1 b1 l1 c1 z1 hl1 hc1 hb1 hz1 hw1 hE1 a2 ha2 b2 l2 c2 z2 hl2 hc2 hb2 hz2 hw2 hE2 a3 ha3
  exact Ent.sem okWL4 Try.func4 ⟨by kernel_rfl, by kernel_rfl⟩ rfl (e4 ha1 (Bs.of hl1 hb1 hz1 hw1 hE1) ha2 (Bs.of hl2 hb2 hz2 hw2 hE2) ha3 (fun _ _ => rfl))

theorem lifted4 (os : Os) (started : os.Started) (H : Type) (enc : TypeId × Value → H) :
    ReturnsInHanded {} Try.checked os 4 .any (Rows.flashStepsSpec.pre6 enc Try.prog Try.f4 Rows.flashStepsRow.domain false) (Rows.flashStepsSpec.post enc Try.prog Try.f4 false true false false) :=
  lift_true (C := Try.checked) (by kernel_rfl) (by kernel_rfl) started (by kernel_rfl) Try.func4
    (ChangeSpec.witness6 (enc := enc) (C := Try.checked) false ⟨#[], #[.agg #[.int .i64 0, .slice none 0 0], .int .i64 0, .slice none 0 0, .int .i64 0], []⟩ 8 (by kernel_rfl) (by kernel_rfl) (by kernel_rfl) (by kernel_rfl))
    (Tb := 4) (by kernel_rfl) (by kernel_rfl) (by kernel_rfl) rfl
    (fun ds hl => by
      match ds, hl with
      | [d0, d1, d2, d3], _ => exact ⟨rfl, rfl, rfl⟩)
    sem4

theorem over4 : Rows.flashStepsRow.holds Try.pinned (OpenSpec.ofChange Rows.flashStepsSpec) :=
  OpenClaim.holds_of_wide 4 Try.f4 rfl rfl rfl rfl rfl rfl rfl ⟨rfl, rfl, rfl, rfl, rfl⟩ rfl rfl rfl rfl rfl (by kernel_rfl) Try.func4 (by kernel_rfl)
    (of_decide_eq_true (by kernel_rfl)) (by unfold Func.isWrapper; first | (rw [if_pos (by decide +kernel)]; kernel_rfl) | (rw [if_neg (by decide +kernel)]; exact ⟨rfl, rfl⟩))
    (fun os started H enc _ => lifted4 os started H enc)

theorem proved4 : Rows.FlashStepsSaid := over4
end Go.Proofs.Ythgdbpnddnbbdaa.FlashOwn
