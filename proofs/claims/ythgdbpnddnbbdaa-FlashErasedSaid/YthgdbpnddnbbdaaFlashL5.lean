/- The law FlashErased. -/
import Derived.Test.YthgdbpnddnbbdaaFlashP
import Derived.OpenShut
import Derived.Test.YthgdbpnddnbbdaaRows
namespace Go.Proofs.Ythgdbpnddnbbdaa.FlashOwn
open Go Go.Sx Go.Proofs.Ythgdbpnddnbbdaa
set_option maxRecDepth 100000
set_option maxHeartbeats 4000000
set_option linter.unusedVariables false
set_option linter.unusedSimpArgs false
variable {E : Mem} {K : SV → Mem → Prop}
noncomputable def tabL5 : FuncId → List SV → Mem → (SV → Mem → Prop) → Prop := fun f args E K => match f with
  | 10 => d0 args ((∀ E' : Mem, Mem.le E E' → K (B true) E'))
  | 11 => d2 args fun x0 x1 => dI x0 fun a1 => dI x1 fun a2 => (∀ (s' : Int) (b' : Option Addr) (l' c' : Nat) (ys : List Int) (e : Int) (E' : Mem), Mem.le E E' → Hyp (newF a1 a2 = ((s', ys), e)) → Bs E' b' l' c' ys → K (.tup [.agg [I s', L b' l' c'], I e]) E')
  | 13 => d2 args fun x0 x1 => dC x0 fun l1 => d2 l1 fun x0_0 x0_1 => dI x0_0 fun a1 => dS x0_1 fun b2 l3 c4 => dC x1 fun l2 => d2 l2 fun x1_0 x1_1 => dI x1_0 fun a5 => dS x1_1 fun b6 l7 c8 => ∃ (zs : List Int) (ys : List Int), Bs E b2 l3 c4 zs ∧ Bs E b6 l7 c8 ys ∧ l3 ≤ 100000 ∧ (K (B (decide (a1 = a5 ∧ zs = ys))) E)
  | 14 => d3 args fun x0 x1 x2 => dC x0 fun l1 => d2 l1 fun x0_0 x0_1 => dI x0_0 fun a1 => dS x0_1 fun b2 l3 c4 => dI x1 fun a5 => dS x2 fun b6 l7 c8 => ∃ (zs : List Int) (ds : List Int), Bs E b2 l3 c4 zs ∧ Bs E b6 l7 c8 ds ∧ (∀ (b' : Option Addr) (l' c' : Nat) (ms : List (Int × List Int)) (e : Int) (E' : Mem), Mem.le E E' → Hyp (progF a1 zs a5 ds = (ms, e)) → FL E' b' l' c' ms → K (.tup [L b' l' c', I e]) E')
  | 16 => d2 args fun x0 x1 => dC x0 fun l1 => d2 l1 fun x0_0 x0_1 => dI x0_0 fun a1 => dS x0_1 fun b2 l3 c4 => dI x1 fun a5 => ∃ (zs : List Int), Bs E b2 l3 c4 zs ∧ (∀ (b' : Option Addr) (l' c' : Nat) (ms : List (Int × List Int)) (e : Int) (E' : Mem), Mem.le E E' → Hyp (erasF a1 zs a5 = (ms, e)) → FL E' b' l' c' ms → K (.tup [L b' l' c', I e]) E')
  | 18 => d1 args fun x0 => dC x0 fun l1 => d2 l1 fun x0_0 x0_1 => dI x0_0 fun a1 => dS x0_1 fun b2 l3 c4 => (K (B (decide (validF a1 l3))) E)
  | 20 => d2 args fun x0 x1 => dS x0 fun b1 l2 c3 => dS x1 fun b4 l5 c6 => ∃ (ms : List (Int × List Int)) (ns : List (Int × List Int)), FL E b1 l2 c3 ms ∧ FL E b4 l5 c6 ns ∧ (∀ m ∈ ms, m.2.length ≤ 100000) ∧ l2 ≤ 100000 ∧ (K (B (decide (ms = ns))) E)
  | 21 => d2 args fun x0 x1 => dS x0 fun b1 l2 c3 => dS x1 fun b4 l5 c6 => ∃ (zs : List Int) (ys : List Int), Bs E b1 l2 c3 zs ∧ Bs E b4 l5 c6 ys ∧ l2 ≤ 100000 ∧ (K (.tup [I (oneF zs ys l2).1, I (oneF zs ys l2).2]) E)
  | 22 => d3 args fun x0 x1 x2 => dC x0 fun l1 => d2 l1 fun x0_0 x0_1 => dI x0_0 fun a1 => dS x0_1 fun b2 l3 c4 => dI x1 fun a5 => dS x2 fun b6 l7 c8 => ∃ (zs : List Int) (ds : List Int), Bs E b2 l3 c4 zs ∧ Bs E b6 l7 c8 ds ∧ (l7 ≤ 90000) ∧ (∀ (s' : Int) (b' : Option Addr) (l' c' : Nat) (ys : List Int) (ok : Bool) (E' : Mem), Mem.le E E' → Hyp (doneF a1 zs a5 ds = ((s', ys), ok)) → Bs E' b' l' c' ys → K (.tup [.agg [I s', L b' l' c'], B ok]) E')
  | 23 => d3 args fun x0 x1 x2 => dS x0 fun b1 l2 c3 => dI x1 fun a4 => dI x2 fun a5 => ∃ (ms : List (Int × List Int)), FL E b1 l2 c3 ms ∧ (l2 ≤ 100000) ∧ (∀ (s' : Int) (b' : Option Addr) (l' c' : Nat) (ys : List Int) (ok : Bool) (E' : Mem), Mem.le E E' → Hyp (lastF ms a4 a5 = ((s', ys), ok)) → Bs E' b' l' c' ys → K (.tup [.agg [I s', L b' l' c'], B ok]) E')
  | _ => False
theorem tabL5_ok : TabOK Try.prog tabL5 := by
  intro f args E K h
  unfold tabL5 at h
  split at h
  · obtain ⟨rfl, h⟩ := d0_elim h
    exact TabSem.congr rfl (Ent.sem okFI Try.func10 ⟨by kernel_rfl, by kernel_rfl⟩ rfl (s10 h))
  · replace h := d2_elim h
    obtain ⟨x0, x1, rfl, h⟩ := h
    replace h := dI_elim h
    obtain ⟨a1, rfl, h⟩ := h
    replace h := dI_elim h
    obtain ⟨a2, rfl, h⟩ := h
    exact TabSem.congr (valL_cons rfl (valL_cons rfl rfl)) (Ent.sem okF8 Try.func11 ⟨by kernel_rfl, by kernel_rfl⟩ rfl (s11 h))
  · replace h := d2_elim h
    obtain ⟨x0, x1, rfl, h⟩ := h
    replace h := dC_elim h
    obtain ⟨l1, hl1, h⟩ := h
    replace h := d2_elim h
    obtain ⟨x0_0, x0_1, rfl, h⟩ := h
    replace h := dI_elim h
    obtain ⟨a1, rfl, h⟩ := h
    replace h := dS_elim h
    obtain ⟨b2, l3, c4, rfl, h⟩ := h
    replace h := dC_elim h
    obtain ⟨l2, hl2, h⟩ := h
    replace h := d2_elim h
    obtain ⟨x1_0, x1_1, rfl, h⟩ := h
    replace h := dI_elim h
    obtain ⟨a5, rfl, h⟩ := h
    replace h := dS_elim h
    obtain ⟨b6, l7, c8, rfl, h⟩ := h
    obtain ⟨zs, ys, g0, g1, g2, h⟩ := h
    exact TabSem.congr (valL_cons (asCells_val hl1) (valL_cons (asCells_val hl2) rfl)) (Ent.sem okFA Try.func13 ⟨by kernel_rfl, by kernel_rfl⟩ rfl (s13 g0 g1 g2 h))
  · replace h := d3_elim h
    obtain ⟨x0, x1, x2, rfl, h⟩ := h
    replace h := dC_elim h
    obtain ⟨l1, hl1, h⟩ := h
    replace h := d2_elim h
    obtain ⟨x0_0, x0_1, rfl, h⟩ := h
    replace h := dI_elim h
    obtain ⟨a1, rfl, h⟩ := h
    replace h := dS_elim h
    obtain ⟨b2, l3, c4, rfl, h⟩ := h
    replace h := dI_elim h
    obtain ⟨a5, rfl, h⟩ := h
    replace h := dS_elim h
    obtain ⟨b6, l7, c8, rfl, h⟩ := h
    obtain ⟨zs, ds, g0, g1, h⟩ := h
    exact TabSem.congr (valL_cons (asCells_val hl1) (valL_cons rfl (valL_cons rfl rfl))) (Ent.sem okF3 Try.func14 ⟨by kernel_rfl, by kernel_rfl⟩ rfl (s14 g0 g1 h))
  · replace h := d2_elim h
    obtain ⟨x0, x1, rfl, h⟩ := h
    replace h := dC_elim h
    obtain ⟨l1, hl1, h⟩ := h
    replace h := d2_elim h
    obtain ⟨x0_0, x0_1, rfl, h⟩ := h
    replace h := dI_elim h
    obtain ⟨a1, rfl, h⟩ := h
    replace h := dS_elim h
    obtain ⟨b2, l3, c4, rfl, h⟩ := h
    replace h := dI_elim h
    obtain ⟨a5, rfl, h⟩ := h
    obtain ⟨zs, g0, h⟩ := h
    exact TabSem.congr (valL_cons (asCells_val hl1) (valL_cons rfl rfl)) (Ent.sem okF4 Try.func16 ⟨by kernel_rfl, by kernel_rfl⟩ rfl (s16 g0 h))
  · replace h := d1_elim h
    obtain ⟨x0, rfl, h⟩ := h
    replace h := dC_elim h
    obtain ⟨l1, hl1, h⟩ := h
    replace h := d2_elim h
    obtain ⟨x0_0, x0_1, rfl, h⟩ := h
    replace h := dI_elim h
    obtain ⟨a1, rfl, h⟩ := h
    replace h := dS_elim h
    obtain ⟨b2, l3, c4, rfl, h⟩ := h
    exact TabSem.congr (valL_cons (asCells_val hl1) rfl) (Ent.sem okF5 Try.func18 ⟨by kernel_rfl, by kernel_rfl⟩ rfl (s18 h))
  · replace h := d2_elim h
    obtain ⟨x0, x1, rfl, h⟩ := h
    replace h := dS_elim h
    obtain ⟨b1, l2, c3, rfl, h⟩ := h
    replace h := dS_elim h
    obtain ⟨b4, l5, c6, rfl, h⟩ := h
    obtain ⟨ms, ns, g0, g1, g2, g3, h⟩ := h
    exact TabSem.congr (valL_cons rfl (valL_cons rfl rfl)) (Ent.sem okFE Try.func20 ⟨by kernel_rfl, by kernel_rfl⟩ rfl (s20 g0 g1 g2 g3 h))
  · replace h := d2_elim h
    obtain ⟨x0, x1, rfl, h⟩ := h
    replace h := dS_elim h
    obtain ⟨b1, l2, c3, rfl, h⟩ := h
    replace h := dS_elim h
    obtain ⟨b4, l5, c6, rfl, h⟩ := h
    obtain ⟨zs, ys, g0, g1, g2, h⟩ := h
    exact TabSem.congr (valL_cons rfl (valL_cons rfl rfl)) (Ent.sem okFF Try.func21 ⟨by kernel_rfl, by kernel_rfl⟩ rfl (s21 g0 g1 g2 h))
  · replace h := d3_elim h
    obtain ⟨x0, x1, x2, rfl, h⟩ := h
    replace h := dC_elim h
    obtain ⟨l1, hl1, h⟩ := h
    replace h := d2_elim h
    obtain ⟨x0_0, x0_1, rfl, h⟩ := h
    replace h := dI_elim h
    obtain ⟨a1, rfl, h⟩ := h
    replace h := dS_elim h
    obtain ⟨b2, l3, c4, rfl, h⟩ := h
    replace h := dI_elim h
    obtain ⟨a5, rfl, h⟩ := h
    replace h := dS_elim h
    obtain ⟨b6, l7, c8, rfl, h⟩ := h
    obtain ⟨zs, ds, g0, g1, g2, h⟩ := h
    exact TabSem.congr (valL_cons (asCells_val hl1) (valL_cons rfl (valL_cons rfl rfl))) (Ent.sem okFH Try.func22 ⟨by kernel_rfl, by kernel_rfl⟩ rfl (s22 g0 g1 g2 h))
  · replace h := d3_elim h
    obtain ⟨x0, x1, x2, rfl, h⟩ := h
    replace h := dS_elim h
    obtain ⟨b1, l2, c3, rfl, h⟩ := h
    replace h := dI_elim h
    obtain ⟨a4, rfl, h⟩ := h
    replace h := dI_elim h
    obtain ⟨a5, rfl, h⟩ := h
    obtain ⟨ms, g0, g1, h⟩ := h
    exact TabSem.congr (valL_cons rfl (valL_cons rfl (valL_cons rfl rfl))) (Ent.sem okFG Try.func23 ⟨by kernel_rfl, by kernel_rfl⟩ rfl (s23 g0 g1 h))
  · exact h.elim
noncomputable def WL5 : Cx := { P := Try.prog, inl := fun f => List.contains [] f, tab := tabL5, isB := fun _ => false, tabB := fun _ _ _ _ _ => False, opt := { unroll := 0, carry := [89] }, muts := mutsD }
theorem okWL5 : CxOK WL5 := CxOK.four tabL5_ok (by kernel_rfl) (okInl (by kernel_rfl)) (fun _ _ _ _ _ h => h.elim)

def sh5L (s3 s4 : Int) (b1 b3 b4 : Option Addr) (l1 c1 l3 c3 l4 c4 k i : Nat) (E : Mem) : St := ⟨[none, none, none, some (L b1 l1 c1), none, none, none, none, none, some (B true), none, none, some (I (k : Nat)), none, none, none, none, none, none, none, none, none, none, none, none, none, none, none, none, none, none, none, none, none, none, none, none, none, none, none, none, none, none, none, none, none, none, none, none, none, none, none, none, none, none, none, none, none, none, none, none, none, none, none, none, none, none, none, none, none, none, none, none, none, none, none, none, none, none, none, none, none, none, none, none, none, none, some (L b4 l4 c4), some (I (l4 : Nat)), some (I (i : Nat)), none, none, none, none, none, none, none, none, none, none, none, none, none, none, none, none, none, none, none, none, none, none, none, none, none, none], [⟨24, .lst [I s3, L b3 l3 c3], 2, true⟩, ⟨24, .lst [I s4, L b4 l4 c4], 2, true⟩], E⟩
theorem progE {E : Mem} {b1 : Option Addr} {l1 c1 l4 k i : Nat} {z1 : List Int} (hB1 : Bs E b1 l1 c1 z1) (hi : i < l4) : (stp (gP z1) k (List.replicate l4 255) l1).getD i 0 = if k ≤ i ∧ i < k + l1 then z1.getD (i - k) 0 else 255 := by
  have h2 : (List.replicate l4 (255 : Int)).getD i 0 = 255 := by simp [List.getD_eq_getElem?_getD, hi]
  rw [stp_get, List.length_replicate, h2]
  by_cases h : k ≤ i ∧ i < k + l1
  · rw [if_pos ⟨h.1, h.2, hi⟩, if_pos h]
    refine band8_255 (hB1.2.2.2.1 _ ?_)
    rw [List.getD_eq_getElem?_getD, List.getElem?_eq_getElem (by rw [hB1.2.1]; omega)]
    exact List.getElem_mem _
  · rw [if_neg h, if_neg (fun q => h ⟨q.1, q.2.1⟩)]
theorem rnd5L {s3 s4 : Int} {b1 b3 b4 : Option Addr} {l1 c1 l3 c3 l4 c4 k i : Nat} {E0 : Mem} {z1 : List Int} (hB1 : Bs E b1 l1 c1 z1) (hB4 : Bs E b4 l4 c4 (stp (gP z1) k (List.replicate l4 255) l1))
    (hk : k + l1 ≤ l4) (hl : l4 ≤ 16384) (hi : i ≤ l4) (hE : Mem.le E0 E) (h : K (B true) E)
    (ih : i < l4 → Lp WL5 8 Try.f5 [1, 1, 1, 1, 1, 1, 1, 0, 1, 0] 0 (pubK E0 K) (sh5L s3 s4 b1 b3 b4 l1 c1 l3 c3 l4 c4 k (i + 1) E)) :
    Rnd WL5 8 Try.f5 [1, 1, 1, 1, 1, 1, 1, 0, 1, 0] 0 (pubK E0 K) (sh5L s3 s4 b1 b3 b4 l1 c1 l3 c3 l4 c4 k i E) := by
  refine same (by kernel_rfl) (?_ : 
      bif decide ((↑i : Int) < (↑l4 : Int)) then
        req ((0 : Int) ≤ (↑i : Int) ∧ (↑i : Int) < (↑l4 : Int))
          ((∃ (cs : List Value), E (Value.slice b4 l4 c4) cs ∧ (cs = [] → False)) ∧
            ∃ (n : Int),
              LoadE WL5.P E 5 (Value.slice b4 l4 c4) (Int.toNat (↑i : Int) * 1)
                  (SV.raw (Value.int IntKind.u8 n)) ∧
                bif decide ((↑i : Int) ≥ (↑k : Int)) then
                  bif bif true then decide ((↑i : Int) < IntKind.wrap IntKind.i64 ((↑k : Int) + (↑l1 : Int))) else false then
                    req
                      ((0 : Int) ≤ IntKind.wrap IntKind.i64 ((↑i : Int) - (↑k : Int)) ∧
                        IntKind.wrap IntKind.i64 ((↑i : Int) - (↑k : Int)) < (↑l1 : Int))
                      ((∃ (cs : List Value), E (Value.slice b1 l1 c1) cs ∧ (cs = [] → False)) ∧
                        ∃ (n_1 : Int),
                          LoadE WL5.P E 5 (Value.slice b1 l1 c1)
                              (Int.toNat (IntKind.wrap IntKind.i64 ((↑i : Int) - (↑k : Int))) * 1)
                              (SV.raw (Value.int IntKind.u8 n_1)) ∧
                            bif n != n_1 then Mem.le E0 E ∧ K (SV.raw (Value.bool false)) E
                            else
                              Lp WL5 8 Try.f5
                                [1, 1, 1, 1, 1, 1, 1, 0,
                                  1, 0]
                                0 (pubK E0 K)
                                {
                                  fr :=
                                    [none, none, none, some (SV.raw (Value.slice b1 l1 c1)), none, none, none, none, none,
                                      some (SV.raw (Value.bool true)), none, none,
                                      some (SV.raw (Value.int IntKind.i64 (↑k : Int))), none, none, none, none, none, none,
                                      none, none, none, none, none, none, none, none, none, none, none, none, none, none,
                                      none, none, none, none, none, none, none, none, none, none, none, none, none, none,
                                      none, none, none, none, none, none, none, none, none, none, none, none, none, none,
                                      none, none, none, none, none, none, none, none, none, none, none, none, none, none,
                                      none, none, none, none, none, none, none, none, none, none, none, none,
                                      some (SV.raw (Value.slice b4 l4 c4)), some (SV.raw (Value.int IntKind.i64 (↑l4 : Int))),
                                      some
                                        (SV.raw (Value.int IntKind.i64 (IntKind.wrap IntKind.i64 ((↑i : Int) + (1 : Int))))),
                                      none, none, none, none, none, none, none, none, none, none, none, none, none, none,
                                      none, none, none, none, none, none, none, none, none, none, none, none],
                                  bx :=
                                    [{ elem := 24,
                                        row := Row.lst [SV.raw (Value.int IntKind.i64 s3), SV.raw (Value.slice b3 l3 c3)],
                                        total := 2, own := true : Box },
                                      { elem := 24,
                                        row := Row.lst [SV.raw (Value.int IntKind.i64 s4), SV.raw (Value.slice b4 l4 c4)],
                                        total := 2, own := true : Box }],
                                  E := E : St })
                  else
                    bif n != (255 : Int) then Mem.le E0 E ∧ K (SV.raw (Value.bool false)) E
                    else
                      Lp WL5 8 Try.f5
                        [1, 1, 1, 1, 1, 1, 1, 0, 1,
                          0]
                        0 (pubK E0 K)
                        {
                          fr :=
                            [none, none, none, some (SV.raw (Value.slice b1 l1 c1)), none, none, none, none, none,
                              some (SV.raw (Value.bool true)), none, none, some (SV.raw (Value.int IntKind.i64 (↑k : Int))),
                              none, none, none, none, none, none, none, none, none, none, none, none, none, none, none, none,
                              none, none, none, none, none, none, none, none, none, none, none, none, none, none, none, none,
                              none, none, none, none, none, none, none, none, none, none, none, none, none, none, none, none,
                              none, none, none, none, none, none, none, none, none, none, none, none, none, none, none, none,
                              none, none, none, none, none, none, none, none, none, none,
                              some (SV.raw (Value.slice b4 l4 c4)), some (SV.raw (Value.int IntKind.i64 (↑l4 : Int))),
                              some (SV.raw (Value.int IntKind.i64 (IntKind.wrap IntKind.i64 ((↑i : Int) + (1 : Int))))), none,
                              none, none, none, none, none, none, none, none, none, none, none, none, none, none, none, none,
                              none, none, none, none, none, none, none, none, none],
                          bx :=
                            [{ elem := 24,
                                row := Row.lst [SV.raw (Value.int IntKind.i64 s3), SV.raw (Value.slice b3 l3 c3)],
                                total := 2, own := true : Box },
                              { elem := 24,
                                row := Row.lst [SV.raw (Value.int IntKind.i64 s4), SV.raw (Value.slice b4 l4 c4)],
                                total := 2, own := true : Box }],
                          E := E : St }
                else
                  bif n != (255 : Int) then Mem.le E0 E ∧ K (SV.raw (Value.bool false)) E
                  else
                    Lp WL5 8 Try.f5
                      [1, 1, 1, 1, 1, 1, 1, 0, 1,
                        0]
                      0 (pubK E0 K)
                      {
                        fr :=
                          [none, none, none, some (SV.raw (Value.slice b1 l1 c1)), none, none, none, none, none,
                            some (SV.raw (Value.bool true)), none, none, some (SV.raw (Value.int IntKind.i64 (↑k : Int))),
                            none, none, none, none, none, none, none, none, none, none, none, none, none, none, none, none,
                            none, none, none, none, none, none, none, none, none, none, none, none, none, none, none, none,
                            none, none, none, none, none, none, none, none, none, none, none, none, none, none, none, none,
                            none, none, none, none, none, none, none, none, none, none, none, none, none, none, none, none,
                            none, none, none, none, none, none, none, none, none, none, some (SV.raw (Value.slice b4 l4 c4)),
                            some (SV.raw (Value.int IntKind.i64 (↑l4 : Int))),
                            some (SV.raw (Value.int IntKind.i64 (IntKind.wrap IntKind.i64 ((↑i : Int) + (1 : Int))))), none,
                            none, none, none, none, none, none, none, none, none, none, none, none, none, none, none, none,
                            none, none, none, none, none, none, none, none, none],
                        bx :=
                          [{ elem := 24,
                              row := Row.lst [SV.raw (Value.int IntKind.i64 s3), SV.raw (Value.slice b3 l3 c3)],
                              total := 2, own := true : Box },
                            { elem := 24,
                              row := Row.lst [SV.raw (Value.int IntKind.i64 s4), SV.raw (Value.slice b4 l4 c4)],
                              total := 2, own := true : Box }],
                        E := E : St })
      else Mem.le E0 E ∧ K (SV.raw (Value.bool true)) E)
  have n1 := hB1.2.1
  have n4 := hB4.2.1
  simp only [stp_len, List.length_replicate] at n4
  refine condC (fun g => ?_) (fun g => ⟨hE, h⟩)
  have g : i < l4 := by simpa using g
  have hb := progE (k := k) (i := i) hB1 g
  have w1 : IntKind.wrap .i64 ((i : Int) + 1) = ((i + 1 : Nat) : Int) := by rw [wrap_i64 (by omega)]; simp
  have nx := ih g
  rw [w1]
  refine req_intro (by omega) ⟨hB4.ne g, _, hB4.load (i := i) rfl g, condC (fun g1 => ?_) (fun g1 => ?_)⟩
  · have g1 : k ≤ i := by simp at g1; omega
    rw [wrap_i64 (x := (k : Int) + l1) (by omega), wrap_i64 (x := (i : Int) - k) (by omega)]
    refine condC (fun g2 => ?_) (fun g2 => ?_)
    · have g2 : i < k + l1 := by simp at g2; omega
      rw [if_pos ⟨g1, g2⟩] at hb
      rw [show (i : Int) - k = ((i - k : Nat) : Int) by omega]
      refine req_intro (by omega) ⟨hB1.ne (i := i - k) (by omega), _, hB1.load (i := i - k) rfl (by omega), condC (fun g3 => by rw [hb] at g3; simp at g3) (fun _ => Lp_re [some 0, some 1] nx ⟨⟨by simp, by simp, fun j h => absurd h (Nat.not_lt_zero _)⟩, rfl, (by repeat' first | exact True.intro | refine And.intro (Or.inl rfl) ?_), (by repeat' first | exact True.intro | exact rfl | exact Or.inl rfl | fail | refine And.intro ?_ ?_), (show List.Nodup [0, 1] from by decide), Mem.le_refl _⟩)⟩
    · have g2 : ¬ i < k + l1 := by simp at g2; omega
      rw [if_neg (fun q => g2 q.2)] at hb
      exact condC (fun g3 => by rw [hb] at g3; simp at g3) (fun _ => Lp_re [some 0, some 1] nx ⟨⟨by simp, by simp, fun j h => absurd h (Nat.not_lt_zero _)⟩, rfl, (by repeat' first | exact True.intro | refine And.intro (Or.inl rfl) ?_), (by repeat' first | exact True.intro | exact rfl | exact Or.inl rfl | fail | refine And.intro ?_ ?_), (show List.Nodup [0, 1] from by decide), Mem.le_refl _⟩)
  · have g1 : ¬ k ≤ i := by simp at g1; omega
    rw [if_neg (fun q => g1 q.1)] at hb
    exact condC (fun g3 => by rw [hb] at g3; simp at g3) (fun _ => Lp_re [some 0, some 1] nx ⟨⟨by simp, by simp, fun j h => absurd h (Nat.not_lt_zero _)⟩, rfl, (by repeat' first | exact True.intro | refine And.intro (Or.inl rfl) ?_), (by repeat' first | exact True.intro | exact rfl | exact Or.inl rfl | fail | refine And.intro ?_ ?_), (show List.Nodup [0, 1] from by decide), Mem.le_refl _⟩)
theorem lp5L {s3 s4 : Int} {b1 b3 b4 : Option Addr} {l1 c1 l3 c3 l4 c4 k i : Nat} {E0 : Mem} {z1 : List Int} (hB1 : Bs E b1 l1 c1 z1) (hB4 : Bs E b4 l4 c4 (stp (gP z1) k (List.replicate l4 255) l1))
    (hk : k + l1 ≤ l4) (hl : l4 ≤ 16384) (hi : i ≤ l4) (hE : Mem.le E0 E) (h : K (B true) E) : Lp WL5 8 Try.f5 [1, 1, 1, 1, 1, 1, 1, 0, 1, 0] 0 (pubK E0 K) (sh5L s3 s4 b1 b3 b4 l1 c1 l3 c3 l4 c4 k i E) :=
  Lp_ind okWL5 (fun x : {i : Nat // i ≤ l4} => sh5L s3 s4 b1 b3 b4 l1 c1 l3 c3 l4 c4 k x.1 E) (fun x => l4 - x.1) (fun x ih => rnd5L hB1 hB4 hk hl x.2 hE h fun g => ih ⟨x.1 + 1, by omega⟩ (by show l4 - (_ + 1) < l4 - _; omega)) ⟨i, hi⟩
theorem e5 {a1 : Int} {a2 : Int} {a3 : Int} {b1 : Option Addr} {l1 : Nat} {c1 : Nat} {z1 : List Int} (ha1 : (Lit.int .u8 a1).wf = true) (ha2 : (Lit.int .u8 a2).wf = true) (ha3 : (Lit.int .u16 a3).wf = true) (hB1 : Bs E b1 l1 c1 z1) (h : ∀ E' : Mem, Mem.le E E' → K (B true) E') :
    Ent WL5 8 Try.f5 [.raw (.int .u8 a1), .raw (.int .u8 a2), .raw (.int .u16 a3), L b1 l1 c1] E K := by
  refine same (by kernel_rfl) (?_ : 
      ∀ (E' : Mem),
        Mem.le E E' →
          Mem.le E E' ∧
            ((64 : Int) = (0 : Int) → False) ∧
              ((4 : Int) = (0 : Int) → False) ∧
                ∀ (s' : Int) (b' : Option Addr) (l' c' : Nat) (ys : List Int) (e : Int) (E'_1 : Mem),
                  Mem.le E' E'_1 →
                    Hyp
                        (newF (IntKind.wrap IntKind.i64 ((1 : Int) + Int.tmod (IntKind.wrap IntKind.i64 a1) (64 : Int)))
                            (IntKind.wrap IntKind.i64 ((1 : Int) + Int.tmod (IntKind.wrap IntKind.i64 a2) (4 : Int))) =
                          ((s', ys), e)) →
                      Bs E'_1 b' l' c' ys →
                        Mem.le E' E'_1 ∧
                          bif e != (0 : Int) then
                            bif bif true then e == (0 : Int) else false then
                              Mem.le E E'_1 ∧
                                K (SV.raw (Value.bool (bif true then decide ((↑l' : Int) > (0 : Int)) else false))) E'_1
                            else Mem.le E E'_1 ∧ K (SV.raw (Value.bool false)) E'_1
                          else
                            bif bif false then true else (↑l' : Int) == (0 : Int) then
                              bif bif true then e == (0 : Int) else false then
                                Mem.le E E'_1 ∧
                                  K (SV.raw (Value.bool (bif true then decide ((↑l' : Int) > (0 : Int)) else false))) E'_1
                              else Mem.le E E'_1 ∧ K (SV.raw (Value.bool false)) E'_1
                            else
                              bif bif false then true else decide ((↑l1 : Int) > (↑l' : Int)) then
                                bif bif true then e == (0 : Int) else false then
                                  Mem.le E E'_1 ∧
                                    K (SV.raw (Value.bool (bif true then decide ((↑l' : Int) > (0 : Int)) else false))) E'_1
                                else Mem.le E E'_1 ∧ K (SV.raw (Value.bool false)) E'_1
                              else
                                (IntKind.wrap IntKind.i64 (IntKind.wrap IntKind.i64 ((↑l' : Int) - (↑l1 : Int)) + (1 : Int)) =
                                      (0 : Int) →
                                    False) ∧
                                  ∃ (zs : List Int),
                                    ∃ (ds : List Int),
                                      Bs E'_1 b' l' c' zs ∧
                                        Bs E'_1 b1 l1 c1 ds ∧
                                          l1 ≤ 90000 ∧
                                            ∀ (s'_1 : Int) (b'_1 : Option Addr) (l'_1 c'_1 : Nat) (ys : List Int) (ok : Bool)
                                              (E' : Mem),
                                              Mem.le E'_1 E' →
                                                Hyp
                                                    (doneF s' zs
                                                        (Int.tmod (IntKind.wrap IntKind.i64 a3)
                                                          (IntKind.wrap IntKind.i64
                                                            (IntKind.wrap IntKind.i64 ((↑l' : Int) - (↑l1 : Int)) +
                                                              (1 : Int))))
                                                        ds =
                                                      ((s'_1, ys), ok)) →
                                                  Bs E' b'_1 l'_1 c'_1 ys →
                                                    Mem.le E'_1 E' ∧
                                                      bif !ok then Mem.le E E' ∧ K (SV.raw (Value.bool false)) E'
                                                      else
                                                        bif bif false then true else (↑l'_1 : Int) != (↑l' : Int) then
                                                          Mem.le E E' ∧ K (SV.raw (Value.bool false)) E'
                                                        else
                                                          Lp WL5 8 Try.f5
                                                            [1, 1, 1, 1, 1, 1,
                                                              1, 0, 1, 0]
                                                            0 (pubK E K)
                                                            {
                                                              fr :=
                                                                [some (SV.raw (Value.int IntKind.u8 a1)),
                                                                  some (SV.raw (Value.int IntKind.u8 a2)),
                                                                  some (SV.raw (Value.int IntKind.u16 a3)),
                                                                  some (SV.raw (Value.slice b1 l1 c1)), none, none, none,
                                                                  none, none, some (SV.raw (Value.bool true)),
                                                                  some (SV.loc 0 0),
                                                                  some (SV.raw (Value.int IntKind.i64 e)),
                                                                  some
                                                                    (SV.raw
                                                                      (Value.int IntKind.i64
                                                                        (Int.tmod (IntKind.wrap IntKind.i64 a3)
                                                                          (IntKind.wrap IntKind.i64
                                                                            (IntKind.wrap IntKind.i64
                                                                                ((↑l' : Int) - (↑l1 : Int)) +
                                                                              (1 : Int)))))),
                                                                  some (SV.loc 1 0),
                                                                  some (SV.raw (Value.bool ok)), none, none, none,
                                                                  some (SV.raw (Value.bool true)),
                                                                  some
                                                                    (SV.tup
                                                                      [SV.agg
                                                                          [SV.raw (Value.int IntKind.i64 s'),
                                                                            SV.raw (Value.slice b' l' c')],
                                                                        SV.raw (Value.int IntKind.i64 e)]),
                                                                  some (SV.raw (Value.int IntKind.u8 a1)),
                                                                  some
                                                                    (SV.raw
                                                                      (Value.int IntKind.i64 (IntKind.wrap IntKind.i64 a1))),
                                                                  some
                                                                    (SV.raw
                                                                      (Value.int IntKind.i64
                                                                        (Int.tmod (IntKind.wrap IntKind.i64 a1) (64 : Int)))),
                                                                  some
                                                                    (SV.raw
                                                                      (Value.int IntKind.i64
                                                                        (IntKind.wrap IntKind.i64
                                                                          ((1 : Int) +
                                                                            Int.tmod (IntKind.wrap IntKind.i64 a1)
                                                                              (64 : Int))))),
                                                                  some (SV.raw (Value.int IntKind.u8 a2)),
                                                                  some
                                                                    (SV.raw
                                                                      (Value.int IntKind.i64 (IntKind.wrap IntKind.i64 a2))),
                                                                  some
                                                                    (SV.raw
                                                                      (Value.int IntKind.i64
                                                                        (Int.tmod (IntKind.wrap IntKind.i64 a2) (4 : Int)))),
                                                                  some
                                                                    (SV.raw
                                                                      (Value.int IntKind.i64
                                                                        (IntKind.wrap IntKind.i64
                                                                          ((1 : Int) +
                                                                            Int.tmod (IntKind.wrap IntKind.i64 a2)
                                                                              (4 : Int))))),
                                                                  some
                                                                    (SV.tup
                                                                      [SV.agg
                                                                          [SV.raw (Value.int IntKind.i64 s'),
                                                                            SV.raw (Value.slice b' l' c')],
                                                                        SV.raw (Value.int IntKind.i64 e)]),
                                                                  some
                                                                    (SV.agg
                                                                      [SV.raw (Value.int IntKind.i64 s'),
                                                                        SV.raw (Value.slice b' l' c')]),
                                                                  some (SV.raw (Value.int IntKind.i64 e)),
                                                                  some (SV.raw (Value.int IntKind.i64 e)),
                                                                  some (SV.raw (Value.bool (e != (0 : Int)))),
                                                                  some (SV.raw (Value.bool false)),
                                                                  some (SV.loc 0 1),
                                                                  some (SV.raw (Value.slice b' l' c')),
                                                                  some (SV.raw (Value.int IntKind.i64 (↑l' : Int))),
                                                                  some (SV.raw (Value.bool ((↑l' : Int) == (0 : Int)))),
                                                                  some
                                                                    (SV.raw
                                                                      (Value.bool
                                                                        (bif false then true else (↑l' : Int) == (0 : Int)))),
                                                                  some (SV.raw (Value.bool false)),
                                                                  some (SV.raw (Value.slice b1 l1 c1)),
                                                                  some (SV.raw (Value.int IntKind.i64 (↑l1 : Int))),
                                                                  some (SV.loc 0 1),
                                                                  some (SV.raw (Value.slice b' l' c')),
                                                                  some (SV.raw (Value.int IntKind.i64 (↑l' : Int))),
                                                                  some
                                                                    (SV.raw
                                                                      (Value.bool (decide ((↑l1 : Int) > (↑l' : Int))))),
                                                                  some
                                                                    (SV.raw
                                                                      (Value.bool
                                                                        (bif false then true
                                                                        else decide ((↑l1 : Int) > (↑l' : Int))))),
                                                                  none, none, none, none, none, none, none, none, none, none,
                                                                  none, some (SV.raw (Value.int IntKind.u16 a3)),
                                                                  some
                                                                    (SV.raw
                                                                      (Value.int IntKind.i64 (IntKind.wrap IntKind.i64 a3))),
                                                                  some (SV.loc 0 1),
                                                                  some (SV.raw (Value.slice b' l' c')),
                                                                  some (SV.raw (Value.int IntKind.i64 (↑l' : Int))),
                                                                  some (SV.raw (Value.slice b1 l1 c1)),
                                                                  some (SV.raw (Value.int IntKind.i64 (↑l1 : Int))),
                                                                  some
                                                                    (SV.raw
                                                                      (Value.int IntKind.i64
                                                                        (IntKind.wrap IntKind.i64
                                                                          ((↑l' : Int) - (↑l1 : Int))))),
                                                                  some
                                                                    (SV.raw
                                                                      (Value.int IntKind.i64
                                                                        (IntKind.wrap IntKind.i64
                                                                          (IntKind.wrap IntKind.i64
                                                                              ((↑l' : Int) - (↑l1 : Int)) +
                                                                            (1 : Int))))),
                                                                  some
                                                                    (SV.raw
                                                                      (Value.int IntKind.i64
                                                                        (Int.tmod (IntKind.wrap IntKind.i64 a3)
                                                                          (IntKind.wrap IntKind.i64
                                                                            (IntKind.wrap IntKind.i64
                                                                                ((↑l' : Int) - (↑l1 : Int)) +
                                                                              (1 : Int)))))),
                                                                  some
                                                                    (SV.tup
                                                                      [SV.agg
                                                                          [SV.raw (Value.int IntKind.i64 s'_1),
                                                                            SV.raw (Value.slice b'_1 l'_1 c'_1)],
                                                                        SV.raw (Value.bool ok)]),
                                                                  some
                                                                    (SV.agg
                                                                      [SV.raw (Value.int IntKind.i64 s'),
                                                                        SV.raw (Value.slice b' l' c')]),
                                                                  some
                                                                    (SV.raw
                                                                      (Value.int IntKind.i64
                                                                        (Int.tmod (IntKind.wrap IntKind.i64 a3)
                                                                          (IntKind.wrap IntKind.i64
                                                                            (IntKind.wrap IntKind.i64
                                                                                ((↑l' : Int) - (↑l1 : Int)) +
                                                                              (1 : Int)))))),
                                                                  some (SV.raw (Value.slice b1 l1 c1)),
                                                                  some
                                                                    (SV.tup
                                                                      [SV.agg
                                                                          [SV.raw (Value.int IntKind.i64 s'_1),
                                                                            SV.raw (Value.slice b'_1 l'_1 c'_1)],
                                                                        SV.raw (Value.bool ok)]),
                                                                  some
                                                                    (SV.agg
                                                                      [SV.raw (Value.int IntKind.i64 s'_1),
                                                                        SV.raw (Value.slice b'_1 l'_1 c'_1)]),
                                                                  some (SV.raw (Value.bool ok)),
                                                                  some (SV.raw (Value.bool ok)),
                                                                  some (SV.raw (Value.bool !ok)),
                                                                  some (SV.raw (Value.bool false)),
                                                                  some (SV.loc 1 1),
                                                                  some (SV.raw (Value.slice b'_1 l'_1 c'_1)),
                                                                  some (SV.raw (Value.int IntKind.i64 (↑l'_1 : Int))),
                                                                  some (SV.loc 0 1),
                                                                  some (SV.raw (Value.slice b' l' c')),
                                                                  some (SV.raw (Value.int IntKind.i64 (↑l' : Int))),
                                                                  some (SV.raw (Value.bool ((↑l'_1 : Int) != (↑l' : Int)))),
                                                                  some
                                                                    (SV.raw
                                                                      (Value.bool
                                                                        (bif false then true
                                                                        else (↑l'_1 : Int) != (↑l' : Int)))),
                                                                  some (SV.loc 1 1),
                                                                  some (SV.raw (Value.slice b'_1 l'_1 c'_1)),
                                                                  some (SV.raw (Value.int IntKind.i64 (↑l'_1 : Int))),
                                                                  some (SV.raw (Value.int IntKind.i64 (0 : Int))), none, none,
                                                                  none, none, none, none, none, none, none, none, none, none,
                                                                  none, none, none, none, none, none, none, none, none, none,
                                                                  none, none, none, none],
                                                              bx :=
                                                                [{ elem := 24,
                                                                    row :=
                                                                      Row.lst
                                                                        [SV.raw (Value.int IntKind.i64 s'),
                                                                          SV.raw (Value.slice b' l' c')],
                                                                    total := 2, own := true : Box },
                                                                  { elem := 24,
                                                                    row :=
                                                                      Row.lst
                                                                        [SV.raw (Value.int IntKind.i64 s'_1),
                                                                          SV.raw (Value.slice b'_1 l'_1 c'_1)],
                                                                    total := 2, own := true : Box }],
                                                              E := E' : St })
  have n1 := hB1.2.1
  have ha1 := wf8 ha1
  have ha2 := wf8 ha2
  have ha3 := wf16 ha3
  intro E1 q1
  refine ⟨q1, by omega, by omega, fun s3 b3 l3 c3 y3 e E2 q2 r2 B2 => ⟨q2, ?_⟩⟩
  rw [wrap_i64 (x := a1) (by omega), wrap_i64 (x := a2) (by omega), Int.tmod_eq_emod_of_nonneg ha1.1, Int.tmod_eq_emod_of_nonneg ha2.1, wrap_i64 (by omega), wrap_i64 (by omega)] at r2
  have r2 : newF (1 + a1 % 64) (1 + a2 % 4) = ((s3, y3), e) := r2
  have hs : 1 ≤ 1 + a1 % 64 ∧ 1 + a1 % 64 ≤ 64 := by omega
  have hm : 1 ≤ 1 + a2 % 4 ∧ 1 + a2 % 4 ≤ 4 := by omega
  generalize 1 + a1 % 64 = s at r2 hs
  generalize 1 + a2 % 4 = m at r2 hm
  have h1 : s * m ≤ 64 * 4 := Int.mul_le_mul hs.2 hm.2 (by omega) (by omega)
  have h2 : s * 1 ≤ s * m := Int.mul_le_mul_of_nonneg_left hm.1 (by omega)
  have h3 : (s * m) % s = 0 := Int.mul_emod_right s m
  generalize hp : s * m = p at h1 h2 h3
  rw [newF_ok (by omega) (by omega) (by omega), hp] at r2
  obtain ⟨rfl, rfl, rfl⟩ := eq3e r2
  have B2 : Bs E2 b3 l3 c3 _ := B2
  have n3 := B2.2.1
  rw [List.length_replicate] at n3
  have k2 := Mem.le_trans q1 q2
  refine condC (fun g => by simp at g) (fun _ => condC (fun g => by simp at g; omega) (fun _ => condC (fun g => condC (fun _ => ⟨k2, ?_⟩) (fun g => by simp at g)) (fun g => ?_)))
  · show K (B (decide ((l3 : Int) > 0))) E2
    rw [decide_eq_true (by omega)]
    exact h E2 k2
  have g : l1 ≤ l3 := by simp at g; omega
  rw [wrap_i64 (x := (l3 : Int) - l1) (by omega), wrap_i64 (x := (l3 : Int) - l1 + 1) (by omega), wrap_i64 (x := a3) (by omega)]
  obtain ⟨k, hk, hk2⟩ := tmodN (x := a3) (n := l3 - l1 + 1) ha3.1 (by omega)
  rw [show (l3 : Int) - l1 + 1 = ((l3 - l1 + 1 : Nat) : Int) by omega, hk]
  refine ⟨by omega, _, z1, B2, hB1.mono k2, by omega, fun s4 b4 l4 c4 y4 o4 E3 q3 r3 B3 => ⟨q3, ?_⟩⟩
  have r3 : doneF _ _ _ _ = ((s4, y4), o4) := r3
  have v : validF s (List.replicate p.toNat (255 : Int)).length := by rw [List.length_replicate]; exact ⟨by omega, by omega, by omega, by omega, by rw [Int.toNat_of_nonneg (by omega)]; exact h3⟩
  rw [doneF_mk v (by omega) (by rw [List.length_replicate]; omega), Int.toNat_natCast, n1, n3] at r3
  obtain ⟨rfl, rfl, rfl⟩ := eq3 r3
  have B3 : Bs E3 b4 l4 c4 _ := B3
  have n4 := B3.2.1
  rw [stp_len, List.length_replicate] at n4
  have k3 := Mem.le_trans k2 q3
  refine condC (fun g => by simp at g) (fun _ => condC (fun g => by simp at g; omega) (fun _ => ?_))
  rw [n4] at B3
  exact Lp_re [some 0, some 1] (lp5L (i := 0) (hB1.mono k3) B3 (by omega) (by omega) (Nat.zero_le _) k3 (h E3 k3)) ⟨⟨by simp, by simp, fun j h => absurd h (Nat.not_lt_zero _)⟩, rfl, (by repeat' first | exact True.intro | refine And.intro (Or.inl rfl) ?_), (by repeat' first | exact True.intro | exact rfl | exact Or.inl rfl | fail | refine And.intro ?_ ?_), (show List.Nodup [0, 1] from by decide), Mem.le_refl _⟩


theorem opn5 (W : World) (K : List SV → Prop) (h : ∀ a1 : Int, (Lit.int .u8 a1).wf = true → ∀ a2 : Int, (Lit.int .u8 a2).wf = true → ∀ a3 : Int, (Lit.int .u16 a3).wf = true → ∀ (b1 : Option Addr) (l1 c1 : Nat) (z1 : List Int), (l1 ≤ c1) → (c1 ≤ maxLen) → (b1 = none → c1 = 0) → (z1.length = c1) → (∀ x ∈ z1, (Lit.int .u8 x).wf = true) → RowAt W (.slice b1 l1 c1) (z1.map (.int .u8)) → K [.raw (.int .u8 a1), .raw (.int .u8 a2), .raw (.int .u16 a3), L b1 l1 c1]) : opnAll Try.prog W Try.f5.params.toList K :=
  same (by kernel_rfl) h

theorem sem5 (W : World) : opnAll Try.prog W Try.f5.params.toList fun ss => TabSem Try.prog 5 ss (fun v cs => RowAt W v cs) fun r _ => r = .raw (.bool true) := by
  refine opn5 W _ ?_
  intro a1 ha1 a2 ha2 a3 ha3 b1 l1 c1 z1 hl1 hc1 hb1 hz1 hw1 hE1
  exact Ent.sem okWL5 Try.func5 ⟨by kernel_rfl, by kernel_rfl⟩ rfl (e5 ha1 ha2 ha3 (Bs.of hl1 hb1 hz1 hw1 hE1) (fun _ _ => rfl))

theorem lifted5 (os : Os) (started : os.Started) (H : Type) (enc : TypeId × Value → H) :
    ReturnsInHanded {} Try.checked os 5 .any (Rows.flashErasedSpec.pre6 enc Try.prog Try.f5 Rows.flashErasedRow.domain false) (Rows.flashErasedSpec.post enc Try.prog Try.f5 false true false false) :=
  lift_true (C := Try.checked) (by kernel_rfl) (by kernel_rfl) started (by kernel_rfl) Try.func5
    (ChangeSpec.witness6 (enc := enc) (C := Try.checked) false ⟨#[], #[.int .u8 0, .int .u8 0, .int .u16 0, .slice none 0 0], []⟩ 8 (by kernel_rfl) (by kernel_rfl) (by kernel_rfl) (by kernel_rfl))
    (Tb := 4) (by kernel_rfl) (by kernel_rfl) (by kernel_rfl) rfl
    (fun ds hl => by
      match ds, hl with
      | [d0, d1, d2, d3], _ => exact ⟨rfl, rfl, rfl⟩)
    sem5

theorem over5 : Rows.flashErasedRow.holds Try.pinned (OpenSpec.ofChange Rows.flashErasedSpec) :=
  OpenClaim.holds_of_wide 5 Try.f5 rfl rfl rfl rfl rfl rfl rfl ⟨rfl, rfl, rfl, rfl, rfl⟩ rfl rfl rfl rfl rfl (by kernel_rfl) Try.func5 (by kernel_rfl)
    (of_decide_eq_true (by kernel_rfl)) (by unfold Func.isWrapper; first | (rw [if_pos (by decide +kernel)]; kernel_rfl) | (rw [if_neg (by decide +kernel)]; exact ⟨rfl, rfl⟩))
    (fun os started H enc _ => lifted5 os started H enc)

theorem proved5 : Rows.FlashErasedSaid := over5
end Go.Proofs.Ythgdbpnddnbbdaa.FlashOwn
