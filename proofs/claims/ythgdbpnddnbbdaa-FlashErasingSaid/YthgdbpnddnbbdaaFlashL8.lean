/- The law FlashErasing. -/
import Derived.Test.YthgdbpnddnbbdaaFlashP
import Derived.OpenShut
import Derived.Test.YthgdbpnddnbbdaaRows
namespace Go.Proofs.Ythgdbpnddnbbdaa.FlashOwn
open Go Go.Sx Go.Proofs.Ythgdbpnddnbbdaa
set_option maxRecDepth 100000
set_option maxHeartbeats 4000000
set_option linter.unusedVariables false
set_option linter.unusedSimpArgs false
variable {E : Mem} {K : SV → Mem → Prop}
noncomputable def tabL8 : FuncId → List SV → Mem → (SV → Mem → Prop) → Prop := fun f args E K => match f with
  | 10 => d0 args ((∀ E' : Mem, Mem.le E E' → K (B true) E'))
  | 11 => d2 args fun x0 x1 => dI x0 fun a1 => dI x1 fun a2 => (∀ (s' : Int) (b' : Option Addr) (l' c' : Nat) (ys : List Int) (e : Int) (E' : Mem), Mem.le E E' → Hyp (newF a1 a2 = ((s', ys), e)) → Bs E' b' l' c' ys → K (.tup [.agg [I s', L b' l' c'], I e]) E')
  | 13 => d2 args fun x0 x1 => dC x0 fun l1 => d2 l1 fun x0_0 x0_1 => dI x0_0 fun a1 => dS x0_1 fun b2 l3 c4 => dC x1 fun l2 => d2 l2 fun x1_0 x1_1 => dI x1_0 fun a5 => dS x1_1 fun b6 l7 c8 => ∃ (zs : List Int) (ys : List Int), Bs E b2 l3 c4 zs ∧ Bs E b6 l7 c8 ys ∧ l3 ≤ 100000 ∧ (K (B (decide (a1 = a5 ∧ zs = ys))) E)
  | 14 => d3 args fun x0 x1 x2 => dC x0 fun l1 => d2 l1 fun x0_0 x0_1 => dI x0_0 fun a1 => dS x0_1 fun b2 l3 c4 => dI x1 fun a5 => dS x2 fun b6 l7 c8 => ∃ (zs : List Int) (ds : List Int), Bs E b2 l3 c4 zs ∧ Bs E b6 l7 c8 ds ∧ (∀ (b' : Option Addr) (l' c' : Nat) (ms : List (Int × List Int)) (e : Int) (E' : Mem), Mem.le E E' → Hyp (progF a1 zs a5 ds = (ms, e)) → FL E' b' l' c' ms → K (.tup [L b' l' c', I e]) E')
  | 16 => d2 args fun x0 x1 => dC x0 fun l1 => d2 l1 fun x0_0 x0_1 => dI x0_0 fun a1 => dS x0_1 fun b2 l3 c4 => dI x1 fun a5 => ∃ (zs : List Int), Bs E b2 l3 c4 zs ∧ (∀ (b' : Option Addr) (l' c' : Nat) (ms : List (Int × List Int)) (e : Int) (E' : Mem), Mem.le E E' → Hyp (erasF a1 zs a5 = (ms, e)) → FL E' b' l' c' ms → K (.tup [L b' l' c', I e]) E')
  | 18 => d1 args fun x0 => dC x0 fun l1 => d2 l1 fun x0_0 x0_1 => dI x0_0 fun a1 => dS x0_1 fun b2 l3 c4 => (K (B (decide (validF a1 l3))) E)
  | 20 => d2 args fun x0 x1 => dS x0 fun b1 l2 c3 => dS x1 fun b4 l5 c6 => ∃ (ms : List (Int × List Int)) (ns : List (Int × List Int)), FL E b1 l2 c3 ms ∧ FL E b4 l5 c6 ns ∧ (∀ m ∈ ms, m.2.length ≤ 100000) ∧ l2 ≤ 100000 ∧ (K (B (decide (ms = ns))) E)
  | 21 => d2 args fun x0 x1 => dS x0 fun b1 l2 c3 => dS x1 fun b4 l5 c6 => ∃ (zs : List Int) (ys : List Int), Bs E b1 l2 c3 zs ∧ Bs E b4 l5 c6 ys ∧ l2 ≤ 100000 ∧ (K (.tup [I (oneF zs ys l2).1, I (oneF zs ys l2).2]) E)
  | 22 => d3 args fun x0 x1 x2 => dC x0 fun l1 => d2 l1 fun x0_0 x0_1 => dI x0_0 fun a1 => dS x0_1 fun b2 l3 c4 => dI x1 fun a5 => dS x2 fun b6 l7 c8 => ∃ (zs : List Int) (ds : List Int), Bs E b2 l3 c4 zs ∧ Bs E b6 l7 c8 ds ∧ (l7 ≤ 90000) ∧ (∀ (s' : Int) (b' : Option Addr) (l' c' : Nat) (ys : List Int) (ok : Bool) (E' : Mem), Mem.le E E' → Hyp (doneF a1 zs a5 ds = ((s', ys), ok)) → Bs E' b' l' c' ys → K (.tup [.agg [I s', L b' l' c'], B ok]) E')
  | 23 => d3 args fun x0 x1 x2 => dS x0 fun b1 l2 c3 => dI x1 fun a4 => dI x2 fun a5 => ∃ (ms : List (Int × List Int)), FL E b1 l2 c3 ms ∧ (l2 ≤ 100000) ∧ (∀ (s' : Int) (b' : Option Addr) (l' c' : Nat) (ys : List Int) (ok : Bool) (E' : Mem), Mem.le E E' → Hyp (lastF ms a4 a5 = ((s', ys), ok)) → Bs E' b' l' c' ys → K (.tup [.agg [I s', L b' l' c'], B ok]) E')
  | _ => False
theorem tabL8_ok : TabOK Try.prog tabL8 := by
  intro f args E K h
  unfold tabL8 at h
  split at h
  · obtain ⟨rfl, h⟩ := d0_elim h
    exact TabSem.congr rfl (Ent.sem okFI Try.func10 ⟨by kernel_rfl, by kernel_rfl⟩ rfl (s10 h))
  · replace h := d2_elim h
    obtain ⟨x0, x1, rfl, h⟩ := h
    replace h := dI_elim h
    obtain ⟨a1, rfl, h⟩ := h
    replace h := dI_elim h
    obtain ⟨a2, rfl, h⟩ := h
    exact TabSem.congr (valL_cons rfl (valL_cons rfl rfl)) (Ent.sem okF8 Try.func11 ⟨by kernel_rfl, by kernel_rfl⟩ rfl (s11 h))
  · replace h := d2_elim h
    obtain ⟨x0, x1, rfl, h⟩ := h
    replace h := dC_elim h
    obtain ⟨l1, hl1, h⟩ := h
    replace h := d2_elim h
    obtain ⟨x0_0, x0_1, rfl, h⟩ := h
    replace h := dI_elim h
    obtain ⟨a1, rfl, h⟩ := h
    replace h := dS_elim h
    obtain ⟨b2, l3, c4, rfl, h⟩ := h
    replace h := dC_elim h
    obtain ⟨l2, hl2, h⟩ := h
    replace h := d2_elim h
    obtain ⟨x1_0, x1_1, rfl, h⟩ := h
    replace h := dI_elim h
    obtain ⟨a5, rfl, h⟩ := h
    replace h := dS_elim h
    obtain ⟨b6, l7, c8, rfl, h⟩ := h
    obtain ⟨zs, ys, g0, g1, g2, h⟩ := h
    exact TabSem.congr (valL_cons (asCells_val hl1) (valL_cons (asCells_val hl2) rfl)) (Ent.sem okFA Try.func13 ⟨by kernel_rfl, by kernel_rfl⟩ rfl (s13 g0 g1 g2 h))
  · replace h := d3_elim h
    obtain ⟨x0, x1, x2, rfl, h⟩ := h
    replace h := dC_elim h
    obtain ⟨l1, hl1, h⟩ := h
    replace h := d2_elim h
    obtain ⟨x0_0, x0_1, rfl, h⟩ := h
    replace h := dI_elim h
    obtain ⟨a1, rfl, h⟩ := h
    replace h := dS_elim h
    obtain ⟨b2, l3, c4, rfl, h⟩ := h
    replace h := dI_elim h
    obtain ⟨a5, rfl, h⟩ := h
    replace h := dS_elim h
    obtain ⟨b6, l7, c8, rfl, h⟩ := h
    obtain ⟨zs, ds, g0, g1, h⟩ := h
    exact TabSem.congr (valL_cons (asCells_val hl1) (valL_cons rfl (valL_cons rfl rfl))) (Ent.sem okF3 Try.func14 ⟨by kernel_rfl, by kernel_rfl⟩ rfl (s14 g0 g1 h))
  · replace h := d2_elim h
    obtain ⟨x0, x1, rfl, h⟩ := h
    replace h := dC_elim h
    obtain ⟨l1, hl1, h⟩ := h
    replace h := d2_elim h
    obtain ⟨x0_0, x0_1, rfl, h⟩ := h
    replace h := dI_elim h
    obtain ⟨a1, rfl, h⟩ := h
    replace h := dS_elim h
    obtain ⟨b2, l3, c4, rfl, h⟩ := h
    replace h := dI_elim h
    obtain ⟨a5, rfl, h⟩ := h
    obtain ⟨zs, g0, h⟩ := h
    exact TabSem.congr (valL_cons (asCells_val hl1) (valL_cons rfl rfl)) (Ent.sem okF4 Try.func16 ⟨by kernel_rfl, by kernel_rfl⟩ rfl (s16 g0 h))
  · replace h := d1_elim h
    obtain ⟨x0, rfl, h⟩ := h
    replace h := dC_elim h
    obtain ⟨l1, hl1, h⟩ := h
    replace h := d2_elim h
    obtain ⟨x0_0, x0_1, rfl, h⟩ := h
    replace h := dI_elim h
    obtain ⟨a1, rfl, h⟩ := h
    replace h := dS_elim h
    obtain ⟨b2, l3, c4, rfl, h⟩ := h
    exact TabSem.congr (valL_cons (asCells_val hl1) rfl) (Ent.sem okF5 Try.func18 ⟨by kernel_rfl, by kernel_rfl⟩ rfl (s18 h))
  · replace h := d2_elim h
    obtain ⟨x0, x1, rfl, h⟩ := h
    replace h := dS_elim h
    obtain ⟨b1, l2, c3, rfl, h⟩ := h
    replace h := dS_elim h
    obtain ⟨b4, l5, c6, rfl, h⟩ := h
    obtain ⟨ms, ns, g0, g1, g2, g3, h⟩ := h
    exact TabSem.congr (valL_cons rfl (valL_cons rfl rfl)) (Ent.sem okFE Try.func20 ⟨by kernel_rfl, by kernel_rfl⟩ rfl (s20 g0 g1 g2 g3 h))
  · replace h := d2_elim h
    obtain ⟨x0, x1, rfl, h⟩ := h
    replace h := dS_elim h
    obtain ⟨b1, l2, c3, rfl, h⟩ := h
    replace h := dS_elim h
    obtain ⟨b4, l5, c6, rfl, h⟩ := h
    obtain ⟨zs, ys, g0, g1, g2, h⟩ := h
    exact TabSem.congr (valL_cons rfl (valL_cons rfl rfl)) (Ent.sem okFF Try.func21 ⟨by kernel_rfl, by kernel_rfl⟩ rfl (s21 g0 g1 g2 h))
  · replace h := d3_elim h
    obtain ⟨x0, x1, x2, rfl, h⟩ := h
    replace h := dC_elim h
    obtain ⟨l1, hl1, h⟩ := h
    replace h := d2_elim h
    obtain ⟨x0_0, x0_1, rfl, h⟩ := h
    replace h := dI_elim h
    obtain ⟨a1, rfl, h⟩ := h
    replace h := dS_elim h
    obtain ⟨b2, l3, c4, rfl, h⟩ := h
    replace h := dI_elim h
    obtain ⟨a5, rfl, h⟩ := h
    replace h := dS_elim h
    obtain ⟨b6, l7, c8, rfl, h⟩ := h
    obtain ⟨zs, ds, g0, g1, g2, h⟩ := h
    exact TabSem.congr (valL_cons (asCells_val hl1) (valL_cons rfl (valL_cons rfl rfl))) (Ent.sem okFH Try.func22 ⟨by kernel_rfl, by kernel_rfl⟩ rfl (s22 g0 g1 g2 h))
  · replace h := d3_elim h
    obtain ⟨x0, x1, x2, rfl, h⟩ := h
    replace h := dS_elim h
    obtain ⟨b1, l2, c3, rfl, h⟩ := h
    replace h := dI_elim h
    obtain ⟨a4, rfl, h⟩ := h
    replace h := dI_elim h
    obtain ⟨a5, rfl, h⟩ := h
    obtain ⟨ms, g0, g1, h⟩ := h
    exact TabSem.congr (valL_cons rfl (valL_cons rfl (valL_cons rfl rfl))) (Ent.sem okFG Try.func23 ⟨by kernel_rfl, by kernel_rfl⟩ rfl (s23 g0 g1 h))
  · exact h.elim
noncomputable def WL8 : Cx := { P := Try.prog, inl := fun f => List.contains [] f, tab := tabL8, isB := fun _ => false, tabB := fun _ _ _ _ _ => False, opt := { unroll := 0, carry := [65] }, muts := mutsD }
theorem okWL8 : CxOK WL8 := CxOK.four tabL8_ok (by kernel_rfl) (okInl (by kernel_rfl)) (fun _ _ _ _ _ h => h.elim)

def sh8 (a1 a2 a3 s4 : Int) (b1 b3 b4 : Option Addr) (l1 c1 l3 c3 l4 c4 i : Nat) (E : Mem) : St := ⟨[none, some (I a2), some (.raw (.int .u16 a3)), some (.loc 0 0), none, none, none, some (B true), some (L b3 l3 c3), none, some (.loc 1 0), none, none, none, none, none, none, none, none, none, none, none, none, none, none, none, none, none, none, none, none, none, none, none, none, none, none, none, none, none, none, none, none, none, none, none, none, none, none, none, none, none, none, none, none, none, none, none, none, none, none, none, none, some (L b4 l4 c4), some (I (l4 : Nat)), some (I (i : Nat)), none, none, none, none, none, none, none, none, none, none, none, none, none, none, none, none, none, none, none, none, none, none, none, none, none, none, none, none, none, none, none, none, none, none, none, none, none, none, none, none, none, none, none, none, none, none, none, none, none, none, none, none, none, none, none, none, none, none, none, none, none, none, none], [⟨24, .lst [I a1, L b1 l1 c1], 2, true⟩, ⟨24, .lst [I s4, L b4 l4 c4], 2, true⟩], E⟩
theorem rnd8 {a1 a2 a3 : Int} {b1 b3 b4 : Option Addr} {l1 c1 l3 c3 l4 c4 i : Nat} {E0 : Mem} {z1 : List Int} (hB1 : Bs E b1 l1 c1 z1) (hF : FL E b3 l3 c3 (mems a1 gE (a2 * a1).toNat z1 (a1.toNat + 1))) (hB4 : Bs E b4 l4 c4 (stp gE (a2 * a1).toNat z1 a1.toNat))
    (v : validF a1 z1.length) (p1 : 0 ≤ a2) (p2 : a2 < (z1.length : Int) / a1) (ha3 : 0 ≤ a3 ∧ a3 ≤ 65535) (hi : i ≤ l1) (hE : Mem.le E0 E) (h : ∀ E', Mem.le E E' → K (B true) E')
    (ih : i < l1 → Lp WL8 8 Try.f8 [1, 1, 1, 1, 1, 1, 1, 0, 1, 0] 0 (pubK E0 K) (sh8 a1 a2 a3 a1 b1 b3 b4 l1 c1 l3 c3 l4 c4 (i + 1) E)) :
    Rnd WL8 8 Try.f8 [1, 1, 1, 1, 1, 1, 1, 0, 1, 0] 0 (pubK E0 K) (sh8 a1 a2 a3 a1 b1 b3 b4 l1 c1 l3 c3 l4 c4 i E) := by
  refine same (by kernel_rfl) (?_ : 
      bif decide ((↑i : Int) < (↑l4 : Int)) then
        req ((0 : Int) ≤ (↑i : Int) ∧ (↑i : Int) < (↑l4 : Int))
          ((∃ (cs : List Value), E (Value.slice b4 l4 c4) cs ∧ (cs = [] → False)) ∧
            ∃ (n : Int),
              LoadE WL8.P E 5 (Value.slice b4 l4 c4) (Int.toNat (↑i : Int) * 1)
                  (SV.raw (Value.int IntKind.u8 n)) ∧
                (a1 = (0 : Int) → False) ∧
                  bif IntKind.wrap IntKind.i64 (Int.tdiv (↑i : Int) a1) == a2 then
                    bif bif true then n != (255 : Int) else false then Mem.le E0 E ∧ K (SV.raw (Value.bool false)) E
                    else
                      (a1 = (0 : Int) → False) ∧
                        bif IntKind.wrap IntKind.i64 (Int.tdiv (↑i : Int) a1) != a2 then
                          req ((0 : Int) ≤ (↑i : Int) ∧ (↑i : Int) < (↑l1 : Int))
                            ((∃ (cs : List Value), E (Value.slice b1 l1 c1) cs ∧ (cs = [] → False)) ∧
                              ∃ (n_1 : Int),
                                LoadE WL8.P E 5 (Value.slice b1 l1 c1) (Int.toNat (↑i : Int) * 1)
                                    (SV.raw (Value.int IntKind.u8 n_1)) ∧
                                  bif bif false then true else bif true then n != n_1 else false then
                                    Mem.le E0 E ∧ K (SV.raw (Value.bool false)) E
                                  else
                                    Lp WL8 8 Try.f8
                                      [1, 1, 1, 1, 1, 1, 1, 0,
                                        1, 0]
                                      0 (pubK E0 K)
                                      {
                                        fr :=
                                          [none, some (SV.raw (Value.int IntKind.i64 a2)),
                                            some (SV.raw (Value.int IntKind.u16 a3)), some (SV.loc 0 0), none,
                                            none, none, some (SV.raw (Value.bool true)), some (SV.raw (Value.slice b3 l3 c3)),
                                            none, some (SV.loc 1 0), none, none, none, none, none, none, none,
                                            none, none, none, none, none, none, none, none, none, none, none, none, none,
                                            none, none, none, none, none, none, none, none, none, none, none, none, none,
                                            none, none, none, none, none, none, none, none, none, none, none, none, none,
                                            none, none, none, none, none, none, some (SV.raw (Value.slice b4 l4 c4)),
                                            some (SV.raw (Value.int IntKind.i64 (↑l4 : Int))),
                                            some
                                              (SV.raw
                                                (Value.int IntKind.i64 (IntKind.wrap IntKind.i64 ((↑i : Int) + (1 : Int))))),
                                            none, none, none, none, none, none, none, none, none, none, none, none, none,
                                            none, none, none, none, none, none, none, none, none, none, none, none, none,
                                            none, none, none, none, none, none, none, none, none, none, none, none, none,
                                            none, none, none, none, none, none, none, none, none, none, none, none, none,
                                            none, none, none, none, none, none, none, none, none, none, none],
                                        bx :=
                                          [{ elem := 24,
                                              row :=
                                                Row.lst [SV.raw (Value.int IntKind.i64 a1), SV.raw (Value.slice b1 l1 c1)],
                                              total := 2, own := true : Box },
                                            { elem := 24,
                                              row :=
                                                Row.lst [SV.raw (Value.int IntKind.i64 a1), SV.raw (Value.slice b4 l4 c4)],
                                              total := 2, own := true : Box }],
                                        E := E : St })
                        else
                          Lp WL8 8 Try.f8
                            [1, 1, 1, 1, 1, 1, 1, 0,
                              1, 0]
                            0 (pubK E0 K)
                            {
                              fr :=
                                [none, some (SV.raw (Value.int IntKind.i64 a2)), some (SV.raw (Value.int IntKind.u16 a3)),
                                  some (SV.loc 0 0), none, none, none, some (SV.raw (Value.bool true)),
                                  some (SV.raw (Value.slice b3 l3 c3)), none, some (SV.loc 1 0), none, none,
                                  none, none, none, none, none, none, none, none, none, none, none, none, none, none, none,
                                  none, none, none, none, none, none, none, none, none, none, none, none, none, none, none,
                                  none, none, none, none, none, none, none, none, none, none, none, none, none, none, none,
                                  none, none, none, none, none, some (SV.raw (Value.slice b4 l4 c4)),
                                  some (SV.raw (Value.int IntKind.i64 (↑l4 : Int))),
                                  some (SV.raw (Value.int IntKind.i64 (IntKind.wrap IntKind.i64 ((↑i : Int) + (1 : Int))))),
                                  none, none, none, none, none, none, none, none, none, none, none, none, none, none, none,
                                  none, none, none, none, none, none, none, none, none, none, none, none, none, none, none,
                                  none, none, none, none, none, none, none, none, none, none, none, none, none, none, none,
                                  none, none, none, none, none, none, none, none, none, none, none, none, none, none, none,
                                  none, none, none],
                              bx :=
                                [{ elem := 24,
                                    row := Row.lst [SV.raw (Value.int IntKind.i64 a1), SV.raw (Value.slice b1 l1 c1)],
                                    total := 2, own := true : Box },
                                  { elem := 24,
                                    row := Row.lst [SV.raw (Value.int IntKind.i64 a1), SV.raw (Value.slice b4 l4 c4)],
                                    total := 2, own := true : Box }],
                              E := E : St }
                  else
                    (a1 = (0 : Int) → False) ∧
                      bif IntKind.wrap IntKind.i64 (Int.tdiv (↑i : Int) a1) != a2 then
                        req ((0 : Int) ≤ (↑i : Int) ∧ (↑i : Int) < (↑l1 : Int))
                          ((∃ (cs : List Value), E (Value.slice b1 l1 c1) cs ∧ (cs = [] → False)) ∧
                            ∃ (n_1 : Int),
                              LoadE WL8.P E 5 (Value.slice b1 l1 c1) (Int.toNat (↑i : Int) * 1)
                                  (SV.raw (Value.int IntKind.u8 n_1)) ∧
                                bif bif false then true else bif true then n != n_1 else false then
                                  Mem.le E0 E ∧ K (SV.raw (Value.bool false)) E
                                else
                                  Lp WL8 8 Try.f8
                                    [1, 1, 1, 1, 1, 1, 1, 0,
                                      1, 0]
                                    0 (pubK E0 K)
                                    {
                                      fr :=
                                        [none, some (SV.raw (Value.int IntKind.i64 a2)),
                                          some (SV.raw (Value.int IntKind.u16 a3)), some (SV.loc 0 0), none,
                                          none, none, some (SV.raw (Value.bool true)), some (SV.raw (Value.slice b3 l3 c3)),
                                          none, some (SV.loc 1 0), none, none, none, none, none, none, none,
                                          none, none, none, none, none, none, none, none, none, none, none, none, none, none,
                                          none, none, none, none, none, none, none, none, none, none, none, none, none, none,
                                          none, none, none, none, none, none, none, none, none, none, none, none, none, none,
                                          none, none, none, some (SV.raw (Value.slice b4 l4 c4)),
                                          some (SV.raw (Value.int IntKind.i64 (↑l4 : Int))),
                                          some
                                            (SV.raw
                                              (Value.int IntKind.i64 (IntKind.wrap IntKind.i64 ((↑i : Int) + (1 : Int))))),
                                          none, none, none, none, none, none, none, none, none, none, none, none, none, none,
                                          none, none, none, none, none, none, none, none, none, none, none, none, none, none,
                                          none, none, none, none, none, none, none, none, none, none, none, none, none, none,
                                          none, none, none, none, none, none, none, none, none, none, none, none, none, none,
                                          none, none, none, none, none, none, none],
                                      bx :=
                                        [{ elem := 24,
                                            row := Row.lst [SV.raw (Value.int IntKind.i64 a1), SV.raw (Value.slice b1 l1 c1)],
                                            total := 2, own := true : Box },
                                          { elem := 24,
                                            row := Row.lst [SV.raw (Value.int IntKind.i64 a1), SV.raw (Value.slice b4 l4 c4)],
                                            total := 2, own := true : Box }],
                                      E := E : St })
                      else
                        Lp WL8 8 Try.f8
                          [1, 1, 1, 1, 1, 1, 1, 0, 1,
                            0]
                          0 (pubK E0 K)
                          {
                            fr :=
                              [none, some (SV.raw (Value.int IntKind.i64 a2)), some (SV.raw (Value.int IntKind.u16 a3)),
                                some (SV.loc 0 0), none, none, none, some (SV.raw (Value.bool true)),
                                some (SV.raw (Value.slice b3 l3 c3)), none, some (SV.loc 1 0), none, none,
                                none, none, none, none, none, none, none, none, none, none, none, none, none, none, none,
                                none, none, none, none, none, none, none, none, none, none, none, none, none, none, none,
                                none, none, none, none, none, none, none, none, none, none, none, none, none, none, none,
                                none, none, none, none, none, some (SV.raw (Value.slice b4 l4 c4)),
                                some (SV.raw (Value.int IntKind.i64 (↑l4 : Int))),
                                some (SV.raw (Value.int IntKind.i64 (IntKind.wrap IntKind.i64 ((↑i : Int) + (1 : Int))))),
                                none, none, none, none, none, none, none, none, none, none, none, none, none, none, none,
                                none, none, none, none, none, none, none, none, none, none, none, none, none, none, none,
                                none, none, none, none, none, none, none, none, none, none, none, none, none, none, none,
                                none, none, none, none, none, none, none, none, none, none, none, none, none, none, none,
                                none, none, none],
                            bx :=
                              [{ elem := 24,
                                  row := Row.lst [SV.raw (Value.int IntKind.i64 a1), SV.raw (Value.slice b1 l1 c1)],
                                  total := 2, own := true : Box },
                                { elem := 24,
                                  row := Row.lst [SV.raw (Value.int IntKind.i64 a1), SV.raw (Value.slice b4 l4 c4)],
                                  total := 2, own := true : Box }],
                            E := E : St })
      else
        ((↑l3 : Int) = (0 : Int) → False) ∧
          req
            ((0 : Int) ≤ Int.tmod (IntKind.wrap IntKind.i64 a3) (↑l3 : Int) ∧
              Int.tmod (IntKind.wrap IntKind.i64 a3) (↑l3 : Int) < (↑l3 : Int))
            ((∃ (cs : List Value), E (Value.slice b3 l3 c3) cs ∧ (cs = [] → False)) ∧
              ∃ (n : Int),
                ∃ (base : Option Addr),
                  ∃ (len : Nat),
                    ∃ (cap : Nat),
                      LoadE WL8.P E 24 (Value.slice b3 l3 c3)
                          (Int.toNat (Int.tmod (IntKind.wrap IntKind.i64 a3) (↑l3 : Int)) * 2)
                          (SV.agg [SV.raw (Value.int IntKind.i64 n), SV.raw (Value.slice base len cap)]) ∧
                        ∃ (zs : List Int),
                          Bs E base len cap zs ∧
                            ∀ (b' : Option Addr) (l' c' : Nat) (ms : List (Int × List Int)) (e : Int) (E' : Mem),
                              Mem.le E E' →
                                Hyp (erasF n zs a2 = (ms, e)) →
                                  FL E' b' l' c' ms →
                                    Mem.le E E' ∧
                                      ∃ (ms : List (Int × List Int)),
                                        FL E' b' l' c' ms ∧
                                          l' ≤ 100000 ∧
                                            ∀ (s' : Int) (b' : Option Addr) (l' c' : Nat) (ys : List Int) (ok : Bool)
                                              (E'_1 : Mem),
                                              Mem.le E' E'_1 →
                                                Hyp
                                                    (lastF ms e (IntKind.wrap IntKind.i64 (a1 + (1 : Int))) =
                                                      ((s', ys), ok)) →
                                                  Bs E'_1 b' l' c' ys →
                                                    Mem.le E' E'_1 ∧
                                                      bif bif true then ok else false then
                                                        ∃ (zs : List Int),
                                                          ∃ (ys : List Int),
                                                            Bs E'_1 b' l' c' zs ∧
                                                              Bs E'_1 b4 l4 c4 ys ∧
                                                                l' ≤ 100000 ∧
                                                                  Mem.le E'_1 E'_1 ∧
                                                                    Mem.le E0 E'_1 ∧
                                                                      K
                                                                        (SV.raw
                                                                          (Value.bool
                                                                            (bif true then decide (s' = a1 ∧ zs = ys)
                                                                            else false)))
                                                                        E'_1
                                                      else Mem.le E0 E'_1 ∧ K (SV.raw (Value.bool false)) E'_1))
  have n1 := hB1.2.1
  have n4 := hB4.2.1
  simp only [stp_len] at n4
  obtain ⟨v1, v2, v3, v4, v5⟩ := v
  have v : validF a1 z1.length := ⟨v1, v2, v3, v4, v5⟩
  refine condC (fun g => ?_) (fun g => ?_)
  · have g : i < l4 := by simpa using g
    have hb : (stp gE (a2 * a1).toNat z1 a1.toNat).getD i 0 = if (i : Int) / a1 = a2 then 255 else z1.getD i 0 := erz v1 p1 (by omega)
    have w1 : IntKind.wrap .i64 ((i : Int) + 1) = ((i + 1 : Nat) : Int) := by rw [wrap_i64 (by omega)]; simp
    have nx := ih (by omega)
    rw [tdivW v1 (by omega), w1]
    refine req_intro (by omega) ⟨hB4.ne g, _, hB4.load (i := i) rfl g, by omega, condC (fun g1 => ?_) (fun g1 => ?_)⟩
    · have g1 : (i : Int) / a1 = a2 := by simpa using g1
      rw [if_pos g1] at hb
      refine condC (fun g2 => by rw [hb] at g2; simp at g2) (fun _ => ⟨by omega, condC (fun g2 => by simp [g1] at g2) (fun _ => Lp_re [some 0, some 1] nx ⟨⟨by simp, by simp, fun j h => absurd h (Nat.not_lt_zero _)⟩, rfl, (by repeat' first | exact True.intro | refine And.intro (Or.inl rfl) ?_), (by repeat' first | exact True.intro | exact rfl | exact Or.inl rfl | fail | refine And.intro ?_ ?_), (show List.Nodup [0, 1] from by decide), Mem.le_refl _⟩)⟩)
    · have g1 : ¬ (i : Int) / a1 = a2 := by simpa using g1
      rw [if_neg g1] at hb
      refine ⟨by omega, condC (fun _ => ?_) (fun g2 => by simp [g1] at g2)⟩
      refine req_intro (by omega) ⟨hB1.ne (i := i) (by omega), _, hB1.load (i := i) rfl (by omega), condC (fun g2 => by rw [hb] at g2; simp at g2) (fun _ => Lp_re [some 0, some 1] nx ⟨⟨by simp, by simp, fun j h => absurd h (Nat.not_lt_zero _)⟩, rfl, (by repeat' first | exact True.intro | refine And.intro (Or.inl rfl) ?_), (by repeat' first | exact True.intro | exact rfl | exact Or.inl rfl | fail | refine And.intro ?_ ?_), (show List.Nodup [0, 1] from by decide), Mem.le_refl _⟩)⟩
  · have g : i = l4 := by simp at g; omega
    have n3 : a1.toNat + 1 = l3 := by rw [← hF.len, mems_len]
    rw [wrap_i64 (x := a3) (by omega), wrap_i64 (x := a1 + 1) (by omega)]
    obtain ⟨k, hk, hk2⟩ := tmodN (x := a3) (n := l3) ha3.1 (by omega)
    rw [hk]
    obtain ⟨x1, b5, l5, c5, x2, x3⟩ := hF.load (mems_get (i := k) (by omega))
    have hl5 := x3.2.1
    simp only [stp_len] at hl5
    refine ⟨by omega, req_intro (by omega) ⟨x1, a1, b5, l5, c5, x2, _, x3, fun b6 l6 c6 ms e E2 q2 r2 F6 => ⟨q2, ?_⟩⟩⟩
    have r2 : erasF a1 (stp gE _ z1 k) a2 = (ms, e) := r2
    have F6 : FL E2 b6 l6 c6 ms := F6
    rw [erasF_mk (by rw [stp_len]; exact v) p1 (by rw [stp_len]; exact p2)] at r2
    obtain ⟨rfl, rfl⟩ := Prod.mk.inj r2
    have n6 : a1.toNat + 1 = l6 := by rw [← F6.len, mems_len]
    refine ⟨_, F6, by omega, fun s7 b7 l7 c7 y7 o7 E3 q3 r3 B3 => ⟨q3, ?_⟩⟩
    have r3 : lastF _ 0 (a1 + 1) = ((s7, y7), o7) := r3
    rw [show a1 + 1 = ((a1.toNat : Nat) : Int) + 1 by omega, lastF_ok (mems_len _ _ _ _ _), mems_getD (by omega), stpE_again (by omega)] at r3
    obtain ⟨rfl, rfl, rfl⟩ := eq3 r3
    have B3 : Bs E3 b7 l7 c7 _ := B3
    have n7 := B3.2.1
    simp only [stp_len] at n7
    have q23 := Mem.le_trans q2 q3
    refine condC (fun _ => ⟨_, _, B3, hB4.mono q23, by omega, Mem.le_refl _, Mem.le_trans hE q23, ?_⟩) (fun g => by simp at g)
    simpa using h E3 q23
theorem lp8 {a1 a2 a3 : Int} {b1 b3 b4 : Option Addr} {l1 c1 l3 c3 l4 c4 i : Nat} {E0 : Mem} {z1 : List Int} (hB1 : Bs E b1 l1 c1 z1) (hF : FL E b3 l3 c3 (mems a1 gE (a2 * a1).toNat z1 (a1.toNat + 1))) (hB4 : Bs E b4 l4 c4 (stp gE (a2 * a1).toNat z1 a1.toNat))
    (v : validF a1 z1.length) (p1 : 0 ≤ a2) (p2 : a2 < (z1.length : Int) / a1) (ha3 : 0 ≤ a3 ∧ a3 ≤ 65535) (hi : i ≤ l1) (hE : Mem.le E0 E) (h : ∀ E', Mem.le E E' → K (B true) E') :
    Lp WL8 8 Try.f8 [1, 1, 1, 1, 1, 1, 1, 0, 1, 0] 0 (pubK E0 K) (sh8 a1 a2 a3 a1 b1 b3 b4 l1 c1 l3 c3 l4 c4 i E) :=
  Lp_ind okWL8 (fun x : {i : Nat // i ≤ l1} => sh8 a1 a2 a3 a1 b1 b3 b4 l1 c1 l3 c3 l4 c4 x.1 E) (fun x => l1 - x.1) (fun x ih => rnd8 hB1 hF hB4 v p1 p2 ha3 x.2 hE h fun g => ih ⟨x.1 + 1, by omega⟩ (by show l1 - (_ + 1) < l1 - _; omega)) ⟨i, hi⟩
theorem e8 {a1 : Int} {b1 : Option Addr} {l1 : Nat} {c1 : Nat} {z1 : List Int} {a2 : Int} {a3 : Int} (ha1 : (Lit.int .i64 a1).wf = true) (hB1 : Bs E b1 l1 c1 z1) (ha2 : (Lit.int .i64 a2).wf = true) (ha3 : (Lit.int .u16 a3).wf = true) (h : ∀ E' : Mem, Mem.le E E' → K (B true) E') :
    Ent WL8 8 Try.f8 [.agg [I a1, L b1 l1 c1], I a2, .raw (.int .u16 a3)] E K := by
  refine same (by kernel_rfl) (?_ : 
      ∀ (E' : Mem),
        Mem.le E E' →
          Mem.le E E' ∧
            bif decide ((↑l1 : Int) > (300 : Int)) then Mem.le E E' ∧ K (SV.raw (Value.bool true)) E'
            else
              ∃ (zs : List Int),
                Bs E' b1 l1 c1 zs ∧
                  ∀ (b' : Option Addr) (l' c' : Nat) (ms : List (Int × List Int)) (e : Int) (E'_1 : Mem),
                    Mem.le E' E'_1 →
                      Hyp (erasF a1 zs a2 = (ms, e)) →
                        FL E'_1 b' l' c' ms →
                          Mem.le E' E'_1 ∧
                            bif e != (0 : Int) then
                              Mem.le E E'_1 ∧ K (SV.raw (Value.bool (bif true then (↑l' : Int) == (0 : Int) else false))) E'_1
                            else
                              ∃ (ms : List (Int × List Int)),
                                FL E'_1 b' l' c' ms ∧
                                  l' ≤ 100000 ∧
                                    ∀ (s' : Int) (b'_1 : Option Addr) (l'_1 c'_1 : Nat) (ys : List Int) (ok : Bool)
                                      (E' : Mem),
                                      Mem.le E'_1 E' →
                                        Hyp (lastF ms e (IntKind.wrap IntKind.i64 (a1 + (1 : Int))) = ((s', ys), ok)) →
                                          Bs E' b'_1 l'_1 c'_1 ys →
                                            Mem.le E'_1 E' ∧
                                              bif !ok then Mem.le E E' ∧ K (SV.raw (Value.bool false)) E'
                                              else
                                                bif bif false then true else (↑l'_1 : Int) != (↑l1 : Int) then
                                                  Mem.le E E' ∧ K (SV.raw (Value.bool false)) E'
                                                else
                                                  bif bif false then true else decide (a2 < (0 : Int)) then
                                                    Mem.le E E' ∧ K (SV.raw (Value.bool false)) E'
                                                  else
                                                    Lp WL8 8 Try.f8
                                                      [1, 1, 1, 1, 1, 1,
                                                        1, 0, 1, 0]
                                                      0 (pubK E K)
                                                      {
                                                        fr :=
                                                          [some
                                                              (SV.agg
                                                                [SV.raw (Value.int IntKind.i64 a1),
                                                                  SV.raw (Value.slice b1 l1 c1)]),
                                                            some (SV.raw (Value.int IntKind.i64 a2)),
                                                            some (SV.raw (Value.int IntKind.u16 a3)),
                                                            some (SV.loc 0 0), none, none, none,
                                                            some (SV.raw (Value.bool true)),
                                                            some (SV.raw (Value.slice b' l' c')),
                                                            some (SV.raw (Value.int IntKind.i64 e)),
                                                            some (SV.loc 1 0), some (SV.raw (Value.bool ok)),
                                                            none, none, none, none, none, none,
                                                            some (SV.raw (Value.bool true)),
                                                            some (SV.loc 0 1),
                                                            some (SV.raw (Value.slice b1 l1 c1)),
                                                            some (SV.raw (Value.int IntKind.i64 (↑l1 : Int))),
                                                            some (SV.raw (Value.bool (decide ((↑l1 : Int) > (300 : Int))))),
                                                            none,
                                                            some
                                                              (SV.tup
                                                                [SV.raw (Value.slice b' l' c'),
                                                                  SV.raw (Value.int IntKind.i64 e)]),
                                                            some
                                                              (SV.agg
                                                                [SV.raw (Value.int IntKind.i64 a1),
                                                                  SV.raw (Value.slice b1 l1 c1)]),
                                                            some (SV.raw (Value.int IntKind.i64 a2)),
                                                            some
                                                              (SV.tup
                                                                [SV.raw (Value.slice b' l' c'),
                                                                  SV.raw (Value.int IntKind.i64 e)]),
                                                            some (SV.raw (Value.slice b' l' c')),
                                                            some (SV.raw (Value.int IntKind.i64 e)),
                                                            some (SV.raw (Value.int IntKind.i64 e)),
                                                            some (SV.raw (Value.bool (e != (0 : Int)))), none, none, none,
                                                            none, none, none,
                                                            some
                                                              (SV.tup
                                                                [SV.agg
                                                                    [SV.raw (Value.int IntKind.i64 s'),
                                                                      SV.raw (Value.slice b'_1 l'_1 c'_1)],
                                                                  SV.raw (Value.bool ok)]),
                                                            some (SV.raw (Value.slice b' l' c')),
                                                            some (SV.raw (Value.int IntKind.i64 e)),
                                                            some (SV.loc 0 0),
                                                            some (SV.raw (Value.int IntKind.i64 a1)),
                                                            some
                                                              (SV.raw
                                                                (Value.int IntKind.i64
                                                                  (IntKind.wrap IntKind.i64 (a1 + (1 : Int))))),
                                                            some
                                                              (SV.tup
                                                                [SV.agg
                                                                    [SV.raw (Value.int IntKind.i64 s'),
                                                                      SV.raw (Value.slice b'_1 l'_1 c'_1)],
                                                                  SV.raw (Value.bool ok)]),
                                                            some
                                                              (SV.agg
                                                                [SV.raw (Value.int IntKind.i64 s'),
                                                                  SV.raw (Value.slice b'_1 l'_1 c'_1)]),
                                                            some (SV.raw (Value.bool ok)), some (SV.raw (Value.bool ok)),
                                                            some (SV.raw (Value.bool !ok)), some (SV.raw (Value.bool false)),
                                                            some (SV.loc 1 1),
                                                            some (SV.raw (Value.slice b'_1 l'_1 c'_1)),
                                                            some (SV.raw (Value.int IntKind.i64 (↑l'_1 : Int))),
                                                            some (SV.loc 0 1),
                                                            some (SV.raw (Value.slice b1 l1 c1)),
                                                            some (SV.raw (Value.int IntKind.i64 (↑l1 : Int))),
                                                            some (SV.raw (Value.bool ((↑l'_1 : Int) != (↑l1 : Int)))),
                                                            some
                                                              (SV.raw
                                                                (Value.bool
                                                                  (bif false then true else (↑l'_1 : Int) != (↑l1 : Int)))),
                                                            some (SV.raw (Value.bool false)),
                                                            some (SV.raw (Value.int IntKind.i64 a2)),
                                                            some (SV.raw (Value.bool (decide (a2 < (0 : Int))))),
                                                            some
                                                              (SV.raw
                                                                (Value.bool
                                                                  (bif false then true else decide (a2 < (0 : Int))))),
                                                            some (SV.loc 1 1),
                                                            some (SV.raw (Value.slice b'_1 l'_1 c'_1)),
                                                            some (SV.raw (Value.int IntKind.i64 (↑l'_1 : Int))),
                                                            some (SV.raw (Value.int IntKind.i64 (0 : Int))), none, none, none,
                                                            none, none, none, none, none, none, none, none, none, none, none,
                                                            none, none, none, none, none, none, none, none, none, none, none,
                                                            none, none, none, none, none, none, none, none, none, none, none,
                                                            none, none, none, none, none, none, none, none, none, none, none,
                                                            none, none, none, none, none, none, none, none, none, none, none,
                                                            none, none, none, none, none],
                                                        bx :=
                                                          [{ elem := 24,
                                                              row :=
                                                                Row.lst
                                                                  [SV.raw (Value.int IntKind.i64 a1),
                                                                    SV.raw (Value.slice b1 l1 c1)],
                                                              total := 2, own := true : Box },
                                                            { elem := 24,
                                                              row :=
                                                                Row.lst
                                                                  [SV.raw (Value.int IntKind.i64 s'),
                                                                    SV.raw (Value.slice b'_1 l'_1 c'_1)],
                                                              total := 2, own := true : Box }],
                                                        E := E' : St })
  have n1 := hB1.2.1
  have ha3 := wf16 ha3
  intro E1 q1
  refine ⟨q1, condC (fun _ => ⟨q1, h E1 q1⟩) (fun g1 => ?_)⟩
  have g1 : l1 ≤ 300 := by simp at g1; omega
  refine ⟨z1, hB1.mono q1, fun b3 l3 c3 ms e E2 q2 r2 F2 => ⟨q2, ?_⟩⟩
  have r2 : erasF a1 z1 a2 = (ms, e) := r2
  have F2 : FL E2 b3 l3 c3 ms := F2
  have k2 := Mem.le_trans q1 q2
  refine condC (fun g => ?_) (fun g => ?_)
  · have g : e ≠ 0 := by simpa using g
    have hm := erasF_bad r2 g
    have hn := F2.len
    rw [hm] at hn
    subst hn
    exact ⟨k2, h E2 k2⟩
  have g : e = 0 := by simpa using g
  subst g
  obtain ⟨v, p1, p2, rfl⟩ := erasF_ok r2
  obtain ⟨v1, v2, v3, v4, v5⟩ := v
  have v : validF a1 z1.length := ⟨v1, v2, v3, v4, v5⟩
  have n3 : a1.toNat + 1 = l3 := by rw [← F2.len, mems_len]
  refine ⟨_, F2, by omega, fun s4 b4 l4 c4 y4 o4 E3 q3 r3 B3 => ⟨q3, ?_⟩⟩
  rw [wrap_i64 (x := a1 + 1) (by omega)] at r3
  have r3 : lastF _ 0 (a1 + 1) = ((s4, y4), o4) := r3
  rw [show a1 + 1 = ((a1.toNat : Nat) : Int) + 1 by omega, lastF_ok (mems_len _ _ _ _ _), mems_getD (by omega)] at r3
  obtain ⟨rfl, rfl, rfl⟩ := eq3 r3
  have B3 : Bs E3 b4 l4 c4 _ := B3
  have n4 := B3.2.1
  simp only [stp_len] at n4
  have k3 := Mem.le_trans k2 q3
  refine condC (fun g => by simp at g) (fun _ => condC (fun g => by simp at g; omega) (fun _ => condC (fun g => by simp at g; omega) (fun _ => ?_)))
  exact Lp_re [some 0, some 1] (lp8 (i := 0) (hB1.mono k3) (F2.mono q3) B3 v p1 p2 ha3 (Nat.zero_le _) k3 (fun E' q => h E' (Mem.le_trans k3 q))) ⟨⟨by simp, by simp, fun j h => absurd h (Nat.not_lt_zero _)⟩, rfl, (by repeat' first | exact True.intro | refine And.intro (Or.inl rfl) ?_), (by repeat' first | exact True.intro | exact rfl | exact Or.inl rfl | fail | refine And.intro ?_ ?_), (show List.Nodup [0, 1] from by decide), Mem.le_refl _⟩


theorem opn8 (W : World) (K : List SV → Prop) (h : ∀ a1 : Int, (Lit.int .i64 a1).wf = true → ∀ (b1 : Option Addr) (l1 c1 : Nat) (z1 : List Int), (l1 ≤ c1) → (c1 ≤ maxLen) → (b1 = none → c1 = 0) → (z1.length = c1) → (∀ x ∈ z1, (Lit.int .u8 x).wf = true) → RowAt W (.slice b1 l1 c1) (z1.map (.int .u8)) → ∀ a2 : Int, (Lit.int .i64 a2).wf = true → ∀ a3 : Int, (Lit.int .u16 a3).wf = true → K [.agg [I a1, L b1 l1 c1], I a2, .raw (.int .u16 a3)]) : opnAll Try.prog W Try.f8.params.toList K :=
  same (by kernel_rfl) h

theorem sem8 (W : World) : opnAll Try.prog W Try.f8.params.toList fun ss => TabSem Try.prog 8 ss (fun v cs => RowAt W v cs) fun r _ => r = .raw (.bool true) := by
  refine opn8 W _ ?_
  intro a1 ha1 b1 l1 c1 z1 hl1 hc1 hb1 hz1 hw1 hE1 a2 ha2 a3 ha3
  exact Ent.sem okWL8 Try.func8 ⟨by kernel_rfl, by kernel_rfl⟩ rfl (e8 ha1 (Bs.of hl1 hb1 hz1 hw1 hE1) ha2 ha3 (fun _ _ => rfl))

theorem lifted8 (os : Os) (started : os.Started) (H : Type) (enc : TypeId × Value → H) :
    ReturnsInHanded {} Try.checked os 8 .any (Rows.flashErasingSpec.pre6 enc Try.prog Try.f8 Rows.flashErasingRow.domain false) (Rows.flashErasingSpec.post enc Try.prog Try.f8 false true false false) :=
  lift_true (C := Try.checked) (by kernel_rfl) (by kernel_rfl) started (by kernel_rfl) Try.func8
    (ChangeSpec.witness6 (enc := enc) (C := Try.checked) false ⟨#[], #[.agg #[.int .i64 0, .slice none 0 0], .int .i64 0, .int .u16 0], []⟩ 8 (by kernel_rfl) (by kernel_rfl) (by kernel_rfl) (by kernel_rfl))
    (Tb := 4) (by kernel_rfl) (by kernel_rfl) (by kernel_rfl) rfl
    (fun ds hl => by
      match ds, hl with
      | [d0, d1, d2], _ => exact ⟨rfl, rfl, rfl⟩)
    sem8

theorem over8 : Rows.flashErasingRow.holds Try.pinned (OpenSpec.ofChange Rows.flashErasingSpec) :=
  OpenClaim.holds_of_wide 8 Try.f8 rfl rfl rfl rfl rfl rfl rfl ⟨rfl, rfl, rfl, rfl, rfl⟩ rfl rfl rfl rfl rfl (by kernel_rfl) Try.func8 (by kernel_rfl)
    (of_decide_eq_true (by kernel_rfl)) (by unfold Func.isWrapper; first | (rw [if_pos (by decide +kernel)]; kernel_rfl) | (rw [if_neg (by decide +kernel)]; exact ⟨rfl, rfl⟩))
    (fun os started H enc _ => lifted8 os started H enc)

theorem proved8 : Rows.FlashErasingSaid := over8
end Go.Proofs.Ythgdbpnddnbbdaa.FlashOwn
