/- The law WireBeginnings. -/
import Derived.Test.YtjlpfhekhpebpaaWire12
import Derived.Test.YtjlpfhekhpebpaaRows
namespace Go.Proofs.Ytjlpfhekhpebpaa.WireOwn
open Go Go.Sx Go.Proofs.Ytjlpfhekhpebpaa
set_option maxRecDepth 100000
set_option maxHeartbeats 4000000
set_option linter.unusedVariables false
set_option linter.unusedSimpArgs false
variable {E : Mem} {K : SV → Mem → Prop}
noncomputable def tabL9 : FuncId → List SV → Mem → (SV → Mem → Prop) → Prop := fun f args E K => match f with
  | 10 => d0 args ((∀ (E' : Mem), Mem.le E E' → K (B true) E'))
  | 12 => d2 args fun x0 x1 => dS x0 fun b1 l2 c3 => dI x1 fun a4 => ∃ (zs : List Int), Bs E b1 l2 c3 zs ∧ l2 ≤ 10000 ∧ (∀ (b' : Option Addr) (l' c' : Nat) (ys : List Int) (e : Int) (E' : Mem), Mem.le E E' → Hyp (putN zs a4 = (ys, e)) → Bs E' b' l' c' ys → K (.tup [L b' l' c', I e]) E')
  | 17 => d2 args fun x0 x1 => dS x0 fun b1 l2 c3 => dS x1 fun b4 l5 c6 => ∃ (zs : List Int) (xs : List Int), Bs E b1 l2 c3 zs ∧ Bs E b4 l5 c6 xs ∧ l2 ≤ 10000 ∧ (∀ (b' : Option Addr) (l' c' : Nat) (ys : List Int) (e : Int) (E' : Mem), Mem.le E E' → Hyp (putB zs xs = (ys, e)) → Bs E' b' l' c' ys → K (.tup [L b' l' c', I e]) E')
  | 14 => d2 args fun x0 x1 => dS x0 fun b1 l2 c3 => dS x1 fun b4 l5 c6 => ∃ (zs : List Int), Bs E b1 l2 c3 zs ∧ Bs E b4 l5 c6 zs ∧ l2 ≤ 100000 ∧ (K (B true) E)
  | _ => False
theorem tabL9_ok : TabOK Try.prog tabL9 := by
  intro f args E K h
  unfold tabL9 at h
  split at h
  · obtain ⟨rfl, h⟩ := d0_elim h
    exact TabSem.congr rfl (Ent.sem okWJ Try.func10 ⟨by kernel_rfl, by kernel_rfl⟩ rfl (s10 h))
  · obtain ⟨x0, x1, rfl, h⟩ := d2_elim h
    obtain ⟨b1, l2, c3, rfl, h⟩ := dS_elim h
    obtain ⟨a4, rfl, h⟩ := dI_elim h
    obtain ⟨zs, g0, g1, h⟩ := h
    exact TabSem.congr (valL_cons rfl (valL_cons rfl rfl)) (Ent.sem okW1 Try.func12 ⟨by kernel_rfl, by kernel_rfl⟩ rfl (s12' g0 g1 h))
  · obtain ⟨x0, x1, rfl, h⟩ := d2_elim h
    obtain ⟨b1, l2, c3, rfl, h⟩ := dS_elim h
    obtain ⟨b4, l5, c6, rfl, h⟩ := dS_elim h
    obtain ⟨zs, xs, g0, g1, g2, h⟩ := h
    exact TabSem.congr (valL_cons rfl (valL_cons rfl rfl)) (Ent.sem okW6 Try.func17 ⟨by kernel_rfl, by kernel_rfl⟩ rfl (s17 g0 g1 g2 h))
  · obtain ⟨x0, x1, rfl, h⟩ := d2_elim h
    obtain ⟨b1, l2, c3, rfl, h⟩ := dS_elim h
    obtain ⟨b4, l5, c6, rfl, h⟩ := dS_elim h
    obtain ⟨zs, g0, g1, g2, h⟩ := h
    exact TabSem.congr (valL_cons rfl (valL_cons rfl rfl)) (Ent.sem okWB Try.func14 ⟨by kernel_rfl, by kernel_rfl⟩ rfl (h14 g0 g1 g2 h))
  · exact h.elim
noncomputable def WL9 : Cx := { P := Try.prog, inl := fun f => List.contains [11] f, tab := tabL9, isB := fun _ => false, tabB := fun _ _ _ _ _ => False, opt := { unroll := 0, carry := [], cuts := [11, 13, 15] }, muts := mutsD }
theorem okWL9 : CxOK WL9 := ⟨tabL9_ok, by kernel_rfl, okInl (by kernel_rfl), fun _ _ _ _ _ h => h.elim⟩
def shL9a (b1 : Option Addr) (l1 c1 : Nat) (b2 : Option Addr) (l2 c2 : Nat) (e : Int) (b3 : Option Addr) (l3 c3 : Nat) (b4 : Option Addr) (l4 c4 : Nat) (g : Int) (b5 : Option Addr) (l5 c5 : Nat) (E : Mem) : St := { fr := [some (L b1 l1 c1), none, none, none, none, none, none, some (B true), none, some (L b2 l2 c2), some (I e), some (L b3 l3 c3), none, some (L b4 l4 c4), some (I g), some (L b5 l5 c5), none, none, none, none, none, none, none, none, none, none, none, none, none, none, none, none, none, none, none, none, none, none, none, none, none, none, none, none, none, none, none, none, none, none, none, none, none, none, none, none, none, none, none, none, none, none, none, none, none, none, none, none, none, none, none, none, none, none, none, none, none, none, none], bx := [], E := E }
def shL9b (b1 : Option Addr) (l1 c1 : Nat) (b4 : Option Addr) (l4 c4 : Nat) (g : Int) (b5 : Option Addr) (l5 c5 : Nat) (E : Mem) : St := { fr := [some (L b1 l1 c1), none, none, none, none, none, none, some (B true), none, none, none, none, none, some (L b4 l4 c4), some (I g), some (L b5 l5 c5), none, none, none, none, none, none, none, none, none, none, none, none, none, none, none, none, none, none, none, none, none, none, none, none, none, none, none, none, none, none, none, none, none, none, none, none, none, none, none, none, none, none, none, none, none, none, none, none, none, none, none, none, none, none, none, none, none, none, none, none, none, none, none], bx := [], E := E }
def shL9c (l1 : Nat) (E : Mem) : St := { fr := [none, none, none, none, none, none, none, some (B true), none, none, none, none, none, none, none, none, none, none, none, none, none, none, none, none, none, none, none, none, none, none, none, none, none, none, none, none, none, none, none, none, none, none, none, none, none, none, none, none, none, none, none, none, none, none, none, none, none, none, none, none, none, none, none, none, none, none, none, none, none, none, none, none, none, none, none, none, none, none, none], bx := [], E := E }
theorem pcL9_15 {l1 : Nat} {E0 : Mem} (hE0 : Mem.le E0 E) (h : ∀ E', Mem.le E E' → K (B true) E') : Pc WL9 6 Try.f9 [1, 1, 1, 1, 1, 1, 1, 1, 1, 1, 1] 0 (pubK E0 K) (shL9c l1 E) := by
  refine same (by kernel_rfl) (?_ : 
      Mem.le E0 E ∧ K (SV.raw (Value.bool true)) E)
  exact ⟨hE0, h E (Mem.le_refl _)⟩
theorem pcL9_13 {b1 : Option Addr} {l1 c1 : Nat} {b4 : Option Addr} {l4 c4 : Nat} {g : Int} {b5 : Option Addr} {l5 c5 : Nat} {z1 ss ts : List Int} {E0 : Mem} (hB1 : Bs E b1 l1 c1 z1) (hS : Bs E b4 l4 c4 ss) (hT : Bs E b5 l5 c5 ts) (heg : g = 0 → ss = z1 ++ ts) (g1 : l1 ≤ 6000) (g3 : l4 ≤ 100000) (hE0 : Mem.le E0 E) (h : ∀ E', Mem.le E E' → K (B true) E') :
    Pc WL9 6 Try.f9 [1, 1, 1, 1, 1, 1, 1, 1, 1, 1] 0 (pubK E0 K) (shL9b b1 l1 c1 b4 l4 c4 g b5 l5 c5 E) := by
  refine same (by kernel_rfl) (?_ : 
      bif g == 0 then
        ∃ (cs : List Value),
          (cs = [] ∨ E (Value.slice b1 l1 c1) cs) ∧
            l1 * 1 ≤ List.length cs ∧
              (∀ (x : Value), List.Mem x cs → Value.oneCell' x = true) ∧
                0 ≤ 20000 ∧
                  20000 ≤ 20000 ∧
                    0 ≤ 20000 ∧
                      req ((0 + l1) * 1 ≤ 140737488355328)
                        (∀ (cap' tot' : Nat),
                          0 + l1 ≤ cap' →
                            cap' * 1 ≤ tot' →
                              ∃ (cs_1 : List Value),
                                (cs_1 = [] ∨ E (Value.slice b5 l5 c5) cs_1) ∧
                                  l5 * 1 ≤ List.length cs_1 ∧
                                    (∀ (x : Value), List.Mem x cs_1 → Value.oneCell' x = true) ∧
                                      (0 + l1) * 1 ≤
                                          List.length
                                            (Row.cells
                                              (Row.vals
                                                (List.take 0 (zerosV [Value.int IntKind.u8 0] 20000) ++
                                                  List.take (l1 * 1) cs))) ∧
                                        cap' * 1 ≤ tot' ∧
                                          0 + l1 ≤ cap' ∧
                                            req ((0 + l1 + l5) * 1 ≤ 140737488355328)
                                              (∀ (cap'_1 tot' : Nat),
                                                0 + l1 + l5 ≤ cap'_1 →
                                                  cap'_1 * 1 ≤ tot' →
                                                    ∀ (base : Option Addr) (E' : Mem),
                                                      Mem.le E E' →
                                                        WinE E' base
                                                            (List.take ((0 + l1) * 1)
                                                                (List.take 0 (zerosV [Value.int IntKind.u8 0] 20000) ++
                                                                  List.take (l1 * 1) cs) ++
                                                              List.take (l5 * 1) cs_1) →
                                                          ∃ (zs : List Int),
                                                            ((zs = [] ∨
                                                                  E' (Value.slice b4 l4 c4)
                                                                    (List.map (Value.int IntKind.u8) zs)) ∧
                                                                List.length zs = l4 ∧
                                                                  l4 ≤ c4 ∧
                                                                    (∀ (z : Int), List.Mem z zs → 0 ≤ z ∧ z ≤ 255) ∧
                                                                      (b4 = none → zs = [])) ∧
                                                              ((zs = [] ∨
                                                                    E'
                                                                      (Value.slice
                                                                        (Option.map (fun (x : Addr) => Addr.add x 0) base)
                                                                        (0 + l1 + l5) cap'_1)
                                                                      (List.map (Value.int IntKind.u8) zs)) ∧
                                                                  List.length zs = 0 + l1 + l5 ∧
                                                                    0 + l1 + l5 ≤ cap'_1 ∧
                                                                      (∀ (z : Int), List.Mem z zs → 0 ≤ z ∧ z ≤ 255) ∧
                                                                        (Option.map (fun (x : Addr) => Addr.add x 0) base =
                                                                            none →
                                                                          zs = [])) ∧
                                                                l4 ≤ 100000 ∧
                                                                  Ct WL9 6 Try.f9 [1, 1, 1, 1, 1, 1, 1, 1, 1, 1, 1] 0
                                                                    (pubK E0 K)
                                                                    {
                                                                      fr :=
                                                                        [some (SV.raw (Value.slice b1 l1 c1)), none, none,
                                                                          none, none, none, none,
                                                                          some (SV.raw (Value.bool true)), none, none, none,
                                                                          none, none, some (SV.raw (Value.slice b4 l4 c4)),
                                                                          some (SV.raw (Value.int IntKind.i64 g)),
                                                                          some (SV.raw (Value.slice b5 l5 c5)), none, none,
                                                                          none, none, none, none, none, none, none, none,
                                                                          none, none, none, none, none, none, none, none,
                                                                          none, none, none, none, none, none, none, none,
                                                                          none, none, none, none, none, none, none, none,
                                                                          none, none, none, none, none, none, none, none,
                                                                          none, none, none, none, none, none, none, none,
                                                                          some (SV.raw (Value.int IntKind.i64 g)),
                                                                          some (SV.raw (Value.bool (g == 0))),
                                                                          some (SV.raw (Value.bool true)),
                                                                          some (SV.raw (Value.bool true)),
                                                                          some (SV.raw (Value.slice b4 l4 c4)),
                                                                          some (SV.slc 0 0 0 20000),
                                                                          some (SV.raw (Value.slice b1 l1 c1)),
                                                                          some (SV.slc 1 0 (0 + l1) cap'),
                                                                          some (SV.raw (Value.slice b5 l5 c5)),
                                                                          some (SV.slc 2 0 (0 + l1 + l5) cap'_1),
                                                                          some (SV.raw (Value.bool true)),
                                                                          some (SV.raw (Value.bool true)), none],
                                                                      bx :=
                                                                        [{ elem := 5, row := Row.lst [], total := 0,
                                                                            own := false },
                                                                          { elem := 5, row := Row.lst [], total := 0,
                                                                            own := false },
                                                                          { elem := 5,
                                                                            row :=
                                                                              Row.vals
                                                                                (List.take ((0 + l1) * 1)
                                                                                    (List.take 0
                                                                                        (zerosV [Value.int IntKind.u8 0]
                                                                                          20000) ++
                                                                                      List.take (l1 * 1) cs) ++
                                                                                  List.take (l5 * 1) cs_1),
                                                                            total := tot', own := false }],
                                                                      E := E' }))
      else
        Ct WL9 6 Try.f9 [1, 1, 1, 1, 1, 1, 1, 1, 1, 1, 1] 0 (pubK E0 K)
          {
            fr :=
              [some (SV.raw (Value.slice b1 l1 c1)), none, none, none, none, none, none, some (SV.raw (Value.bool true)),
                none, none, none, none, none, some (SV.raw (Value.slice b4 l4 c4)), some (SV.raw (Value.int IntKind.i64 g)),
                some (SV.raw (Value.slice b5 l5 c5)), none, none, none, none, none, none, none, none, none, none, none, none,
                none, none, none, none, none, none, none, none, none, none, none, none, none, none, none, none, none, none,
                none, none, none, none, none, none, none, none, none, none, none, none, none, none, none, none, none, none,
                none, none, some (SV.raw (Value.int IntKind.i64 g)), some (SV.raw (Value.bool (g == 0))), none, none, none,
                none, none, none, none, none, none, none, none],
            bx := [], E := E })
  have hlen := hB1.2.1
  refine condC (fun g => ?_) (fun _ => Ct_re [] (Ct_intro okWL9 (pcL9_15 (l1 := 0) (hE0) (fun E' hE' => h E' (Mem.le_trans (Mem.le_refl _) hE')))) ⟨⟨Nat.zero_le _, Nat.zero_le _, fun j h => absurd h (Nat.not_lt_zero _)⟩, rfl, (by repeat' first | exact True.intro | refine And.intro (Or.inl rfl) ?_), True.intro, (by show List.Nodup []; decide), Mem.le_refl _⟩)
  have hx := heg (by simpa using g)
  have hxl := congrArg List.length hx
  rw [List.length_append] at hxl
  have hlA := hS.2.1
  have hlQ := hT.2.1
  obtain ⟨s1, s2, s3⟩ := hB1.src
  obtain ⟨t1, t2, t3⟩ := hT.src
  refine ⟨_, s1, s2, s3, Nat.zero_le _, Nat.le_refl _, Nat.zero_le _, req_intro (by omega) ?_⟩
  intro cap1 tot1 q1 q2
  have e3 := tkB (Nat.le_of_eq hlen)
  refine ⟨_, t1, t2, t3, ?_, q2, q1, req_intro (by omega) ?_⟩
  · rw [e3]; simp only [Row.cells, List.take_zero, List.nil_append, List.length_map]; omega
  intro cap2 tot2 q3 q4 base E1 hE1 hW
  rw [List.take_zero, List.nil_append, e3, tkB (l := 0 + l1) (by omega), tkB (Nat.le_of_eq hlQ), mapB] at hW
  have hL := Bs.win hW rfl (l := 0 + l1 + l5) (by rw [List.length_append, hlen, hlQ]; omega) q3 (app_byte (BsB hB1) (BsB hT))
  have hE01 := Mem.le_trans hE0 hE1
  refine ⟨_, hS.mono hE1, by rw [hx]; exact hL, g3, Ct_re [] (Ct_intro okWL9 (pcL9_15 (l1 := 0) (hE01) (fun E' hE' => h E' (Mem.le_trans (hE1) hE')))) ⟨⟨Nat.zero_le _, Nat.zero_le _, fun j h => absurd h (Nat.not_lt_zero _)⟩, rfl, (by repeat' first | exact True.intro | refine And.intro (Or.inl rfl) ?_), True.intro, (by show List.Nodup []; decide), Mem.le_refl _⟩⟩
theorem pcL9_11 {b1 : Option Addr} {l1 c1 : Nat} {b2 : Option Addr} {l2 c2 : Nat} {e : Int} {b3 : Option Addr} {l3 c3 : Nat} {b4 : Option Addr} {l4 c4 : Nat} {g : Int} {b5 : Option Addr} {l5 c5 : Nat} {z1 ss ts : List Int} {ps qs : List Int} {E0 : Mem} (hB1 : Bs E b1 l1 c1 z1) (hP : Bs E b2 l2 c2 ps) (hQ : Bs E b3 l3 c3 qs) (hee : e = 0 → ps = z1 ++ qs) (g2 : l2 ≤ 100000) (hS : Bs E b4 l4 c4 ss) (hT : Bs E b5 l5 c5 ts) (heg : g = 0 → ss = z1 ++ ts) (g1 : l1 ≤ 6000) (g3 : l4 ≤ 100000) (hE0 : Mem.le E0 E) (h : ∀ E', Mem.le E E' → K (B true) E') :
    Pc WL9 6 Try.f9 [1, 1, 1, 1, 1, 1, 1, 1, 1] 0 (pubK E0 K) (shL9a b1 l1 c1 b2 l2 c2 e b3 l3 c3 b4 l4 c4 g b5 l5 c5 E) := by
  refine same (by kernel_rfl) (?_ : 
      bif e == 0 then
        ∃ (cs : List Value),
          (cs = [] ∨ E (Value.slice b1 l1 c1) cs) ∧
            l1 * 1 ≤ List.length cs ∧
              (∀ (x : Value), List.Mem x cs → Value.oneCell' x = true) ∧
                0 ≤ 10000 ∧
                  10000 ≤ 10000 ∧
                    0 ≤ 10000 ∧
                      req ((0 + l1) * 1 ≤ 140737488355328)
                        (∀ (cap' tot' : Nat),
                          0 + l1 ≤ cap' →
                            cap' * 1 ≤ tot' →
                              ∃ (cs_1 : List Value),
                                (cs_1 = [] ∨ E (Value.slice b3 l3 c3) cs_1) ∧
                                  l3 * 1 ≤ List.length cs_1 ∧
                                    (∀ (x : Value), List.Mem x cs_1 → Value.oneCell' x = true) ∧
                                      (0 + l1) * 1 ≤
                                          List.length
                                            (Row.cells
                                              (Row.vals
                                                (List.take 0 (zerosV [Value.int IntKind.u8 0] 10000) ++
                                                  List.take (l1 * 1) cs))) ∧
                                        cap' * 1 ≤ tot' ∧
                                          0 + l1 ≤ cap' ∧
                                            req ((0 + l1 + l3) * 1 ≤ 140737488355328)
                                              (∀ (cap'_1 tot' : Nat),
                                                0 + l1 + l3 ≤ cap'_1 →
                                                  cap'_1 * 1 ≤ tot' →
                                                    ∀ (base : Option Addr) (E' : Mem),
                                                      Mem.le E E' →
                                                        WinE E' base
                                                            (List.take ((0 + l1) * 1)
                                                                (List.take 0 (zerosV [Value.int IntKind.u8 0] 10000) ++
                                                                  List.take (l1 * 1) cs) ++
                                                              List.take (l3 * 1) cs_1) →
                                                          ∃ (zs : List Int),
                                                            ((zs = [] ∨
                                                                  E' (Value.slice b2 l2 c2)
                                                                    (List.map (Value.int IntKind.u8) zs)) ∧
                                                                List.length zs = l2 ∧
                                                                  l2 ≤ c2 ∧
                                                                    (∀ (z : Int), List.Mem z zs → 0 ≤ z ∧ z ≤ 255) ∧
                                                                      (b2 = none → zs = [])) ∧
                                                              ((zs = [] ∨
                                                                    E'
                                                                      (Value.slice
                                                                        (Option.map (fun (x : Addr) => Addr.add x 0) base)
                                                                        (0 + l1 + l3) cap'_1)
                                                                      (List.map (Value.int IntKind.u8) zs)) ∧
                                                                  List.length zs = 0 + l1 + l3 ∧
                                                                    0 + l1 + l3 ≤ cap'_1 ∧
                                                                      (∀ (z : Int), List.Mem z zs → 0 ≤ z ∧ z ≤ 255) ∧
                                                                        (Option.map (fun (x : Addr) => Addr.add x 0) base =
                                                                            none →
                                                                          zs = [])) ∧
                                                                l2 ≤ 100000 ∧
                                                                  Ct WL9 6 Try.f9 [1, 1, 1, 1, 1, 1, 1, 1, 1, 1] 0 (pubK E0 K)
                                                                    {
                                                                      fr :=
                                                                        [some (SV.raw (Value.slice b1 l1 c1)), none, none,
                                                                          none, none, none, none,
                                                                          some (SV.raw (Value.bool true)), none,
                                                                          some (SV.raw (Value.slice b2 l2 c2)),
                                                                          some (SV.raw (Value.int IntKind.i64 e)),
                                                                          some (SV.raw (Value.slice b3 l3 c3)), none,
                                                                          some (SV.raw (Value.slice b4 l4 c4)),
                                                                          some (SV.raw (Value.int IntKind.i64 g)),
                                                                          some (SV.raw (Value.slice b5 l5 c5)), none, none,
                                                                          none, none, none, none, none, none, none, none,
                                                                          none, none, none, none, none, none, none, none,
                                                                          none, none, none, none, none, none, none, none,
                                                                          none, none, none, none, none, none, none, none,
                                                                          none, none, none, none,
                                                                          some (SV.raw (Value.int IntKind.i64 e)),
                                                                          some (SV.raw (Value.bool (e == 0))),
                                                                          some (SV.raw (Value.bool true)),
                                                                          some (SV.raw (Value.bool true)),
                                                                          some (SV.raw (Value.slice b2 l2 c2)),
                                                                          some (SV.slc 0 0 0 10000),
                                                                          some (SV.raw (Value.slice b1 l1 c1)),
                                                                          some (SV.slc 1 0 (0 + l1) cap'),
                                                                          some (SV.raw (Value.slice b3 l3 c3)),
                                                                          some (SV.slc 2 0 (0 + l1 + l3) cap'_1),
                                                                          some (SV.raw (Value.bool true)),
                                                                          some (SV.raw (Value.bool true)), none, none, none,
                                                                          none, none, none, none, none, none, none, none,
                                                                          none, none],
                                                                      bx :=
                                                                        [{ elem := 5, row := Row.lst [], total := 0,
                                                                            own := false },
                                                                          { elem := 5, row := Row.lst [], total := 0,
                                                                            own := false },
                                                                          { elem := 5,
                                                                            row :=
                                                                              Row.vals
                                                                                (List.take ((0 + l1) * 1)
                                                                                    (List.take 0
                                                                                        (zerosV [Value.int IntKind.u8 0]
                                                                                          10000) ++
                                                                                      List.take (l1 * 1) cs) ++
                                                                                  List.take (l3 * 1) cs_1),
                                                                            total := tot', own := false }],
                                                                      E := E' }))
      else
        Ct WL9 6 Try.f9 [1, 1, 1, 1, 1, 1, 1, 1, 1, 1] 0 (pubK E0 K)
          {
            fr :=
              [some (SV.raw (Value.slice b1 l1 c1)), none, none, none, none, none, none, some (SV.raw (Value.bool true)),
                none, some (SV.raw (Value.slice b2 l2 c2)), some (SV.raw (Value.int IntKind.i64 e)),
                some (SV.raw (Value.slice b3 l3 c3)), none, some (SV.raw (Value.slice b4 l4 c4)),
                some (SV.raw (Value.int IntKind.i64 g)), some (SV.raw (Value.slice b5 l5 c5)), none, none, none, none, none,
                none, none, none, none, none, none, none, none, none, none, none, none, none, none, none, none, none, none,
                none, none, none, none, none, none, none, none, none, none, none, none, none, none, none,
                some (SV.raw (Value.int IntKind.i64 e)), some (SV.raw (Value.bool (e == 0))), none, none, none, none, none,
                none, none, none, none, none, none, none, none, none, none, none, none, none, none, none, none, none, none],
            bx := [], E := E })
  have hlen := hB1.2.1
  refine condC (fun g => ?_) (fun _ => Ct_re [] (Ct_intro okWL9 (pcL9_13 (hB1.mono (Mem.le_refl _)) (hS.mono (Mem.le_refl _)) (hT.mono (Mem.le_refl _)) heg g1 g3 (hE0) (fun E' hE' => h E' (Mem.le_trans (Mem.le_refl _) hE')))) ⟨⟨Nat.zero_le _, Nat.zero_le _, fun j h => absurd h (Nat.not_lt_zero _)⟩, rfl, (by repeat' first | exact True.intro | refine And.intro (Or.inl rfl) ?_), True.intro, (by show List.Nodup []; decide), Mem.le_refl _⟩)
  have hx := hee (by simpa using g)
  have hxl := congrArg List.length hx
  rw [List.length_append] at hxl
  have hlA := hP.2.1
  have hlQ := hQ.2.1
  obtain ⟨s1, s2, s3⟩ := hB1.src
  obtain ⟨t1, t2, t3⟩ := hQ.src
  refine ⟨_, s1, s2, s3, Nat.zero_le _, Nat.le_refl _, Nat.zero_le _, req_intro (by omega) ?_⟩
  intro cap1 tot1 q1 q2
  have e3 := tkB (Nat.le_of_eq hlen)
  refine ⟨_, t1, t2, t3, ?_, q2, q1, req_intro (by omega) ?_⟩
  · rw [e3]; simp only [Row.cells, List.take_zero, List.nil_append, List.length_map]; omega
  intro cap2 tot2 q3 q4 base E1 hE1 hW
  rw [List.take_zero, List.nil_append, e3, tkB (l := 0 + l1) (by omega), tkB (Nat.le_of_eq hlQ), mapB] at hW
  have hL := Bs.win hW rfl (l := 0 + l1 + l3) (by rw [List.length_append, hlen, hlQ]; omega) q3 (app_byte (BsB hB1) (BsB hQ))
  have hE01 := Mem.le_trans hE0 hE1
  refine ⟨_, hP.mono hE1, by rw [hx]; exact hL, g2, Ct_re [] (Ct_intro okWL9 (pcL9_13 (hB1.mono (hE1)) (hS.mono (hE1)) (hT.mono (hE1)) heg g1 g3 (hE01) (fun E' hE' => h E' (Mem.le_trans (hE1) hE')))) ⟨⟨Nat.zero_le _, Nat.zero_le _, fun j h => absurd h (Nat.not_lt_zero _)⟩, rfl, (by repeat' first | exact True.intro | refine And.intro (Or.inl rfl) ?_), True.intro, (by show List.Nodup []; decide), Mem.le_refl _⟩⟩
theorem e9 {b1 : Option Addr} {l1 : Nat} {c1 : Nat} {z1 : List Int} {a1 : Int} {b2 : Option Addr} {l2 : Nat} {c2 : Nat} {z2 : List Int} (hB1 : Bs E b1 l1 c1 z1) (ha1 : (Lit.int .i64 a1).wf = true) (hB2 : Bs E b2 l2 c2 z2) (h : ∀ E' : Mem, Mem.le E E' → K (B true) E') :
    Ent WL9 6 Try.f9 [L b1 l1 c1, I a1, L b2 l2 c2] E K := by
  refine same (by kernel_rfl) (?_ : 
      ∀ (E' : Mem),
        Mem.le E E' →
          Mem.le E E' ∧
            bif decide ((↑l1 : Int) ≤ 6000) then
              Mem.le E' E' ∧
                bif !bif true then decide ((↑l2 : Int) ≤ 6000) else false then Mem.le E E' ∧ K (SV.raw (Value.bool true)) E'
                else
                  ∃ (zs : List Int),
                    ((zs = [] ∨ E' (Value.slice b1 l1 c1) (List.map (Value.int IntKind.u8) zs)) ∧
                        List.length zs = l1 ∧
                          l1 ≤ c1 ∧ (∀ (z : Int), List.Mem z zs → 0 ≤ z ∧ z ≤ 255) ∧ (b1 = none → zs = [])) ∧
                      l1 ≤ 10000 ∧
                        ∀ (b' : Option Addr) (l' c' : Nat) (ys : List Int) (e : Int) (E'_1 : Mem),
                          Mem.le E' E'_1 →
                            Hyp (putN zs a1 = (ys, e)) →
                              (ys = [] ∨ E'_1 (Value.slice b' l' c') (List.map (Value.int IntKind.u8) ys)) ∧
                                  List.length ys = l' ∧
                                    l' ≤ c' ∧ (∀ (z : Int), List.Mem z ys → 0 ≤ z ∧ z ≤ 255) ∧ (b' = none → ys = []) →
                                Mem.le E' E'_1 ∧
                                  ∃ (zs : List Int),
                                    ((zs = [] ∨ E'_1 (Value.slice none 0 0) (List.map (Value.int IntKind.u8) zs)) ∧
                                        List.length zs = 0 ∧
                                          0 ≤ 0 ∧ (∀ (z : Int), List.Mem z zs → 0 ≤ z ∧ z ≤ 255) ∧ ((none : Option Addr) = none → zs = [])) ∧
                                      0 ≤ 10000 ∧
                                        ∀ (b'_1 : Option Addr) (l'_1 c'_1 : Nat) (ys : List Int) (e_1 : Int) (E' : Mem),
                                          Mem.le E'_1 E' →
                                            Hyp (putN zs a1 = (ys, e_1)) →
                                              (ys = [] ∨
                                                    E' (Value.slice b'_1 l'_1 c'_1) (List.map (Value.int IntKind.u8) ys)) ∧
                                                  List.length ys = l'_1 ∧
                                                    l'_1 ≤ c'_1 ∧
                                                      (∀ (z : Int), List.Mem z ys → 0 ≤ z ∧ z ≤ 255) ∧
                                                        (b'_1 = none → ys = []) →
                                                Mem.le E'_1 E' ∧
                                                  ∃ (zs : List Int),
                                                    ∃ (xs : List Int),
                                                      ((zs = [] ∨
                                                            E' (Value.slice b1 l1 c1) (List.map (Value.int IntKind.u8) zs)) ∧
                                                          List.length zs = l1 ∧
                                                            l1 ≤ c1 ∧
                                                              (∀ (z : Int), List.Mem z zs → 0 ≤ z ∧ z ≤ 255) ∧
                                                                (b1 = none → zs = [])) ∧
                                                        ((xs = [] ∨
                                                              E' (Value.slice b2 l2 c2)
                                                                (List.map (Value.int IntKind.u8) xs)) ∧
                                                            List.length xs = l2 ∧
                                                              l2 ≤ c2 ∧
                                                                (∀ (z : Int), List.Mem z xs → 0 ≤ z ∧ z ≤ 255) ∧
                                                                  (b2 = none → xs = [])) ∧
                                                          l1 ≤ 10000 ∧
                                                            ∀ (b'_2 : Option Addr) (l'_2 c'_2 : Nat) (ys : List Int)
                                                              (e_2 : Int) (E'_2 : Mem),
                                                              Mem.le E' E'_2 →
                                                                Hyp (putB zs xs = (ys, e_2)) →
                                                                  (ys = [] ∨
                                                                        E'_2 (Value.slice b'_2 l'_2 c'_2)
                                                                          (List.map (Value.int IntKind.u8) ys)) ∧
                                                                      List.length ys = l'_2 ∧
                                                                        l'_2 ≤ c'_2 ∧
                                                                          (∀ (z : Int), List.Mem z ys → 0 ≤ z ∧ z ≤ 255) ∧
                                                                            (b'_2 = none → ys = []) →
                                                                    Mem.le E' E'_2 ∧
                                                                      ∃ (zs : List Int),
                                                                        ∃ (xs : List Int),
                                                                          ((zs = [] ∨
                                                                                E'_2 (Value.slice none 0 0)
                                                                                  (List.map (Value.int IntKind.u8) zs)) ∧
                                                                              List.length zs = 0 ∧
                                                                                0 ≤ 0 ∧
                                                                                  (∀ (z : Int),
                                                                                      List.Mem z zs → 0 ≤ z ∧ z ≤ 255) ∧
                                                                                    ((none : Option Addr) = none → zs = [])) ∧
                                                                            ((xs = [] ∨
                                                                                  E'_2 (Value.slice b2 l2 c2)
                                                                                    (List.map (Value.int IntKind.u8) xs)) ∧
                                                                                List.length xs = l2 ∧
                                                                                  l2 ≤ c2 ∧
                                                                                    (∀ (z : Int),
                                                                                        List.Mem z xs → 0 ≤ z ∧ z ≤ 255) ∧
                                                                                      (b2 = none → xs = [])) ∧
                                                                              0 ≤ 10000 ∧
                                                                                ∀ (b'_3 : Option Addr) (l'_3 c'_3 : Nat)
                                                                                  (ys : List Int) (e_3 : Int) (E' : Mem),
                                                                                  Mem.le E'_2 E' →
                                                                                    Hyp (putB zs xs = (ys, e_3)) →
                                                                                      (ys = [] ∨
                                                                                            E' (Value.slice b'_3 l'_3 c'_3)
                                                                                              (List.map (Value.int IntKind.u8)
                                                                                                ys)) ∧
                                                                                          List.length ys = l'_3 ∧
                                                                                            l'_3 ≤ c'_3 ∧
                                                                                              (∀ (z : Int),
                                                                                                  List.Mem z ys →
                                                                                                    0 ≤ z ∧ z ≤ 255) ∧
                                                                                                (b'_3 = none → ys = []) →
                                                                                        Mem.le E'_2 E' ∧
                                                                                          bif e != e_1 then
                                                                                            Mem.le E E' ∧
                                                                                              K (SV.raw (Value.bool false)) E'
                                                                                          else
                                                                                            bif
                                                                                                bif false then true
                                                                                                else e_2 != e_3 then
                                                                                              Mem.le E E' ∧
                                                                                                K (SV.raw (Value.bool false))
                                                                                                  E'
                                                                                            else
                                                                                              Ct WL9 6 Try.f9
                                                                                                [1, 1, 1, 1, 1, 1, 1, 1, 1] 0
                                                                                                (pubK E K)
                                                                                                {
                                                                                                  fr :=
                                                                                                    [some
                                                                                                        (SV.raw
                                                                                                          (Value.slice b1 l1
                                                                                                            c1)),
                                                                                                      some
                                                                                                        (SV.raw
                                                                                                          (Value.int
                                                                                                            IntKind.i64 a1)),
                                                                                                      some
                                                                                                        (SV.raw
                                                                                                          (Value.slice b2 l2
                                                                                                            c2)),
                                                                                                      none, none, none,
                                                                                                      some
                                                                                                        (SV.raw
                                                                                                          (Value.bool false)),
                                                                                                      some
                                                                                                        (SV.raw
                                                                                                          (Value.bool true)),
                                                                                                      some
                                                                                                        (SV.raw
                                                                                                          (Value.bool
                                                                                                            (bif true then
                                                                                                              decide
                                                                                                                ((↑l2 : Int) ≤
                                                                                                                  6000)
                                                                                                            else false))),
                                                                                                      some
                                                                                                        (SV.raw
                                                                                                          (Value.slice b' l'
                                                                                                            c')),
                                                                                                      some
                                                                                                        (SV.raw
                                                                                                          (Value.int
                                                                                                            IntKind.i64 e)),
                                                                                                      some
                                                                                                        (SV.raw
                                                                                                          (Value.slice b'_1
                                                                                                            l'_1 c'_1)),
                                                                                                      some
                                                                                                        (SV.raw
                                                                                                          (Value.int
                                                                                                            IntKind.i64 e_1)),
                                                                                                      some
                                                                                                        (SV.raw
                                                                                                          (Value.slice b'_2
                                                                                                            l'_2 c'_2)),
                                                                                                      some
                                                                                                        (SV.raw
                                                                                                          (Value.int
                                                                                                            IntKind.i64 e_2)),
                                                                                                      some
                                                                                                        (SV.raw
                                                                                                          (Value.slice b'_3
                                                                                                            l'_3 c'_3)),
                                                                                                      some
                                                                                                        (SV.raw
                                                                                                          (Value.int
                                                                                                            IntKind.i64 e_3)),
                                                                                                      some
                                                                                                        (SV.raw
                                                                                                          (Value.bool true)),
                                                                                                      some
                                                                                                        (SV.raw
                                                                                                          (Value.slice b1 l1
                                                                                                            c1)),
                                                                                                      some
                                                                                                        (SV.raw
                                                                                                          (Value.slice b2 l2
                                                                                                            c2)),
                                                                                                      some
                                                                                                        (SV.raw
                                                                                                          (Value.bool
                                                                                                            (bif true then
                                                                                                              decide
                                                                                                                ((↑l2 : Int) ≤
                                                                                                                  6000)
                                                                                                            else false))),
                                                                                                      some
                                                                                                        (SV.raw
                                                                                                          (Value.bool
                                                                                                            (bif true then
                                                                                                              decide
                                                                                                                ((↑l2 : Int) ≤
                                                                                                                  6000)
                                                                                                            else false))),
                                                                                                      some
                                                                                                        (SV.raw
                                                                                                          (Value.bool
                                                                                                            !bif true then
                                                                                                                decide
                                                                                                                  ((↑l2 :
                                                                                                                      Int) ≤
                                                                                                                    6000)
                                                                                                              else false)),
                                                                                                      none,
                                                                                                      some
                                                                                                        (SV.tup
                                                                                                          [SV.raw
                                                                                                              (Value.slice b'
                                                                                                                l' c'),
                                                                                                            SV.raw
                                                                                                              (Value.int
                                                                                                                IntKind.i64
                                                                                                                e)]),
                                                                                                      some
                                                                                                        (SV.raw
                                                                                                          (Value.slice b1 l1
                                                                                                            c1)),
                                                                                                      some
                                                                                                        (SV.raw
                                                                                                          (Value.int
                                                                                                            IntKind.i64 a1)),
                                                                                                      some
                                                                                                        (SV.tup
                                                                                                          [SV.raw
                                                                                                              (Value.slice b'
                                                                                                                l' c'),
                                                                                                            SV.raw
                                                                                                              (Value.int
                                                                                                                IntKind.i64
                                                                                                                e)]),
                                                                                                      some
                                                                                                        (SV.raw
                                                                                                          (Value.slice b' l'
                                                                                                            c')),
                                                                                                      some
                                                                                                        (SV.raw
                                                                                                          (Value.int
                                                                                                            IntKind.i64 e)),
                                                                                                      some
                                                                                                        (SV.tup
                                                                                                          [SV.raw
                                                                                                              (Value.slice
                                                                                                                b'_1 l'_1
                                                                                                                c'_1),
                                                                                                            SV.raw
                                                                                                              (Value.int
                                                                                                                IntKind.i64
                                                                                                                e_1)]),
                                                                                                      some
                                                                                                        (SV.raw
                                                                                                          (Value.int
                                                                                                            IntKind.i64 a1)),
                                                                                                      some
                                                                                                        (SV.tup
                                                                                                          [SV.raw
                                                                                                              (Value.slice
                                                                                                                b'_1 l'_1
                                                                                                                c'_1),
                                                                                                            SV.raw
                                                                                                              (Value.int
                                                                                                                IntKind.i64
                                                                                                                e_1)]),
                                                                                                      some
                                                                                                        (SV.raw
                                                                                                          (Value.slice b'_1
                                                                                                            l'_1 c'_1)),
                                                                                                      some
                                                                                                        (SV.raw
                                                                                                          (Value.int
                                                                                                            IntKind.i64 e_1)),
                                                                                                      some
                                                                                                        (SV.tup
                                                                                                          [SV.raw
                                                                                                              (Value.slice
                                                                                                                b'_2 l'_2
                                                                                                                c'_2),
                                                                                                            SV.raw
                                                                                                              (Value.int
                                                                                                                IntKind.i64
                                                                                                                e_2)]),
                                                                                                      some
                                                                                                        (SV.raw
                                                                                                          (Value.slice b1 l1
                                                                                                            c1)),
                                                                                                      some
                                                                                                        (SV.raw
                                                                                                          (Value.slice b2 l2
                                                                                                            c2)),
                                                                                                      some
                                                                                                        (SV.tup
                                                                                                          [SV.raw
                                                                                                              (Value.slice
                                                                                                                b'_2 l'_2
                                                                                                                c'_2),
                                                                                                            SV.raw
                                                                                                              (Value.int
                                                                                                                IntKind.i64
                                                                                                                e_2)]),
                                                                                                      some
                                                                                                        (SV.raw
                                                                                                          (Value.slice b'_2
                                                                                                            l'_2 c'_2)),
                                                                                                      some
                                                                                                        (SV.raw
                                                                                                          (Value.int
                                                                                                            IntKind.i64 e_2)),
                                                                                                      some
                                                                                                        (SV.tup
                                                                                                          [SV.raw
                                                                                                              (Value.slice
                                                                                                                b'_3 l'_3
                                                                                                                c'_3),
                                                                                                            SV.raw
                                                                                                              (Value.int
                                                                                                                IntKind.i64
                                                                                                                e_3)]),
                                                                                                      some
                                                                                                        (SV.raw
                                                                                                          (Value.slice b2 l2
                                                                                                            c2)),
                                                                                                      some
                                                                                                        (SV.tup
                                                                                                          [SV.raw
                                                                                                              (Value.slice
                                                                                                                b'_3 l'_3
                                                                                                                c'_3),
                                                                                                            SV.raw
                                                                                                              (Value.int
                                                                                                                IntKind.i64
                                                                                                                e_3)]),
                                                                                                      some
                                                                                                        (SV.raw
                                                                                                          (Value.slice b'_3
                                                                                                            l'_3 c'_3)),
                                                                                                      some
                                                                                                        (SV.raw
                                                                                                          (Value.int
                                                                                                            IntKind.i64 e_3)),
                                                                                                      some
                                                                                                        (SV.raw
                                                                                                          (Value.int
                                                                                                            IntKind.i64 e)),
                                                                                                      some
                                                                                                        (SV.raw
                                                                                                          (Value.int
                                                                                                            IntKind.i64 e_1)),
                                                                                                      some
                                                                                                        (SV.raw
                                                                                                          (Value.bool
                                                                                                            (e != e_1))),
                                                                                                      some
                                                                                                        (SV.raw
                                                                                                          (Value.bool false)),
                                                                                                      some
                                                                                                        (SV.raw
                                                                                                          (Value.int
                                                                                                            IntKind.i64 e_2)),
                                                                                                      some
                                                                                                        (SV.raw
                                                                                                          (Value.int
                                                                                                            IntKind.i64 e_3)),
                                                                                                      some
                                                                                                        (SV.raw
                                                                                                          (Value.bool
                                                                                                            (e_2 != e_3))),
                                                                                                      some
                                                                                                        (SV.raw
                                                                                                          (Value.bool
                                                                                                            (bif false then
                                                                                                              true
                                                                                                            else
                                                                                                              e_2 != e_3))),
                                                                                                      none, none, none, none,
                                                                                                      none, none, none, none,
                                                                                                      none, none, none, none,
                                                                                                      none, none, none, none,
                                                                                                      none, none, none, none,
                                                                                                      none, none, none, none,
                                                                                                      none],
                                                                                                  bx := [], E := E' }
            else Mem.le E' E' ∧ Mem.le E E' ∧ K (SV.raw (Value.bool true)) E')
  intro E1 hE0
  have hlen := hB1.2.1
  have hlen2 := hB2.2.1
  refine ⟨hE0, condC (fun g1 => ?_) (fun g1 => ⟨Mem.le_refl _, hE0, h E1 hE0⟩)⟩
  have g1 : l1 ≤ 6000 := by simp at g1; omega
  refine ⟨Mem.le_refl _, condC (fun _ => ⟨hE0, h E1 hE0⟩) (fun g2 => ?_)⟩
  have g2 : l2 ≤ 6000 := by simp at g2; omega
  refine ⟨_, hB1.mono hE0, by omega, fun b4 l4 c4 ps e E2 q2 hy A => ⟨q2, [], Bs.nil _, by omega, fun b5 l5 c5 qs e' E3 q3 hy' A5 => ⟨q3, _, _, hB1.mono (Mem.le_trans hE0 (Mem.le_trans q2 q3)), hB2.mono (Mem.le_trans hE0 (Mem.le_trans q2 q3)), by omega, fun b6 l6 c6 ss g E4 q4 hz A6 => ⟨q4, [], _, Bs.nil _, hB2.mono (Mem.le_trans (Mem.le_trans hE0 (Mem.le_trans q2 q3)) q4), by omega, fun b7 l7 c7 ts g' E5 q5 hz' A7 => ⟨q5, ?_⟩⟩⟩⟩⟩
  have hy : putN z1 a1 = (ps, e) := hy
  have hy' : putN [] a1 = (qs, e') := hy'
  have hz : putB z1 z2 = (ss, g) := hz
  have hz' : putB [] z2 = (ts, g') := hz'
  have A : Bs E2 b4 l4 c4 ps := A
  have A5 : Bs E3 b5 l5 c5 qs := A5
  have A6 : Bs E4 b6 l6 c6 ss := A6
  have A7 : Bs E5 b7 l7 c7 ts := A7
  have hq := Mem.le_trans hE0 (Mem.le_trans q2 (Mem.le_trans q3 (Mem.le_trans q4 q5)))
  have f1 : e = e' ∧ (e = 0 → ps = z1 ++ qs) ∧ ps.length ≤ 100000 := by
    unfold putN at hy hy'
    split at hy
    · rename_i q
      rw [if_pos q] at hy'
      obtain ⟨rfl, rfl⟩ := Prod.mk.inj hy
      obtain ⟨rfl, rfl⟩ := Prod.mk.inj hy'
      refine ⟨rfl, fun _ => by simp, ?_⟩
      have := dig_len7 (zig a1); rw [List.length_append]; omega
    · rename_i q
      rw [if_neg q] at hy'
      obtain ⟨rfl, rfl⟩ := Prod.mk.inj hy
      obtain ⟨rfl, rfl⟩ := Prod.mk.inj hy'
      exact ⟨rfl, fun e => by omega, by simp⟩
  have f2 : g = g' ∧ (g = 0 → ss = z1 ++ ts) ∧ ss.length ≤ 100000 := by
    unfold putB at hz hz'
    split at hz
    · rename_i q
      rw [if_pos q] at hz'
      obtain ⟨rfl, rfl⟩ := Prod.mk.inj hz
      obtain ⟨rfl, rfl⟩ := Prod.mk.inj hz'
      refine ⟨rfl, fun _ => by simp, ?_⟩
      have := dig_len7 (zig z2.length); simp only [List.length_append]; omega
    · rename_i q
      rw [if_neg q] at hz'
      obtain ⟨rfl, rfl⟩ := Prod.mk.inj hz
      obtain ⟨rfl, rfl⟩ := Prod.mk.inj hz'
      exact ⟨rfl, fun e => by omega, by simp⟩
  refine condC (fun x => absurd f1.1 (by simpa using x)) (fun _ => ?_)
  refine condC (fun x => absurd f2.1 (by simpa using x)) (fun _ => ?_)
  exact Ct_from (by repeat' first | exact True.intro | refine And.intro rfl ?_) (Ct_intro okWL9 (pcL9_11 (K := K) (hB1.mono hq) (A.mono (Mem.le_trans q3 (Mem.le_trans q4 q5))) (A5.mono (Mem.le_trans q4 q5)) f1.2.1 (by rw [← A.2.1]; exact f1.2.2) (A6.mono q5) A7 f2.2.1 g1 (by rw [← A6.2.1]; exact f2.2.2) hq (fun E' hE' => h E' (Mem.le_trans hq hE'))))


theorem opn9 (W : World) (K : List SV → Prop) (h : ∀ (b1 : Option Addr) (l1 c1 : Nat) (z1 : List Int), (l1 ≤ c1) → (c1 ≤ maxLen) → (b1 = none → c1 = 0) → (z1.length = c1) → (∀ x ∈ z1, (Lit.int .u8 x).wf = true) → RowAt W (.slice b1 l1 c1) (z1.map (.int .u8)) → ∀ a1 : Int, (Lit.int .i64 a1).wf = true → ∀ (b2 : Option Addr) (l2 c2 : Nat) (z2 : List Int), (l2 ≤ c2) → (c2 ≤ maxLen) → (b2 = none → c2 = 0) → (z2.length = c2) → (∀ x ∈ z2, (Lit.int .u8 x).wf = true) → RowAt W (.slice b2 l2 c2) (z2.map (.int .u8)) → K [L b1 l1 c1, I a1, L b2 l2 c2]) : opnAll Try.prog W Try.f9.params.toList K :=
  same (by kernel_rfl) h

theorem sem9 (W : World) : opnAll Try.prog W Try.f9.params.toList fun ss => TabSem Try.prog 9 ss (fun v cs => RowAt W v cs) fun r _ => r = .raw (.bool true) := by
  refine opn9 W _ ?_
  intro b1 l1 c1 z1 hl1 hc1 hb1 hz1 hw1 hE1 a1 ha1 b2 l2 c2 z2 hl2 hc2 hb2 hz2 hw2 hE2
  exact Ent.sem okWL9 Try.func9 ⟨by kernel_rfl, by kernel_rfl⟩ rfl (e9 (Bs.of hl1 hb1 hz1 hw1 hE1) ha1 (Bs.of hl2 hb2 hz2 hw2 hE2) (fun _ _ => rfl))

theorem lifted9 (os : Os) (started : os.Started) (H : Type) (enc : TypeId × Value → H) :
    ReturnsInHanded {} Try.checked os 9 .any (Rows.wireBeginningsSpec.pre6 enc Try.prog Try.f9 Rows.wireBeginningsRow.domain false) (Rows.wireBeginningsSpec.post enc Try.prog Try.f9 false true false false) :=
  lift_true (C := Try.checked) (by kernel_rfl) (by kernel_rfl) started (by kernel_rfl) Try.func9
    (ChangeSpec.witness6 (enc := enc) (C := Try.checked) false ⟨#[], #[.slice none 0 0, .int .i64 0, .slice none 0 0], []⟩ 8 (by kernel_rfl) (by kernel_rfl) (by kernel_rfl) (by kernel_rfl))
    (Tb := 4) (by kernel_rfl) (by kernel_rfl) (by kernel_rfl) rfl
    (fun ds hl => by
      match ds, hl with
      | [d0, d1, d2], _ => exact ⟨rfl, rfl, rfl⟩)
    sem9

theorem over9 : Rows.wireBeginningsRow.holds Try.pinned (OpenSpec.ofChange Rows.wireBeginningsSpec) :=
  OpenClaim.holds_of_wide 9 Try.f9 rfl rfl rfl rfl rfl rfl rfl ⟨rfl, rfl, rfl, rfl, rfl⟩ rfl rfl rfl rfl rfl (by kernel_rfl) Try.func9 (by kernel_rfl)
    (of_decide_eq_true (by kernel_rfl)) (by unfold Func.isWrapper; first | (rw [if_pos (by decide +kernel)]; kernel_rfl) | (rw [if_neg (by decide +kernel)]; exact ⟨rfl, rfl⟩))
    (fun os started H enc _ => lifted9 os started H enc)

theorem proved9 : Rows.WireBeginningsSaid := over9
end Go.Proofs.Ytjlpfhekhpebpaa.WireOwn
