/- The law WireNumbers. -/
import Derived.Test.YtjlpfhekhpebpaaWire12
import Derived.Test.YtjlpfhekhpebpaaRows
namespace Go.Proofs.Ytjlpfhekhpebpaa.WireOwn
open Go Go.Sx Go.Proofs.Ytjlpfhekhpebpaa
set_option maxRecDepth 100000
set_option maxHeartbeats 4000000
set_option linter.unusedVariables false
set_option linter.unusedSimpArgs false
variable {E : Mem} {K : SV → Mem → Prop}
noncomputable def tabL4 : FuncId → List SV → Mem → (SV → Mem → Prop) → Prop := fun f args E K => match f with
  | 10 => d0 args ((∀ (E' : Mem), Mem.le E E' → K (B true) E'))
  | 12 => d2 args fun x0 x1 => dS x0 fun b1 l2 c3 => dI x1 fun a4 => ∃ (zs : List Int), Bs E b1 l2 c3 zs ∧ l2 ≤ 10000 ∧ (∀ (b' : Option Addr) (l' c' : Nat) (ys : List Int) (e : Int) (E' : Mem), Mem.le E E' → Hyp (putN zs a4 = (ys, e)) → Bs E' b' l' c' ys → K (.tup [L b' l' c', I e]) E')
  | 14 => d2 args fun x0 x1 => dS x0 fun b1 l2 c3 => dS x1 fun b4 l5 c6 => ∃ (zs : List Int), Bs E b1 l2 c3 zs ∧ Bs E b4 l5 c6 zs ∧ l2 ≤ 100000 ∧ (K (B true) E)
  | 15 => d2 args fun x0 x1 => dS x0 fun b1 l2 c3 => dI x1 fun a4 => ∃ (zs : List Int), Bs E b1 l2 c3 zs ∧ l2 ≤ 100000 ∧ (∀ (n end' e : Int) (E' : Mem), Mem.le E E' → Hyp (rd zs a4 = (n, end', e)) → K (.tup [I n, I end', I e]) E')
  | _ => False
theorem tabL4_ok : TabOK Try.prog tabL4 := by
  intro f args E K h
  unfold tabL4 at h
  split at h
  · obtain ⟨rfl, h⟩ := d0_elim h
    exact TabSem.congr rfl (Ent.sem okWJ Try.func10 ⟨by kernel_rfl, by kernel_rfl⟩ rfl (s10 h))
  · obtain ⟨x0, x1, rfl, h⟩ := d2_elim h
    obtain ⟨b1, l2, c3, rfl, h⟩ := dS_elim h
    obtain ⟨a4, rfl, h⟩ := dI_elim h
    obtain ⟨zs, g0, g1, h⟩ := h
    exact TabSem.congr (valL_cons rfl (valL_cons rfl rfl)) (Ent.sem okW1 Try.func12 ⟨by kernel_rfl, by kernel_rfl⟩ rfl (s12' g0 g1 h))
  · obtain ⟨x0, x1, rfl, h⟩ := d2_elim h
    obtain ⟨b1, l2, c3, rfl, h⟩ := dS_elim h
    obtain ⟨b4, l5, c6, rfl, h⟩ := dS_elim h
    obtain ⟨zs, g0, g1, g2, h⟩ := h
    exact TabSem.congr (valL_cons rfl (valL_cons rfl rfl)) (Ent.sem okWB Try.func14 ⟨by kernel_rfl, by kernel_rfl⟩ rfl (h14 g0 g1 g2 h))
  · obtain ⟨x0, x1, rfl, h⟩ := d2_elim h
    obtain ⟨b1, l2, c3, rfl, h⟩ := dS_elim h
    obtain ⟨a4, rfl, h⟩ := dI_elim h
    obtain ⟨zs, g0, g1, h⟩ := h
    exact TabSem.congr (valL_cons rfl (valL_cons rfl rfl)) (Ent.sem okW7 Try.func15 ⟨by kernel_rfl, by kernel_rfl⟩ rfl (s15 g0 g1 h))
  · exact h.elim
noncomputable def WL4 : Cx := { P := Try.prog, inl := fun f => List.contains [11] f, tab := tabL4, isB := fun _ => false, tabB := fun _ _ _ _ _ => False, opt := { unroll := 0, carry := [], cuts := [10, 12] }, muts := mutsD }
theorem okWL4 : CxOK WL4 := ⟨tabL4_ok, by kernel_rfl, okInl (by kernel_rfl), fun _ _ _ _ _ h => h.elim⟩
def shL4a (b1 : Option Addr) (l1 c1 : Nat) (a1 : Int) (b2 : Option Addr) (l2 c2 : Nat) (a2 : Int) (b3 : Option Addr) (l3 c3 : Nat) (E : Mem) : St := { fr := [some (L b1 l1 c1), some (I a1), some (L b2 l2 c2), some (I a2), none, none, none, none, none, some (B true), none, some (L b3 l3 c3), none, none, none, none, none, none, none, none, none, none, none, none, none, none, none, none, none, none, none, none, none, none, none, none, none, none, none, none, none, none, none, none, none, none, none, none, none, none, none, none, none, none, none, none, none, none, none, none, none, none, none, none, none, none, none, none, none, none, none, none, none, none, none, none, none, none, none, none, none, none, none, none, none, none, none, none, none, none, none, none, none, none, none, none, none, none, none, none, none, none, none, none, none, none, none, none, none, none, none, none, none, none, none, none, none, none, none, none, none, none, none, none, none, none, none, none, none, none, none, none, none, none, none, none, none, none, none, none, none, none, none, none, none, none, none, none, none, none, none, none, none, none, none, none, none, none, none], bx := [], E := E }
def shL4b (b1 : Option Addr) (l1 c1 : Nat) (a2 : Int) (E : Mem) : St := { fr := [some (L b1 l1 c1), none, none, some (I a2), none, none, none, none, none, some (B true), none, none, none, none, none, none, none, none, none, none, none, none, none, none, none, none, none, none, none, none, none, none, none, none, none, none, none, none, none, none, none, none, none, none, none, none, none, none, none, none, none, none, none, none, none, none, none, none, none, none, none, none, none, none, none, none, none, none, none, none, none, none, none, none, none, none, none, none, none, none, none, none, none, none, none, none, none, none, none, none, none, none, none, none, none, none, none, none, none, none, none, none, none, none, none, none, none, none, none, none, none, none, none, none, none, none, none, none, none, none, none, none, none, none, none, none, none, none, none, none, none, none, none, none, none, none, none, none, none, none, none, none, none, none, none, none, none, none, none, none, none, none, none, none, none, none, none, none, none], bx := [], E := E }
theorem pcL4_12 {b1 : Option Addr} {l1 c1 : Nat} {a2 : Int} {z1 : List Int} {E0 : Mem} (hB1 : Bs E b1 l1 c1 z1) (g1 : l1 ≤ 6000) (hE0 : Mem.le E0 E) (h : ∀ E', Mem.le E E' → K (B true) E') :
    Pc WL4 6 Try.f4 [1, 1, 1, 1, 1, 1, 1, 1, 1] 0 (pubK E0 K) (shL4b b1 l1 c1 a2 E) := by
  refine same (by kernel_rfl) (?_ : 
      ∃ (zs : List Int),
        ((zs = [] ∨ E (Value.slice b1 l1 c1) (List.map (Value.int IntKind.u8) zs)) ∧
            List.length zs = l1 ∧ l1 ≤ c1 ∧ (∀ (z : Int), List.Mem z zs → 0 ≤ z ∧ z ≤ 255) ∧ (b1 = none → zs = [])) ∧
          l1 ≤ 100000 ∧
            ∀ (n end' e : Int) (E' : Mem),
              Mem.le E E' →
                Hyp (rd zs a2 = (n, end', e)) →
                  Mem.le E E' ∧
                    bif e != 0 then Mem.le E0 E' ∧ K (SV.raw (Value.bool true)) E'
                    else
                      bif decide (a2 < 0) then Mem.le E0 E' ∧ K (SV.raw (Value.bool false)) E'
                      else
                        bif bif false then true else decide (end' ≤ a2) then Mem.le E0 E' ∧ K (SV.raw (Value.bool false)) E'
                        else
                          bif bif false then true else decide (end' > (↑l1 : Int)) then
                            Mem.le E0 E' ∧ K (SV.raw (Value.bool false)) E'
                          else
                            ∃ (zs : List Int),
                              ((zs = [] ∨ E' (Value.slice none 0 0) (List.map (Value.int IntKind.u8) zs)) ∧
                                  List.length zs = 0 ∧
                                    0 ≤ 0 ∧ (∀ (z : Int), List.Mem z zs → 0 ≤ z ∧ z ≤ 255) ∧ ((none : Option Addr) = none → zs = [])) ∧
                                0 ≤ 10000 ∧
                                  ∀ (b' : Option Addr) (l' c' : Nat) (ys : List Int) (e : Int) (E'_1 : Mem),
                                    Mem.le E' E'_1 →
                                      Hyp (putN zs n = (ys, e)) →
                                        (ys = [] ∨ E'_1 (Value.slice b' l' c') (List.map (Value.int IntKind.u8) ys)) ∧
                                            List.length ys = l' ∧
                                              l' ≤ c' ∧
                                                (∀ (z : Int), List.Mem z ys → 0 ≤ z ∧ z ≤ 255) ∧ (b' = none → ys = []) →
                                          Mem.le E' E'_1 ∧
                                            bif bif true then e == 0 else false then
                                              req (l1 ≤ c1)
                                                (req (0 ≤ end' ∧ end' ≤ (↑(toN none c1) : Int))
                                                  (req (0 ≤ a2 ∧ a2 ≤ (↑(toN (some end') l1) : Int))
                                                    (∀ (base' : Option Addr) (E' : Mem),
                                                      Mem.le E'_1 E' →
                                                        (∀ (cs : List Value),
                                                            E'_1 (Value.slice b1 l1 c1) cs →
                                                              E'
                                                                (Value.slice base' (toN (some end') l1 - toN (some a2) 0)
                                                                  (toN none c1 - toN (some a2) 0))
                                                                (List.take ((toN (some end') l1 - toN (some a2) 0) * 1)
                                                                  (List.drop (toN (some a2) 0 * 1) cs))) →
                                                          Option.isNone base' = Option.isNone b1 →
                                                            ∃ (zs : List Int),
                                                              ((zs = [] ∨
                                                                    E' (Value.slice b' l' c')
                                                                      (List.map (Value.int IntKind.u8) zs)) ∧
                                                                  List.length zs = l' ∧
                                                                    l' ≤ c' ∧
                                                                      (∀ (z : Int), List.Mem z zs → 0 ≤ z ∧ z ≤ 255) ∧
                                                                        (b' = none → zs = [])) ∧
                                                                ((zs = [] ∨
                                                                      E'
                                                                        (Value.slice base'
                                                                          (toN (some end') l1 - toN (some a2) 0)
                                                                          (toN none c1 - toN (some a2) 0))
                                                                        (List.map (Value.int IntKind.u8) zs)) ∧
                                                                    List.length zs = toN (some end') l1 - toN (some a2) 0 ∧
                                                                      toN (some end') l1 - toN (some a2) 0 ≤
                                                                          toN none c1 - toN (some a2) 0 ∧
                                                                        (∀ (z : Int), List.Mem z zs → 0 ≤ z ∧ z ≤ 255) ∧
                                                                          (base' = none → zs = [])) ∧
                                                                  l' ≤ 100000 ∧
                                                                    Mem.le E' E' ∧
                                                                      Mem.le E0 E' ∧ K (SV.raw (Value.bool true)) E')))
                                            else Mem.le E0 E'_1 ∧ K (SV.raw (Value.bool false)) E'_1)
  have hlen := hB1.2.1
  refine ⟨z1, hB1, by omega, fun n e' e E1 q1 hy => ⟨q1, ?_⟩⟩
  have hy : rd z1 a2 = (n, e', e) := hy
  refine condC (fun _ => ⟨Mem.le_trans hE0 q1, h E1 q1⟩) (fun g2 => ?_)
  have g2 : e = 0 := by simpa using g2
  subst g2
  obtain ⟨o1, o2, o3, o4, o5⟩ := rd_ok hy
  refine condC (fun x => absurd x (by simp; omega)) (fun _ => ?_)
  refine condC (fun x => absurd x (by simp; omega)) (fun _ => ?_)
  refine condC (fun x => absurd x (by simp; omega)) (fun _ => ?_)
  refine ⟨[], Bs.nil _, by omega, fun b4 l4 c4 ys e E2 q2 hz A => ⟨q2, ?_⟩⟩
  have hz : putN [] n = (ys, e) := hz
  have hz2 : putN [] n = (dig (zig n), 0) := by unfold putN; rw [if_pos o1]; rfl
  rw [hz2] at hz
  obtain ⟨rfl, rfl⟩ := Prod.mk.inj hz
  have A : Bs E2 b4 l4 c4 _ := A
  refine condC (fun _ => ?_) (fun x => absurd x (by simp))
  have q12 := Mem.le_trans q1 q2
  have hcc := hB1.2.2.1
  refine req_intro hcc (req_intro ⟨by omega, by show e' ≤ c1; omega⟩ (req_intro ⟨by omega, by show a2 ≤ (e'.toNat : Int); omega⟩ ?_))
  intro b5 E3 q3 hF hN
  have hS : Bs E3 b5 (e'.toNat - a2.toNat) (c1 - a2.toNat) ((z1.drop a2.toNat).take (e'.toNat - a2.toNat)) := Bs.sub (hB1.mono q12) hF hN (by omega) (by omega)
  rw [← dig_rd (BsB hB1) hy] at hS
  refine ⟨_, A.mono q3, hS, by rw [← A.2.1]; have := dig_len7 (zig n); omega, Mem.le_refl _, Mem.le_trans hE0 (Mem.le_trans q12 q3), h _ (Mem.le_trans q12 q3)⟩
theorem pcL4_10 {b1 : Option Addr} {l1 c1 : Nat} {a1 : Int} {b2 : Option Addr} {l2 c2 : Nat} {a2 : Int} {b3 : Option Addr} {l3 c3 : Nat} {z1 z2 : List Int} {E0 : Mem} (hB1 : Bs E b1 l1 c1 z1) (hB2 : Bs E b2 l2 c2 z2) (hB3 : Bs E b3 l3 c3 (z1 ++ dig (zig a1))) (hn : okN a1) (g1 : l1 ≤ 6000) (g2 : l2 ≤ 6000) (hE0 : Mem.le E0 E) (h : ∀ E', Mem.le E E' → K (B true) E') :
    Pc WL4 6 Try.f4 [1, 1, 1, 1, 1, 1, 1] 0 (pubK E0 K) (shL4a b1 l1 c1 a1 b2 l2 c2 a2 b3 l3 c3 E) := by
  refine same (by kernel_rfl) (?_ : 
      ∃ (cs : List Value),
        (cs = [] ∨ E (Value.slice b3 l3 c3) cs) ∧
          l3 * 1 ≤ List.length cs ∧
            (∀ (x : Value), List.Mem x cs → Value.oneCell' x = true) ∧
              0 ≤ 20000 ∧
                20000 ≤ 20000 ∧
                  0 ≤ 20000 ∧
                    req ((0 + l3) * 1 ≤ 140737488355328)
                      (∀ (cap' tot' : Nat),
                        0 + l3 ≤ cap' →
                          cap' * 1 ≤ tot' →
                            ∃ (cs_1 : List Value),
                              (cs_1 = [] ∨ E (Value.slice b2 l2 c2) cs_1) ∧
                                l2 * 1 ≤ List.length cs_1 ∧
                                  (∀ (x : Value), List.Mem x cs_1 → Value.oneCell' x = true) ∧
                                    (0 + l3) * 1 ≤
                                        List.length
                                          (Row.cells
                                            (Row.vals
                                              (List.take 0 (zerosV [Value.int IntKind.u8 0] 20000) ++
                                                List.take (l3 * 1) cs))) ∧
                                      cap' * 1 ≤ tot' ∧
                                        0 + l3 ≤ cap' ∧
                                          req ((0 + l3 + l2) * 1 ≤ 140737488355328)
                                            (∀ (cap'_1 tot' : Nat),
                                              0 + l3 + l2 ≤ cap'_1 →
                                                cap'_1 * 1 ≤ tot' →
                                                  ∀ (base : Option Addr) (E' : Mem),
                                                    Mem.le E E' →
                                                      WinE E' base
                                                          (List.take ((0 + l3) * 1)
                                                              (List.take 0 (zerosV [Value.int IntKind.u8 0] 20000) ++
                                                                List.take (l3 * 1) cs) ++
                                                            List.take (l2 * 1) cs_1) →
                                                        ∃ (zs : List Int),
                                                          ((zs = [] ∨
                                                                E'
                                                                  (Value.slice
                                                                    (Option.map (fun (x : Addr) => Addr.add x 0) base)
                                                                    (0 + l3 + l2) cap'_1)
                                                                  (List.map (Value.int IntKind.u8) zs)) ∧
                                                              List.length zs = 0 + l3 + l2 ∧
                                                                0 + l3 + l2 ≤ cap'_1 ∧
                                                                  (∀ (z : Int), List.Mem z zs → 0 ≤ z ∧ z ≤ 255) ∧
                                                                    (Option.map (fun (x : Addr) => Addr.add x 0) base = none →
                                                                      zs = [])) ∧
                                                            0 + l3 + l2 ≤ 100000 ∧
                                                              ∀ (n end' e : Int) (E'_1 : Mem),
                                                                Mem.le E' E'_1 →
                                                                  Hyp (rd zs (↑l1 : Int) = (n, end', e)) →
                                                                    bif bif true then e == 0 else false then
                                                                      bif bif true then n == a1 else false then
                                                                        bif bif true then end' == (↑l3 : Int) else false then
                                                                          req (l3 ≤ c3)
                                                                            (req
                                                                              (0 ≤ (↑l1 : Int) ∧
                                                                                (↑l1 : Int) ≤ (↑(toN none c3) : Int))
                                                                              (∀ (base' : Option Addr) (E' : Mem),
                                                                                Mem.le E'_1 E' →
                                                                                  (∀ (cs : List Value),
                                                                                      E'_1 (Value.slice b3 l3 c3) cs →
                                                                                        E'
                                                                                          (Value.slice base'
                                                                                            (toN (some (↑l1 : Int)) l3 - 0)
                                                                                            (toN none c3 - 0))
                                                                                          (List.take
                                                                                            ((toN (some (↑l1 : Int)) l3 - 0) *
                                                                                              1)
                                                                                            (List.drop 0 cs))) →
                                                                                    Option.isNone base' = Option.isNone b3 →
                                                                                      ∃ (zs : List Int),
                                                                                        ((zs = [] ∨
                                                                                              E'
                                                                                                (Value.slice base'
                                                                                                  (toN (some (↑l1 : Int)) l3 -
                                                                                                    0)
                                                                                                  (toN none c3 - 0))
                                                                                                (List.map
                                                                                                  (Value.int IntKind.u8)
                                                                                                  zs)) ∧
                                                                                            List.length zs =
                                                                                                toN (some (↑l1 : Int)) l3 -
                                                                                                  0 ∧
                                                                                              toN (some (↑l1 : Int)) l3 - 0 ≤
                                                                                                  toN none c3 - 0 ∧
                                                                                                (∀ (z : Int),
                                                                                                    List.Mem z zs →
                                                                                                      0 ≤ z ∧ z ≤ 255) ∧
                                                                                                  (base' = none → zs = [])) ∧
                                                                                          ((zs = [] ∨
                                                                                                E' (Value.slice b1 l1 c1)
                                                                                                  (List.map
                                                                                                    (Value.int IntKind.u8)
                                                                                                    zs)) ∧
                                                                                              List.length zs = l1 ∧
                                                                                                l1 ≤ c1 ∧
                                                                                                  (∀ (z : Int),
                                                                                                      List.Mem z zs →
                                                                                                        0 ≤ z ∧ z ≤ 255) ∧
                                                                                                    (b1 = none → zs = [])) ∧
                                                                                            toN (some (↑l1 : Int)) l3 - 0 ≤
                                                                                                100000 ∧
                                                                                              Mem.le E' E' ∧
                                                                                                Ct WL4 6 Try.f4
                                                                                                  [1, 1, 1, 1, 1, 1, 1, 1, 1]
                                                                                                  0 (pubK E0 K)
                                                                                                  {
                                                                                                    fr :=
                                                                                                      [some
                                                                                                          (SV.raw
                                                                                                            (Value.slice b1 l1
                                                                                                              c1)),
                                                                                                        some
                                                                                                          (SV.raw
                                                                                                            (Value.int
                                                                                                              IntKind.i64
                                                                                                              a1)),
                                                                                                        some
                                                                                                          (SV.raw
                                                                                                            (Value.slice b2 l2
                                                                                                              c2)),
                                                                                                        some
                                                                                                          (SV.raw
                                                                                                            (Value.int
                                                                                                              IntKind.i64
                                                                                                              a2)),
                                                                                                        none, none, none,
                                                                                                        none, none,
                                                                                                        some
                                                                                                          (SV.raw
                                                                                                            (Value.bool
                                                                                                              true)),
                                                                                                        none,
                                                                                                        some
                                                                                                          (SV.raw
                                                                                                            (Value.slice b3 l3
                                                                                                              c3)),
                                                                                                        none,
                                                                                                        some
                                                                                                          (SV.raw
                                                                                                            (Value.int
                                                                                                              IntKind.i64 n)),
                                                                                                        some
                                                                                                          (SV.raw
                                                                                                            (Value.int
                                                                                                              IntKind.i64
                                                                                                              end')),
                                                                                                        some
                                                                                                          (SV.raw
                                                                                                            (Value.int
                                                                                                              IntKind.i64 e)),
                                                                                                        none, none, none,
                                                                                                        none, none, none,
                                                                                                        none, none, none,
                                                                                                        none, none, none,
                                                                                                        none, none, none,
                                                                                                        none, none, none,
                                                                                                        none, none, none,
                                                                                                        none, none, none,
                                                                                                        none, none, none,
                                                                                                        none, none, none,
                                                                                                        none, none, none,
                                                                                                        none, none, none,
                                                                                                        none, none, none,
                                                                                                        none, none, none,
                                                                                                        none, none, none,
                                                                                                        none, none, none,
                                                                                                        none, none, none,
                                                                                                        none, none, none,
                                                                                                        none, none, none,
                                                                                                        none, none, none,
                                                                                                        none, none, none,
                                                                                                        none, none, none,
                                                                                                        some
                                                                                                          (SV.tup
                                                                                                            [SV.raw
                                                                                                                (Value.int
                                                                                                                  IntKind.i64
                                                                                                                  n),
                                                                                                              SV.raw
                                                                                                                (Value.int
                                                                                                                  IntKind.i64
                                                                                                                  end'),
                                                                                                              SV.raw
                                                                                                                (Value.int
                                                                                                                  IntKind.i64
                                                                                                                  e)]),
                                                                                                        some
                                                                                                          (SV.slc 0 0 0
                                                                                                            20000),
                                                                                                        some
                                                                                                          (SV.raw
                                                                                                            (Value.slice b3 l3
                                                                                                              c3)),
                                                                                                        some
                                                                                                          (SV.slc 1 0 (0 + l3)
                                                                                                            cap'),
                                                                                                        some
                                                                                                          (SV.raw
                                                                                                            (Value.slice b2 l2
                                                                                                              c2)),
                                                                                                        some
                                                                                                          (SV.slc 2 0
                                                                                                            (0 + l3 + l2)
                                                                                                            cap'_1),
                                                                                                        some
                                                                                                          (SV.raw
                                                                                                            (Value.slice b1 l1
                                                                                                              c1)),
                                                                                                        some
                                                                                                          (SV.raw
                                                                                                            (Value.int
                                                                                                              IntKind.i64
                                                                                                              (↑l1 : Int))),
                                                                                                        some
                                                                                                          (SV.tup
                                                                                                            [SV.raw
                                                                                                                (Value.int
                                                                                                                  IntKind.i64
                                                                                                                  n),
                                                                                                              SV.raw
                                                                                                                (Value.int
                                                                                                                  IntKind.i64
                                                                                                                  end'),
                                                                                                              SV.raw
                                                                                                                (Value.int
                                                                                                                  IntKind.i64
                                                                                                                  e)]),
                                                                                                        some
                                                                                                          (SV.raw
                                                                                                            (Value.int
                                                                                                              IntKind.i64 n)),
                                                                                                        some
                                                                                                          (SV.raw
                                                                                                            (Value.int
                                                                                                              IntKind.i64
                                                                                                              end')),
                                                                                                        some
                                                                                                          (SV.raw
                                                                                                            (Value.int
                                                                                                              IntKind.i64 e)),
                                                                                                        some
                                                                                                          (SV.raw
                                                                                                            (Value.bool
                                                                                                              true)),
                                                                                                        some
                                                                                                          (SV.raw
                                                                                                            (Value.bool
                                                                                                              true)),
                                                                                                        some
                                                                                                          (SV.raw
                                                                                                            (Value.int
                                                                                                              IntKind.i64 e)),
                                                                                                        some
                                                                                                          (SV.raw
                                                                                                            (Value.bool
                                                                                                              (e == 0))),
                                                                                                        some
                                                                                                          (SV.raw
                                                                                                            (Value.bool
                                                                                                              (bif true then
                                                                                                                e == 0
                                                                                                              else false))),
                                                                                                        some
                                                                                                          (SV.raw
                                                                                                            (Value.bool
                                                                                                              true)),
                                                                                                        some
                                                                                                          (SV.raw
                                                                                                            (Value.int
                                                                                                              IntKind.i64 n)),
                                                                                                        some
                                                                                                          (SV.raw
                                                                                                            (Value.int
                                                                                                              IntKind.i64
                                                                                                              a1)),
                                                                                                        some
                                                                                                          (SV.raw
                                                                                                            (Value.bool
                                                                                                              (n == a1))),
                                                                                                        some
                                                                                                          (SV.raw
                                                                                                            (Value.bool
                                                                                                              (bif true then
                                                                                                                n == a1
                                                                                                              else false))),
                                                                                                        some
                                                                                                          (SV.raw
                                                                                                            (Value.bool
                                                                                                              true)),
                                                                                                        some
                                                                                                          (SV.raw
                                                                                                            (Value.int
                                                                                                              IntKind.i64
                                                                                                              end')),
                                                                                                        some
                                                                                                          (SV.raw
                                                                                                            (Value.slice b3 l3
                                                                                                              c3)),
                                                                                                        some
                                                                                                          (SV.raw
                                                                                                            (Value.int
                                                                                                              IntKind.i64
                                                                                                              (↑l3 : Int))),
                                                                                                        some
                                                                                                          (SV.raw
                                                                                                            (Value.bool
                                                                                                              (end' ==
                                                                                                                (↑l3 :
                                                                                                                  Int)))),
                                                                                                        some
                                                                                                          (SV.raw
                                                                                                            (Value.bool
                                                                                                              (bif true then
                                                                                                                end' ==
                                                                                                                  (↑l3 : Int)
                                                                                                              else false))),
                                                                                                        some
                                                                                                          (SV.raw
                                                                                                            (Value.bool
                                                                                                              true)),
                                                                                                        some
                                                                                                          (SV.raw
                                                                                                            (Value.slice b3 l3
                                                                                                              c3)),
                                                                                                        some
                                                                                                          (SV.raw
                                                                                                            (Value.slice b1 l1
                                                                                                              c1)),
                                                                                                        some
                                                                                                          (SV.raw
                                                                                                            (Value.int
                                                                                                              IntKind.i64
                                                                                                              (↑l1 : Int))),
                                                                                                        some
                                                                                                          (SV.raw
                                                                                                            (Value.slice base'
                                                                                                              (toN
                                                                                                                  (some
                                                                                                                    (↑l1 :
                                                                                                                      Int))
                                                                                                                  l3 -
                                                                                                                0)
                                                                                                              (toN none c3 -
                                                                                                                0))),
                                                                                                        some
                                                                                                          (SV.raw
                                                                                                            (Value.slice b1 l1
                                                                                                              c1)),
                                                                                                        some
                                                                                                          (SV.raw
                                                                                                            (Value.bool
                                                                                                              true)),
                                                                                                        some
                                                                                                          (SV.raw
                                                                                                            (Value.bool
                                                                                                              true)),
                                                                                                        none, none, none,
                                                                                                        none, none, none,
                                                                                                        none, none, none,
                                                                                                        none, none, none,
                                                                                                        none, none, none,
                                                                                                        none, none, none,
                                                                                                        none, none, none,
                                                                                                        none, none, none,
                                                                                                        none, none, none,
                                                                                                        none, none, none,
                                                                                                        none, none, none,
                                                                                                        none, none, none,
                                                                                                        none, none, none,
                                                                                                        none, none],
                                                                                                    bx :=
                                                                                                      [{ elem := 5,
                                                                                                          row := Row.lst [],
                                                                                                          total := 0,
                                                                                                          own := false },
                                                                                                        { elem := 5,
                                                                                                          row := Row.lst [],
                                                                                                          total := 0,
                                                                                                          own := false },
                                                                                                        { elem := 5,
                                                                                                          row :=
                                                                                                            Row.vals
                                                                                                              (List.take
                                                                                                                  ((0 + l3) *
                                                                                                                    1)
                                                                                                                  (List.take 0
                                                                                                                      (zerosV
                                                                                                                        [Value.int
                                                                                                                            IntKind.u8
                                                                                                                            0]
                                                                                                                        20000) ++
                                                                                                                    List.take
                                                                                                                      (l3 * 1)
                                                                                                                      cs) ++
                                                                                                                List.take
                                                                                                                  (l2 * 1)
                                                                                                                  cs_1),
                                                                                                          total := tot',
                                                                                                          own := false }],
                                                                                                    E := E' }))
                                                                        else
                                                                          Ct WL4 6 Try.f4 [1, 1, 1, 1, 1, 1, 1, 1, 1] 0
                                                                            (pubK E0 K)
                                                                            {
                                                                              fr :=
                                                                                [some (SV.raw (Value.slice b1 l1 c1)),
                                                                                  some (SV.raw (Value.int IntKind.i64 a1)),
                                                                                  some (SV.raw (Value.slice b2 l2 c2)),
                                                                                  some (SV.raw (Value.int IntKind.i64 a2)),
                                                                                  none, none, none, none, none,
                                                                                  some (SV.raw (Value.bool false)), none,
                                                                                  some (SV.raw (Value.slice b3 l3 c3)), none,
                                                                                  some (SV.raw (Value.int IntKind.i64 n)),
                                                                                  some (SV.raw (Value.int IntKind.i64 end')),
                                                                                  some (SV.raw (Value.int IntKind.i64 e)),
                                                                                  none, none, none, none, none, none, none,
                                                                                  none, none, none, none, none, none, none,
                                                                                  none, none, none, none, none, none, none,
                                                                                  none, none, none, none, none, none, none,
                                                                                  none, none, none, none, none, none, none,
                                                                                  none, none, none, none, none, none, none,
                                                                                  none, none, none, none, none, none, none,
                                                                                  none, none, none, none, none, none, none,
                                                                                  none, none, none, none, none, none, none,
                                                                                  none, none, none,
                                                                                  some
                                                                                    (SV.tup
                                                                                      [SV.raw (Value.int IntKind.i64 n),
                                                                                        SV.raw (Value.int IntKind.i64 end'),
                                                                                        SV.raw (Value.int IntKind.i64 e)]),
                                                                                  some (SV.slc 0 0 0 20000),
                                                                                  some (SV.raw (Value.slice b3 l3 c3)),
                                                                                  some (SV.slc 1 0 (0 + l3) cap'),
                                                                                  some (SV.raw (Value.slice b2 l2 c2)),
                                                                                  some (SV.slc 2 0 (0 + l3 + l2) cap'_1),
                                                                                  some (SV.raw (Value.slice b1 l1 c1)),
                                                                                  some
                                                                                    (SV.raw
                                                                                      (Value.int IntKind.i64 (↑l1 : Int))),
                                                                                  some
                                                                                    (SV.tup
                                                                                      [SV.raw (Value.int IntKind.i64 n),
                                                                                        SV.raw (Value.int IntKind.i64 end'),
                                                                                        SV.raw (Value.int IntKind.i64 e)]),
                                                                                  some (SV.raw (Value.int IntKind.i64 n)),
                                                                                  some (SV.raw (Value.int IntKind.i64 end')),
                                                                                  some (SV.raw (Value.int IntKind.i64 e)),
                                                                                  some (SV.raw (Value.bool true)),
                                                                                  some (SV.raw (Value.bool true)),
                                                                                  some (SV.raw (Value.int IntKind.i64 e)),
                                                                                  some (SV.raw (Value.bool (e == 0))),
                                                                                  some
                                                                                    (SV.raw
                                                                                      (Value.bool
                                                                                        (bif true then e == 0 else false))),
                                                                                  some (SV.raw (Value.bool true)),
                                                                                  some (SV.raw (Value.int IntKind.i64 n)),
                                                                                  some (SV.raw (Value.int IntKind.i64 a1)),
                                                                                  some (SV.raw (Value.bool (n == a1))),
                                                                                  some
                                                                                    (SV.raw
                                                                                      (Value.bool
                                                                                        (bif true then n == a1 else false))),
                                                                                  some (SV.raw (Value.bool true)),
                                                                                  some (SV.raw (Value.int IntKind.i64 end')),
                                                                                  some (SV.raw (Value.slice b3 l3 c3)),
                                                                                  some
                                                                                    (SV.raw
                                                                                      (Value.int IntKind.i64 (↑l3 : Int))),
                                                                                  some
                                                                                    (SV.raw
                                                                                      (Value.bool (end' == (↑l3 : Int)))),
                                                                                  some
                                                                                    (SV.raw
                                                                                      (Value.bool
                                                                                        (bif true then end' == (↑l3 : Int)
                                                                                        else false))),
                                                                                  some (SV.raw (Value.bool false)),
                                                                                  some
                                                                                    (SV.raw (Value.tuple { toList := [] })),
                                                                                  some
                                                                                    (SV.raw (Value.tuple { toList := [] })),
                                                                                  some
                                                                                    (SV.raw (Value.tuple { toList := [] })),
                                                                                  some
                                                                                    (SV.raw (Value.tuple { toList := [] })),
                                                                                  some
                                                                                    (SV.raw (Value.tuple { toList := [] })),
                                                                                  some
                                                                                    (SV.raw (Value.tuple { toList := [] })),
                                                                                  some (SV.raw (Value.bool false)), none,
                                                                                  none, none, none, none, none, none, none,
                                                                                  none, none, none, none, none, none, none,
                                                                                  none, none, none, none, none, none, none,
                                                                                  none, none, none, none, none, none, none,
                                                                                  none, none, none, none, none, none, none,
                                                                                  none, none, none, none, none],
                                                                              bx :=
                                                                                [{ elem := 5, row := Row.lst [], total := 0,
                                                                                    own := false },
                                                                                  { elem := 5, row := Row.lst [], total := 0,
                                                                                    own := false },
                                                                                  { elem := 5,
                                                                                    row :=
                                                                                      Row.vals
                                                                                        (List.take ((0 + l3) * 1)
                                                                                            (List.take 0
                                                                                                (zerosV
                                                                                                  [Value.int IntKind.u8 0]
                                                                                                  20000) ++
                                                                                              List.take (l3 * 1) cs) ++
                                                                                          List.take (l2 * 1) cs_1),
                                                                                    total := tot', own := false }],
                                                                              E := E'_1 }
                                                                      else
                                                                        Ct WL4 6 Try.f4 [1, 1, 1, 1, 1, 1, 1, 1, 1] 0
                                                                          (pubK E0 K)
                                                                          {
                                                                            fr :=
                                                                              [some (SV.raw (Value.slice b1 l1 c1)),
                                                                                some (SV.raw (Value.int IntKind.i64 a1)),
                                                                                some (SV.raw (Value.slice b2 l2 c2)),
                                                                                some (SV.raw (Value.int IntKind.i64 a2)),
                                                                                none, none, none, none, none,
                                                                                some (SV.raw (Value.bool false)), none,
                                                                                some (SV.raw (Value.slice b3 l3 c3)), none,
                                                                                some (SV.raw (Value.int IntKind.i64 n)),
                                                                                some (SV.raw (Value.int IntKind.i64 end')),
                                                                                some (SV.raw (Value.int IntKind.i64 e)), none,
                                                                                none, none, none, none, none, none, none,
                                                                                none, none, none, none, none, none, none,
                                                                                none, none, none, none, none, none, none,
                                                                                none, none, none, none, none, none, none,
                                                                                none, none, none, none, none, none, none,
                                                                                none, none, none, none, none, none, none,
                                                                                none, none, none, none, none, none, none,
                                                                                none, none, none, none, none, none, none,
                                                                                none, none, none, none, none, none, none,
                                                                                none, none,
                                                                                some
                                                                                  (SV.tup
                                                                                    [SV.raw (Value.int IntKind.i64 n),
                                                                                      SV.raw (Value.int IntKind.i64 end'),
                                                                                      SV.raw (Value.int IntKind.i64 e)]),
                                                                                some (SV.slc 0 0 0 20000),
                                                                                some (SV.raw (Value.slice b3 l3 c3)),
                                                                                some (SV.slc 1 0 (0 + l3) cap'),
                                                                                some (SV.raw (Value.slice b2 l2 c2)),
                                                                                some (SV.slc 2 0 (0 + l3 + l2) cap'_1),
                                                                                some (SV.raw (Value.slice b1 l1 c1)),
                                                                                some
                                                                                  (SV.raw
                                                                                    (Value.int IntKind.i64 (↑l1 : Int))),
                                                                                some
                                                                                  (SV.tup
                                                                                    [SV.raw (Value.int IntKind.i64 n),
                                                                                      SV.raw (Value.int IntKind.i64 end'),
                                                                                      SV.raw (Value.int IntKind.i64 e)]),
                                                                                some (SV.raw (Value.int IntKind.i64 n)),
                                                                                some (SV.raw (Value.int IntKind.i64 end')),
                                                                                some (SV.raw (Value.int IntKind.i64 e)),
                                                                                some (SV.raw (Value.bool true)),
                                                                                some (SV.raw (Value.bool true)),
                                                                                some (SV.raw (Value.int IntKind.i64 e)),
                                                                                some (SV.raw (Value.bool (e == 0))),
                                                                                some
                                                                                  (SV.raw
                                                                                    (Value.bool
                                                                                      (bif true then e == 0 else false))),
                                                                                some (SV.raw (Value.bool true)),
                                                                                some (SV.raw (Value.int IntKind.i64 n)),
                                                                                some (SV.raw (Value.int IntKind.i64 a1)),
                                                                                some (SV.raw (Value.bool (n == a1))),
                                                                                some
                                                                                  (SV.raw
                                                                                    (Value.bool
                                                                                      (bif true then n == a1 else false))),
                                                                                some (SV.raw (Value.bool false)),
                                                                                some (SV.raw (Value.tuple { toList := [] })),
                                                                                some (SV.raw (Value.tuple { toList := [] })),
                                                                                some (SV.raw (Value.tuple { toList := [] })),
                                                                                some (SV.raw (Value.tuple { toList := [] })),
                                                                                some (SV.raw (Value.bool false)),
                                                                                some (SV.raw (Value.bool false)),
                                                                                some (SV.raw (Value.tuple { toList := [] })),
                                                                                some (SV.raw (Value.tuple { toList := [] })),
                                                                                some (SV.raw (Value.tuple { toList := [] })),
                                                                                some (SV.raw (Value.tuple { toList := [] })),
                                                                                some (SV.raw (Value.tuple { toList := [] })),
                                                                                some (SV.raw (Value.tuple { toList := [] })),
                                                                                some (SV.raw (Value.bool false)), none, none,
                                                                                none, none, none, none, none, none, none,
                                                                                none, none, none, none, none, none, none,
                                                                                none, none, none, none, none, none, none,
                                                                                none, none, none, none, none, none, none,
                                                                                none, none, none, none, none, none, none,
                                                                                none, none, none, none],
                                                                            bx :=
                                                                              [{ elem := 5, row := Row.lst [], total := 0,
                                                                                  own := false },
                                                                                { elem := 5, row := Row.lst [], total := 0,
                                                                                  own := false },
                                                                                { elem := 5,
                                                                                  row :=
                                                                                    Row.vals
                                                                                      (List.take ((0 + l3) * 1)
                                                                                          (List.take 0
                                                                                              (zerosV [Value.int IntKind.u8 0]
                                                                                                20000) ++
                                                                                            List.take (l3 * 1) cs) ++
                                                                                        List.take (l2 * 1) cs_1),
                                                                                  total := tot', own := false }],
                                                                            E := E'_1 }
                                                                    else
                                                                      Ct WL4 6 Try.f4 [1, 1, 1, 1, 1, 1, 1, 1, 1] 0
                                                                        (pubK E0 K)
                                                                        {
                                                                          fr :=
                                                                            [some (SV.raw (Value.slice b1 l1 c1)),
                                                                              some (SV.raw (Value.int IntKind.i64 a1)),
                                                                              some (SV.raw (Value.slice b2 l2 c2)),
                                                                              some (SV.raw (Value.int IntKind.i64 a2)), none,
                                                                              none, none, none, none,
                                                                              some (SV.raw (Value.bool false)), none,
                                                                              some (SV.raw (Value.slice b3 l3 c3)), none,
                                                                              some (SV.raw (Value.int IntKind.i64 n)),
                                                                              some (SV.raw (Value.int IntKind.i64 end')),
                                                                              some (SV.raw (Value.int IntKind.i64 e)), none,
                                                                              none, none, none, none, none, none, none, none,
                                                                              none, none, none, none, none, none, none, none,
                                                                              none, none, none, none, none, none, none, none,
                                                                              none, none, none, none, none, none, none, none,
                                                                              none, none, none, none, none, none, none, none,
                                                                              none, none, none, none, none, none, none, none,
                                                                              none, none, none, none, none, none, none, none,
                                                                              none, none, none, none, none, none, none, none,
                                                                              none,
                                                                              some
                                                                                (SV.tup
                                                                                  [SV.raw (Value.int IntKind.i64 n),
                                                                                    SV.raw (Value.int IntKind.i64 end'),
                                                                                    SV.raw (Value.int IntKind.i64 e)]),
                                                                              some (SV.slc 0 0 0 20000),
                                                                              some (SV.raw (Value.slice b3 l3 c3)),
                                                                              some (SV.slc 1 0 (0 + l3) cap'),
                                                                              some (SV.raw (Value.slice b2 l2 c2)),
                                                                              some (SV.slc 2 0 (0 + l3 + l2) cap'_1),
                                                                              some (SV.raw (Value.slice b1 l1 c1)),
                                                                              some
                                                                                (SV.raw (Value.int IntKind.i64 (↑l1 : Int))),
                                                                              some
                                                                                (SV.tup
                                                                                  [SV.raw (Value.int IntKind.i64 n),
                                                                                    SV.raw (Value.int IntKind.i64 end'),
                                                                                    SV.raw (Value.int IntKind.i64 e)]),
                                                                              some (SV.raw (Value.int IntKind.i64 n)),
                                                                              some (SV.raw (Value.int IntKind.i64 end')),
                                                                              some (SV.raw (Value.int IntKind.i64 e)),
                                                                              some (SV.raw (Value.bool true)),
                                                                              some (SV.raw (Value.bool true)),
                                                                              some (SV.raw (Value.int IntKind.i64 e)),
                                                                              some (SV.raw (Value.bool (e == 0))),
                                                                              some
                                                                                (SV.raw
                                                                                  (Value.bool
                                                                                    (bif true then e == 0 else false))),
                                                                              some (SV.raw (Value.bool false)),
                                                                              some (SV.raw (Value.tuple { toList := [] })),
                                                                              some (SV.raw (Value.tuple { toList := [] })),
                                                                              some (SV.raw (Value.tuple { toList := [] })),
                                                                              some (SV.raw (Value.bool false)),
                                                                              some (SV.raw (Value.bool false)),
                                                                              some (SV.raw (Value.tuple { toList := [] })),
                                                                              some (SV.raw (Value.tuple { toList := [] })),
                                                                              some (SV.raw (Value.tuple { toList := [] })),
                                                                              some (SV.raw (Value.tuple { toList := [] })),
                                                                              some (SV.raw (Value.bool false)),
                                                                              some (SV.raw (Value.bool false)),
                                                                              some (SV.raw (Value.tuple { toList := [] })),
                                                                              some (SV.raw (Value.tuple { toList := [] })),
                                                                              some (SV.raw (Value.tuple { toList := [] })),
                                                                              some (SV.raw (Value.tuple { toList := [] })),
                                                                              some (SV.raw (Value.tuple { toList := [] })),
                                                                              some (SV.raw (Value.tuple { toList := [] })),
                                                                              some (SV.raw (Value.bool false)), none, none,
                                                                              none, none, none, none, none, none, none, none,
                                                                              none, none, none, none, none, none, none, none,
                                                                              none, none, none, none, none, none, none, none,
                                                                              none, none, none, none, none, none, none, none,
                                                                              none, none, none, none, none, none, none],
                                                                          bx :=
                                                                            [{ elem := 5, row := Row.lst [], total := 0,
                                                                                own := false },
                                                                              { elem := 5, row := Row.lst [], total := 0,
                                                                                own := false },
                                                                              { elem := 5,
                                                                                row :=
                                                                                  Row.vals
                                                                                    (List.take ((0 + l3) * 1)
                                                                                        (List.take 0
                                                                                            (zerosV [Value.int IntKind.u8 0]
                                                                                              20000) ++
                                                                                          List.take (l3 * 1) cs) ++
                                                                                      List.take (l2 * 1) cs_1),
                                                                                total := tot', own := false }],
                                                                          E := E'_1 })))
  have hlen := hB1.2.1
  have hl3 := hB3.2.1
  rw [List.length_append, hlen] at hl3
  have hd := dig_len7 (zig a1)
  obtain ⟨s1, s2, s3⟩ := hB3.src
  obtain ⟨t1, t2, t3⟩ := hB2.src
  have e3 : List.take (l3 * 1) (vB (z1 ++ dig (zig a1))) = vB (z1 ++ dig (zig a1)) := tkB (Nat.le_of_eq hB3.2.1)
  refine ⟨_, s1, s2, s3, Nat.zero_le _, Nat.le_refl _, Nat.zero_le _, req_intro (by omega) ?_⟩
  intro cap1 tot1 q1 q2
  refine ⟨_, t1, t2, t3, ?_, q2, q1, req_intro (by omega) ?_⟩
  · rw [e3]; simp only [Row.cells, List.take_zero, List.nil_append, List.length_map, List.length_append]; omega
  intro cap2 tot2 q3 q4 base E1 hE1 hW
  rw [List.take_zero, List.nil_append, e3, tkB (l := 0 + l3) (by rw [hB3.2.1]; omega), tkB (Nat.le_of_eq hB2.2.1), mapB] at hW
  have hL := Bs.win hW rfl (l := 0 + l3 + l2) (by rw [List.length_append, hB3.2.1, hB2.2.1]; omega) q3 (app_byte (BsB hB3) (BsB hB2))
  refine ⟨_, hL, by omega, fun n e' e E2 hE2 hy => ?_⟩
  have hy : rd (z1 ++ dig (zig a1) ++ z2) l1 = (n, e', e) := hy
  have hr := rd_put (zs := z1) (ts := z2) hn
  rw [hlen] at hr
  rw [hr] at hy
  obtain ⟨rfl, hz⟩ := Prod.mk.inj hy
  obtain ⟨rfl, rfl⟩ := Prod.mk.inj hz
  refine condC (fun _ => ?_) (fun x => absurd x (by simp))
  refine condC (fun _ => ?_) (fun x => absurd x (by simp))
  refine condC (fun _ => ?_) (fun x => absurd x (by simp; omega))
  have hcc := hB3.2.2.1
  have q12 := Mem.le_trans hE1 hE2
  refine req_intro hcc (req_intro ⟨by omega, by show (l1 : Int) ≤ c3; omega⟩ ?_)
  intro b5 E3 q5 hF hN
  have hS : Bs E3 b5 (l1 - 0) (c3 - 0) (((z1 ++ dig (zig a1)).drop 0).take (l1 - 0)) := Bs.sub (hB3.mono q12) hF hN (by omega) (by omega)
  have e6 : ((z1 ++ dig (zig a1)).drop 0).take (l1 - 0) = z1 := by rw [List.drop_zero, Nat.sub_zero, ← hlen, List.take_left]
  rw [e6] at hS
  have hq := Mem.le_trans q12 q5
  exact ⟨z1, hS, hB1.mono hq, by show l1 - 0 ≤ _; omega, Mem.le_refl _, Ct_re [] (Ct_intro okWL4 (pcL4_12 (hB1.mono hq) g1 (Mem.le_trans hE0 hq) (fun E' hE' => h E' (Mem.le_trans hq hE')))) ⟨⟨Nat.zero_le _, Nat.zero_le _, fun j h => absurd h (Nat.not_lt_zero _)⟩, rfl, (by repeat' first | exact True.intro | refine And.intro (Or.inl rfl) ?_), True.intro, (by show List.Nodup []; decide), Mem.le_refl _⟩⟩
theorem e4 {b1 : Option Addr} {l1 : Nat} {c1 : Nat} {z1 : List Int} {a1 : Int} {b2 : Option Addr} {l2 : Nat} {c2 : Nat} {z2 : List Int} {a2 : Int} (hB1 : Bs E b1 l1 c1 z1) (ha1 : (Lit.int .i64 a1).wf = true) (hB2 : Bs E b2 l2 c2 z2) (ha2 : (Lit.int .i64 a2).wf = true) (h : ∀ E' : Mem, Mem.le E E' → K (B true) E') :
    Ent WL4 6 Try.f4 [L b1 l1 c1, I a1, L b2 l2 c2, I a2] E K := by
  refine same (by kernel_rfl) (?_ : 
      ∀ (E' : Mem),
        Mem.le E E' →
          Mem.le E E' ∧
            bif decide ((↑l1 : Int) ≤ 6000) then
              Mem.le E' E' ∧
                bif !bif true then decide ((↑l2 : Int) ≤ 6000) else false then Mem.le E E' ∧ K (SV.raw (Value.bool true)) E'
                else
                  ∃ (zs : List Int),
                    ((zs = [] ∨ E' (Value.slice b1 l1 c1) (List.map (Value.int IntKind.u8) zs)) ∧
                        List.length zs = l1 ∧
                          l1 ≤ c1 ∧ (∀ (z : Int), List.Mem z zs → 0 ≤ z ∧ z ≤ 255) ∧ (b1 = none → zs = [])) ∧
                      l1 ≤ 10000 ∧
                        ∀ (b' : Option Addr) (l' c' : Nat) (ys : List Int) (e : Int) (E'_1 : Mem),
                          Mem.le E' E'_1 →
                            Hyp (putN zs a1 = (ys, e)) →
                              (ys = [] ∨ E'_1 (Value.slice b' l' c') (List.map (Value.int IntKind.u8) ys)) ∧
                                  List.length ys = l' ∧
                                    l' ≤ c' ∧ (∀ (z : Int), List.Mem z ys → 0 ≤ z ∧ z ≤ 255) ∧ (b' = none → ys = []) →
                                Mem.le E' E'_1 ∧
                                  bif decide (a1 < -10000000000000) then
                                    bif bif true then e == 3 else false then
                                      Mem.le E E'_1 ∧ K (SV.raw (Value.bool (bif true then (↑l' : Int) == 0 else false))) E'_1
                                    else Mem.le E E'_1 ∧ K (SV.raw (Value.bool false)) E'_1
                                  else
                                    bif bif false then true else decide (a1 > 10000000000000) then
                                      bif bif true then e == 3 else false then
                                        Mem.le E E'_1 ∧
                                          K (SV.raw (Value.bool (bif true then (↑l' : Int) == 0 else false))) E'_1
                                      else Mem.le E E'_1 ∧ K (SV.raw (Value.bool false)) E'_1
                                    else
                                      bif e != 0 then Mem.le E E'_1 ∧ K (SV.raw (Value.bool false)) E'_1
                                      else
                                        bif bif false then true else decide ((↑l' : Int) ≤ (↑l1 : Int)) then
                                          Mem.le E E'_1 ∧ K (SV.raw (Value.bool false)) E'_1
                                        else
                                          bif
                                              bif false then true
                                              else decide ((↑l' : Int) > IntKind.wrap IntKind.i64 ((↑l1 : Int) + 7)) then
                                            Mem.le E E'_1 ∧ K (SV.raw (Value.bool false)) E'_1
                                          else
                                            bif decide (a1 ≥ -64) then
                                              bif
                                                  bif false then true
                                                  else
                                                    !((↑l' : Int) == IntKind.wrap IntKind.i64 ((↑l1 : Int) + 1)) ==
                                                        bif true then decide (a1 ≤ 63) else false then
                                                Mem.le E E'_1 ∧ K (SV.raw (Value.bool false)) E'_1
                                              else
                                                Ct WL4 6 Try.f4 [1, 1, 1, 1, 1, 1, 1] 0 (pubK E K)
                                                  {
                                                    fr :=
                                                      [some (SV.raw (Value.slice b1 l1 c1)),
                                                        some (SV.raw (Value.int IntKind.i64 a1)),
                                                        some (SV.raw (Value.slice b2 l2 c2)),
                                                        some (SV.raw (Value.int IntKind.i64 a2)), none, none, none, none,
                                                        some (SV.raw (Value.bool false)), some (SV.raw (Value.bool true)),
                                                        some
                                                          (SV.raw
                                                            (Value.bool
                                                              (bif true then decide ((↑l2 : Int) ≤ 6000) else false))),
                                                        some (SV.raw (Value.slice b' l' c')),
                                                        some (SV.raw (Value.int IntKind.i64 e)), none, none, none, none, none,
                                                        none, none, none, some (SV.raw (Value.bool true)),
                                                        some (SV.raw (Value.slice b1 l1 c1)),
                                                        some (SV.raw (Value.slice b2 l2 c2)),
                                                        some
                                                          (SV.raw
                                                            (Value.bool
                                                              (bif true then decide ((↑l2 : Int) ≤ 6000) else false))),
                                                        some
                                                          (SV.raw
                                                            (Value.bool
                                                              (bif true then decide ((↑l2 : Int) ≤ 6000) else false))),
                                                        some
                                                          (SV.raw
                                                            (Value.bool
                                                              !bif true then decide ((↑l2 : Int) ≤ 6000) else false)),
                                                        none,
                                                        some
                                                          (SV.tup
                                                            [SV.raw (Value.slice b' l' c'),
                                                              SV.raw (Value.int IntKind.i64 e)]),
                                                        some (SV.raw (Value.slice b1 l1 c1)),
                                                        some (SV.raw (Value.int IntKind.i64 a1)),
                                                        some
                                                          (SV.tup
                                                            [SV.raw (Value.slice b' l' c'),
                                                              SV.raw (Value.int IntKind.i64 e)]),
                                                        some (SV.raw (Value.slice b' l' c')),
                                                        some (SV.raw (Value.int IntKind.i64 e)),
                                                        some (SV.raw (Value.int IntKind.i64 a1)),
                                                        some (SV.raw (Value.bool (decide (a1 < -10000000000000)))),
                                                        some (SV.raw (Value.bool false)),
                                                        some (SV.raw (Value.int IntKind.i64 a1)),
                                                        some (SV.raw (Value.bool (decide (a1 > 10000000000000)))),
                                                        some
                                                          (SV.raw
                                                            (Value.bool
                                                              (bif false then true else decide (a1 > 10000000000000)))),
                                                        none, none, none, none, none, none, none, none, none, none,
                                                        some (SV.raw (Value.int IntKind.i64 e)),
                                                        some (SV.raw (Value.bool (e != 0))), some (SV.raw (Value.bool false)),
                                                        some (SV.raw (Value.slice b' l' c')),
                                                        some (SV.raw (Value.int IntKind.i64 (↑l' : Int))),
                                                        some (SV.raw (Value.slice b1 l1 c1)),
                                                        some (SV.raw (Value.int IntKind.i64 (↑l1 : Int))),
                                                        some (SV.raw (Value.bool (decide ((↑l' : Int) ≤ (↑l1 : Int))))),
                                                        some
                                                          (SV.raw
                                                            (Value.bool
                                                              (bif false then true else decide ((↑l' : Int) ≤ (↑l1 : Int))))),
                                                        some (SV.raw (Value.bool false)),
                                                        some (SV.raw (Value.slice b' l' c')),
                                                        some (SV.raw (Value.int IntKind.i64 (↑l' : Int))),
                                                        some (SV.raw (Value.slice b1 l1 c1)),
                                                        some (SV.raw (Value.int IntKind.i64 (↑l1 : Int))),
                                                        some
                                                          (SV.raw
                                                            (Value.int IntKind.i64
                                                              (IntKind.wrap IntKind.i64 ((↑l1 : Int) + 7)))),
                                                        some
                                                          (SV.raw
                                                            (Value.bool
                                                              (decide
                                                                ((↑l' : Int) > IntKind.wrap IntKind.i64 ((↑l1 : Int) + 7))))),
                                                        some
                                                          (SV.raw
                                                            (Value.bool
                                                              (bif false then true
                                                              else
                                                                decide
                                                                  ((↑l' : Int) >
                                                                    IntKind.wrap IntKind.i64 ((↑l1 : Int) + 7))))),
                                                        some (SV.raw (Value.bool false)),
                                                        some (SV.raw (Value.slice b' l' c')),
                                                        some (SV.raw (Value.int IntKind.i64 (↑l' : Int))),
                                                        some (SV.raw (Value.slice b1 l1 c1)),
                                                        some (SV.raw (Value.int IntKind.i64 (↑l1 : Int))),
                                                        some
                                                          (SV.raw
                                                            (Value.int IntKind.i64
                                                              (IntKind.wrap IntKind.i64 ((↑l1 : Int) + 1)))),
                                                        some
                                                          (SV.raw
                                                            (Value.bool
                                                              ((↑l' : Int) == IntKind.wrap IntKind.i64 ((↑l1 : Int) + 1)))),
                                                        some (SV.raw (Value.int IntKind.i64 a1)),
                                                        some (SV.raw (Value.bool (decide (a1 ≥ -64)))),
                                                        some (SV.raw (Value.bool true)),
                                                        some (SV.raw (Value.int IntKind.i64 a1)),
                                                        some (SV.raw (Value.bool (decide (a1 ≤ 63)))),
                                                        some
                                                          (SV.raw (Value.bool (bif true then decide (a1 ≤ 63) else false))),
                                                        some
                                                          (SV.raw
                                                            (Value.bool
                                                              !((↑l' : Int) == IntKind.wrap IntKind.i64 ((↑l1 : Int) + 1)) ==
                                                                  bif true then decide (a1 ≤ 63) else false)),
                                                        some
                                                          (SV.raw
                                                            (Value.bool
                                                              (bif false then true
                                                              else
                                                                !((↑l' : Int) ==
                                                                      IntKind.wrap IntKind.i64 ((↑l1 : Int) + 1)) ==
                                                                    bif true then decide (a1 ≤ 63) else false))),
                                                        none, none, none, none, none, none, none, none, none, none, none,
                                                        none, none, none, none, none, none, none, none, none, none, none,
                                                        none, none, none, none, none, none, none, none, none, none, none,
                                                        none, none, none, none, none, none, none, none, none, none, none,
                                                        none, none, none, none, none, none, none, none, none, none, none,
                                                        none, none, none, none, none, none, none, none, none, none, none,
                                                        none, none, none, none, none, none, none, none, none, none, none],
                                                    bx := [], E := E'_1 }
                                            else
                                              bif
                                                  bif false then true
                                                  else
                                                    !((↑l' : Int) == IntKind.wrap IntKind.i64 ((↑l1 : Int) + 1)) == false then
                                                Mem.le E E'_1 ∧ K (SV.raw (Value.bool false)) E'_1
                                              else
                                                Ct WL4 6 Try.f4 [1, 1, 1, 1, 1, 1, 1] 0 (pubK E K)
                                                  {
                                                    fr :=
                                                      [some (SV.raw (Value.slice b1 l1 c1)),
                                                        some (SV.raw (Value.int IntKind.i64 a1)),
                                                        some (SV.raw (Value.slice b2 l2 c2)),
                                                        some (SV.raw (Value.int IntKind.i64 a2)), none, none, none, none,
                                                        some (SV.raw (Value.bool false)), some (SV.raw (Value.bool true)),
                                                        some
                                                          (SV.raw
                                                            (Value.bool
                                                              (bif true then decide ((↑l2 : Int) ≤ 6000) else false))),
                                                        some (SV.raw (Value.slice b' l' c')),
                                                        some (SV.raw (Value.int IntKind.i64 e)), none, none, none, none, none,
                                                        none, none, none, some (SV.raw (Value.bool true)),
                                                        some (SV.raw (Value.slice b1 l1 c1)),
                                                        some (SV.raw (Value.slice b2 l2 c2)),
                                                        some
                                                          (SV.raw
                                                            (Value.bool
                                                              (bif true then decide ((↑l2 : Int) ≤ 6000) else false))),
                                                        some
                                                          (SV.raw
                                                            (Value.bool
                                                              (bif true then decide ((↑l2 : Int) ≤ 6000) else false))),
                                                        some
                                                          (SV.raw
                                                            (Value.bool
                                                              !bif true then decide ((↑l2 : Int) ≤ 6000) else false)),
                                                        none,
                                                        some
                                                          (SV.tup
                                                            [SV.raw (Value.slice b' l' c'),
                                                              SV.raw (Value.int IntKind.i64 e)]),
                                                        some (SV.raw (Value.slice b1 l1 c1)),
                                                        some (SV.raw (Value.int IntKind.i64 a1)),
                                                        some
                                                          (SV.tup
                                                            [SV.raw (Value.slice b' l' c'),
                                                              SV.raw (Value.int IntKind.i64 e)]),
                                                        some (SV.raw (Value.slice b' l' c')),
                                                        some (SV.raw (Value.int IntKind.i64 e)),
                                                        some (SV.raw (Value.int IntKind.i64 a1)),
                                                        some (SV.raw (Value.bool (decide (a1 < -10000000000000)))),
                                                        some (SV.raw (Value.bool false)),
                                                        some (SV.raw (Value.int IntKind.i64 a1)),
                                                        some (SV.raw (Value.bool (decide (a1 > 10000000000000)))),
                                                        some
                                                          (SV.raw
                                                            (Value.bool
                                                              (bif false then true else decide (a1 > 10000000000000)))),
                                                        none, none, none, none, none, none, none, none, none, none,
                                                        some (SV.raw (Value.int IntKind.i64 e)),
                                                        some (SV.raw (Value.bool (e != 0))), some (SV.raw (Value.bool false)),
                                                        some (SV.raw (Value.slice b' l' c')),
                                                        some (SV.raw (Value.int IntKind.i64 (↑l' : Int))),
                                                        some (SV.raw (Value.slice b1 l1 c1)),
                                                        some (SV.raw (Value.int IntKind.i64 (↑l1 : Int))),
                                                        some (SV.raw (Value.bool (decide ((↑l' : Int) ≤ (↑l1 : Int))))),
                                                        some
                                                          (SV.raw
                                                            (Value.bool
                                                              (bif false then true else decide ((↑l' : Int) ≤ (↑l1 : Int))))),
                                                        some (SV.raw (Value.bool false)),
                                                        some (SV.raw (Value.slice b' l' c')),
                                                        some (SV.raw (Value.int IntKind.i64 (↑l' : Int))),
                                                        some (SV.raw (Value.slice b1 l1 c1)),
                                                        some (SV.raw (Value.int IntKind.i64 (↑l1 : Int))),
                                                        some
                                                          (SV.raw
                                                            (Value.int IntKind.i64
                                                              (IntKind.wrap IntKind.i64 ((↑l1 : Int) + 7)))),
                                                        some
                                                          (SV.raw
                                                            (Value.bool
                                                              (decide
                                                                ((↑l' : Int) > IntKind.wrap IntKind.i64 ((↑l1 : Int) + 7))))),
                                                        some
                                                          (SV.raw
                                                            (Value.bool
                                                              (bif false then true
                                                              else
                                                                decide
                                                                  ((↑l' : Int) >
                                                                    IntKind.wrap IntKind.i64 ((↑l1 : Int) + 7))))),
                                                        some (SV.raw (Value.bool false)),
                                                        some (SV.raw (Value.slice b' l' c')),
                                                        some (SV.raw (Value.int IntKind.i64 (↑l' : Int))),
                                                        some (SV.raw (Value.slice b1 l1 c1)),
                                                        some (SV.raw (Value.int IntKind.i64 (↑l1 : Int))),
                                                        some
                                                          (SV.raw
                                                            (Value.int IntKind.i64
                                                              (IntKind.wrap IntKind.i64 ((↑l1 : Int) + 1)))),
                                                        some
                                                          (SV.raw
                                                            (Value.bool
                                                              ((↑l' : Int) == IntKind.wrap IntKind.i64 ((↑l1 : Int) + 1)))),
                                                        some (SV.raw (Value.int IntKind.i64 a1)),
                                                        some (SV.raw (Value.bool (decide (a1 ≥ -64)))),
                                                        some (SV.raw (Value.bool false)),
                                                        some (SV.raw (Value.tuple { toList := [] })),
                                                        some (SV.raw (Value.tuple { toList := [] })),
                                                        some (SV.raw (Value.bool false)),
                                                        some
                                                          (SV.raw
                                                            (Value.bool
                                                              !((↑l' : Int) == IntKind.wrap IntKind.i64 ((↑l1 : Int) + 1)) ==
                                                                  false)),
                                                        some
                                                          (SV.raw
                                                            (Value.bool
                                                              (bif false then true
                                                              else
                                                                !((↑l' : Int) ==
                                                                      IntKind.wrap IntKind.i64 ((↑l1 : Int) + 1)) ==
                                                                    false))),
                                                        none, none, none, none, none, none, none, none, none, none, none,
                                                        none, none, none, none, none, none, none, none, none, none, none,
                                                        none, none, none, none, none, none, none, none, none, none, none,
                                                        none, none, none, none, none, none, none, none, none, none, none,
                                                        none, none, none, none, none, none, none, none, none, none, none,
                                                        none, none, none, none, none, none, none, none, none, none, none,
                                                        none, none, none, none, none, none, none, none, none, none, none],
                                                    bx := [], E := E'_1 }
            else Mem.le E' E' ∧ Mem.le E E' ∧ K (SV.raw (Value.bool true)) E')
  intro E1 hE0
  have hlen := hB1.2.1
  refine ⟨hE0, condC (fun g1 => ?_) (fun g1 => ⟨Mem.le_refl _, hE0, h E1 hE0⟩)⟩
  have g1 : l1 ≤ 6000 := by simp at g1; omega
  refine ⟨Mem.le_refl _, condC (fun _ => ⟨hE0, h E1 hE0⟩) (fun g2 => ?_)⟩
  have g2 : l2 ≤ 6000 := by simp at g2; omega
  refine ⟨_, hB1.mono hE0, by omega, fun b3 l3 c3 ys e E2 q2 hy A => ⟨q2, ?_⟩⟩
  have hy : putN z1 a1 = (ys, e) := hy
  have A : Bs E2 b3 l3 c3 ys := A
  have hq := Mem.le_trans hE0 q2
  have no : ¬ okN a1 → e = 3 ∧ l3 = 0 := fun q => by
    unfold putN at hy; rw [if_neg q] at hy
    obtain ⟨rfl, rfl⟩ := Prod.mk.inj hy
    exact ⟨rfl, by have := A.2.1; simp at this; omega⟩
  refine condC (fun g => ?_) (fun g3 => ?_)
  · obtain ⟨rfl, rfl⟩ := no (fun q => by unfold okN at q; simp at g; omega)
    exact condC (fun _ => ⟨hq, h E2 hq⟩) (fun x => absurd x (by simp))
  refine condC (fun g => ?_) (fun g4 => ?_)
  · obtain ⟨rfl, rfl⟩ := no (fun q => by unfold okN at q; simp at g; omega)
    exact condC (fun _ => ⟨hq, h E2 hq⟩) (fun x => absurd x (by simp))
  have hn : okN a1 := by simp at g3 g4; exact ⟨g3, g4⟩
  have hz := zig_b hn
  have hd := dig_len8 hz.1 (zig_lt hn)
  have hd1 := (dig_len (zig a1)).1
  have hp : putN z1 a1 = (z1 ++ dig (zig a1), 0) := by unfold putN; rw [if_pos hn]
  rw [hp] at hy
  obtain ⟨rfl, rfl⟩ := Prod.mk.inj hy
  have hl3 := A.2.1
  rw [List.length_append, hlen] at hl3
  have hone : (l3 = l1 + 1) ↔ (-64 ≤ a1 ∧ a1 ≤ 63) := by
    have : zig a1 < 128 ↔ (-64 ≤ a1 ∧ a1 ≤ 63) := by unfold zig; split <;> omega
    rw [← this, ← hd.2]; omega
  have go := Ct_intro okWL4 (pcL4_10 (K := K) (hB1.mono hq) (hB2.mono hq) A hn g1 g2 (a2 := a2) hq (fun E' hE' => h E' (Mem.le_trans hq hE')))
  rw [wrap_i64 (x := (l1 : Int) + 7) (by omega), wrap_i64 (x := (l1 : Int) + 1) (by omega)]
  refine condC (fun x => absurd x (by simp)) (fun _ => ?_)
  refine condC (fun x => absurd x (by simp; omega)) (fun _ => ?_)
  refine condC (fun x => absurd x (by simp; omega)) (fun _ => ?_)
  have hone' : ((l3 : Int) = l1 + 1) ↔ (-64 ≤ a1 ∧ a1 ≤ 63) := by rw [← hone]; omega
  refine condC (fun g5 => ?_) (fun g5 => ?_)
  · have g5 : -64 ≤ a1 := by simpa using g5
    refine condC (fun x => absurd x ?_) (fun _ => Ct_from (by repeat' first | exact True.intro | refine And.intro rfl ?_) go)
    by_cases h6 : a1 ≤ 63
    · have := hone'.2 ⟨g5, h6⟩; simp [this, h6]
    · have : ¬ ((l3 : Int) = l1 + 1) := fun q => h6 (hone'.1 q).2
      simp [this, h6]
  · have g5 : ¬ -64 ≤ a1 := by simpa using g5
    refine condC (fun x => absurd x ?_) (fun _ => Ct_from (by repeat' first | exact True.intro | refine And.intro rfl ?_) go)
    have : ¬ ((l3 : Int) = l1 + 1) := fun q => g5 (hone'.1 q).1
    simp [this]


theorem opn4 (W : World) (K : List SV → Prop) (h : ∀ (b1 : Option Addr) (l1 c1 : Nat) (z1 : List Int), (l1 ≤ c1) → (c1 ≤ maxLen) → (b1 = none → c1 = 0) → (z1.length = c1) → (∀ x ∈ z1, (Lit.int .u8 x).wf = true) → RowAt W (.slice b1 l1 c1) (z1.map (.int .u8)) → ∀ a1 : Int, (Lit.int .i64 a1).wf = true → ∀ (b2 : Option Addr) (l2 c2 : Nat) (z2 : List Int), (l2 ≤ c2) → (c2 ≤ maxLen) → (b2 = none → c2 = 0) → (z2.length = c2) → (∀ x ∈ z2, (Lit.int .u8 x).wf = true) → RowAt W (.slice b2 l2 c2) (z2.map (.int .u8)) → ∀ a2 : Int, (Lit.int .i64 a2).wf = true → K [L b1 l1 c1, I a1, L b2 l2 c2, I a2]) : opnAll Try.prog W Try.f4.params.toList K :=
  same (by kernel_rfl) h

theorem sem4 (W : World) : opnAll Try.prog W Try.f4.params.toList fun ss => TabSem Try.prog 4 ss (fun v cs => RowAt W v cs) fun r _ => r = .raw (.bool true) := by
  refine opn4 W _ ?_
  intro b1 l1 c1 z1 hl1 hc1 hb1 hz1 hw1 hE1 a1 ha1 b2 l2 c2 z2 hl2 hc2 hb2 hz2 hw2 hE2 a2 ha2
  exact Ent.sem okWL4 Try.func4 ⟨by kernel_rfl, by kernel_rfl⟩ rfl (e4 (Bs.of hl1 hb1 hz1 hw1 hE1) ha1 (Bs.of hl2 hb2 hz2 hw2 hE2) ha2 (fun _ _ => rfl))

theorem lifted4 (os : Os) (started : os.Started) (H : Type) (enc : TypeId × Value → H) :
    ReturnsInHanded {} Try.checked os 4 .any (Rows.wireNumbersSpec.pre6 enc Try.prog Try.f4 Rows.wireNumbersRow.domain false) (Rows.wireNumbersSpec.post enc Try.prog Try.f4 false true false false) :=
  lift_true (C := Try.checked) (by kernel_rfl) (by kernel_rfl) started (by kernel_rfl) Try.func4
    (ChangeSpec.witness6 (enc := enc) (C := Try.checked) false ⟨#[], #[.slice none 0 0, .int .i64 0, .slice none 0 0, .int .i64 0], []⟩ 8 (by kernel_rfl) (by kernel_rfl) (by kernel_rfl) (by kernel_rfl))
    (Tb := 4) (by kernel_rfl) (by kernel_rfl) (by kernel_rfl) rfl
    (fun ds hl => by
      match ds, hl with
      | [d0, d1, d2, d3], _ => exact ⟨rfl, rfl, rfl⟩)
    sem4

theorem over4 : Rows.wireNumbersRow.holds Try.pinned (OpenSpec.ofChange Rows.wireNumbersSpec) :=
  OpenClaim.holds_of_wide 4 Try.f4 rfl rfl rfl rfl rfl rfl rfl ⟨rfl, rfl, rfl, rfl, rfl⟩ rfl rfl rfl rfl rfl (by kernel_rfl) Try.func4 (by kernel_rfl)
    (of_decide_eq_true (by kernel_rfl)) (by unfold Func.isWrapper; first | (rw [if_pos (by decide +kernel)]; kernel_rfl) | (rw [if_neg (by decide +kernel)]; exact ⟨rfl, rfl⟩))
    (fun os started H enc _ => lifted4 os started H enc)

theorem proved4 : Rows.WireNumbersSaid := over4
end Go.Proofs.Ytjlpfhekhpebpaa.WireOwn
