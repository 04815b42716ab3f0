/- The law WireBytes. -/
import Derived.Test.YtjlpfhekhpebpaaWire12
import Derived.Test.YtjlpfhekhpebpaaRows
namespace Go.Proofs.Ytjlpfhekhpebpaa.WireOwn
open Go Go.Sx Go.Proofs.Ytjlpfhekhpebpaa
set_option maxRecDepth 100000
set_option maxHeartbeats 4000000
set_option linter.unusedVariables false
set_option linter.unusedSimpArgs false
variable {E : Mem} {K : SV → Mem → Prop}
noncomputable def tabL5 : FuncId → List SV → Mem → (SV → Mem → Prop) → Prop := fun f args E K => match f with
  | 10 => d0 args ((∀ (E' : Mem), Mem.le E E' → K (B true) E'))
  | 17 => d2 args fun x0 x1 => dS x0 fun b1 l2 c3 => dS x1 fun b4 l5 c6 => ∃ (zs : List Int) (xs : List Int), Bs E b1 l2 c3 zs ∧ Bs E b4 l5 c6 xs ∧ l2 ≤ 10000 ∧ (∀ (b' : Option Addr) (l' c' : Nat) (ys : List Int) (e : Int) (E' : Mem), Mem.le E E' → Hyp (putB zs xs = (ys, e)) → Bs E' b' l' c' ys → K (.tup [L b' l' c', I e]) E')
  | 14 => d2 args fun x0 x1 => dS x0 fun b1 l2 c3 => dS x1 fun b4 l5 c6 => ∃ (zs : List Int), Bs E b1 l2 c3 zs ∧ Bs E b4 l5 c6 zs ∧ l2 ≤ 100000 ∧ (K (B true) E)
  | 19 => d2 args fun x0 x1 => dS x0 fun b1 l2 c3 => dI x1 fun a4 => ∃ (zs : List Int), Bs E b1 l2 c3 zs ∧ l2 ≤ 100000 ∧ (∀ (b' : Option Addr) (l' c' : Nat) (ys : List Int) (end' e : Int) (E' : Mem), Mem.le E E' → Hyp (rdB zs a4 = (ys, end', e)) → Bs E' b' l' c' ys → K (.tup [L b' l' c', I end', I e]) E')
  | _ => False
theorem tabL5_ok : TabOK Try.prog tabL5 := by
  intro f args E K h
  unfold tabL5 at h
  split at h
  · obtain ⟨rfl, h⟩ := d0_elim h
    exact TabSem.congr rfl (Ent.sem okWJ Try.func10 ⟨by kernel_rfl, by kernel_rfl⟩ rfl (s10 h))
  · obtain ⟨x0, x1, rfl, h⟩ := d2_elim h
    obtain ⟨b1, l2, c3, rfl, h⟩ := dS_elim h
    obtain ⟨b4, l5, c6, rfl, h⟩ := dS_elim h
    obtain ⟨zs, xs, g0, g1, g2, h⟩ := h
    exact TabSem.congr (valL_cons rfl (valL_cons rfl rfl)) (Ent.sem okW6 Try.func17 ⟨by kernel_rfl, by kernel_rfl⟩ rfl (s17 g0 g1 g2 h))
  · obtain ⟨x0, x1, rfl, h⟩ := d2_elim h
    obtain ⟨b1, l2, c3, rfl, h⟩ := dS_elim h
    obtain ⟨b4, l5, c6, rfl, h⟩ := dS_elim h
    obtain ⟨zs, g0, g1, g2, h⟩ := h
    exact TabSem.congr (valL_cons rfl (valL_cons rfl rfl)) (Ent.sem okWB Try.func14 ⟨by kernel_rfl, by kernel_rfl⟩ rfl (h14 g0 g1 g2 h))
  · obtain ⟨x0, x1, rfl, h⟩ := d2_elim h
    obtain ⟨b1, l2, c3, rfl, h⟩ := dS_elim h
    obtain ⟨a4, rfl, h⟩ := dI_elim h
    obtain ⟨zs, g0, g1, h⟩ := h
    exact TabSem.congr (valL_cons rfl (valL_cons rfl rfl)) (Ent.sem okWP1 Try.func19 ⟨by kernel_rfl, by kernel_rfl⟩ rfl (s19 g0 g1 h))
  · exact h.elim
noncomputable def WL5 : Cx := { P := Try.prog, inl := fun f => List.contains [11] f, tab := tabL5, isB := fun _ => false, tabB := fun _ _ _ _ _ => False, opt := { unroll := 0, carry := [], cuts := [10, 12] }, muts := mutsD }
theorem okWL5 : CxOK WL5 := ⟨tabL5_ok, by kernel_rfl, okInl (by kernel_rfl), fun _ _ _ _ _ h => h.elim⟩
def shL5a (b1 : Option Addr) (l1 c1 : Nat) (b2 : Option Addr) (l2 c2 : Nat) (b3 : Option Addr) (l3 c3 : Nat) (a1 : Int) (b4 : Option Addr) (l4 c4 : Nat) (E : Mem) : St := { fr := [some (L b1 l1 c1), some (L b2 l2 c2), some (L b3 l3 c3), some (I a1), none, none, none, none, none, some (B true), none, some (L b4 l4 c4), none, none, none, none, none, none, none, none, none, none, none, none, none, none, none, none, none, none, none, none, none, none, none, none, none, none, none, none, none, none, none, none, none, none, none, none, none, none, none, none, none, none, none, none, none, none, none, none, none, none, none, none, none, none, none, none, none, none, none, none, none, none, none, none, none, none, none, none, none, none, none, none, none, none, none, none, none, none, none, none, none, none, none, none, none, none, none, none, none, none, none, none, none, none, none, none, none, none, none, none, none, none, none, none, none, none, none, none, none, none, none, none, none, none, none, none, none, none, none, none, none, none, none, none, none, none], bx := [], E := E }
def shL5b (b1 : Option Addr) (l1 c1 : Nat) (a1 : Int) (E : Mem) : St := { fr := [some (L b1 l1 c1), none, none, some (I a1), none, none, none, none, none, some (B true), none, none, none, none, none, none, none, none, none, none, none, none, none, none, none, none, none, none, none, none, none, none, none, none, none, none, none, none, none, none, none, none, none, none, none, none, none, none, none, none, none, none, none, none, none, none, none, none, none, none, none, none, none, none, none, none, none, none, none, none, none, none, none, none, none, none, none, none, none, none, none, none, none, none, none, none, none, none, none, none, none, none, none, none, none, none, none, none, none, none, none, none, none, none, none, none, none, none, none, none, none, none, none, none, none, none, none, none, none, none, none, none, none, none, none, none, none, none, none, none, none, none, none, none, none, none, none, none], bx := [], E := E }
theorem pcL5_12 {b1 : Option Addr} {l1 c1 : Nat} {a1 : Int} {z1 : List Int} {E0 : Mem} (hB1 : Bs E b1 l1 c1 z1) (g1 : l1 ≤ 6000) (hE0 : Mem.le E0 E) (h : ∀ E', Mem.le E E' → K (B true) E') :
    Pc WL5 6 Try.f5 [1, 1, 1, 1, 1, 1, 1, 1, 1] 0 (pubK E0 K) (shL5b b1 l1 c1 a1 E) := by
  refine same (by kernel_rfl) (?_ : 
      ∃ (zs : List Int),
        ((zs = [] ∨ E (Value.slice b1 l1 c1) (List.map (Value.int IntKind.u8) zs)) ∧
            List.length zs = l1 ∧ l1 ≤ c1 ∧ (∀ (z : Int), List.Mem z zs → 0 ≤ z ∧ z ≤ 255) ∧ (b1 = none → zs = [])) ∧
          l1 ≤ 100000 ∧
            ∀ (b' : Option Addr) (l' c' : Nat) (ys : List Int) (end' e : Int) (E' : Mem),
              Mem.le E E' →
                Hyp (rdB zs a1 = (ys, end', e)) →
                  (ys = [] ∨ E' (Value.slice b' l' c') (List.map (Value.int IntKind.u8) ys)) ∧
                      List.length ys = l' ∧ l' ≤ c' ∧ (∀ (z : Int), List.Mem z ys → 0 ≤ z ∧ z ≤ 255) ∧ (b' = none → ys = []) →
                    Mem.le E E' ∧
                      bif e != 0 then Mem.le E0 E' ∧ K (SV.raw (Value.bool true)) E'
                      else
                        bif decide (a1 < 0) then Mem.le E0 E' ∧ K (SV.raw (Value.bool false)) E'
                        else
                          bif bif false then true else decide (end' ≤ a1) then Mem.le E0 E' ∧ K (SV.raw (Value.bool false)) E'
                          else
                            bif bif false then true else decide (end' > (↑l1 : Int)) then
                              Mem.le E0 E' ∧ K (SV.raw (Value.bool false)) E'
                            else
                              ∃ (zs : List Int),
                                ∃ (xs : List Int),
                                  ((zs = [] ∨ E' (Value.slice none 0 0) (List.map (Value.int IntKind.u8) zs)) ∧
                                      List.length zs = 0 ∧
                                        0 ≤ 0 ∧ (∀ (z : Int), List.Mem z zs → 0 ≤ z ∧ z ≤ 255) ∧ ((none : Option Addr) = none → zs = [])) ∧
                                    ((xs = [] ∨ E' (Value.slice b' l' c') (List.map (Value.int IntKind.u8) xs)) ∧
                                        List.length xs = l' ∧
                                          l' ≤ c' ∧ (∀ (z : Int), List.Mem z xs → 0 ≤ z ∧ z ≤ 255) ∧ (b' = none → xs = [])) ∧
                                      0 ≤ 10000 ∧
                                        ∀ (b' : Option Addr) (l' c' : Nat) (ys : List Int) (e : Int) (E'_1 : Mem),
                                          Mem.le E' E'_1 →
                                            Hyp (putB zs xs = (ys, e)) →
                                              (ys = [] ∨ E'_1 (Value.slice b' l' c') (List.map (Value.int IntKind.u8) ys)) ∧
                                                  List.length ys = l' ∧
                                                    l' ≤ c' ∧
                                                      (∀ (z : Int), List.Mem z ys → 0 ≤ z ∧ z ≤ 255) ∧ (b' = none → ys = []) →
                                                Mem.le E' E'_1 ∧
                                                  bif bif true then e == 0 else false then
                                                    req (l1 ≤ c1)
                                                      (req (0 ≤ end' ∧ end' ≤ (↑(toN none c1) : Int))
                                                        (req (0 ≤ a1 ∧ a1 ≤ (↑(toN (some end') l1) : Int))
                                                          (∀ (base' : Option Addr) (E' : Mem),
                                                            Mem.le E'_1 E' →
                                                              (∀ (cs : List Value),
                                                                  E'_1 (Value.slice b1 l1 c1) cs →
                                                                    E'
                                                                      (Value.slice base'
                                                                        (toN (some end') l1 - toN (some a1) 0)
                                                                        (toN none c1 - toN (some a1) 0))
                                                                      (List.take ((toN (some end') l1 - toN (some a1) 0) * 1)
                                                                        (List.drop (toN (some a1) 0 * 1) cs))) →
                                                                Option.isNone base' = Option.isNone b1 →
                                                                  ∃ (zs : List Int),
                                                                    ((zs = [] ∨
                                                                          E' (Value.slice b' l' c')
                                                                            (List.map (Value.int IntKind.u8) zs)) ∧
                                                                        List.length zs = l' ∧
                                                                          l' ≤ c' ∧
                                                                            (∀ (z : Int), List.Mem z zs → 0 ≤ z ∧ z ≤ 255) ∧
                                                                              (b' = none → zs = [])) ∧
                                                                      ((zs = [] ∨
                                                                            E'
                                                                              (Value.slice base'
                                                                                (toN (some end') l1 - toN (some a1) 0)
                                                                                (toN none c1 - toN (some a1) 0))
                                                                              (List.map (Value.int IntKind.u8) zs)) ∧
                                                                          List.length zs =
                                                                              toN (some end') l1 - toN (some a1) 0 ∧
                                                                            toN (some end') l1 - toN (some a1) 0 ≤
                                                                                toN none c1 - toN (some a1) 0 ∧
                                                                              (∀ (z : Int), List.Mem z zs → 0 ≤ z ∧ z ≤ 255) ∧
                                                                                (base' = none → zs = [])) ∧
                                                                        l' ≤ 100000 ∧
                                                                          Mem.le E' E' ∧
                                                                            Mem.le E0 E' ∧ K (SV.raw (Value.bool true)) E')))
                                                  else Mem.le E0 E'_1 ∧ K (SV.raw (Value.bool false)) E'_1)
  have hlen := hB1.2.1
  refine ⟨z1, hB1, by omega, fun b2 l2 c2 ys e' e E1 q1 hy A => ⟨q1, ?_⟩⟩
  have hy : rdB z1 a1 = (ys, e', e) := hy
  have A : Bs E1 b2 l2 c2 ys := A
  refine condC (fun _ => ⟨Mem.le_trans hE0 q1, h E1 q1⟩) (fun g2 => ?_)
  have g2 : e = 0 := by simpa using g2
  subst g2
  obtain ⟨p, r1, r2, r3, r4, r5⟩ := rdB_inv hy
  obtain ⟨o1, o2, o3, o4, o5⟩ := rd_ok r1
  refine condC (fun x => absurd x (by simp; omega)) (fun _ => ?_)
  refine condC (fun x => absurd x (by simp; omega)) (fun _ => ?_)
  refine condC (fun x => absurd x (by simp; omega)) (fun _ => ?_)
  refine ⟨[], ys, Bs.nil _, A, by omega, fun b4 l4 c4 xs e E2 q2 hz A2 => ⟨q2, ?_⟩⟩
  have hz : putB [] ys = (xs, e) := hz
  have hz2 : putB [] ys = (dig (zig ys.length) ++ ys, 0) := by unfold putB; rw [if_pos r5]; rfl
  rw [hz2] at hz
  obtain ⟨rfl, rfl⟩ := Prod.mk.inj hz
  have A2 : Bs E2 b4 l4 c4 _ := A2
  refine condC (fun _ => ?_) (fun x => absurd x (by simp))
  have q12 := Mem.le_trans q1 q2
  have hcc := hB1.2.2.1
  refine req_intro hcc (req_intro ⟨by omega, by show e' ≤ c1; omega⟩ (req_intro ⟨by omega, by show a1 ≤ (e'.toNat : Int); omega⟩ ?_))
  intro b5 E3 q3 hF hN
  have hS : Bs E3 b5 (e'.toNat - a1.toNat) (c1 - a1.toNat) ((z1.drop a1.toNat).take (e'.toNat - a1.toNat)) := Bs.sub (hB1.mono q12) hF hN (by omega) (by omega)
  have e6 : (z1.drop a1.toNat).take (e'.toNat - a1.toNat) = dig (zig ys.length) ++ ys := by
    rw [dig_rd (BsB hB1) r1]
    have e7 : ys = (z1.drop p.toNat).take (e'.toNat - p.toNat) := by rw [show e'.toNat - p.toNat = ys.length by omega]; exact r2
    have e8 : z1.drop p.toNat = (z1.drop a1.toNat).drop (p.toNat - a1.toNat) := by rw [List.drop_drop]; congr 1; omega
    rw [show (z1.drop a1.toNat).take (e'.toNat - a1.toNat) = (z1.drop a1.toNat).take (p.toNat - a1.toNat) ++ ((z1.drop a1.toNat).drop (p.toNat - a1.toNat)).take ((e'.toNat - a1.toNat) - (p.toNat - a1.toNat)) from (take_add (by omega)).symm, ← e8, show (e'.toNat - a1.toNat) - (p.toNat - a1.toNat) = e'.toNat - p.toNat by omega, ← e7]
  rw [e6] at hS
  exact ⟨_, A2.mono q3, hS, by rw [← A2.2.1]; have := dig_len7 (zig ys.length); rw [List.length_append]; omega, Mem.le_refl _, Mem.le_trans hE0 (Mem.le_trans q12 q3), h _ (Mem.le_trans q12 q3)⟩
theorem pcL5_10 {b1 : Option Addr} {l1 c1 : Nat} {b2 : Option Addr} {l2 c2 : Nat} {b3 : Option Addr} {l3 c3 : Nat} {a1 : Int} {b4 : Option Addr} {l4 c4 : Nat} {z1 z2 z3 : List Int} {E0 : Mem} (hB1 : Bs E b1 l1 c1 z1) (hB2 : Bs E b2 l2 c2 z2) (hB3 : Bs E b3 l3 c3 z3) (hB4 : Bs E b4 l4 c4 (z1 ++ dig (zig z2.length) ++ z2)) (g1 : l1 ≤ 6000) (g2 : l2 ≤ 4000) (g3 : l3 ≤ 6000) (hE0 : Mem.le E0 E) (h : ∀ E', Mem.le E E' → K (B true) E') :
    Pc WL5 6 Try.f5 [1, 1, 1, 1, 1, 1, 1] 0 (pubK E0 K) (shL5a b1 l1 c1 b2 l2 c2 b3 l3 c3 a1 b4 l4 c4 E) := by
  refine same (by kernel_rfl) (?_ : 
      ∃ (cs : List Value),
        (cs = [] ∨ E (Value.slice b4 l4 c4) cs) ∧
          l4 * 1 ≤ List.length cs ∧
            (∀ (x : Value), List.Mem x cs → Value.oneCell' x = true) ∧
              0 ≤ 30000 ∧
                30000 ≤ 30000 ∧
                  0 ≤ 30000 ∧
                    req ((0 + l4) * 1 ≤ 140737488355328)
                      (∀ (cap' tot' : Nat),
                        0 + l4 ≤ cap' →
                          cap' * 1 ≤ tot' →
                            ∃ (cs_1 : List Value),
                              (cs_1 = [] ∨ E (Value.slice b3 l3 c3) cs_1) ∧
                                l3 * 1 ≤ List.length cs_1 ∧
                                  (∀ (x : Value), List.Mem x cs_1 → Value.oneCell' x = true) ∧
                                    (0 + l4) * 1 ≤
                                        List.length
                                          (Row.cells
                                            (Row.vals
                                              (List.take 0 (zerosV [Value.int IntKind.u8 0] 30000) ++
                                                List.take (l4 * 1) cs))) ∧
                                      cap' * 1 ≤ tot' ∧
                                        0 + l4 ≤ cap' ∧
                                          req ((0 + l4 + l3) * 1 ≤ 140737488355328)
                                            (∀ (cap'_1 tot' : Nat),
                                              0 + l4 + l3 ≤ cap'_1 →
                                                cap'_1 * 1 ≤ tot' →
                                                  ∀ (base : Option Addr) (E' : Mem),
                                                    Mem.le E E' →
                                                      WinE E' base
                                                          (List.take ((0 + l4) * 1)
                                                              (List.take 0 (zerosV [Value.int IntKind.u8 0] 30000) ++
                                                                List.take (l4 * 1) cs) ++
                                                            List.take (l3 * 1) cs_1) →
                                                        ∃ (zs : List Int),
                                                          ((zs = [] ∨
                                                                E'
                                                                  (Value.slice
                                                                    (Option.map (fun (x : Addr) => Addr.add x 0) base)
                                                                    (0 + l4 + l3) cap'_1)
                                                                  (List.map (Value.int IntKind.u8) zs)) ∧
                                                              List.length zs = 0 + l4 + l3 ∧
                                                                0 + l4 + l3 ≤ cap'_1 ∧
                                                                  (∀ (z : Int), List.Mem z zs → 0 ≤ z ∧ z ≤ 255) ∧
                                                                    (Option.map (fun (x : Addr) => Addr.add x 0) base = none →
                                                                      zs = [])) ∧
                                                            0 + l4 + l3 ≤ 100000 ∧
                                                              ∀ (b' : Option Addr) (l' c' : Nat) (ys : List Int)
                                                                (end' e : Int) (E'_1 : Mem),
                                                                Mem.le E' E'_1 →
                                                                  Hyp (rdB zs (↑l1 : Int) = (ys, end', e)) →
                                                                    (ys = [] ∨
                                                                          E'_1 (Value.slice b' l' c')
                                                                            (List.map (Value.int IntKind.u8) ys)) ∧
                                                                        List.length ys = l' ∧
                                                                          l' ≤ c' ∧
                                                                            (∀ (z : Int), List.Mem z ys → 0 ≤ z ∧ z ≤ 255) ∧
                                                                              (b' = none → ys = []) →
                                                                      bif bif true then e == 0 else false then
                                                                        ∃ (zs : List Int),
                                                                          ((zs = [] ∨
                                                                                E'_1 (Value.slice b2 l2 c2)
                                                                                  (List.map (Value.int IntKind.u8) zs)) ∧
                                                                              List.length zs = l2 ∧
                                                                                l2 ≤ c2 ∧
                                                                                  (∀ (z : Int),
                                                                                      List.Mem z zs → 0 ≤ z ∧ z ≤ 255) ∧
                                                                                    (b2 = none → zs = [])) ∧
                                                                            ((zs = [] ∨
                                                                                  E'_1 (Value.slice b' l' c')
                                                                                    (List.map (Value.int IntKind.u8) zs)) ∧
                                                                                List.length zs = l' ∧
                                                                                  l' ≤ c' ∧
                                                                                    (∀ (z : Int),
                                                                                        List.Mem z zs → 0 ≤ z ∧ z ≤ 255) ∧
                                                                                      (b' = none → zs = [])) ∧
                                                                              l2 ≤ 100000 ∧
                                                                                Mem.le E'_1 E'_1 ∧
                                                                                  bif
                                                                                      bif true then end' == (↑l4 : Int)
                                                                                      else false then
                                                                                    req (l4 ≤ c4)
                                                                                      (req
                                                                                        (0 ≤ (↑l1 : Int) ∧
                                                                                          (↑l1 : Int) ≤
                                                                                            (↑(toN none c4) : Int))
                                                                                        (∀ (base' : Option Addr) (E' : Mem),
                                                                                          Mem.le E'_1 E' →
                                                                                            (∀ (cs : List Value),
                                                                                                E'_1 (Value.slice b4 l4 c4)
                                                                                                    cs →
                                                                                                  E'
                                                                                                    (Value.slice base'
                                                                                                      (toN (some (↑l1 : Int))
                                                                                                          l4 -
                                                                                                        0)
                                                                                                      (toN none c4 - 0))
                                                                                                    (List.take
                                                                                                      ((toN (some (↑l1 : Int))
                                                                                                            l4 -
                                                                                                          0) *
                                                                                                        1)
                                                                                                      (List.drop 0 cs))) →
                                                                                              Option.isNone base' =
                                                                                                  Option.isNone b4 →
                                                                                                ∃ (zs : List Int),
                                                                                                  ((zs = [] ∨
                                                                                                        E'
                                                                                                          (Value.slice base'
                                                                                                            (toN
                                                                                                                (some
                                                                                                                  (↑l1 : Int))
                                                                                                                l4 -
                                                                                                              0)
                                                                                                            (toN none c4 - 0))
                                                                                                          (List.map
                                                                                                            (Value.int
                                                                                                              IntKind.u8)
                                                                                                            zs)) ∧
                                                                                                      List.length zs =
                                                                                                          toN
                                                                                                              (some
                                                                                                                (↑l1 : Int))
                                                                                                              l4 -
                                                                                                            0 ∧
                                                                                                        toN (some (↑l1 : Int))
                                                                                                                l4 -
                                                                                                              0 ≤
                                                                                                            toN none c4 - 0 ∧
                                                                                                          (∀ (z : Int),
                                                                                                              List.Mem z zs →
                                                                                                                0 ≤ z ∧
                                                                                                                  z ≤ 255) ∧
                                                                                                            (base' = none →
                                                                                                              zs = [])) ∧
                                                                                                    ((zs = [] ∨
                                                                                                          E'
                                                                                                            (Value.slice b1 l1
                                                                                                              c1)
                                                                                                            (List.map
                                                                                                              (Value.int
                                                                                                                IntKind.u8)
                                                                                                              zs)) ∧
                                                                                                        List.length zs = l1 ∧
                                                                                                          l1 ≤ c1 ∧
                                                                                                            (∀ (z : Int),
                                                                                                                List.Mem z
                                                                                                                    zs →
                                                                                                                  0 ≤ z ∧
                                                                                                                    z ≤ 255) ∧
                                                                                                              (b1 = none →
                                                                                                                zs = [])) ∧
                                                                                                      toN (some (↑l1 : Int))
                                                                                                              l4 -
                                                                                                            0 ≤
                                                                                                          100000 ∧
                                                                                                        Mem.le E' E' ∧
                                                                                                          Ct WL5 6 Try.f5
                                                                                                            [1, 1, 1, 1, 1, 1,
                                                                                                              1, 1, 1]
                                                                                                            0 (pubK E0 K)
                                                                                                            {
                                                                                                              fr :=
                                                                                                                [some
                                                                                                                    (SV.raw
                                                                                                                      (Value.slice
                                                                                                                        b1 l1
                                                                                                                        c1)),
                                                                                                                  some
                                                                                                                    (SV.raw
                                                                                                                      (Value.slice
                                                                                                                        b2 l2
                                                                                                                        c2)),
                                                                                                                  some
                                                                                                                    (SV.raw
                                                                                                                      (Value.slice
                                                                                                                        b3 l3
                                                                                                                        c3)),
                                                                                                                  some
                                                                                                                    (SV.raw
                                                                                                                      (Value.int
                                                                                                                        IntKind.i64
                                                                                                                        a1)),
                                                                                                                  none, none,
                                                                                                                  none, none,
                                                                                                                  none,
                                                                                                                  some
                                                                                                                    (SV.raw
                                                                                                                      (Value.bool
                                                                                                                        true)),
                                                                                                                  none,
                                                                                                                  some
                                                                                                                    (SV.raw
                                                                                                                      (Value.slice
                                                                                                                        b4 l4
                                                                                                                        c4)),
                                                                                                                  none,
                                                                                                                  some
                                                                                                                    (SV.raw
                                                                                                                      (Value.slice
                                                                                                                        b' l'
                                                                                                                        c')),
                                                                                                                  some
                                                                                                                    (SV.raw
                                                                                                                      (Value.int
                                                                                                                        IntKind.i64
                                                                                                                        end')),
                                                                                                                  some
                                                                                                                    (SV.raw
                                                                                                                      (Value.int
                                                                                                                        IntKind.i64
                                                                                                                        e)),
                                                                                                                  none, none,
                                                                                                                  none, none,
                                                                                                                  none, none,
                                                                                                                  none, none,
                                                                                                                  none, none,
                                                                                                                  none, none,
                                                                                                                  none, none,
                                                                                                                  none, none,
                                                                                                                  none, none,
                                                                                                                  none, none,
                                                                                                                  none, none,
                                                                                                                  none, none,
                                                                                                                  none, none,
                                                                                                                  none, none,
                                                                                                                  none, none,
                                                                                                                  none, none,
                                                                                                                  none, none,
                                                                                                                  none, none,
                                                                                                                  none, none,
                                                                                                                  none, none,
                                                                                                                  none, none,
                                                                                                                  none, none,
                                                                                                                  none,
                                                                                                                  some
                                                                                                                    (SV.tup
                                                                                                                      [SV.raw
                                                                                                                          (Value.slice
                                                                                                                            b'
                                                                                                                            l'
                                                                                                                            c'),
                                                                                                                        SV.raw
                                                                                                                          (Value.int
                                                                                                                            IntKind.i64
                                                                                                                            end'),
                                                                                                                        SV.raw
                                                                                                                          (Value.int
                                                                                                                            IntKind.i64
                                                                                                                            e)]),
                                                                                                                  some
                                                                                                                    (SV.slc 0
                                                                                                                      0 0
                                                                                                                      30000),
                                                                                                                  some
                                                                                                                    (SV.raw
                                                                                                                      (Value.slice
                                                                                                                        b4 l4
                                                                                                                        c4)),
                                                                                                                  some
                                                                                                                    (SV.slc 1
                                                                                                                      0
                                                                                                                      (0 + l4)
                                                                                                                      cap'),
                                                                                                                  some
                                                                                                                    (SV.raw
                                                                                                                      (Value.slice
                                                                                                                        b3 l3
                                                                                                                        c3)),
                                                                                                                  some
                                                                                                                    (SV.slc 2
                                                                                                                      0
                                                                                                                      (0 +
                                                                                                                          l4 +
                                                                                                                        l3)
                                                                                                                      cap'_1),
                                                                                                                  some
                                                                                                                    (SV.raw
                                                                                                                      (Value.slice
                                                                                                                        b1 l1
                                                                                                                        c1)),
                                                                                                                  some
                                                                                                                    (SV.raw
                                                                                                                      (Value.int
                                                                                                                        IntKind.i64
                                                                                                                        (↑l1 :
                                                                                                                          Int))),
                                                                                                                  some
                                                                                                                    (SV.tup
                                                                                                                      [SV.raw
                                                                                                                          (Value.slice
                                                                                                                            b'
                                                                                                                            l'
                                                                                                                            c'),
                                                                                                                        SV.raw
                                                                                                                          (Value.int
                                                                                                                            IntKind.i64
                                                                                                                            end'),
                                                                                                                        SV.raw
                                                                                                                          (Value.int
                                                                                                                            IntKind.i64
                                                                                                                            e)]),
                                                                                                                  some
                                                                                                                    (SV.raw
                                                                                                                      (Value.slice
                                                                                                                        b' l'
                                                                                                                        c')),
                                                                                                                  some
                                                                                                                    (SV.raw
                                                                                                                      (Value.int
                                                                                                                        IntKind.i64
                                                                                                                        end')),
                                                                                                                  some
                                                                                                                    (SV.raw
                                                                                                                      (Value.int
                                                                                                                        IntKind.i64
                                                                                                                        e)),
                                                                                                                  some
                                                                                                                    (SV.raw
                                                                                                                      (Value.bool
                                                                                                                        true)),
                                                                                                                  some
                                                                                                                    (SV.raw
                                                                                                                      (Value.bool
                                                                                                                        true)),
                                                                                                                  some
                                                                                                                    (SV.raw
                                                                                                                      (Value.int
                                                                                                                        IntKind.i64
                                                                                                                        e)),
                                                                                                                  some
                                                                                                                    (SV.raw
                                                                                                                      (Value.bool
                                                                                                                        (e ==
                                                                                                                          0))),
                                                                                                                  some
                                                                                                                    (SV.raw
                                                                                                                      (Value.bool
                                                                                                                        (bif
                                                                                                                            true then
                                                                                                                          e ==
                                                                                                                            0
                                                                                                                        else
                                                                                                                          false))),
                                                                                                                  some
                                                                                                                    (SV.raw
                                                                                                                      (Value.bool
                                                                                                                        true)),
                                                                                                                  some
                                                                                                                    (SV.raw
                                                                                                                      (Value.slice
                                                                                                                        b2 l2
                                                                                                                        c2)),
                                                                                                                  some
                                                                                                                    (SV.raw
                                                                                                                      (Value.slice
                                                                                                                        b' l'
                                                                                                                        c')),
                                                                                                                  some
                                                                                                                    (SV.raw
                                                                                                                      (Value.bool
                                                                                                                        true)),
                                                                                                                  some
                                                                                                                    (SV.raw
                                                                                                                      (Value.bool
                                                                                                                        true)),
                                                                                                                  some
                                                                                                                    (SV.raw
                                                                                                                      (Value.bool
                                                                                                                        true)),
                                                                                                                  some
                                                                                                                    (SV.raw
                                                                                                                      (Value.int
                                                                                                                        IntKind.i64
                                                                                                                        end')),
                                                                                                                  some
                                                                                                                    (SV.raw
                                                                                                                      (Value.slice
                                                                                                                        b4 l4
                                                                                                                        c4)),
                                                                                                                  some
                                                                                                                    (SV.raw
                                                                                                                      (Value.int
                                                                                                                        IntKind.i64
                                                                                                                        (↑l4 :
                                                                                                                          Int))),
                                                                                                                  some
                                                                                                                    (SV.raw
                                                                                                                      (Value.bool
                                                                                                                        (end' ==
                                                                                                                          (↑l4 :
                                                                                                                            Int)))),
                                                                                                                  some
                                                                                                                    (SV.raw
                                                                                                                      (Value.bool
                                                                                                                        (bif
                                                                                                                            true then
                                                                                                                          end' ==
                                                                                                                            (↑l4 :
                                                                                                                              Int)
                                                                                                                        else
                                                                                                                          false))),
                                                                                                                  some
                                                                                                                    (SV.raw
                                                                                                                      (Value.bool
                                                                                                                        true)),
                                                                                                                  some
                                                                                                                    (SV.raw
                                                                                                                      (Value.slice
                                                                                                                        b4 l4
                                                                                                                        c4)),
                                                                                                                  some
                                                                                                                    (SV.raw
                                                                                                                      (Value.slice
                                                                                                                        b1 l1
                                                                                                                        c1)),
                                                                                                                  some
                                                                                                                    (SV.raw
                                                                                                                      (Value.int
                                                                                                                        IntKind.i64
                                                                                                                        (↑l1 :
                                                                                                                          Int))),
                                                                                                                  some
                                                                                                                    (SV.raw
                                                                                                                      (Value.slice
                                                                                                                        base'
                                                                                                                        (toN
                                                                                                                            (some
                                                                                                                              (↑l1 :
                                                                                                                                Int))
                                                                                                                            l4 -
                                                                                                                          0)
                                                                                                                        (toN
                                                                                                                            none
                                                                                                                            c4 -
                                                                                                                          0))),
                                                                                                                  some
                                                                                                                    (SV.raw
                                                                                                                      (Value.slice
                                                                                                                        b1 l1
                                                                                                                        c1)),
                                                                                                                  some
                                                                                                                    (SV.raw
                                                                                                                      (Value.bool
                                                                                                                        true)),
                                                                                                                  some
                                                                                                                    (SV.raw
                                                                                                                      (Value.bool
                                                                                                                        true)),
                                                                                                                  none, none,
                                                                                                                  none, none,
                                                                                                                  none, none,
                                                                                                                  none, none,
                                                                                                                  none, none,
                                                                                                                  none, none,
                                                                                                                  none, none,
                                                                                                                  none, none,
                                                                                                                  none, none,
                                                                                                                  none, none,
                                                                                                                  none, none,
                                                                                                                  none, none,
                                                                                                                  none, none,
                                                                                                                  none, none,
                                                                                                                  none, none,
                                                                                                                  none, none,
                                                                                                                  none, none,
                                                                                                                  none, none,
                                                                                                                  none, none,
                                                                                                                  none, none,
                                                                                                                  none],
                                                                                                              bx :=
                                                                                                                [{ elem := 5,
                                                                                                                    row :=
                                                                                                                      Row.lst
                                                                                                                        [],
                                                                                                                    total :=
                                                                                                                      0,
                                                                                                                    own :=
                                                                                                                      false },
                                                                                                                  { elem := 5,
                                                                                                                    row :=
                                                                                                                      Row.lst
                                                                                                                        [],
                                                                                                                    total :=
                                                                                                                      0,
                                                                                                                    own :=
                                                                                                                      false },
                                                                                                                  { elem := 5,
                                                                                                                    row :=
                                                                                                                      Row.vals
                                                                                                                        (List.take
                                                                                                                            ((0 +
                                                                                                                                l4) *
                                                                                                                              1)
                                                                                                                            (List.take
                                                                                                                                0
                                                                                                                                (zerosV
                                                                                                                                  [Value.int
                                                                                                                                      IntKind.u8
                                                                                                                                      0]
                                                                                                                                  30000) ++
                                                                                                                              List.take
                                                                                                                                (l4 *
                                                                                                                                  1)
                                                                                                                                cs) ++
                                                                                                                          List.take
                                                                                                                            (l3 *
                                                                                                                              1)
                                                                                                                            cs_1),
                                                                                                                    total :=
                                                                                                                      tot',
                                                                                                                    own :=
                                                                                                                      false }],
                                                                                                              E := E' }))
                                                                                  else
                                                                                    Ct WL5 6 Try.f5
                                                                                      [1, 1, 1, 1, 1, 1, 1, 1, 1] 0
                                                                                      (pubK E0 K)
                                                                                      {
                                                                                        fr :=
                                                                                          [some
                                                                                              (SV.raw (Value.slice b1 l1 c1)),
                                                                                            some
                                                                                              (SV.raw (Value.slice b2 l2 c2)),
                                                                                            some
                                                                                              (SV.raw (Value.slice b3 l3 c3)),
                                                                                            some
                                                                                              (SV.raw
                                                                                                (Value.int IntKind.i64 a1)),
                                                                                            none, none, none, none, none,
                                                                                            some (SV.raw (Value.bool false)),
                                                                                            none,
                                                                                            some
                                                                                              (SV.raw (Value.slice b4 l4 c4)),
                                                                                            none,
                                                                                            some
                                                                                              (SV.raw (Value.slice b' l' c')),
                                                                                            some
                                                                                              (SV.raw
                                                                                                (Value.int IntKind.i64 end')),
                                                                                            some
                                                                                              (SV.raw
                                                                                                (Value.int IntKind.i64 e)),
                                                                                            none, none, none, none, none,
                                                                                            none, none, none, none, none,
                                                                                            none, none, none, none, none,
                                                                                            none, none, none, none, none,
                                                                                            none, none, none, none, none,
                                                                                            none, none, none, none, none,
                                                                                            none, none, none, none, none,
                                                                                            none, none, none, none, none,
                                                                                            none, none, none, none, none,
                                                                                            some
                                                                                              (SV.tup
                                                                                                [SV.raw
                                                                                                    (Value.slice b' l' c'),
                                                                                                  SV.raw
                                                                                                    (Value.int IntKind.i64
                                                                                                      end'),
                                                                                                  SV.raw
                                                                                                    (Value.int IntKind.i64
                                                                                                      e)]),
                                                                                            some (SV.slc 0 0 0 30000),
                                                                                            some
                                                                                              (SV.raw (Value.slice b4 l4 c4)),
                                                                                            some (SV.slc 1 0 (0 + l4) cap'),
                                                                                            some
                                                                                              (SV.raw (Value.slice b3 l3 c3)),
                                                                                            some
                                                                                              (SV.slc 2 0 (0 + l4 + l3)
                                                                                                cap'_1),
                                                                                            some
                                                                                              (SV.raw (Value.slice b1 l1 c1)),
                                                                                            some
                                                                                              (SV.raw
                                                                                                (Value.int IntKind.i64
                                                                                                  (↑l1 : Int))),
                                                                                            some
                                                                                              (SV.tup
                                                                                                [SV.raw
                                                                                                    (Value.slice b' l' c'),
                                                                                                  SV.raw
                                                                                                    (Value.int IntKind.i64
                                                                                                      end'),
                                                                                                  SV.raw
                                                                                                    (Value.int IntKind.i64
                                                                                                      e)]),
                                                                                            some
                                                                                              (SV.raw (Value.slice b' l' c')),
                                                                                            some
                                                                                              (SV.raw
                                                                                                (Value.int IntKind.i64 end')),
                                                                                            some
                                                                                              (SV.raw
                                                                                                (Value.int IntKind.i64 e)),
                                                                                            some (SV.raw (Value.bool true)),
                                                                                            some (SV.raw (Value.bool true)),
                                                                                            some
                                                                                              (SV.raw
                                                                                                (Value.int IntKind.i64 e)),
                                                                                            some
                                                                                              (SV.raw (Value.bool (e == 0))),
                                                                                            some
                                                                                              (SV.raw
                                                                                                (Value.bool
                                                                                                  (bif true then e == 0
                                                                                                  else false))),
                                                                                            some (SV.raw (Value.bool true)),
                                                                                            some
                                                                                              (SV.raw (Value.slice b2 l2 c2)),
                                                                                            some
                                                                                              (SV.raw (Value.slice b' l' c')),
                                                                                            some (SV.raw (Value.bool true)),
                                                                                            some (SV.raw (Value.bool true)),
                                                                                            some (SV.raw (Value.bool true)),
                                                                                            some
                                                                                              (SV.raw
                                                                                                (Value.int IntKind.i64 end')),
                                                                                            some
                                                                                              (SV.raw (Value.slice b4 l4 c4)),
                                                                                            some
                                                                                              (SV.raw
                                                                                                (Value.int IntKind.i64
                                                                                                  (↑l4 : Int))),
                                                                                            some
                                                                                              (SV.raw
                                                                                                (Value.bool
                                                                                                  (end' == (↑l4 : Int)))),
                                                                                            some
                                                                                              (SV.raw
                                                                                                (Value.bool
                                                                                                  (bif true then
                                                                                                    end' == (↑l4 : Int)
                                                                                                  else false))),
                                                                                            some (SV.raw (Value.bool false)),
                                                                                            some
                                                                                              (SV.raw
                                                                                                (Value.tuple
                                                                                                  { toList := [] })),
                                                                                            some
                                                                                              (SV.raw
                                                                                                (Value.tuple
                                                                                                  { toList := [] })),
                                                                                            some
                                                                                              (SV.raw
                                                                                                (Value.tuple
                                                                                                  { toList := [] })),
                                                                                            some
                                                                                              (SV.raw
                                                                                                (Value.tuple
                                                                                                  { toList := [] })),
                                                                                            some
                                                                                              (SV.raw
                                                                                                (Value.tuple
                                                                                                  { toList := [] })),
                                                                                            some
                                                                                              (SV.raw
                                                                                                (Value.tuple
                                                                                                  { toList := [] })),
                                                                                            some (SV.raw (Value.bool false)),
                                                                                            none, none, none, none, none,
                                                                                            none, none, none, none, none,
                                                                                            none, none, none, none, none,
                                                                                            none, none, none, none, none,
                                                                                            none, none, none, none, none,
                                                                                            none, none, none, none, none,
                                                                                            none, none, none, none, none,
                                                                                            none, none, none, none, none,
                                                                                            none],
                                                                                        bx :=
                                                                                          [{ elem := 5, row := Row.lst [],
                                                                                              total := 0, own := false },
                                                                                            { elem := 5, row := Row.lst [],
                                                                                              total := 0, own := false },
                                                                                            { elem := 5,
                                                                                              row :=
                                                                                                Row.vals
                                                                                                  (List.take ((0 + l4) * 1)
                                                                                                      (List.take 0
                                                                                                          (zerosV
                                                                                                            [Value.int
                                                                                                                IntKind.u8 0]
                                                                                                            30000) ++
                                                                                                        List.take (l4 * 1)
                                                                                                          cs) ++
                                                                                                    List.take (l3 * 1) cs_1),
                                                                                              total := tot', own := false }],
                                                                                        E := E'_1 }
                                                                      else
                                                                        Ct WL5 6 Try.f5 [1, 1, 1, 1, 1, 1, 1, 1, 1] 0
                                                                          (pubK E0 K)
                                                                          {
                                                                            fr :=
                                                                              [some (SV.raw (Value.slice b1 l1 c1)),
                                                                                some (SV.raw (Value.slice b2 l2 c2)),
                                                                                some (SV.raw (Value.slice b3 l3 c3)),
                                                                                some (SV.raw (Value.int IntKind.i64 a1)),
                                                                                none, none, none, none, none,
                                                                                some (SV.raw (Value.bool false)), none,
                                                                                some (SV.raw (Value.slice b4 l4 c4)), none,
                                                                                some (SV.raw (Value.slice b' l' c')),
                                                                                some (SV.raw (Value.int IntKind.i64 end')),
                                                                                some (SV.raw (Value.int IntKind.i64 e)), none,
                                                                                none, none, none, none, none, none, none,
                                                                                none, none, none, none, none, none, none,
                                                                                none, none, none, none, none, none, none,
                                                                                none, none, none, none, none, none, none,
                                                                                none, none, none, none, none, none, none,
                                                                                none, none, none, none, none, none, none,
                                                                                none, none,
                                                                                some
                                                                                  (SV.tup
                                                                                    [SV.raw (Value.slice b' l' c'),
                                                                                      SV.raw (Value.int IntKind.i64 end'),
                                                                                      SV.raw (Value.int IntKind.i64 e)]),
                                                                                some (SV.slc 0 0 0 30000),
                                                                                some (SV.raw (Value.slice b4 l4 c4)),
                                                                                some (SV.slc 1 0 (0 + l4) cap'),
                                                                                some (SV.raw (Value.slice b3 l3 c3)),
                                                                                some (SV.slc 2 0 (0 + l4 + l3) cap'_1),
                                                                                some (SV.raw (Value.slice b1 l1 c1)),
                                                                                some
                                                                                  (SV.raw
                                                                                    (Value.int IntKind.i64 (↑l1 : Int))),
                                                                                some
                                                                                  (SV.tup
                                                                                    [SV.raw (Value.slice b' l' c'),
                                                                                      SV.raw (Value.int IntKind.i64 end'),
                                                                                      SV.raw (Value.int IntKind.i64 e)]),
                                                                                some (SV.raw (Value.slice b' l' c')),
                                                                                some (SV.raw (Value.int IntKind.i64 end')),
                                                                                some (SV.raw (Value.int IntKind.i64 e)),
                                                                                some (SV.raw (Value.bool true)),
                                                                                some (SV.raw (Value.bool true)),
                                                                                some (SV.raw (Value.int IntKind.i64 e)),
                                                                                some (SV.raw (Value.bool (e == 0))),
                                                                                some
                                                                                  (SV.raw
                                                                                    (Value.bool
                                                                                      (bif true then e == 0 else false))),
                                                                                some (SV.raw (Value.bool false)),
                                                                                some (SV.raw (Value.tuple { toList := [] })),
                                                                                some (SV.raw (Value.tuple { toList := [] })),
                                                                                some (SV.raw (Value.tuple { toList := [] })),
                                                                                some (SV.raw (Value.bool false)),
                                                                                some (SV.raw (Value.bool false)),
                                                                                some (SV.raw (Value.tuple { toList := [] })),
                                                                                some (SV.raw (Value.tuple { toList := [] })),
                                                                                some (SV.raw (Value.tuple { toList := [] })),
                                                                                some (SV.raw (Value.tuple { toList := [] })),
                                                                                some (SV.raw (Value.bool false)),
                                                                                some (SV.raw (Value.bool false)),
                                                                                some (SV.raw (Value.tuple { toList := [] })),
                                                                                some (SV.raw (Value.tuple { toList := [] })),
                                                                                some (SV.raw (Value.tuple { toList := [] })),
                                                                                some (SV.raw (Value.tuple { toList := [] })),
                                                                                some (SV.raw (Value.tuple { toList := [] })),
                                                                                some (SV.raw (Value.tuple { toList := [] })),
                                                                                some (SV.raw (Value.bool false)), none, none,
                                                                                none, none, none, none, none, none, none,
                                                                                none, none, none, none, none, none, none,
                                                                                none, none, none, none, none, none, none,
                                                                                none, none, none, none, none, none, none,
                                                                                none, none, none, none, none, none, none,
                                                                                none, none, none, none],
                                                                            bx :=
                                                                              [{ elem := 5, row := Row.lst [], total := 0,
                                                                                  own := false },
                                                                                { elem := 5, row := Row.lst [], total := 0,
                                                                                  own := false },
                                                                                { elem := 5,
                                                                                  row :=
                                                                                    Row.vals
                                                                                      (List.take ((0 + l4) * 1)
                                                                                          (List.take 0
                                                                                              (zerosV [Value.int IntKind.u8 0]
                                                                                                30000) ++
                                                                                            List.take (l4 * 1) cs) ++
                                                                                        List.take (l3 * 1) cs_1),
                                                                                  total := tot', own := false }],
                                                                            E := E'_1 })))
  have hlen := hB1.2.1
  have hlen2 := hB2.2.1
  have hl4 := hB4.2.1
  simp only [List.length_append] at hl4
  have hd := dig_len7 (zig z2.length)
  obtain ⟨s1, s2, s3⟩ := hB4.src
  obtain ⟨t1, t2, t3⟩ := hB3.src
  have e3 : List.take (l4 * 1) (vB (z1 ++ dig (zig z2.length) ++ z2)) = vB (z1 ++ dig (zig z2.length) ++ z2) := tkB (Nat.le_of_eq hB4.2.1)
  refine ⟨_, s1, s2, s3, Nat.zero_le _, Nat.le_refl _, Nat.zero_le _, req_intro (by omega) ?_⟩
  intro cap1 tot1 q1 q2
  refine ⟨_, t1, t2, t3, ?_, q2, q1, req_intro (by omega) ?_⟩
  · rw [e3]; simp only [Row.cells, List.take_zero, List.nil_append, List.length_map, List.length_append]; omega
  intro cap2 tot2 q3 q4 base E1 hE1 hW
  rw [List.take_zero, List.nil_append, e3, tkB (l := 0 + l4) (by rw [hB4.2.1]; omega), tkB (Nat.le_of_eq hB3.2.1), mapB] at hW
  have hL := Bs.win hW rfl (l := 0 + l4 + l3) (by rw [List.length_append, hB4.2.1, hB3.2.1]; omega) q3 (app_byte (BsB hB4) (BsB hB3))
  refine ⟨_, hL, by omega, fun b6 l6 c6 ys e' e E2 hE2 hy A => ?_⟩
  have hy : rdB (z1 ++ dig (zig z2.length) ++ z2 ++ z3) l1 = (ys, e', e) := hy
  have A : Bs E2 b6 l6 c6 ys := A
  have hr := rdBAt (L := z1 ++ dig (zig z2.length) ++ z2 ++ z3) (pre := z1) (xs := z2) (ts := z3) (p := l1) rfl (by omega) (by omega)
  rw [hr] at hy
  obtain ⟨rfl, hz⟩ := Prod.mk.inj hy
  obtain ⟨rfl, rfl⟩ := Prod.mk.inj hz
  have q12 := Mem.le_trans hE1 hE2
  refine condC (fun _ => ?_) (fun x => absurd x (by simp))
  refine ⟨z2, hB2.mono q12, A, by omega, Mem.le_refl _, ?_⟩
  refine condC (fun _ => ?_) (fun x => absurd x (by simp; omega))
  have hcc := hB4.2.2.1
  refine req_intro hcc (req_intro ⟨by omega, by show (l1 : Int) ≤ c4; omega⟩ ?_)
  intro b5 E3 q5 hF hN
  have hS : Bs E3 b5 (l1 - 0) (c4 - 0) (((z1 ++ dig (zig z2.length) ++ z2).drop 0).take (l1 - 0)) := Bs.sub (hB4.mono q12) hF hN (by omega) (by omega)
  have e6 : ((z1 ++ dig (zig z2.length) ++ z2).drop 0).take (l1 - 0) = z1 := by rw [List.drop_zero, Nat.sub_zero, ← hlen, List.append_assoc, List.take_left]
  rw [e6] at hS
  have hq := Mem.le_trans q12 q5
  exact ⟨z1, hS, hB1.mono hq, by show l1 - 0 ≤ _; omega, Mem.le_refl _, Ct_re [] (Ct_intro okWL5 (pcL5_12 (hB1.mono hq) g1 (Mem.le_trans hE0 hq) (fun E' hE' => h E' (Mem.le_trans hq hE')))) ⟨⟨Nat.zero_le _, Nat.zero_le _, fun j h => absurd h (Nat.not_lt_zero _)⟩, rfl, (by repeat' first | exact True.intro | refine And.intro (Or.inl rfl) ?_), True.intro, (by show List.Nodup []; decide), Mem.le_refl _⟩⟩
theorem e5 {b1 : Option Addr} {l1 : Nat} {c1 : Nat} {z1 : List Int} {b2 : Option Addr} {l2 : Nat} {c2 : Nat} {z2 : List Int} {b3 : Option Addr} {l3 : Nat} {c3 : Nat} {z3 : List Int} {a1 : Int} (hB1 : Bs E b1 l1 c1 z1) (hB2 : Bs E b2 l2 c2 z2) (hB3 : Bs E b3 l3 c3 z3) (ha1 : (Lit.int .i64 a1).wf = true) (h : ∀ E' : Mem, Mem.le E E' → K (B true) E') :
    Ent WL5 6 Try.f5 [L b1 l1 c1, L b2 l2 c2, L b3 l3 c3, I a1] E K := by
  refine same (by kernel_rfl) (?_ : 
      ∀ (E' : Mem),
        Mem.le E E' →
          Mem.le E E' ∧
            bif decide ((↑l1 : Int) ≤ 6000) then
              Mem.le E' E' ∧
                bif !bif true then decide ((↑l2 : Int) ≤ 6000) else false then Mem.le E E' ∧ K (SV.raw (Value.bool true)) E'
                else
                  bif bif false then true else decide ((↑l3 : Int) > 6000) then Mem.le E E' ∧ K (SV.raw (Value.bool true)) E'
                  else
                    ∃ (zs : List Int),
                      ∃ (xs : List Int),
                        ((zs = [] ∨ E' (Value.slice b1 l1 c1) (List.map (Value.int IntKind.u8) zs)) ∧
                            List.length zs = l1 ∧
                              l1 ≤ c1 ∧ (∀ (z : Int), List.Mem z zs → 0 ≤ z ∧ z ≤ 255) ∧ (b1 = none → zs = [])) ∧
                          ((xs = [] ∨ E' (Value.slice b2 l2 c2) (List.map (Value.int IntKind.u8) xs)) ∧
                              List.length xs = l2 ∧
                                l2 ≤ c2 ∧ (∀ (z : Int), List.Mem z xs → 0 ≤ z ∧ z ≤ 255) ∧ (b2 = none → xs = [])) ∧
                            l1 ≤ 10000 ∧
                              ∀ (b' : Option Addr) (l' c' : Nat) (ys : List Int) (e : Int) (E'_1 : Mem),
                                Mem.le E' E'_1 →
                                  Hyp (putB zs xs = (ys, e)) →
                                    (ys = [] ∨ E'_1 (Value.slice b' l' c') (List.map (Value.int IntKind.u8) ys)) ∧
                                        List.length ys = l' ∧
                                          l' ≤ c' ∧ (∀ (z : Int), List.Mem z ys → 0 ≤ z ∧ z ≤ 255) ∧ (b' = none → ys = []) →
                                      Mem.le E' E'_1 ∧
                                        bif decide ((↑l2 : Int) > 4000) then
                                          bif bif true then e == 2 else false then
                                            Mem.le E E'_1 ∧
                                              K (SV.raw (Value.bool (bif true then (↑l' : Int) == 0 else false))) E'_1
                                          else Mem.le E E'_1 ∧ K (SV.raw (Value.bool false)) E'_1
                                        else
                                          bif e != 0 then Mem.le E E'_1 ∧ K (SV.raw (Value.bool false)) E'_1
                                          else
                                            bif bif false then true else decide ((↑l' : Int) ≤ (↑l1 : Int)) then
                                              Mem.le E E'_1 ∧ K (SV.raw (Value.bool false)) E'_1
                                            else
                                              Ct WL5 6 Try.f5 [1, 1, 1, 1, 1, 1, 1] 0 (pubK E K)
                                                {
                                                  fr :=
                                                    [some (SV.raw (Value.slice b1 l1 c1)),
                                                      some (SV.raw (Value.slice b2 l2 c2)),
                                                      some (SV.raw (Value.slice b3 l3 c3)),
                                                      some (SV.raw (Value.int IntKind.i64 a1)), none, none, none, none,
                                                      some (SV.raw (Value.bool false)), some (SV.raw (Value.bool true)),
                                                      some
                                                        (SV.raw
                                                          (Value.bool
                                                            (bif true then decide ((↑l2 : Int) ≤ 6000) else false))),
                                                      some (SV.raw (Value.slice b' l' c')),
                                                      some (SV.raw (Value.int IntKind.i64 e)), none, none, none, none, none,
                                                      none, none, none, some (SV.raw (Value.bool true)),
                                                      some (SV.raw (Value.slice b1 l1 c1)),
                                                      some (SV.raw (Value.slice b2 l2 c2)),
                                                      some
                                                        (SV.raw
                                                          (Value.bool
                                                            (bif true then decide ((↑l2 : Int) ≤ 6000) else false))),
                                                      some
                                                        (SV.raw
                                                          (Value.bool
                                                            (bif true then decide ((↑l2 : Int) ≤ 6000) else false))),
                                                      some
                                                        (SV.raw
                                                          (Value.bool !bif true then decide ((↑l2 : Int) ≤ 6000) else false)),
                                                      some (SV.raw (Value.bool false)), some (SV.raw (Value.slice b3 l3 c3)),
                                                      some (SV.raw (Value.int IntKind.i64 (↑l3 : Int))),
                                                      some (SV.raw (Value.bool (decide ((↑l3 : Int) > 6000)))),
                                                      some
                                                        (SV.raw
                                                          (Value.bool
                                                            (bif false then true else decide ((↑l3 : Int) > 6000)))),
                                                      none,
                                                      some
                                                        (SV.tup
                                                          [SV.raw (Value.slice b' l' c'), SV.raw (Value.int IntKind.i64 e)]),
                                                      some (SV.raw (Value.slice b1 l1 c1)),
                                                      some (SV.raw (Value.slice b2 l2 c2)),
                                                      some
                                                        (SV.tup
                                                          [SV.raw (Value.slice b' l' c'), SV.raw (Value.int IntKind.i64 e)]),
                                                      some (SV.raw (Value.slice b' l' c')),
                                                      some (SV.raw (Value.int IntKind.i64 e)),
                                                      some (SV.raw (Value.slice b2 l2 c2)),
                                                      some (SV.raw (Value.int IntKind.i64 (↑l2 : Int))),
                                                      some (SV.raw (Value.bool (decide ((↑l2 : Int) > 4000)))), none, none,
                                                      none, none, none, none, none, none, none, none,
                                                      some (SV.raw (Value.int IntKind.i64 e)),
                                                      some (SV.raw (Value.bool (e != 0))), some (SV.raw (Value.bool false)),
                                                      some (SV.raw (Value.slice b' l' c')),
                                                      some (SV.raw (Value.int IntKind.i64 (↑l' : Int))),
                                                      some (SV.raw (Value.slice b1 l1 c1)),
                                                      some (SV.raw (Value.int IntKind.i64 (↑l1 : Int))),
                                                      some (SV.raw (Value.bool (decide ((↑l' : Int) ≤ (↑l1 : Int))))),
                                                      some
                                                        (SV.raw
                                                          (Value.bool
                                                            (bif false then true else decide ((↑l' : Int) ≤ (↑l1 : Int))))),
                                                      none, none, none, none, none, none, none, none, none, none, none, none,
                                                      none, none, none, none, none, none, none, none, none, none, none, none,
                                                      none, none, none, none, none, none, none, none, none, none, none, none,
                                                      none, none, none, none, none, none, none, none, none, none, none, none,
                                                      none, none, none, none, none, none, none, none, none, none, none, none,
                                                      none, none, none, none, none, none, none, none, none, none, none, none,
                                                      none, none, none, none, none],
                                                  bx := [], E := E'_1 }
            else Mem.le E' E' ∧ Mem.le E E' ∧ K (SV.raw (Value.bool true)) E')
  intro E1 hE0
  have hlen := hB1.2.1
  have hlen2 := hB2.2.1
  refine ⟨hE0, condC (fun g1 => ?_) (fun g1 => ⟨Mem.le_refl _, hE0, h E1 hE0⟩)⟩
  have g1 : l1 ≤ 6000 := by simp at g1; omega
  refine ⟨Mem.le_refl _, condC (fun _ => ⟨hE0, h E1 hE0⟩) (fun g2 => ?_)⟩
  refine condC (fun _ => ⟨hE0, h E1 hE0⟩) (fun g3 => ?_)
  have g3 : l3 ≤ 6000 := by simp at g3; omega
  refine ⟨_, _, hB1.mono hE0, hB2.mono hE0, by omega, fun b4 l4 c4 ys e E2 q2 hy A => ⟨q2, ?_⟩⟩
  have hy : putB z1 z2 = (ys, e) := hy
  have A : Bs E2 b4 l4 c4 ys := A
  have hq := Mem.le_trans hE0 q2
  refine condC (fun g4 => ?_) (fun g4 => ?_)
  · unfold putB at hy; rw [if_neg (by simp at g4; omega)] at hy
    obtain ⟨rfl, rfl⟩ := Prod.mk.inj hy
    have : l4 = 0 := by have := A.2.1; simp at this; omega
    subst this
    exact condC (fun _ => ⟨hq, h E2 hq⟩) (fun x => absurd x (by simp))
  have g4 : l2 ≤ 4000 := by simp at g4; omega
  have hp : putB z1 z2 = (z1 ++ dig (zig z2.length) ++ z2, 0) := by unfold putB; rw [if_pos (by omega)]
  rw [hp] at hy
  obtain ⟨rfl, rfl⟩ := Prod.mk.inj hy
  have hl4 := A.2.1
  simp only [List.length_append] at hl4
  have hd1 := (dig_len (zig z2.length)).1
  refine condC (fun x => absurd x (by simp)) (fun _ => ?_)
  refine condC (fun x => absurd x (by simp; omega)) (fun _ => ?_)
  exact Ct_from (by repeat' first | exact True.intro | refine And.intro rfl ?_) (Ct_intro okWL5 (pcL5_10 (K := K) (hB1.mono hq) (hB2.mono hq) (hB3.mono hq) A g1 g4 g3 hq (fun E' hE' => h E' (Mem.le_trans hq hE'))))


theorem opn5 (W : World) (K : List SV → Prop) (h : ∀ (b1 : Option Addr) (l1 c1 : Nat) (z1 : List Int), (l1 ≤ c1) → (c1 ≤ maxLen) → (b1 = none → c1 = 0) → (z1.length = c1) → (∀ x ∈ z1, (Lit.int .u8 x).wf = true) → RowAt W (.slice b1 l1 c1) (z1.map (.int .u8)) → ∀ (b2 : Option Addr) (l2 c2 : Nat) (z2 : List Int), (l2 ≤ c2) → (c2 ≤ maxLen) → (b2 = none → c2 = 0) → (z2.length = c2) → (∀ x ∈ z2, (Lit.int .u8 x).wf = true) → RowAt W (.slice b2 l2 c2) (z2.map (.int .u8)) → ∀ (b3 : Option Addr) (l3 c3 : Nat) (z3 : List Int), (l3 ≤ c3) → (c3 ≤ maxLen) → (b3 = none → c3 = 0) → (z3.length = c3) → (∀ x ∈ z3, (Lit.int .u8 x).wf = true) → RowAt W (.slice b3 l3 c3) (z3.map (.int .u8)) → ∀ a1 : Int, (Lit.int .i64 a1).wf = true → K [L b1 l1 c1, L b2 l2 c2, L b3 l3 c3, I a1]) : opnAll Try.prog W Try.f5.params.toList K :=
  same (by kernel_rfl) h

theorem sem5 (W : World) : opnAll Try.prog W Try.f5.params.toList fun ss => TabSem Try.prog 5 ss (fun v cs => RowAt W v cs) fun r _ => r = .raw (.bool true) := by
  refine opn5 W _ ?_
  intro b1 l1 c1 z1 hl1 hc1 hb1 hz1 hw1 hE1 b2 l2 c2 z2 hl2 hc2 hb2 hz2 hw2 hE2 b3 l3 c3 z3 hl3 hc3 hb3 hz3 hw3 hE3 a1 ha1
  exact Ent.sem okWL5 Try.func5 ⟨by kernel_rfl, by kernel_rfl⟩ rfl (e5 (Bs.of hl1 hb1 hz1 hw1 hE1) (Bs.of hl2 hb2 hz2 hw2 hE2) (Bs.of hl3 hb3 hz3 hw3 hE3) ha1 (fun _ _ => rfl))

theorem lifted5 (os : Os) (started : os.Started) (H : Type) (enc : TypeId × Value → H) :
    ReturnsInHanded {} Try.checked os 5 .any (Rows.wireBytesSpec.pre6 enc Try.prog Try.f5 Rows.wireBytesRow.domain false) (Rows.wireBytesSpec.post enc Try.prog Try.f5 false true false false) :=
  lift_true (C := Try.checked) (by kernel_rfl) (by kernel_rfl) started (by kernel_rfl) Try.func5
    (ChangeSpec.witness6 (enc := enc) (C := Try.checked) false ⟨#[], #[.slice none 0 0, .slice none 0 0, .slice none 0 0, .int .i64 0], []⟩ 8 (by kernel_rfl) (by kernel_rfl) (by kernel_rfl) (by kernel_rfl))
    (Tb := 4) (by kernel_rfl) (by kernel_rfl) (by kernel_rfl) rfl
    (fun ds hl => by
      match ds, hl with
      | [d0, d1, d2, d3], _ => exact ⟨rfl, rfl, rfl⟩)
    sem5

theorem over5 : Rows.wireBytesRow.holds Try.pinned (OpenSpec.ofChange Rows.wireBytesSpec) :=
  OpenClaim.holds_of_wide 5 Try.f5 rfl rfl rfl rfl rfl rfl rfl ⟨rfl, rfl, rfl, rfl, rfl⟩ rfl rfl rfl rfl rfl (by kernel_rfl) Try.func5 (by kernel_rfl)
    (of_decide_eq_true (by kernel_rfl)) (by unfold Func.isWrapper; first | (rw [if_pos (by decide +kernel)]; kernel_rfl) | (rw [if_neg (by decide +kernel)]; exact ⟨rfl, rfl⟩))
    (fun os started H enc _ => lifted5 os started H enc)

theorem proved5 : Rows.WireBytesSaid := over5
end Go.Proofs.Ytjlpfhekhpebpaa.WireOwn
