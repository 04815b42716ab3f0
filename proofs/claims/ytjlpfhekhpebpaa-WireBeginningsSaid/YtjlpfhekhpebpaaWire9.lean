/- The wire package: what its functions answer. -/
import Derived.Test.YtjlpfhekhpebpaaWire8
namespace Go.Proofs.Ytjlpfhekhpebpaa.WireOwn
open Go Go.Sx
set_option maxRecDepth 100000
set_option maxHeartbeats 4000000
set_option linter.unusedVariables false
set_option linter.unusedSimpArgs false
variable {E : Mem} {K : SV → Mem → Prop}

def pk (k f t a y : Int) (zs : List Int) : List Int × Int := if okF k f t a y ∧ zs.length ≤ 4000 then (dig (zig k) ++ dig (zig f) ++ dig (zig t) ++ dig (zig a) ++ dig (zig y) ++ dig (zig zs.length) ++ zs, 0) else ([], 1)
noncomputable def tab10 : FuncId → List SV → Mem → (SV → Mem → Prop) → Prop := fun f args E K => match f with
  | 31 => d1 args fun x0 => dI x0 fun a1 => (-10000000000000 ≤ a1 ∧ a1 ≤ 10000000000000) ∧ (K (I (zig a1)) E)
  | 38 => d2 args fun x0 x1 => dI x0 fun a1 => dC x1 fun l1 => d2 l1 fun x1_0 x1_1 => dI x1_0 fun a2 => dI x1_1 fun a3 => (K (B (decide (a2 ≤ a1 ∧ a1 ≤ a3))) E)
  | _ => False
theorem tab10_ok : TabOK Try.prog tab10 := by
  intro f args E K h
  unfold tab10 at h
  split at h
  · obtain ⟨x0, rfl, h⟩ := d1_elim h
    obtain ⟨a1, rfl, h⟩ := dI_elim h
    obtain ⟨g0, h⟩ := h
    exact TabSem.congr (valL_cons rfl rfl) (Ent.sem okW0 Try.func31 ⟨by kernel_rfl, by kernel_rfl⟩ rfl (s31 g0 h))
  · obtain ⟨x0, x1, rfl, h⟩ := d2_elim h
    obtain ⟨a1, rfl, h⟩ := dI_elim h
    obtain ⟨l1, hl1, h⟩ := dC_elim h
    obtain ⟨x1_0, x1_1, rfl, h⟩ := d2_elim h
    obtain ⟨a2, rfl, h⟩ := dI_elim h
    obtain ⟨a3, rfl, h⟩ := dI_elim h
    exact TabSem.congr (valL_cons rfl (valL_cons (asCells_val hl1) rfl)) (Ent.sem okWB Try.func38 ⟨by kernel_rfl, by kernel_rfl⟩ rfl (s38 h))
  · exact h.elim
noncomputable def tab11 : FuncId → List SV → Mem → (SV → Mem → Prop) → Prop := fun f args E K => match f with
  | 34 => d1 args fun x0 => dI x0 fun a1 => okN a1 ∧ (∀ (b' : Option Addr) (l' c' : Nat) (ys : List Int) (E' : Mem), Mem.le E E' → Hyp (dig (zig a1) = ys) → Bs E' b' l' c' ys → K (L b' l' c') E')
  | 40 => d1 args fun x0 => dC x0 fun l1 => d6 l1 fun x0_0 x0_1 x0_2 x0_3 x0_4 x0_5 => dI x0_0 fun a1 => dI x0_1 fun a2 => dI x0_2 fun a3 => dI x0_3 fun a4 => dI x0_4 fun a5 => dS x0_5 fun b6 l7 c8 => (∀ r : Bool, Hyp (decide (okF a1 a2 a3 a4 a5 ∧ l7 ≤ 4000) = r) → K (B r) E)
  | 18 => d2 args fun x0 x1 => dS x0 fun b1 l2 c3 => dS x1 fun b4 l5 c6 => ∃ (zs : List Int) (xs : List Int), Bs E b1 l2 c3 zs ∧ Bs E b4 l5 c6 xs ∧ l2 ≤ 10000 ∧ (∀ (b' : Option Addr) (l' c' : Nat) (ys : List Int) (e : Int) (E' : Mem), Mem.le E E' → Hyp (putB zs xs = (ys, e)) → Bs E' b' l' c' ys → K (.tup [L b' l' c', I e]) E')
  | _ => False
theorem tab11_ok : TabOK Try.prog tab11 := by
  intro f args E K h
  unfold tab11 at h
  split at h
  · obtain ⟨x0, rfl, h⟩ := d1_elim h
    obtain ⟨a1, rfl, h⟩ := dI_elim h
    obtain ⟨g0, h⟩ := h
    exact TabSem.congr (valL_cons rfl rfl) (Ent.sem okW4 Try.func34 ⟨by kernel_rfl, by kernel_rfl⟩ rfl (s34 g0 h))
  · obtain ⟨x0, rfl, h⟩ := d1_elim h
    obtain ⟨l1, hl1, h⟩ := dC_elim h
    obtain ⟨x0_0, x0_1, x0_2, x0_3, x0_4, x0_5, rfl, h⟩ := d6_elim h
    obtain ⟨a1, rfl, h⟩ := dI_elim h
    obtain ⟨a2, rfl, h⟩ := dI_elim h
    obtain ⟨a3, rfl, h⟩ := dI_elim h
    obtain ⟨a4, rfl, h⟩ := dI_elim h
    obtain ⟨a5, rfl, h⟩ := dI_elim h
    obtain ⟨b6, l7, c8, rfl, h⟩ := dS_elim h
    exact TabSem.congr (valL_cons (asCells_val hl1) rfl) (Ent.sem okWD Try.func40 ⟨by kernel_rfl, by kernel_rfl⟩ rfl (s40 h))
  · obtain ⟨x0, x1, rfl, h⟩ := d2_elim h
    obtain ⟨b1, l2, c3, rfl, h⟩ := dS_elim h
    obtain ⟨b4, l5, c6, rfl, h⟩ := dS_elim h
    obtain ⟨zs, xs, g0, g1, g2, h⟩ := h
    exact TabSem.congr (valL_cons rfl (valL_cons rfl rfl)) (Ent.sem okW5 Try.func18 ⟨by kernel_rfl, by kernel_rfl⟩ rfl (s18 g0 g1 g2 h))
  · exact h.elim
noncomputable def WE : Cx := { P := Try.prog, inl := fun f => List.contains [37, 39] f, tab := tab10, isB := fun f => f == 29, tabB := tabB1, opt := { unroll := 6, carry := [] }, muts := (fun o => match o with | .call { callee := .value (.func 39), .. } => true | .buildSlice .. => true | o => mutsD o) }
theorem okWE : CxOK WE := ⟨tab10_ok, by kernel_rfl, okInl (by kernel_rfl), tabB1_ok⟩
noncomputable def WF : Cx := { P := Try.prog, inl := fun f => List.contains [41] f, tab := tab11, isB := fun _ => false, tabB := fun _ _ _ _ _ => False, opt := { unroll := 6, carry := [] }, muts := mutsD }
theorem okWF : CxOK WF := ⟨tab11_ok, by kernel_rfl, okInl (by kernel_rfl), fun _ _ _ _ _ h => h.elim⟩
theorem pk_bad {k f t a y : Int} {zs : List Int} (h : ¬ (okF k f t a y ∧ zs.length ≤ 4000)) : pk k f t a y zs = ([], 1) := if_neg h
theorem pk_ok {k f t a y : Int} {zs : List Int} (h : okF k f t a y ∧ zs.length ≤ 4000) : pk k f t a y zs = (dig (zig k) ++ dig (zig f) ++ dig (zig t) ++ dig (zig a) ++ dig (zig y) ++ dig (zig zs.length) ++ zs, 0) := if_pos h
theorem s21 {a1 : Int} {a2 : Int} {a3 : Int} {a4 : Int} {a5 : Int} {b6 : Option Addr} {l7 : Nat} {c8 : Nat} {zs : List Int} (h0 : Bs E b6 l7 c8 zs) (h1 : l7 ≤ 100000) (h : ∀ (b' : Option Addr) (l' c' : Nat) (ys : List Int) (e : Int) (E' : Mem), Mem.le E E' → Hyp (pk a1 a2 a3 a4 a5 zs = (ys, e)) → Bs E' b' l' c' ys → K (.tup [L b' l' c', I e]) E') :
    Ent WE 6 Try.f21 [.agg [I a1, I a2, I a3, I a4, I a5, L b6 l7 c8]] E K := by
  refine same (by kernel_rfl) (?_ : 
      Mem.le E E ∧
        Mem.le E E ∧
          bif !decide (1 ≤ a1 ∧ a1 ≤ 4) then
            Mem.le E E ∧ K (SV.tup [SV.raw (Value.slice none 0 0), SV.raw (Value.int IntKind.i64 1)]) E
          else
            Mem.le E E ∧
              bif !decide (0 ≤ a2 ∧ a2 ≤ 59) then
                Mem.le E E ∧ K (SV.tup [SV.raw (Value.slice none 0 0), SV.raw (Value.int IntKind.i64 1)]) E
              else
                Mem.le E E ∧
                  bif !decide (-1 ≤ a3 ∧ a3 ≤ 59) then
                    Mem.le E E ∧ K (SV.tup [SV.raw (Value.slice none 0 0), SV.raw (Value.int IntKind.i64 1)]) E
                  else
                    Mem.le E E ∧
                      bif !decide (0 ≤ a4 ∧ a4 ≤ 1000000000) then
                        Mem.le E E ∧ K (SV.tup [SV.raw (Value.slice none 0 0), SV.raw (Value.int IntKind.i64 1)]) E
                      else
                        Mem.le E E ∧
                          bif !decide (0 ≤ a5 ∧ a5 ≤ 2000000) then
                            Mem.le E E ∧ K (SV.tup [SV.raw (Value.slice none 0 0), SV.raw (Value.int IntKind.i64 1)]) E
                          else
                            bif decide ((↑l7 : Int) > 4000) then
                              Mem.le E E ∧ K (SV.tup [SV.raw (Value.slice none 0 0), SV.raw (Value.int IntKind.i64 1)]) E
                            else
                              (-10000000000000 ≤ a1 ∧ a1 ≤ 10000000000000) ∧
                                Mem.le E E ∧
                                  (0 ≤ zig a1 ∧ zig a1 < 1152921504606846976) ∧
                                    ∀ (cap' tot' : Nat),
                                      List.length (dig (zig a1)) ≤ cap' →
                                        cap' ≤ tot' →
                                          Mem.le E E ∧
                                            (-10000000000000 ≤ a2 ∧ a2 ≤ 10000000000000) ∧
                                              Mem.le E E ∧
                                                (0 ≤ zig a2 ∧ zig a2 < 1152921504606846976) ∧
                                                  ∃ (l : List Int),
                                                    (5 = 5 ∧
                                                        vB (dig (zig a1)) = vB l ∧
                                                          List.length l = List.length (dig (zig a1)) ∧
                                                            List.length (dig (zig a1)) ≤ cap' ∧
                                                              cap' ≤ tot' ∧ List.length (dig (zig a1)) ≤ 1000000) ∧
                                                      ∀ (cap' tot' : Nat),
                                                        List.length (dig (zig a1)) + List.length (dig (zig a2)) ≤ cap' →
                                                          cap' ≤ tot' →
                                                            (-10000000000000 ≤ a3 ∧ a3 ≤ 10000000000000) ∧
                                                              Mem.le E E ∧
                                                                (0 ≤ zig a3 ∧ zig a3 < 1152921504606846976) ∧
                                                                  ∃ (l_1 : List Int),
                                                                    (5 = 5 ∧
                                                                        vB (l ++ dig (zig a2)) = vB l_1 ∧
                                                                          List.length l_1 =
                                                                              List.length (dig (zig a1)) +
                                                                                List.length (dig (zig a2)) ∧
                                                                            List.length (dig (zig a1)) +
                                                                                  List.length (dig (zig a2)) ≤
                                                                                cap' ∧
                                                                              cap' ≤ tot' ∧
                                                                                List.length (dig (zig a1)) +
                                                                                    List.length (dig (zig a2)) ≤
                                                                                  1000000) ∧
                                                                      ∀ (cap' tot' : Nat),
                                                                        List.length (dig (zig a1)) +
                                                                                List.length (dig (zig a2)) +
                                                                              List.length (dig (zig a3)) ≤
                                                                            cap' →
                                                                          cap' ≤ tot' →
                                                                            (-10000000000000 ≤ a4 ∧ a4 ≤ 10000000000000) ∧
                                                                              Mem.le E E ∧
                                                                                (0 ≤ zig a4 ∧ zig a4 < 1152921504606846976) ∧
                                                                                  ∃ (l : List Int),
                                                                                    (5 = 5 ∧
                                                                                        vB (l_1 ++ dig (zig a3)) = vB l ∧
                                                                                          List.length l =
                                                                                              List.length (dig (zig a1)) +
                                                                                                  List.length (dig (zig a2)) +
                                                                                                List.length (dig (zig a3)) ∧
                                                                                            List.length (dig (zig a1)) +
                                                                                                    List.length
                                                                                                      (dig (zig a2)) +
                                                                                                  List.length (dig (zig a3)) ≤
                                                                                                cap' ∧
                                                                                              cap' ≤ tot' ∧
                                                                                                List.length (dig (zig a1)) +
                                                                                                      List.length
                                                                                                        (dig (zig a2)) +
                                                                                                    List.length
                                                                                                      (dig (zig a3)) ≤
                                                                                                  1000000) ∧
                                                                                      ∀ (cap' tot' : Nat),
                                                                                        List.length (dig (zig a1)) +
                                                                                                  List.length (dig (zig a2)) +
                                                                                                List.length (dig (zig a3)) +
                                                                                              List.length (dig (zig a4)) ≤
                                                                                            cap' →
                                                                                          cap' ≤ tot' →
                                                                                            (-10000000000000 ≤ a5 ∧
                                                                                                a5 ≤ 10000000000000) ∧
                                                                                              Mem.le E E ∧
                                                                                                (0 ≤ zig a5 ∧
                                                                                                    zig a5 <
                                                                                                      1152921504606846976) ∧
                                                                                                  ∃ (l_2 : List Int),
                                                                                                    (5 = 5 ∧
                                                                                                        vB
                                                                                                              (l ++
                                                                                                                dig
                                                                                                                  (zig a4)) =
                                                                                                            vB l_2 ∧
                                                                                                          List.length l_2 =
                                                                                                              List.length
                                                                                                                      (dig
                                                                                                                        (zig
                                                                                                                          a1)) +
                                                                                                                    List.length
                                                                                                                      (dig
                                                                                                                        (zig
                                                                                                                          a2)) +
                                                                                                                  List.length
                                                                                                                    (dig
                                                                                                                      (zig
                                                                                                                        a3)) +
                                                                                                                List.length
                                                                                                                  (dig
                                                                                                                    (zig
                                                                                                                      a4)) ∧
                                                                                                            List.length
                                                                                                                        (dig
                                                                                                                          (zig
                                                                                                                            a1)) +
                                                                                                                      List.length
                                                                                                                        (dig
                                                                                                                          (zig
                                                                                                                            a2)) +
                                                                                                                    List.length
                                                                                                                      (dig
                                                                                                                        (zig
                                                                                                                          a3)) +
                                                                                                                  List.length
                                                                                                                    (dig
                                                                                                                      (zig
                                                                                                                        a4)) ≤
                                                                                                                cap' ∧
                                                                                                              cap' ≤ tot' ∧
                                                                                                                List.length
                                                                                                                          (dig
                                                                                                                            (zig
                                                                                                                              a1)) +
                                                                                                                        List.length
                                                                                                                          (dig
                                                                                                                            (zig
                                                                                                                              a2)) +
                                                                                                                      List.length
                                                                                                                        (dig
                                                                                                                          (zig
                                                                                                                            a3)) +
                                                                                                                    List.length
                                                                                                                      (dig
                                                                                                                        (zig
                                                                                                                          a4)) ≤
                                                                                                                  1000000) ∧
                                                                                                      ∀ (cap' tot' : Nat),
                                                                                                        List.length
                                                                                                                      (dig
                                                                                                                        (zig
                                                                                                                          a1)) +
                                                                                                                    List.length
                                                                                                                      (dig
                                                                                                                        (zig
                                                                                                                          a2)) +
                                                                                                                  List.length
                                                                                                                    (dig
                                                                                                                      (zig
                                                                                                                        a3)) +
                                                                                                                List.length
                                                                                                                  (dig
                                                                                                                    (zig
                                                                                                                      a4)) +
                                                                                                              List.length
                                                                                                                (dig
                                                                                                                  (zig a5)) ≤
                                                                                                            cap' →
                                                                                                          cap' ≤ tot' →
                                                                                                            Sx.Alike
                                                                                                              (AlikeT.n
                                                                                                                (AlikeT.n
                                                                                                                  AlikeT.l
                                                                                                                  AlikeT.l)
                                                                                                                AlikeT.l)
                                                                                                              ((-10000000000000 ≤
                                                                                                                    (↑l7 :
                                                                                                                      Int) ∧
                                                                                                                  (↑l7 :
                                                                                                                      Int) ≤
                                                                                                                    10000000000000) ∧
                                                                                                                Mem.le E E ∧
                                                                                                                  (0 ≤
                                                                                                                        zig
                                                                                                                          (↑l7 :
                                                                                                                            Int) ∧
                                                                                                                      zig
                                                                                                                          (↑l7 :
                                                                                                                            Int) <
                                                                                                                        1152921504606846976) ∧
                                                                                                                    ∃ (l :
                                                                                                                      List
                                                                                                                        Int),
                                                                                                                      (5 = 5 ∧
                                                                                                                          vB
                                                                                                                                (l_2 ++
                                                                                                                                  dig
                                                                                                                                    (zig
                                                                                                                                      a5)) =
                                                                                                                              vB
                                                                                                                                l ∧
                                                                                                                            List.length
                                                                                                                                  l =
                                                                                                                                List.length
                                                                                                                                          (dig
                                                                                                                                            (zig
                                                                                                                                              a1)) +
                                                                                                                                        List.length
                                                                                                                                          (dig
                                                                                                                                            (zig
                                                                                                                                              a2)) +
                                                                                                                                      List.length
                                                                                                                                        (dig
                                                                                                                                          (zig
                                                                                                                                            a3)) +
                                                                                                                                    List.length
                                                                                                                                      (dig
                                                                                                                                        (zig
                                                                                                                                          a4)) +
                                                                                                                                  List.length
                                                                                                                                    (dig
                                                                                                                                      (zig
                                                                                                                                        a5)) ∧
                                                                                                                              List.length
                                                                                                                                            (dig
                                                                                                                                              (zig
                                                                                                                                                a1)) +
                                                                                                                                          List.length
                                                                                                                                            (dig
                                                                                                                                              (zig
                                                                                                                                                a2)) +
                                                                                                                                        List.length
                                                                                                                                          (dig
                                                                                                                                            (zig
                                                                                                                                              a3)) +
                                                                                                                                      List.length
                                                                                                                                        (dig
                                                                                                                                          (zig
                                                                                                                                            a4)) +
                                                                                                                                    List.length
                                                                                                                                      (dig
                                                                                                                                        (zig
                                                                                                                                          a5)) ≤
                                                                                                                                  cap' ∧
                                                                                                                                cap' ≤
                                                                                                                                    tot' ∧
                                                                                                                                  List.length
                                                                                                                                              (dig
                                                                                                                                                (zig
                                                                                                                                                  a1)) +
                                                                                                                                            List.length
                                                                                                                                              (dig
                                                                                                                                                (zig
                                                                                                                                                  a2)) +
                                                                                                                                          List.length
                                                                                                                                            (dig
                                                                                                                                              (zig
                                                                                                                                                a3)) +
                                                                                                                                        List.length
                                                                                                                                          (dig
                                                                                                                                            (zig
                                                                                                                                              a4)) +
                                                                                                                                      List.length
                                                                                                                                        (dig
                                                                                                                                          (zig
                                                                                                                                            a5)) ≤
                                                                                                                                    1000000) ∧
                                                                                                                        ∀
                                                                                                                          (cap'
                                                                                                                            tot' :
                                                                                                                            Nat),
                                                                                                                          List.length
                                                                                                                                          (dig
                                                                                                                                            (zig
                                                                                                                                              a1)) +
                                                                                                                                        List.length
                                                                                                                                          (dig
                                                                                                                                            (zig
                                                                                                                                              a2)) +
                                                                                                                                      List.length
                                                                                                                                        (dig
                                                                                                                                          (zig
                                                                                                                                            a3)) +
                                                                                                                                    List.length
                                                                                                                                      (dig
                                                                                                                                        (zig
                                                                                                                                          a4)) +
                                                                                                                                  List.length
                                                                                                                                    (dig
                                                                                                                                      (zig
                                                                                                                                        a5)) +
                                                                                                                                List.length
                                                                                                                                  (dig
                                                                                                                                    (zig
                                                                                                                                      (↑l7 :
                                                                                                                                        Int))) ≤
                                                                                                                              cap' →
                                                                                                                            cap' ≤
                                                                                                                                tot' →
                                                                                                                              ∃
                                                                                                                                (cs
                                                                                                                                :
                                                                                                                                List
                                                                                                                                  Value),
                                                                                                                                (cs =
                                                                                                                                      [] ∨
                                                                                                                                    E
                                                                                                                                      (Value.slice
                                                                                                                                        b6
                                                                                                                                        l7
                                                                                                                                        c8)
                                                                                                                                      cs) ∧
                                                                                                                                  l7 *
                                                                                                                                        1 ≤
                                                                                                                                      List.length
                                                                                                                                        cs ∧
                                                                                                                                    (∀
                                                                                                                                        (x :
                                                                                                                                          Value),
                                                                                                                                        List.Mem
                                                                                                                                            x
                                                                                                                                            cs →
                                                                                                                                          Value.oneCell'
                                                                                                                                              x =
                                                                                                                                            true) ∧
                                                                                                                                      (List.length
                                                                                                                                                        (dig
                                                                                                                                                          (zig
                                                                                                                                                            a1)) +
                                                                                                                                                      List.length
                                                                                                                                                        (dig
                                                                                                                                                          (zig
                                                                                                                                                            a2)) +
                                                                                                                                                    List.length
                                                                                                                                                      (dig
                                                                                                                                                        (zig
                                                                                                                                                          a3)) +
                                                                                                                                                  List.length
                                                                                                                                                    (dig
                                                                                                                                                      (zig
                                                                                                                                                        a4)) +
                                                                                                                                                List.length
                                                                                                                                                  (dig
                                                                                                                                                    (zig
                                                                                                                                                      a5)) +
                                                                                                                                              List.length
                                                                                                                                                (dig
                                                                                                                                                  (zig
                                                                                                                                                    (↑l7 :
                                                                                                                                                      Int)))) *
                                                                                                                                            1 ≤
                                                                                                                                          List.length
                                                                                                                                            (Row.cells
                                                                                                                                              (Row.vals
                                                                                                                                                (vB
                                                                                                                                                  (l ++
                                                                                                                                                    dig
                                                                                                                                                      (zig
                                                                                                                                                        (↑l7 :
                                                                                                                                                          Int)))))) ∧
                                                                                                                                        cap' *
                                                                                                                                              1 ≤
                                                                                                                                            tot' ∧
                                                                                                                                          List.length
                                                                                                                                                          (dig
                                                                                                                                                            (zig
                                                                                                                                                              a1)) +
                                                                                                                                                        List.length
                                                                                                                                                          (dig
                                                                                                                                                            (zig
                                                                                                                                                              a2)) +
                                                                                                                                                      List.length
                                                                                                                                                        (dig
                                                                                                                                                          (zig
                                                                                                                                                            a3)) +
                                                                                                                                                    List.length
                                                                                                                                                      (dig
                                                                                                                                                        (zig
                                                                                                                                                          a4)) +
                                                                                                                                                  List.length
                                                                                                                                                    (dig
                                                                                                                                                      (zig
                                                                                                                                                        a5)) +
                                                                                                                                                List.length
                                                                                                                                                  (dig
                                                                                                                                                    (zig
                                                                                                                                                      (↑l7 :
                                                                                                                                                        Int))) ≤
                                                                                                                                              cap' ∧
                                                                                                                                            req
                                                                                                                                              ((List.length
                                                                                                                                                                (dig
                                                                                                                                                                  (zig
                                                                                                                                                                    a1)) +
                                                                                                                                                              List.length
                                                                                                                                                                (dig
                                                                                                                                                                  (zig
                                                                                                                                                                    a2)) +
                                                                                                                                                            List.length
                                                                                                                                                              (dig
                                                                                                                                                                (zig
                                                                                                                                                                  a3)) +
                                                                                                                                                          List.length
                                                                                                                                                            (dig
                                                                                                                                                              (zig
                                                                                                                                                                a4)) +
                                                                                                                                                        List.length
                                                                                                                                                          (dig
                                                                                                                                                            (zig
                                                                                                                                                              a5)) +
                                                                                                                                                      List.length
                                                                                                                                                        (dig
                                                                                                                                                          (zig
                                                                                                                                                            (↑l7 :
                                                                                                                                                              Int))) +
                                                                                                                                                    l7) *
                                                                                                                                                  1 ≤
                                                                                                                                                140737488355328)
                                                                                                                                              (∀
                                                                                                                                                (cap'
                                                                                                                                                  tot' :
                                                                                                                                                  Nat),
                                                                                                                                                List.length
                                                                                                                                                                  (dig
                                                                                                                                                                    (zig
                                                                                                                                                                      a1)) +
                                                                                                                                                                List.length
                                                                                                                                                                  (dig
                                                                                                                                                                    (zig
                                                                                                                                                                      a2)) +
                                                                                                                                                              List.length
                                                                                                                                                                (dig
                                                                                                                                                                  (zig
                                                                                                                                                                    a3)) +
                                                                                                                                                            List.length
                                                                                                                                                              (dig
                                                                                                                                                                (zig
                                                                                                                                                                  a4)) +
                                                                                                                                                          List.length
                                                                                                                                                            (dig
                                                                                                                                                              (zig
                                                                                                                                                                a5)) +
                                                                                                                                                        List.length
                                                                                                                                                          (dig
                                                                                                                                                            (zig
                                                                                                                                                              (↑l7 :
                                                                                                                                                                Int))) +
                                                                                                                                                      l7 ≤
                                                                                                                                                    cap' →
                                                                                                                                                  cap' *
                                                                                                                                                        1 ≤
                                                                                                                                                      tot' →
                                                                                                                                                    ∀
                                                                                                                                                      (base :
                                                                                                                                                        Option
                                                                                                                                                          Addr)
                                                                                                                                                      (E' :
                                                                                                                                                        Mem),
                                                                                                                                                      Mem.le
                                                                                                                                                          E
                                                                                                                                                          E' →
                                                                                                                                                        WinE
                                                                                                                                                            E'
                                                                                                                                                            base
                                                                                                                                                            (List.take
                                                                                                                                                                ((List.length
                                                                                                                                                                              (dig
                                                                                                                                                                                (zig
                                                                                                                                                                                  a1)) +
                                                                                                                                                                            List.length
                                                                                                                                                                              (dig
                                                                                                                                                                                (zig
                                                                                                                                                                                  a2)) +
                                                                                                                                                                          List.length
                                                                                                                                                                            (dig
                                                                                                                                                                              (zig
                                                                                                                                                                                a3)) +
                                                                                                                                                                        List.length
                                                                                                                                                                          (dig
                                                                                                                                                                            (zig
                                                                                                                                                                              a4)) +
                                                                                                                                                                      List.length
                                                                                                                                                                        (dig
                                                                                                                                                                          (zig
                                                                                                                                                                            a5)) +
                                                                                                                                                                    List.length
                                                                                                                                                                      (dig
                                                                                                                                                                        (zig
                                                                                                                                                                          (↑l7 :
                                                                                                                                                                            Int)))) *
                                                                                                                                                                  1)
                                                                                                                                                                (vB
                                                                                                                                                                  (l ++
                                                                                                                                                                    dig
                                                                                                                                                                      (zig
                                                                                                                                                                        (↑l7 :
                                                                                                                                                                          Int)))) ++
                                                                                                                                                              List.take
                                                                                                                                                                (l7 *
                                                                                                                                                                  1)
                                                                                                                                                                cs) →
                                                                                                                                                          Mem.le
                                                                                                                                                              E
                                                                                                                                                              E' ∧
                                                                                                                                                            K
                                                                                                                                                              (SV.tup
                                                                                                                                                                [SV.raw
                                                                                                                                                                    (Value.slice
                                                                                                                                                                      (Option.map
                                                                                                                                                                        (fun
                                                                                                                                                                            (x :
                                                                                                                                                                              Addr) =>
                                                                                                                                                                          Addr.add
                                                                                                                                                                            x
                                                                                                                                                                            0)
                                                                                                                                                                        base)
                                                                                                                                                                      (List.length
                                                                                                                                                                                    (dig
                                                                                                                                                                                      (zig
                                                                                                                                                                                        a1)) +
                                                                                                                                                                                  List.length
                                                                                                                                                                                    (dig
                                                                                                                                                                                      (zig
                                                                                                                                                                                        a2)) +
                                                                                                                                                                                List.length
                                                                                                                                                                                  (dig
                                                                                                                                                                                    (zig
                                                                                                                                                                                      a3)) +
                                                                                                                                                                              List.length
                                                                                                                                                                                (dig
                                                                                                                                                                                  (zig
                                                                                                                                                                                    a4)) +
                                                                                                                                                                            List.length
                                                                                                                                                                              (dig
                                                                                                                                                                                (zig
                                                                                                                                                                                  a5)) +
                                                                                                                                                                          List.length
                                                                                                                                                                            (dig
                                                                                                                                                                              (zig
                                                                                                                                                                                (↑l7 :
                                                                                                                                                                                  Int))) +
                                                                                                                                                                        l7)
                                                                                                                                                                      cap'),
                                                                                                                                                                  SV.raw
                                                                                                                                                                    (Value.int
                                                                                                                                                                      IntKind.i64
                                                                                                                                                                      0)])
                                                                                                                                                              E')))
  have hlen := h0.2.1
  have bad : ¬ (okF a1 a2 a3 a4 a5 ∧ zs.length ≤ 4000) → K (.tup [L none 0 0, I 1]) E := fun hn => h none 0 0 [] 1 E (Mem.le_refl _) (pk_bad hn) (Bs.nil _)
  unfold okF at bad
  refine ⟨Mem.le_refl _, Mem.le_refl _, condC (fun g => ⟨Mem.le_refl _, bad (by simp at g; omega)⟩) (fun g1 => ?_)⟩
  refine ⟨Mem.le_refl _, condC (fun g => ⟨Mem.le_refl _, bad (by simp at g; omega)⟩) (fun g2 => ?_)⟩
  refine ⟨Mem.le_refl _, condC (fun g => ⟨Mem.le_refl _, bad (by simp at g; omega)⟩) (fun g3 => ?_)⟩
  refine ⟨Mem.le_refl _, condC (fun g => ⟨Mem.le_refl _, bad (by simp at g; omega)⟩) (fun g4 => ?_)⟩
  refine ⟨Mem.le_refl _, condC (fun g => ⟨Mem.le_refl _, bad (by simp at g; omega)⟩) (fun g5 => ?_)⟩
  refine condC (fun g => ⟨Mem.le_refl _, bad (by simp at g; omega)⟩) (fun g6 => ?_)
  have g1 : 1 ≤ a1 ∧ a1 ≤ 4 := by simpa using g1
  have g2 : 0 ≤ a2 ∧ a2 ≤ 59 := by simpa using g2
  have g3 : -1 ≤ a3 ∧ a3 ≤ 59 := by simpa using g3
  have g4 : 0 ≤ a4 ∧ a4 ≤ 1000000000 := by simpa using g4
  have g5 : 0 ≤ a5 ∧ a5 ≤ 2000000 := by simpa using g5
  have g6 : l7 ≤ 4000 := by simp at g6; omega
  have hok : okF a1 a2 a3 a4 a5 ∧ zs.length ≤ 4000 := ⟨⟨g1, g2, g3, g4, g5⟩, by omega⟩
  have hp := pk_ok hok
  have k1 : okN a1 := ⟨by omega, by omega⟩
  have z1 := zig_b k1
  have d1 := dig_len7 (zig a1)
  have k2 : okN a2 := ⟨by omega, by omega⟩
  have z2 := zig_b k2
  have d2 := dig_len7 (zig a2)
  have k3 : okN a3 := ⟨by omega, by omega⟩
  have z3 := zig_b k3
  have d3 := dig_len7 (zig a3)
  have k4 : okN a4 := ⟨by omega, by omega⟩
  have z4 := zig_b k4
  have d4 := dig_len7 (zig a4)
  have k5 : okN a5 := ⟨by omega, by omega⟩
  have z5 := zig_b k5
  have d5 := dig_len7 (zig a5)
  have k6 : okN (l7 : Int) := ⟨by omega, by omega⟩
  have z6 := zig_b k6
  have d6 := dig_len7 (zig l7)
  rw [hlen] at hp
  obtain ⟨t1, t2, t3⟩ := h0.src
  refine ⟨k1, Mem.le_refl _, z1, fun c1 r1 q1 q2 => ⟨Mem.le_refl _, k2, Mem.le_refl _, z2, dig (zig a1), ⟨rfl, rfl, rfl, q1, q2, by omega⟩, fun c2 r2 q3 q4 => ⟨k3, Mem.le_refl _, z3, _, ⟨rfl, rfl, by simp only [List.length_append], q3, q4, by omega⟩, fun c3 r3 q5 q6 => ⟨k4, Mem.le_refl _, z4, _, ⟨rfl, rfl, by simp only [List.length_append], q5, q6, by omega⟩, fun c4 r4 q7 q8 => ⟨k5, Mem.le_refl _, z5, _, ⟨rfl, rfl, by simp only [List.length_append], q7, q8, by omega⟩, fun c5 r5 q9 q10 => alike ⟨k6, Mem.le_refl _, z6, _, ⟨rfl, rfl, by simp only [List.length_append], q9, q10, by omega⟩, fun c6 r6 q11 q12 => ⟨_, t1, t2, t3, by simp only [Row.cells, List.length_map, List.length_append, Nat.mul_one, Nat.le_refl], by omega, q11, req_intro (by omega) ?_⟩⟩⟩⟩⟩⟩⟩
  intro c7 r7 q13 q14 base E' hE hW
  rw [tkB (by simp only [List.length_append, Nat.le_refl]), tkB (Nat.le_of_eq hlen), mapB] at hW
  exact ⟨hE, h _ _ _ _ 0 E' hE hp (Bs.win hW rfl (by simp only [List.length_append, hlen]) q13 (app_byte (app_byte (app_byte (app_byte (app_byte (app_byte (dig_byte z1.1 z1.2) (dig_byte z2.1 z2.2)) (dig_byte z3.1 z3.2)) (dig_byte z4.1 z4.2)) (dig_byte z5.1 z5.2)) (dig_byte z6.1 z6.2)) (BsB h0)))⟩
theorem s22 {a1 : Int} {a2 : Int} {a3 : Int} {a4 : Int} {a5 : Int} {b6 : Option Addr} {l7 : Nat} {c8 : Nat} {zs : List Int} (h0 : Bs E b6 l7 c8 zs) (h1 : l7 ≤ 100000) (h : ∀ (b' : Option Addr) (l' c' : Nat) (ys : List Int) (e : Int) (E' : Mem), Mem.le E E' → Hyp (pk a1 a2 a3 a4 a5 zs = (ys, e)) → Bs E' b' l' c' ys → K (.tup [L b' l' c', I e]) E') :
    Ent WF 6 Try.f22 [.agg [I a1, I a2, I a3, I a4, I a5, L b6 l7 c8]] E K := by
  refine same (by kernel_rfl) (?_ : 
      ∀ (r : Bool),
        Hyp (decide (okF a1 a2 a3 a4 a5 ∧ l7 ≤ 4000) = r) →
          Mem.le E E ∧
            bif !r then Mem.le E E ∧ K (SV.tup [SV.raw (Value.slice none 0 0), SV.raw (Value.int IntKind.i64 1)]) E
            else
              Mem.le E E ∧
                (-10000000000000 ≤ a1 ∧ a1 ≤ 10000000000000) ∧
                  ∀ (b' : Option Addr) (l' c' : Nat) (ys : List Int) (E' : Mem),
                    Mem.le E E' →
                      Hyp (dig (zig a1) = ys) →
                        (ys = [] ∨ E' (Value.slice b' l' c') (List.map (Value.int IntKind.u8) ys)) ∧
                            List.length ys = l' ∧
                              l' ≤ c' ∧ (∀ (z : Int), List.Mem z ys → 0 ≤ z ∧ z ≤ 255) ∧ (b' = none → ys = []) →
                          Mem.le E E' ∧
                            ∃ (cs : List Value),
                              (cs = [] ∨ E' (Value.slice b' l' c') cs) ∧
                                l' * 1 ≤ List.length cs ∧
                                  (∀ (x : Value), List.Mem x cs → Value.oneCell' x = true) ∧
                                    req (l' * 1 ≤ 140737488355328)
                                      (∀ (cap' tot' : Nat),
                                        l' ≤ cap' →
                                          cap' * 1 ≤ tot' →
                                            (-10000000000000 ≤ a2 ∧ a2 ≤ 10000000000000) ∧
                                              ∀ (b' : Option Addr) (l'_1 c' : Nat) (ys : List Int) (E'_1 : Mem),
                                                Mem.le E' E'_1 →
                                                  Hyp (dig (zig a2) = ys) →
                                                    (ys = [] ∨
                                                          E'_1 (Value.slice b' l'_1 c')
                                                            (List.map (Value.int IntKind.u8) ys)) ∧
                                                        List.length ys = l'_1 ∧
                                                          l'_1 ≤ c' ∧
                                                            (∀ (z : Int), List.Mem z ys → 0 ≤ z ∧ z ≤ 255) ∧
                                                              (b' = none → ys = []) →
                                                      Mem.le E' E'_1 ∧
                                                        ∃ (cs_1 : List Value),
                                                          (cs_1 = [] ∨ E'_1 (Value.slice b' l'_1 c') cs_1) ∧
                                                            l'_1 * 1 ≤ List.length cs_1 ∧
                                                              (∀ (x : Value), List.Mem x cs_1 → Value.oneCell' x = true) ∧
                                                                l' * 1 ≤
                                                                    List.length
                                                                      (Row.cells (Row.vals (List.take (l' * 1) cs))) ∧
                                                                  cap' * 1 ≤ tot' ∧
                                                                    l' ≤ cap' ∧
                                                                      req ((l' + l'_1) * 1 ≤ 140737488355328)
                                                                        (∀ (cap' tot' : Nat),
                                                                          l' + l'_1 ≤ cap' →
                                                                            cap' * 1 ≤ tot' →
                                                                              (-10000000000000 ≤ a3 ∧ a3 ≤ 10000000000000) ∧
                                                                                ∀ (b' : Option Addr) (l'_2 c' : Nat)
                                                                                  (ys : List Int) (E' : Mem),
                                                                                  Mem.le E'_1 E' →
                                                                                    Hyp (dig (zig a3) = ys) →
                                                                                      (ys = [] ∨
                                                                                            E' (Value.slice b' l'_2 c')
                                                                                              (List.map (Value.int IntKind.u8)
                                                                                                ys)) ∧
                                                                                          List.length ys = l'_2 ∧
                                                                                            l'_2 ≤ c' ∧
                                                                                              (∀ (z : Int),
                                                                                                  List.Mem z ys →
                                                                                                    0 ≤ z ∧ z ≤ 255) ∧
                                                                                                (b' = none → ys = []) →
                                                                                        Mem.le E'_1 E' ∧
                                                                                          ∃ (cs_2 : List Value),
                                                                                            (cs_2 = [] ∨
                                                                                                E' (Value.slice b' l'_2 c')
                                                                                                  cs_2) ∧
                                                                                              l'_2 * 1 ≤ List.length cs_2 ∧
                                                                                                (∀ (x : Value),
                                                                                                    List.Mem x cs_2 →
                                                                                                      Value.oneCell' x =
                                                                                                        true) ∧
                                                                                                  (l' + l'_1) * 1 ≤
                                                                                                      List.length
                                                                                                        (Row.cells
                                                                                                          (Row.vals
                                                                                                            (List.take
                                                                                                                (l' * 1)
                                                                                                                (List.take
                                                                                                                  (l' * 1)
                                                                                                                  cs) ++
                                                                                                              List.take
                                                                                                                (l'_1 * 1)
                                                                                                                cs_1))) ∧
                                                                                                    cap' * 1 ≤ tot' ∧
                                                                                                      l' + l'_1 ≤ cap' ∧
                                                                                                        req
                                                                                                          ((l' + l'_1 +
                                                                                                                l'_2) *
                                                                                                              1 ≤
                                                                                                            140737488355328)
                                                                                                          (∀
                                                                                                            (cap' tot' : Nat),
                                                                                                            l' + l'_1 + l'_2 ≤
                                                                                                                cap' →
                                                                                                              cap' * 1 ≤
                                                                                                                  tot' →
                                                                                                                (-10000000000000 ≤
                                                                                                                      a4 ∧
                                                                                                                    a4 ≤
                                                                                                                      10000000000000) ∧
                                                                                                                  ∀
                                                                                                                    (b' :
                                                                                                                      Option
                                                                                                                        Addr)
                                                                                                                    (l'_3 c' :
                                                                                                                      Nat)
                                                                                                                    (ys :
                                                                                                                      List
                                                                                                                        Int)
                                                                                                                    (E'_2 :
                                                                                                                      Mem),
                                                                                                                    Mem.le E'
                                                                                                                        E'_2 →
                                                                                                                      Hyp
                                                                                                                          (dig
                                                                                                                              (zig
                                                                                                                                a4) =
                                                                                                                            ys) →
                                                                                                                        (ys =
                                                                                                                                [] ∨
                                                                                                                              E'_2
                                                                                                                                (Value.slice
                                                                                                                                  b'
                                                                                                                                  l'_3
                                                                                                                                  c')
                                                                                                                                (List.map
                                                                                                                                  (Value.int
                                                                                                                                    IntKind.u8)
                                                                                                                                  ys)) ∧
                                                                                                                            List.length
                                                                                                                                  ys =
                                                                                                                                l'_3 ∧
                                                                                                                              l'_3 ≤
                                                                                                                                  c' ∧
                                                                                                                                (∀
                                                                                                                                    (z :
                                                                                                                                      Int),
                                                                                                                                    List.Mem
                                                                                                                                        z
                                                                                                                                        ys →
                                                                                                                                      0 ≤
                                                                                                                                          z ∧
                                                                                                                                        z ≤
                                                                                                                                          255) ∧
                                                                                                                                  (b' =
                                                                                                                                      none →
                                                                                                                                    ys =
                                                                                                                                      []) →
                                                                                                                          Mem.le
                                                                                                                              E'
                                                                                                                              E'_2 ∧
                                                                                                                            ∃
                                                                                                                              (cs_3
                                                                                                                              :
                                                                                                                              List
                                                                                                                                Value),
                                                                                                                              (cs_3 =
                                                                                                                                    [] ∨
                                                                                                                                  E'_2
                                                                                                                                    (Value.slice
                                                                                                                                      b'
                                                                                                                                      l'_3
                                                                                                                                      c')
                                                                                                                                    cs_3) ∧
                                                                                                                                l'_3 *
                                                                                                                                      1 ≤
                                                                                                                                    List.length
                                                                                                                                      cs_3 ∧
                                                                                                                                  (∀
                                                                                                                                      (x :
                                                                                                                                        Value),
                                                                                                                                      List.Mem
                                                                                                                                          x
                                                                                                                                          cs_3 →
                                                                                                                                        Value.oneCell'
                                                                                                                                            x =
                                                                                                                                          true) ∧
                                                                                                                                    (l' +
                                                                                                                                              l'_1 +
                                                                                                                                            l'_2) *
                                                                                                                                          1 ≤
                                                                                                                                        List.length
                                                                                                                                          (Row.cells
                                                                                                                                            (Row.vals
                                                                                                                                              (List.take
                                                                                                                                                  ((l' +
                                                                                                                                                      l'_1) *
                                                                                                                                                    1)
                                                                                                                                                  (List.take
                                                                                                                                                      (l' *
                                                                                                                                                        1)
                                                                                                                                                      (List.take
                                                                                                                                                        (l' *
                                                                                                                                                          1)
                                                                                                                                                        cs) ++
                                                                                                                                                    List.take
                                                                                                                                                      (l'_1 *
                                                                                                                                                        1)
                                                                                                                                                      cs_1) ++
                                                                                                                                                List.take
                                                                                                                                                  (l'_2 *
                                                                                                                                                    1)
                                                                                                                                                  cs_2))) ∧
                                                                                                                                      cap' *
                                                                                                                                            1 ≤
                                                                                                                                          tot' ∧
                                                                                                                                        l' +
                                                                                                                                                l'_1 +
                                                                                                                                              l'_2 ≤
                                                                                                                                            cap' ∧
                                                                                                                                          req
                                                                                                                                            ((l' +
                                                                                                                                                      l'_1 +
                                                                                                                                                    l'_2 +
                                                                                                                                                  l'_3) *
                                                                                                                                                1 ≤
                                                                                                                                              140737488355328)
                                                                                                                                            (∀
                                                                                                                                              (cap'
                                                                                                                                                tot' :
                                                                                                                                                Nat),
                                                                                                                                              l' +
                                                                                                                                                        l'_1 +
                                                                                                                                                      l'_2 +
                                                                                                                                                    l'_3 ≤
                                                                                                                                                  cap' →
                                                                                                                                                cap' *
                                                                                                                                                      1 ≤
                                                                                                                                                    tot' →
                                                                                                                                                  (-10000000000000 ≤
                                                                                                                                                        a5 ∧
                                                                                                                                                      a5 ≤
                                                                                                                                                        10000000000000) ∧
                                                                                                                                                    ∀
                                                                                                                                                      (b' :
                                                                                                                                                        Option
                                                                                                                                                          Addr)
                                                                                                                                                      (l'_4
                                                                                                                                                        c' :
                                                                                                                                                        Nat)
                                                                                                                                                      (ys :
                                                                                                                                                        List
                                                                                                                                                          Int)
                                                                                                                                                      (E' :
                                                                                                                                                        Mem),
                                                                                                                                                      Mem.le
                                                                                                                                                          E'_2
                                                                                                                                                          E' →
                                                                                                                                                        Hyp
                                                                                                                                                            (dig
                                                                                                                                                                (zig
                                                                                                                                                                  a5) =
                                                                                                                                                              ys) →
                                                                                                                                                          (ys =
                                                                                                                                                                  [] ∨
                                                                                                                                                                E'
                                                                                                                                                                  (Value.slice
                                                                                                                                                                    b'
                                                                                                                                                                    l'_4
                                                                                                                                                                    c')
                                                                                                                                                                  (List.map
                                                                                                                                                                    (Value.int
                                                                                                                                                                      IntKind.u8)
                                                                                                                                                                    ys)) ∧
                                                                                                                                                              List.length
                                                                                                                                                                    ys =
                                                                                                                                                                  l'_4 ∧
                                                                                                                                                                l'_4 ≤
                                                                                                                                                                    c' ∧
                                                                                                                                                                  (∀
                                                                                                                                                                      (z :
                                                                                                                                                                        Int),
                                                                                                                                                                      List.Mem
                                                                                                                                                                          z
                                                                                                                                                                          ys →
                                                                                                                                                                        0 ≤
                                                                                                                                                                            z ∧
                                                                                                                                                                          z ≤
                                                                                                                                                                            255) ∧
                                                                                                                                                                    (b' =
                                                                                                                                                                        none →
                                                                                                                                                                      ys =
                                                                                                                                                                        []) →
                                                                                                                                                            Mem.le
                                                                                                                                                                E'_2
                                                                                                                                                                E' ∧
                                                                                                                                                              ∃
                                                                                                                                                                (cs_4
                                                                                                                                                                :
                                                                                                                                                                List
                                                                                                                                                                  Value),
                                                                                                                                                                (cs_4 =
                                                                                                                                                                      [] ∨
                                                                                                                                                                    E'
                                                                                                                                                                      (Value.slice
                                                                                                                                                                        b'
                                                                                                                                                                        l'_4
                                                                                                                                                                        c')
                                                                                                                                                                      cs_4) ∧
                                                                                                                                                                  l'_4 *
                                                                                                                                                                        1 ≤
                                                                                                                                                                      List.length
                                                                                                                                                                        cs_4 ∧
                                                                                                                                                                    (∀
                                                                                                                                                                        (x :
                                                                                                                                                                          Value),
                                                                                                                                                                        List.Mem
                                                                                                                                                                            x
                                                                                                                                                                            cs_4 →
                                                                                                                                                                          Value.oneCell'
                                                                                                                                                                              x =
                                                                                                                                                                            true) ∧
                                                                                                                                                                      (l' +
                                                                                                                                                                                  l'_1 +
                                                                                                                                                                                l'_2 +
                                                                                                                                                                              l'_3) *
                                                                                                                                                                            1 ≤
                                                                                                                                                                          List.length
                                                                                                                                                                            (Row.cells
                                                                                                                                                                              (Row.vals
                                                                                                                                                                                (List.take
                                                                                                                                                                                    ((l' +
                                                                                                                                                                                          l'_1 +
                                                                                                                                                                                        l'_2) *
                                                                                                                                                                                      1)
                                                                                                                                                                                    (List.take
                                                                                                                                                                                        ((l' +
                                                                                                                                                                                            l'_1) *
                                                                                                                                                                                          1)
                                                                                                                                                                                        (List.take
                                                                                                                                                                                            (l' *
                                                                                                                                                                                              1)
                                                                                                                                                                                            (List.take
                                                                                                                                                                                              (l' *
                                                                                                                                                                                                1)
                                                                                                                                                                                              cs) ++
                                                                                                                                                                                          List.take
                                                                                                                                                                                            (l'_1 *
                                                                                                                                                                                              1)
                                                                                                                                                                                            cs_1) ++
                                                                                                                                                                                      List.take
                                                                                                                                                                                        (l'_2 *
                                                                                                                                                                                          1)
                                                                                                                                                                                        cs_2) ++
                                                                                                                                                                                  List.take
                                                                                                                                                                                    (l'_3 *
                                                                                                                                                                                      1)
                                                                                                                                                                                    cs_3))) ∧
                                                                                                                                                                        cap' *
                                                                                                                                                                              1 ≤
                                                                                                                                                                            tot' ∧
                                                                                                                                                                          l' +
                                                                                                                                                                                    l'_1 +
                                                                                                                                                                                  l'_2 +
                                                                                                                                                                                l'_3 ≤
                                                                                                                                                                              cap' ∧
                                                                                                                                                                            req
                                                                                                                                                                              ((l' +
                                                                                                                                                                                          l'_1 +
                                                                                                                                                                                        l'_2 +
                                                                                                                                                                                      l'_3 +
                                                                                                                                                                                    l'_4) *
                                                                                                                                                                                  1 ≤
                                                                                                                                                                                140737488355328)
                                                                                                                                                                              (∀
                                                                                                                                                                                (cap'
                                                                                                                                                                                  tot' :
                                                                                                                                                                                  Nat),
                                                                                                                                                                                l' +
                                                                                                                                                                                            l'_1 +
                                                                                                                                                                                          l'_2 +
                                                                                                                                                                                        l'_3 +
                                                                                                                                                                                      l'_4 ≤
                                                                                                                                                                                    cap' →
                                                                                                                                                                                  cap' *
                                                                                                                                                                                        1 ≤
                                                                                                                                                                                      tot' →
                                                                                                                                                                                    ∀
                                                                                                                                                                                      (base :
                                                                                                                                                                                        Option
                                                                                                                                                                                          Addr)
                                                                                                                                                                                      (E'_3 :
                                                                                                                                                                                        Mem),
                                                                                                                                                                                      Mem.le
                                                                                                                                                                                          E'
                                                                                                                                                                                          E'_3 →
                                                                                                                                                                                        WinE
                                                                                                                                                                                            E'_3
                                                                                                                                                                                            base
                                                                                                                                                                                            (List.take
                                                                                                                                                                                                ((l' +
                                                                                                                                                                                                        l'_1 +
                                                                                                                                                                                                      l'_2 +
                                                                                                                                                                                                    l'_3) *
                                                                                                                                                                                                  1)
                                                                                                                                                                                                (List.take
                                                                                                                                                                                                    ((l' +
                                                                                                                                                                                                          l'_1 +
                                                                                                                                                                                                        l'_2) *
                                                                                                                                                                                                      1)
                                                                                                                                                                                                    (List.take
                                                                                                                                                                                                        ((l' +
                                                                                                                                                                                                            l'_1) *
                                                                                                                                                                                                          1)
                                                                                                                                                                                                        (List.take
                                                                                                                                                                                                            (l' *
                                                                                                                                                                                                              1)
                                                                                                                                                                                                            (List.take
                                                                                                                                                                                                              (l' *
                                                                                                                                                                                                                1)
                                                                                                                                                                                                              cs) ++
                                                                                                                                                                                                          List.take
                                                                                                                                                                                                            (l'_1 *
                                                                                                                                                                                                              1)
                                                                                                                                                                                                            cs_1) ++
                                                                                                                                                                                                      List.take
                                                                                                                                                                                                        (l'_2 *
                                                                                                                                                                                                          1)
                                                                                                                                                                                                        cs_2) ++
                                                                                                                                                                                                  List.take
                                                                                                                                                                                                    (l'_3 *
                                                                                                                                                                                                      1)
                                                                                                                                                                                                    cs_3) ++
                                                                                                                                                                                              List.take
                                                                                                                                                                                                (l'_4 *
                                                                                                                                                                                                  1)
                                                                                                                                                                                                cs_4) →
                                                                                                                                                                                          ∃
                                                                                                                                                                                            (zs
                                                                                                                                                                                            :
                                                                                                                                                                                            List
                                                                                                                                                                                              Int),
                                                                                                                                                                                            ∃
                                                                                                                                                                                              (xs
                                                                                                                                                                                              :
                                                                                                                                                                                              List
                                                                                                                                                                                                Int),
                                                                                                                                                                                              ((zs =
                                                                                                                                                                                                      [] ∨
                                                                                                                                                                                                    E'_3
                                                                                                                                                                                                      (Value.slice
                                                                                                                                                                                                        (Option.map
                                                                                                                                                                                                          (fun
                                                                                                                                                                                                              (x :
                                                                                                                                                                                                                Addr) =>
                                                                                                                                                                                                            Addr.add
                                                                                                                                                                                                              x
                                                                                                                                                                                                              0)
                                                                                                                                                                                                          base)
                                                                                                                                                                                                        (l' +
                                                                                                                                                                                                                l'_1 +
                                                                                                                                                                                                              l'_2 +
                                                                                                                                                                                                            l'_3 +
                                                                                                                                                                                                          l'_4)
                                                                                                                                                                                                        cap')
                                                                                                                                                                                                      (List.map
                                                                                                                                                                                                        (Value.int
                                                                                                                                                                                                          IntKind.u8)
                                                                                                                                                                                                        zs)) ∧
                                                                                                                                                                                                  List.length
                                                                                                                                                                                                        zs =
                                                                                                                                                                                                      l' +
                                                                                                                                                                                                              l'_1 +
                                                                                                                                                                                                            l'_2 +
                                                                                                                                                                                                          l'_3 +
                                                                                                                                                                                                        l'_4 ∧
                                                                                                                                                                                                    l' +
                                                                                                                                                                                                                l'_1 +
                                                                                                                                                                                                              l'_2 +
                                                                                                                                                                                                            l'_3 +
                                                                                                                                                                                                          l'_4 ≤
                                                                                                                                                                                                        cap' ∧
                                                                                                                                                                                                      (∀
                                                                                                                                                                                                          (z :
                                                                                                                                                                                                            Int),
                                                                                                                                                                                                          List.Mem
                                                                                                                                                                                                              z
                                                                                                                                                                                                              zs →
                                                                                                                                                                                                            0 ≤
                                                                                                                                                                                                                z ∧
                                                                                                                                                                                                              z ≤
                                                                                                                                                                                                                255) ∧
                                                                                                                                                                                                        (Option.map
                                                                                                                                                                                                              (fun
                                                                                                                                                                                                                  (x :
                                                                                                                                                                                                                    Addr) =>
                                                                                                                                                                                                                Addr.add
                                                                                                                                                                                                                  x
                                                                                                                                                                                                                  0)
                                                                                                                                                                                                              base =
                                                                                                                                                                                                            none →
                                                                                                                                                                                                          zs =
                                                                                                                                                                                                            [])) ∧
                                                                                                                                                                                                ((xs =
                                                                                                                                                                                                        [] ∨
                                                                                                                                                                                                      E'_3
                                                                                                                                                                                                        (Value.slice
                                                                                                                                                                                                          b6
                                                                                                                                                                                                          l7
                                                                                                                                                                                                          c8)
                                                                                                                                                                                                        (List.map
                                                                                                                                                                                                          (Value.int
                                                                                                                                                                                                            IntKind.u8)
                                                                                                                                                                                                          xs)) ∧
                                                                                                                                                                                                    List.length
                                                                                                                                                                                                          xs =
                                                                                                                                                                                                        l7 ∧
                                                                                                                                                                                                      l7 ≤
                                                                                                                                                                                                          c8 ∧
                                                                                                                                                                                                        (∀
                                                                                                                                                                                                            (z :
                                                                                                                                                                                                              Int),
                                                                                                                                                                                                            List.Mem
                                                                                                                                                                                                                z
                                                                                                                                                                                                                xs →
                                                                                                                                                                                                              0 ≤
                                                                                                                                                                                                                  z ∧
                                                                                                                                                                                                                z ≤
                                                                                                                                                                                                                  255) ∧
                                                                                                                                                                                                          (b6 =
                                                                                                                                                                                                              none →
                                                                                                                                                                                                            xs =
                                                                                                                                                                                                              [])) ∧
                                                                                                                                                                                                  l' +
                                                                                                                                                                                                              l'_1 +
                                                                                                                                                                                                            l'_2 +
                                                                                                                                                                                                          l'_3 +
                                                                                                                                                                                                        l'_4 ≤
                                                                                                                                                                                                      10000 ∧
                                                                                                                                                                                                    ∀
                                                                                                                                                                                                      (b' :
                                                                                                                                                                                                        Option
                                                                                                                                                                                                          Addr)
                                                                                                                                                                                                      (l'
                                                                                                                                                                                                        c' :
                                                                                                                                                                                                        Nat)
                                                                                                                                                                                                      (ys :
                                                                                                                                                                                                        List
                                                                                                                                                                                                          Int)
                                                                                                                                                                                                      (e :
                                                                                                                                                                                                        Int)
                                                                                                                                                                                                      (E' :
                                                                                                                                                                                                        Mem),
                                                                                                                                                                                                      Mem.le
                                                                                                                                                                                                          E'_3
                                                                                                                                                                                                          E' →
                                                                                                                                                                                                        Hyp
                                                                                                                                                                                                            (putB
                                                                                                                                                                                                                zs
                                                                                                                                                                                                                xs =
                                                                                                                                                                                                              (ys,
                                                                                                                                                                                                                e)) →
                                                                                                                                                                                                          (ys =
                                                                                                                                                                                                                  [] ∨
                                                                                                                                                                                                                E'
                                                                                                                                                                                                                  (Value.slice
                                                                                                                                                                                                                    b'
                                                                                                                                                                                                                    l'
                                                                                                                                                                                                                    c')
                                                                                                                                                                                                                  (List.map
                                                                                                                                                                                                                    (Value.int
                                                                                                                                                                                                                      IntKind.u8)
                                                                                                                                                                                                                    ys)) ∧
                                                                                                                                                                                                              List.length
                                                                                                                                                                                                                    ys =
                                                                                                                                                                                                                  l' ∧
                                                                                                                                                                                                                l' ≤
                                                                                                                                                                                                                    c' ∧
                                                                                                                                                                                                                  (∀
                                                                                                                                                                                                                      (z :
                                                                                                                                                                                                                        Int),
                                                                                                                                                                                                                      List.Mem
                                                                                                                                                                                                                          z
                                                                                                                                                                                                                          ys →
                                                                                                                                                                                                                        0 ≤
                                                                                                                                                                                                                            z ∧
                                                                                                                                                                                                                          z ≤
                                                                                                                                                                                                                            255) ∧
                                                                                                                                                                                                                    (b' =
                                                                                                                                                                                                                        none →
                                                                                                                                                                                                                      ys =
                                                                                                                                                                                                                        []) →
                                                                                                                                                                                                            Mem.le
                                                                                                                                                                                                                E
                                                                                                                                                                                                                E' ∧
                                                                                                                                                                                                              K
                                                                                                                                                                                                                (SV.tup
                                                                                                                                                                                                                  [SV.raw
                                                                                                                                                                                                                      (Value.slice
                                                                                                                                                                                                                        b'
                                                                                                                                                                                                                        l'
                                                                                                                                                                                                                        c'),
                                                                                                                                                                                                                    SV.raw
                                                                                                                                                                                                                      (Value.int
                                                                                                                                                                                                                        IntKind.i64
                                                                                                                                                                                                                        e)])
                                                                                                                                                                                                                E'))))))
  have hlen := h0.2.1
  intro r hr
  have hr : decide (okF a1 a2 a3 a4 a5 ∧ l7 ≤ 4000) = r := hr
  refine ⟨Mem.le_refl _, condC (fun g => ?_) (fun g => ?_)⟩
  · refine ⟨Mem.le_refl _, h none 0 0 [] 1 E (Mem.le_refl _) (pk_bad ?_) (Bs.nil _)⟩
    rw [hlen]
    have : r = false := by simpa using g
    rw [this] at hr
    exact of_decide_eq_false hr
  have hok : okF a1 a2 a3 a4 a5 ∧ zs.length ≤ 4000 := by
    have : r = true := by simpa using g
    rw [this] at hr
    rw [hlen]
    exact of_decide_eq_true hr
  have hp := pk_ok hok
  rw [hlen] at hp
  have hok' := hok
  unfold okF at hok'
  have k1 : okN a1 := ⟨by omega, by omega⟩
  have z1 := zig_b k1
  have d1 := dig_len7 (zig a1)
  have k2 : okN a2 := ⟨by omega, by omega⟩
  have z2 := zig_b k2
  have d2 := dig_len7 (zig a2)
  have k3 : okN a3 := ⟨by omega, by omega⟩
  have z3 := zig_b k3
  have d3 := dig_len7 (zig a3)
  have k4 : okN a4 := ⟨by omega, by omega⟩
  have z4 := zig_b k4
  have d4 := dig_len7 (zig a4)
  have k5 : okN a5 := ⟨by omega, by omega⟩
  have z5 := zig_b k5
  have d5 := dig_len7 (zig a5)
  refine ⟨Mem.le_refl _, ?_⟩
  refine ⟨k1, fun b1' m1 c1 y1 E1 hE1 hy1 hB1 => ⟨hE1, ?_⟩⟩
  have hB1 : Bs E1 b1' m1 c1 y1 := hB1
  have hy1 : dig (zig a1) = y1 := hy1
  obtain ⟨s1, t1, u1⟩ := hB1.src
  have l1 := hB1.2.1
  rw [hy1] at d1 hp
  refine ⟨_, s1, t1, u1, req_intro (by omega) ?_⟩
  intro r1 v1 o1 p1
  refine ⟨k2, fun b2' m2 c2 y2 E2 hE2 hy2 hB2 => ⟨hE2, ?_⟩⟩
  have hB2 : Bs E2 b2' m2 c2 y2 := hB2
  have hy2 : dig (zig a2) = y2 := hy2
  obtain ⟨s2, t2, u2⟩ := hB2.src
  have l2 := hB2.2.1
  rw [hy2] at d2 hp
  refine ⟨_, s2, t2, u2, ?_, p1, o1, req_intro (by omega) ?_⟩
  · simp only [Row.cells]; simp; omega
  intro r2 v2 o2 p2
  refine ⟨k3, fun b3' m3 c3 y3 E3 hE3 hy3 hB3 => ⟨hE3, ?_⟩⟩
  have hB3 : Bs E3 b3' m3 c3 y3 := hB3
  have hy3 : dig (zig a3) = y3 := hy3
  obtain ⟨s3, t3, u3⟩ := hB3.src
  have l3 := hB3.2.1
  rw [hy3] at d3 hp
  refine ⟨_, s3, t3, u3, ?_, p2, o2, req_intro (by omega) ?_⟩
  · simp only [Row.cells]; simp; omega
  intro r3 v3 o3 p3
  refine ⟨k4, fun b4' m4 c4 y4 E4 hE4 hy4 hB4 => ⟨hE4, ?_⟩⟩
  have hB4 : Bs E4 b4' m4 c4 y4 := hB4
  have hy4 : dig (zig a4) = y4 := hy4
  obtain ⟨s4, t4, u4⟩ := hB4.src
  have l4 := hB4.2.1
  rw [hy4] at d4 hp
  refine ⟨_, s4, t4, u4, ?_, p3, o3, req_intro (by omega) ?_⟩
  · simp only [Row.cells]; simp; omega
  intro r4 v4 o4 p4
  refine ⟨k5, fun b5' m5 c5 y5 E5 hE5 hy5 hB5 => ⟨hE5, ?_⟩⟩
  have hB5 : Bs E5 b5' m5 c5 y5 := hB5
  have hy5 : dig (zig a5) = y5 := hy5
  obtain ⟨s5, t5, u5⟩ := hB5.src
  have l5 := hB5.2.1
  rw [hy5] at d5 hp
  refine ⟨_, s5, t5, u5, ?_, p4, o4, req_intro (by omega) ?_⟩
  · simp only [Row.cells]; simp; omega
  intro r5 v5 o5 p5
  intro base E6 hE6 hW
  have hLL : (y1 ++ y2 ++ y3 ++ y4 ++ y5).length = m1 + m2 + m3 + m4 + m5 := by simp only [List.length_append, l1, l2, l3, l4, l5]
  have e1 : List.take (m1 * 1) (vB y1) = vB y1 := tkB (Nat.le_of_eq l1)
  have e2 : List.take (m2 * 1) (vB y2) = vB y2 := tkB (Nat.le_of_eq l2)
  have e3 : List.take (m3 * 1) (vB y3) = vB y3 := tkB (Nat.le_of_eq l3)
  have e4 : List.take (m4 * 1) (vB y4) = vB y4 := tkB (Nat.le_of_eq l4)
  have e5 : List.take (m5 * 1) (vB y5) = vB y5 := tkB (Nat.le_of_eq l5)
  rw [e1, e1, e2, e3, e4, e5, mapB, tkB (zs := y1 ++ y2) (by simp only [List.length_append, l1, l2, Nat.le_refl]), mapB, tkB (zs := y1 ++ y2 ++ y3) (by simp only [List.length_append, l1, l2, l3, Nat.le_refl]), mapB, tkB (zs := y1 ++ y2 ++ y3 ++ y4) (by simp only [List.length_append, l1, l2, l3, l4, Nat.le_refl]), mapB] at hW
  have hE16 : Mem.le E E6 := Mem.le_trans hE1 (Mem.le_trans hE2 (Mem.le_trans hE3 (Mem.le_trans hE4 (Mem.le_trans hE5 hE6))))
  refine ⟨_, zs, Bs.win hW rfl hLL o5 (app_byte (app_byte (app_byte (app_byte (BsB hB1) (BsB hB2)) (BsB hB3)) (BsB hB4)) (BsB hB5)), h0.mono hE16, by omega, ?_⟩
  intro b7 m7 c7 y7 e E7 hE7 hy7 hB7
  have hy7 : putB _ _ = (y7, e) := hy7
  refine ⟨Mem.le_trans hE16 hE7, h b7 m7 c7 y7 e E7 (Mem.le_trans hE16 hE7) ?_ hB7⟩
  show pk a1 a2 a3 a4 a5 zs = _
  rw [hp, ← hy7]
  unfold putB
  rw [if_pos (by omega), hlen]

end Go.Proofs.Ytjlpfhekhpebpaa.WireOwn
