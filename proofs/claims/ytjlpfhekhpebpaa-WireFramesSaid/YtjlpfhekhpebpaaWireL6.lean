/- The law WireFrames. -/
import Derived.Test.YtjlpfhekhpebpaaWire12
import Derived.Test.YtjlpfhekhpebpaaRows
namespace Go.Proofs.Ytjlpfhekhpebpaa.WireOwn
open Go Go.Sx Go.Proofs.Ytjlpfhekhpebpaa
set_option maxRecDepth 100000
set_option maxHeartbeats 4000000
set_option linter.unusedVariables false
set_option linter.unusedSimpArgs false
variable {E : Mem} {K : SV → Mem → Prop}
theorem pk_inv {k f t a y : Int} {zs ys : List Int} (h : pk k f t a y zs = (ys, 0)) : okF k f t a y ∧ zs.length ≤ 4000 ∧ ys = pkL k f t a y zs := by
  unfold pk at h
  split at h
  · rename_i q
    obtain ⟨rfl, _⟩ := Prod.mk.inj h
    exact ⟨q.1, q.2, rfl⟩
  · simp at h
theorem pkL_len {k f t a y : Int} {zs : List Int} (hz : zs.length ≤ 6000) : 6 ≤ (pkL k f t a y zs).length ∧ (pkL k f t a y zs).length ≤ zs.length + 60 := by
  have h1 := dig_len (zig k); have h2 := dig_len (zig f); have h3 := dig_len (zig t); have h4 := dig_len (zig a); have h5 := dig_len (zig y); have h6 := dig_len (zig zs.length)
  unfold pkL
  simp only [List.length_append]; omega
noncomputable def tabL6 : FuncId → List SV → Mem → (SV → Mem → Prop) → Prop := fun f args E K => match f with
  | 10 => d0 args ((∀ (E' : Mem), Mem.le E E' → K (B true) E'))
  | 21 => d1 args fun x0 => dC x0 fun l1 => d6 l1 fun x0_0 x0_1 x0_2 x0_3 x0_4 x0_5 => dI x0_0 fun a1 => dI x0_1 fun a2 => dI x0_2 fun a3 => dI x0_3 fun a4 => dI x0_4 fun a5 => dS x0_5 fun b6 l7 c8 => ∃ (zs : List Int), Bs E b6 l7 c8 zs ∧ l7 ≤ 100000 ∧ (∀ (b' : Option Addr) (l' c' : Nat) (ys : List Int) (e : Int) (E' : Mem), Mem.le E E' → Hyp (pk a1 a2 a3 a4 a5 zs = (ys, e)) → Bs E' b' l' c' ys → K (.tup [L b' l' c', I e]) E')
  | 23 => d1 args fun x0 => dS x0 fun b1 l2 c3 => ∃ (zs : List Int), Bs E b1 l2 c3 zs ∧ l2 ≤ 100000 ∧ (∀ (k1 f1 t1 a1 y1 : Int) (b1 : Option Addr) (l1 c1 : Nat) (ys : List Int) (e1 : Int) (E' : Mem), Mem.le E E' → Hyp (uk0 zs 0 = ([k1, f1, t1, a1, y1], ys, e1)) → Bs E' b1 l1 c1 ys → K (.tup [.agg [I k1, I f1, I t1, I a1, I y1, L b1 l1 c1], I e1]) E')
  | 14 => d2 args fun x0 x1 => dS x0 fun b1 l2 c3 => dS x1 fun b4 l5 c6 => ∃ (zs : List Int), Bs E b1 l2 c3 zs ∧ Bs E b4 l5 c6 zs ∧ l2 ≤ 100000 ∧ (K (B true) E)
  | 25 => d2 args fun x0 x1 => dC x0 fun l1 => d6 l1 fun x0_0 x0_1 x0_2 x0_3 x0_4 x0_5 => dI x0_0 fun a1 => dI x0_1 fun a2 => dI x0_2 fun a3 => dI x0_3 fun a4 => dI x0_4 fun a5 => dS x0_5 fun b6 l7 c8 => dC x1 fun l2 => d6 l2 fun x1_0 x1_1 x1_2 x1_3 x1_4 x1_5 => dI x1_0 fun a9 => dI x1_1 fun a10 => dI x1_2 fun a11 => dI x1_3 fun a12 => dI x1_4 fun a13 => dS x1_5 fun b14 l15 c16 => ∃ (zs : List Int), Bs E b6 l7 c8 zs ∧ Bs E b14 l15 c16 zs ∧ l7 ≤ 100000 ∧ [a1, a2, a3, a4, a5] = [a9, a10, a11, a12, a13] ∧ (K (B true) E)
  | _ => False
theorem tabL6_ok : TabOK Try.prog tabL6 := by
  intro f args E K h
  unfold tabL6 at h
  split at h
  · obtain ⟨rfl, h⟩ := d0_elim h
    exact TabSem.congr rfl (Ent.sem okWJ Try.func10 ⟨by kernel_rfl, by kernel_rfl⟩ rfl (s10 h))
  · obtain ⟨x0, rfl, h⟩ := d1_elim h
    obtain ⟨l1, hl1, h⟩ := dC_elim h
    obtain ⟨x0_0, x0_1, x0_2, x0_3, x0_4, x0_5, rfl, h⟩ := d6_elim h
    obtain ⟨a1, rfl, h⟩ := dI_elim h
    obtain ⟨a2, rfl, h⟩ := dI_elim h
    obtain ⟨a3, rfl, h⟩ := dI_elim h
    obtain ⟨a4, rfl, h⟩ := dI_elim h
    obtain ⟨a5, rfl, h⟩ := dI_elim h
    obtain ⟨b6, l7, c8, rfl, h⟩ := dS_elim h
    obtain ⟨zs, g0, g1, h⟩ := h
    exact TabSem.congr (valL_cons (asCells_val hl1) rfl) (Ent.sem okWE Try.func21 ⟨by kernel_rfl, by kernel_rfl⟩ rfl (s21 g0 g1 h))
  · obtain ⟨x0, rfl, h⟩ := d1_elim h
    obtain ⟨b1, l2, c3, rfl, h⟩ := dS_elim h
    obtain ⟨zs, g0, g1, h⟩ := h
    exact TabSem.congr (valL_cons rfl rfl) (Ent.sem okWG Try.func23 ⟨by kernel_rfl, by kernel_rfl⟩ rfl (s23 g0 g1 h))
  · obtain ⟨x0, x1, rfl, h⟩ := d2_elim h
    obtain ⟨b1, l2, c3, rfl, h⟩ := dS_elim h
    obtain ⟨b4, l5, c6, rfl, h⟩ := dS_elim h
    obtain ⟨zs, g0, g1, g2, h⟩ := h
    exact TabSem.congr (valL_cons rfl (valL_cons rfl rfl)) (Ent.sem okWB Try.func14 ⟨by kernel_rfl, by kernel_rfl⟩ rfl (h14 g0 g1 g2 h))
  · obtain ⟨x0, x1, rfl, h⟩ := d2_elim h
    obtain ⟨l1, hl1, h⟩ := dC_elim h
    obtain ⟨x0_0, x0_1, x0_2, x0_3, x0_4, x0_5, rfl, h⟩ := d6_elim h
    obtain ⟨a1, rfl, h⟩ := dI_elim h
    obtain ⟨a2, rfl, h⟩ := dI_elim h
    obtain ⟨a3, rfl, h⟩ := dI_elim h
    obtain ⟨a4, rfl, h⟩ := dI_elim h
    obtain ⟨a5, rfl, h⟩ := dI_elim h
    obtain ⟨b6, l7, c8, rfl, h⟩ := dS_elim h
    obtain ⟨l2, hl2, h⟩ := dC_elim h
    obtain ⟨x1_0, x1_1, x1_2, x1_3, x1_4, x1_5, rfl, h⟩ := d6_elim h
    obtain ⟨a9, rfl, h⟩ := dI_elim h
    obtain ⟨a10, rfl, h⟩ := dI_elim h
    obtain ⟨a11, rfl, h⟩ := dI_elim h
    obtain ⟨a12, rfl, h⟩ := dI_elim h
    obtain ⟨a13, rfl, h⟩ := dI_elim h
    obtain ⟨b14, l15, c16, rfl, h⟩ := dS_elim h
    obtain ⟨zs, g0, g1, g2, g3, h⟩ := h
    exact TabSem.congr (valL_cons (asCells_val hl1) (valL_cons (asCells_val hl2) rfl)) (Ent.sem okWC Try.func25 ⟨by kernel_rfl, by kernel_rfl⟩ rfl (h25 g0 g1 g2 g3 h))
  · exact h.elim
noncomputable def WL6 : Cx := { P := Try.prog, inl := fun f => List.contains [11] f, tab := tabL6, isB := fun _ => false, tabB := fun _ _ _ _ _ => False, opt := { unroll := 0, carry := [], cuts := [8] }, muts := mutsD }
theorem okWL6 : CxOK WL6 := ⟨tabL6_ok, by kernel_rfl, okInl (by kernel_rfl), fun _ _ _ _ _ h => h.elim⟩
def shL6 (b2 : Option Addr) (l2 c2 : Nat) (E : Mem) : St := { fr := [none, some (L b2 l2 c2), none, none, none, some (B true), none, none, none, none, none, none, none, none, none, none, none, none, none, none, none, none, none, none, none, none, none, none, none, none, none, none, none, none, none, none, none, none, none, none, none, none, none, none, none, none, none, none, none, none, none, none, none, none, none, none, none, none, none, none, none, none, none, none, none, none, none, none, none, none], bx := [], E := E }
theorem pcL6_8 {b2 : Option Addr} {l2 c2 : Nat} {z2 : List Int} {E0 : Mem} (hB2 : Bs E b2 l2 c2 z2) (g2 : l2 ≤ 6000) (hE0 : Mem.le E0 E) (h : ∀ E', Mem.le E E' → K (B true) E') :
    Pc WL6 6 Try.f6 [1, 1, 1, 1, 1] 0 (pubK E0 K) (shL6 b2 l2 c2 E) := by
  refine same (by kernel_rfl) (?_ : 
      ∃ (zs : List Int),
        ((zs = [] ∨ E (Value.slice b2 l2 c2) (List.map (Value.int IntKind.u8) zs)) ∧
            List.length zs = l2 ∧ l2 ≤ c2 ∧ (∀ (z : Int), List.Mem z zs → 0 ≤ z ∧ z ≤ 255) ∧ (b2 = none → zs = [])) ∧
          l2 ≤ 100000 ∧
            ∀ (k1 f1 t1 a1 y1 : Int) (b1 : Option Addr) (l1 c1 : Nat) (ys : List Int) (e1 : Int) (E' : Mem),
              Mem.le E E' →
                Hyp (uk0 zs 0 = ([k1, f1, t1, a1, y1], ys, e1)) →
                  (ys = [] ∨ E' (Value.slice b1 l1 c1) (List.map (Value.int IntKind.u8) ys)) ∧
                      List.length ys = l1 ∧ l1 ≤ c1 ∧ (∀ (z : Int), List.Mem z ys → 0 ≤ z ∧ z ≤ 255) ∧ (b1 = none → ys = []) →
                    Mem.le E E' ∧
                      bif e1 != 0 then Mem.le E0 E' ∧ K (SV.raw (Value.bool true)) E'
                      else
                        ∃ (zs : List Int),
                          ((zs = [] ∨ E' (Value.slice b1 l1 c1) (List.map (Value.int IntKind.u8) zs)) ∧
                              List.length zs = l1 ∧
                                l1 ≤ c1 ∧ (∀ (z : Int), List.Mem z zs → 0 ≤ z ∧ z ≤ 255) ∧ (b1 = none → zs = [])) ∧
                            l1 ≤ 100000 ∧
                              ∀ (b' : Option Addr) (l' c' : Nat) (ys : List Int) (e : Int) (E'_1 : Mem),
                                Mem.le E' E'_1 →
                                  Hyp (pk k1 f1 t1 a1 y1 zs = (ys, e)) →
                                    (ys = [] ∨ E'_1 (Value.slice b' l' c') (List.map (Value.int IntKind.u8) ys)) ∧
                                        List.length ys = l' ∧
                                          l' ≤ c' ∧ (∀ (z : Int), List.Mem z ys → 0 ≤ z ∧ z ≤ 255) ∧ (b' = none → ys = []) →
                                      Mem.le E' E'_1 ∧
                                        bif bif true then e == 0 else false then
                                          ∃ (zs : List Int),
                                            ((zs = [] ∨ E'_1 (Value.slice b' l' c') (List.map (Value.int IntKind.u8) zs)) ∧
                                                List.length zs = l' ∧
                                                  l' ≤ c' ∧
                                                    (∀ (z : Int), List.Mem z zs → 0 ≤ z ∧ z ≤ 255) ∧ (b' = none → zs = [])) ∧
                                              ((zs = [] ∨ E'_1 (Value.slice b2 l2 c2) (List.map (Value.int IntKind.u8) zs)) ∧
                                                  List.length zs = l2 ∧
                                                    l2 ≤ c2 ∧
                                                      (∀ (z : Int), List.Mem z zs → 0 ≤ z ∧ z ≤ 255) ∧
                                                        (b2 = none → zs = [])) ∧
                                                l' ≤ 100000 ∧
                                                  Mem.le E'_1 E'_1 ∧ Mem.le E0 E'_1 ∧ K (SV.raw (Value.bool true)) E'_1
                                        else Mem.le E0 E'_1 ∧ K (SV.raw (Value.bool false)) E'_1)
  have hlen2 := hB2.2.1
  refine ⟨z2, hB2, by omega, fun k f t a y b4 l4 c4 ys e E1 q1 hy A => ⟨q1, ?_⟩⟩
  have hy : uk0 z2 0 = ([k, f, t, a, y], ys, e) := hy
  have A : Bs E1 b4 l4 c4 ys := A
  refine condC (fun g => ⟨Mem.le_trans hE0 q1, h E1 q1⟩) (fun g => ?_)
  have g : e = 0 := by simpa using g
  subst g
  obtain ⟨o1, o2, o3⟩ := uk_inv (BsB hB2) hy
  refine ⟨ys, A, by rw [← A.2.1]; omega, fun b5 l5 c5 xs e E2 q2 hz A5 => ⟨q2, ?_⟩⟩
  have hz : pk k f t a y ys = (xs, e) := hz
  rw [pk_ok ⟨o1, o2⟩] at hz
  obtain ⟨hx, rfl⟩ := Prod.mk.inj hz
  have hx : z2 = xs := o3.trans hx
  have A5 : Bs E2 b5 l5 c5 xs := A5
  rw [← hx] at A5
  have q12 := Mem.le_trans q1 q2
  refine condC (fun _ => ?_) (fun x => absurd x (by simp))
  exact ⟨z2, A5, hB2.mono q12, by have := A5.2.1; omega, Mem.le_refl _, Mem.le_trans hE0 q12, h E2 q12⟩
theorem e6 {a1 : Int} {a2 : Int} {a3 : Int} {a4 : Int} {a5 : Int} {b1 : Option Addr} {l1 : Nat} {c1 : Nat} {z1 : List Int} {b2 : Option Addr} {l2 : Nat} {c2 : Nat} {z2 : List Int} (ha1 : (Lit.int .i64 a1).wf = true) (ha2 : (Lit.int .i64 a2).wf = true) (ha3 : (Lit.int .i64 a3).wf = true) (ha4 : (Lit.int .i64 a4).wf = true) (ha5 : (Lit.int .i64 a5).wf = true) (hB1 : Bs E b1 l1 c1 z1) (hB2 : Bs E b2 l2 c2 z2) (h : ∀ E' : Mem, Mem.le E E' → K (B true) E') :
    Ent WL6 6 Try.f6 [.agg [I a1, I a2, I a3, I a4, I a5, L b1 l1 c1], L b2 l2 c2] E K := by
  refine same (by kernel_rfl) (?_ : 
      ∀ (E' : Mem),
        Mem.le E E' →
          Mem.le E E' ∧
            bif decide ((↑l1 : Int) > 6000) then Mem.le E E' ∧ K (SV.raw (Value.bool true)) E'
            else
              bif bif false then true else decide ((↑l2 : Int) > 6000) then Mem.le E E' ∧ K (SV.raw (Value.bool true)) E'
              else
                ∃ (zs : List Int),
                  ((zs = [] ∨ E' (Value.slice b1 l1 c1) (List.map (Value.int IntKind.u8) zs)) ∧
                      List.length zs = l1 ∧
                        l1 ≤ c1 ∧ (∀ (z : Int), List.Mem z zs → 0 ≤ z ∧ z ≤ 255) ∧ (b1 = none → zs = [])) ∧
                    l1 ≤ 100000 ∧
                      ∀ (b' : Option Addr) (l' c' : Nat) (ys : List Int) (e : Int) (E'_1 : Mem),
                        Mem.le E' E'_1 →
                          Hyp (pk a1 a2 a3 a4 a5 zs = (ys, e)) →
                            (ys = [] ∨ E'_1 (Value.slice b' l' c') (List.map (Value.int IntKind.u8) ys)) ∧
                                List.length ys = l' ∧
                                  l' ≤ c' ∧ (∀ (z : Int), List.Mem z ys → 0 ≤ z ∧ z ≤ 255) ∧ (b' = none → ys = []) →
                              Mem.le E' E'_1 ∧
                                bif e == 0 then
                                  ∃ (zs : List Int),
                                    ((zs = [] ∨ E'_1 (Value.slice b' l' c') (List.map (Value.int IntKind.u8) zs)) ∧
                                        List.length zs = l' ∧
                                          l' ≤ c' ∧ (∀ (z : Int), List.Mem z zs → 0 ≤ z ∧ z ≤ 255) ∧ (b' = none → zs = [])) ∧
                                      l' ≤ 100000 ∧
                                        ∀ (k1 f1 t1 a1_1 y1 : Int) (b1_1 : Option Addr) (l1_1 c1_1 : Nat) (ys : List Int)
                                          (e1 : Int) (E' : Mem),
                                          Mem.le E'_1 E' →
                                            Hyp (uk0 zs 0 = ([k1, f1, t1, a1_1, y1], ys, e1)) →
                                              (ys = [] ∨
                                                    E' (Value.slice b1_1 l1_1 c1_1) (List.map (Value.int IntKind.u8) ys)) ∧
                                                  List.length ys = l1_1 ∧
                                                    l1_1 ≤ c1_1 ∧
                                                      (∀ (z : Int), List.Mem z ys → 0 ≤ z ∧ z ≤ 255) ∧
                                                        (b1_1 = none → ys = []) →
                                                Mem.le E'_1 E' ∧
                                                  bif bif true then e1 == 0 else false then
                                                    ∃ (zs : List Int),
                                                      ((zs = [] ∨
                                                            E' (Value.slice b1 l1 c1) (List.map (Value.int IntKind.u8) zs)) ∧
                                                          List.length zs = l1 ∧
                                                            l1 ≤ c1 ∧
                                                              (∀ (z : Int), List.Mem z zs → 0 ≤ z ∧ z ≤ 255) ∧
                                                                (b1 = none → zs = [])) ∧
                                                        ((zs = [] ∨
                                                              E' (Value.slice b1_1 l1_1 c1_1)
                                                                (List.map (Value.int IntKind.u8) zs)) ∧
                                                            List.length zs = l1_1 ∧
                                                              l1_1 ≤ c1_1 ∧
                                                                (∀ (z : Int), List.Mem z zs → 0 ≤ z ∧ z ≤ 255) ∧
                                                                  (b1_1 = none → zs = [])) ∧
                                                          l1 ≤ 100000 ∧
                                                            [a1, a2, a3, a4, a5] = [k1, f1, t1, a1_1, y1] ∧
                                                              Mem.le E' E' ∧
                                                                Ct WL6 6 Try.f6 [1, 1, 1, 1, 1] 0 (pubK E K)
                                                                  {
                                                                    fr :=
                                                                      [some
                                                                          (SV.agg
                                                                            [SV.raw (Value.int IntKind.i64 a1),
                                                                              SV.raw (Value.int IntKind.i64 a2),
                                                                              SV.raw (Value.int IntKind.i64 a3),
                                                                              SV.raw (Value.int IntKind.i64 a4),
                                                                              SV.raw (Value.int IntKind.i64 a5),
                                                                              SV.raw (Value.slice b1 l1 c1)]),
                                                                        some (SV.raw (Value.slice b2 l2 c2)),
                                                                        some (SV.loc 0 0), none,
                                                                        some (SV.raw (Value.bool false)),
                                                                        some (SV.raw (Value.bool true)),
                                                                        some (SV.raw (Value.slice b' l' c')),
                                                                        some (SV.raw (Value.int IntKind.i64 e)),
                                                                        some (SV.loc 1 0),
                                                                        some (SV.raw (Value.int IntKind.i64 e1)), none, none,
                                                                        none, none, some (SV.raw (Value.bool true)),
                                                                        some (SV.loc 0 5),
                                                                        some (SV.raw (Value.slice b1 l1 c1)),
                                                                        some (SV.raw (Value.int IntKind.i64 (↑l1 : Int))),
                                                                        some
                                                                          (SV.raw (Value.bool (decide ((↑l1 : Int) > 6000)))),
                                                                        some (SV.raw (Value.bool false)),
                                                                        some (SV.raw (Value.slice b2 l2 c2)),
                                                                        some (SV.raw (Value.int IntKind.i64 (↑l2 : Int))),
                                                                        some
                                                                          (SV.raw (Value.bool (decide ((↑l2 : Int) > 6000)))),
                                                                        some
                                                                          (SV.raw
                                                                            (Value.bool
                                                                              (bif false then true
                                                                              else decide ((↑l2 : Int) > 6000)))),
                                                                        none,
                                                                        some
                                                                          (SV.tup
                                                                            [SV.raw (Value.slice b' l' c'),
                                                                              SV.raw (Value.int IntKind.i64 e)]),
                                                                        some
                                                                          (SV.agg
                                                                            [SV.raw (Value.int IntKind.i64 a1),
                                                                              SV.raw (Value.int IntKind.i64 a2),
                                                                              SV.raw (Value.int IntKind.i64 a3),
                                                                              SV.raw (Value.int IntKind.i64 a4),
                                                                              SV.raw (Value.int IntKind.i64 a5),
                                                                              SV.raw (Value.slice b1 l1 c1)]),
                                                                        some
                                                                          (SV.tup
                                                                            [SV.raw (Value.slice b' l' c'),
                                                                              SV.raw (Value.int IntKind.i64 e)]),
                                                                        some (SV.raw (Value.slice b' l' c')),
                                                                        some (SV.raw (Value.int IntKind.i64 e)),
                                                                        some (SV.raw (Value.int IntKind.i64 e)),
                                                                        some (SV.raw (Value.bool (e == 0))),
                                                                        some
                                                                          (SV.tup
                                                                            [SV.agg
                                                                                [SV.raw (Value.int IntKind.i64 k1),
                                                                                  SV.raw (Value.int IntKind.i64 f1),
                                                                                  SV.raw (Value.int IntKind.i64 t1),
                                                                                  SV.raw (Value.int IntKind.i64 a1_1),
                                                                                  SV.raw (Value.int IntKind.i64 y1),
                                                                                  SV.raw (Value.slice b1_1 l1_1 c1_1)],
                                                                              SV.raw (Value.int IntKind.i64 e1)]),
                                                                        some (SV.raw (Value.slice b' l' c')),
                                                                        some
                                                                          (SV.tup
                                                                            [SV.agg
                                                                                [SV.raw (Value.int IntKind.i64 k1),
                                                                                  SV.raw (Value.int IntKind.i64 f1),
                                                                                  SV.raw (Value.int IntKind.i64 t1),
                                                                                  SV.raw (Value.int IntKind.i64 a1_1),
                                                                                  SV.raw (Value.int IntKind.i64 y1),
                                                                                  SV.raw (Value.slice b1_1 l1_1 c1_1)],
                                                                              SV.raw (Value.int IntKind.i64 e1)]),
                                                                        some
                                                                          (SV.agg
                                                                            [SV.raw (Value.int IntKind.i64 k1),
                                                                              SV.raw (Value.int IntKind.i64 f1),
                                                                              SV.raw (Value.int IntKind.i64 t1),
                                                                              SV.raw (Value.int IntKind.i64 a1_1),
                                                                              SV.raw (Value.int IntKind.i64 y1),
                                                                              SV.raw (Value.slice b1_1 l1_1 c1_1)]),
                                                                        some (SV.raw (Value.int IntKind.i64 e1)),
                                                                        some (SV.raw (Value.bool true)),
                                                                        some (SV.raw (Value.bool true)),
                                                                        some (SV.raw (Value.int IntKind.i64 e1)),
                                                                        some (SV.raw (Value.bool (e1 == 0))),
                                                                        some
                                                                          (SV.raw
                                                                            (Value.bool (bif true then e1 == 0 else false))),
                                                                        some (SV.raw (Value.bool true)),
                                                                        some
                                                                          (SV.agg
                                                                            [SV.raw (Value.int IntKind.i64 a1),
                                                                              SV.raw (Value.int IntKind.i64 a2),
                                                                              SV.raw (Value.int IntKind.i64 a3),
                                                                              SV.raw (Value.int IntKind.i64 a4),
                                                                              SV.raw (Value.int IntKind.i64 a5),
                                                                              SV.raw (Value.slice b1 l1 c1)]),
                                                                        some
                                                                          (SV.agg
                                                                            [SV.raw (Value.int IntKind.i64 k1),
                                                                              SV.raw (Value.int IntKind.i64 f1),
                                                                              SV.raw (Value.int IntKind.i64 t1),
                                                                              SV.raw (Value.int IntKind.i64 a1_1),
                                                                              SV.raw (Value.int IntKind.i64 y1),
                                                                              SV.raw (Value.slice b1_1 l1_1 c1_1)]),
                                                                        some (SV.raw (Value.bool true)),
                                                                        some (SV.raw (Value.bool true)), none, none, none,
                                                                        none, none, none, none, none, none, none, none, none,
                                                                        none, none, none, none, none, none, none, none, none,
                                                                        none, none],
                                                                    bx :=
                                                                      [{ elem := 24,
                                                                          row :=
                                                                            Row.lst
                                                                              [SV.raw (Value.int IntKind.i64 a1),
                                                                                SV.raw (Value.int IntKind.i64 a2),
                                                                                SV.raw (Value.int IntKind.i64 a3),
                                                                                SV.raw (Value.int IntKind.i64 a4),
                                                                                SV.raw (Value.int IntKind.i64 a5),
                                                                                SV.raw (Value.slice b1 l1 c1)],
                                                                          total := 6, own := true },
                                                                        { elem := 24,
                                                                          row :=
                                                                            Row.lst
                                                                              [SV.raw (Value.int IntKind.i64 k1),
                                                                                SV.raw (Value.int IntKind.i64 f1),
                                                                                SV.raw (Value.int IntKind.i64 t1),
                                                                                SV.raw (Value.int IntKind.i64 a1_1),
                                                                                SV.raw (Value.int IntKind.i64 y1),
                                                                                SV.raw (Value.slice b1_1 l1_1 c1_1)],
                                                                          total := 6, own := true }],
                                                                    E := E' }
                                                  else
                                                    Ct WL6 6 Try.f6 [1, 1, 1, 1, 1] 0 (pubK E K)
                                                      {
                                                        fr :=
                                                          [some
                                                              (SV.agg
                                                                [SV.raw (Value.int IntKind.i64 a1),
                                                                  SV.raw (Value.int IntKind.i64 a2),
                                                                  SV.raw (Value.int IntKind.i64 a3),
                                                                  SV.raw (Value.int IntKind.i64 a4),
                                                                  SV.raw (Value.int IntKind.i64 a5),
                                                                  SV.raw (Value.slice b1 l1 c1)]),
                                                            some (SV.raw (Value.slice b2 l2 c2)), some (SV.loc 0 0), none,
                                                            some (SV.raw (Value.bool false)),
                                                            some (SV.raw (Value.bool false)),
                                                            some (SV.raw (Value.slice b' l' c')),
                                                            some (SV.raw (Value.int IntKind.i64 e)), some (SV.loc 1 0),
                                                            some (SV.raw (Value.int IntKind.i64 e1)), none, none, none, none,
                                                            some (SV.raw (Value.bool true)), some (SV.loc 0 5),
                                                            some (SV.raw (Value.slice b1 l1 c1)),
                                                            some (SV.raw (Value.int IntKind.i64 (↑l1 : Int))),
                                                            some (SV.raw (Value.bool (decide ((↑l1 : Int) > 6000)))),
                                                            some (SV.raw (Value.bool false)),
                                                            some (SV.raw (Value.slice b2 l2 c2)),
                                                            some (SV.raw (Value.int IntKind.i64 (↑l2 : Int))),
                                                            some (SV.raw (Value.bool (decide ((↑l2 : Int) > 6000)))),
                                                            some
                                                              (SV.raw
                                                                (Value.bool
                                                                  (bif false then true else decide ((↑l2 : Int) > 6000)))),
                                                            none,
                                                            some
                                                              (SV.tup
                                                                [SV.raw (Value.slice b' l' c'),
                                                                  SV.raw (Value.int IntKind.i64 e)]),
                                                            some
                                                              (SV.agg
                                                                [SV.raw (Value.int IntKind.i64 a1),
                                                                  SV.raw (Value.int IntKind.i64 a2),
                                                                  SV.raw (Value.int IntKind.i64 a3),
                                                                  SV.raw (Value.int IntKind.i64 a4),
                                                                  SV.raw (Value.int IntKind.i64 a5),
                                                                  SV.raw (Value.slice b1 l1 c1)]),
                                                            some
                                                              (SV.tup
                                                                [SV.raw (Value.slice b' l' c'),
                                                                  SV.raw (Value.int IntKind.i64 e)]),
                                                            some (SV.raw (Value.slice b' l' c')),
                                                            some (SV.raw (Value.int IntKind.i64 e)),
                                                            some (SV.raw (Value.int IntKind.i64 e)),
                                                            some (SV.raw (Value.bool (e == 0))),
                                                            some
                                                              (SV.tup
                                                                [SV.agg
                                                                    [SV.raw (Value.int IntKind.i64 k1),
                                                                      SV.raw (Value.int IntKind.i64 f1),
                                                                      SV.raw (Value.int IntKind.i64 t1),
                                                                      SV.raw (Value.int IntKind.i64 a1_1),
                                                                      SV.raw (Value.int IntKind.i64 y1),
                                                                      SV.raw (Value.slice b1_1 l1_1 c1_1)],
                                                                  SV.raw (Value.int IntKind.i64 e1)]),
                                                            some (SV.raw (Value.slice b' l' c')),
                                                            some
                                                              (SV.tup
                                                                [SV.agg
                                                                    [SV.raw (Value.int IntKind.i64 k1),
                                                                      SV.raw (Value.int IntKind.i64 f1),
                                                                      SV.raw (Value.int IntKind.i64 t1),
                                                                      SV.raw (Value.int IntKind.i64 a1_1),
                                                                      SV.raw (Value.int IntKind.i64 y1),
                                                                      SV.raw (Value.slice b1_1 l1_1 c1_1)],
                                                                  SV.raw (Value.int IntKind.i64 e1)]),
                                                            some
                                                              (SV.agg
                                                                [SV.raw (Value.int IntKind.i64 k1),
                                                                  SV.raw (Value.int IntKind.i64 f1),
                                                                  SV.raw (Value.int IntKind.i64 t1),
                                                                  SV.raw (Value.int IntKind.i64 a1_1),
                                                                  SV.raw (Value.int IntKind.i64 y1),
                                                                  SV.raw (Value.slice b1_1 l1_1 c1_1)]),
                                                            some (SV.raw (Value.int IntKind.i64 e1)),
                                                            some (SV.raw (Value.bool true)), some (SV.raw (Value.bool true)),
                                                            some (SV.raw (Value.int IntKind.i64 e1)),
                                                            some (SV.raw (Value.bool (e1 == 0))),
                                                            some (SV.raw (Value.bool (bif true then e1 == 0 else false))),
                                                            some (SV.raw (Value.bool false)),
                                                            some (SV.raw (Value.tuple { toList := [] })),
                                                            some (SV.raw (Value.tuple { toList := [] })),
                                                            some (SV.raw (Value.tuple { toList := [] })),
                                                            some (SV.raw (Value.bool false)), none, none, none, none, none,
                                                            none, none, none, none, none, none, none, none, none, none, none,
                                                            none, none, none, none, none, none, none],
                                                        bx :=
                                                          [{ elem := 24,
                                                              row :=
                                                                Row.lst
                                                                  [SV.raw (Value.int IntKind.i64 a1),
                                                                    SV.raw (Value.int IntKind.i64 a2),
                                                                    SV.raw (Value.int IntKind.i64 a3),
                                                                    SV.raw (Value.int IntKind.i64 a4),
                                                                    SV.raw (Value.int IntKind.i64 a5),
                                                                    SV.raw (Value.slice b1 l1 c1)],
                                                              total := 6, own := true },
                                                            { elem := 24,
                                                              row :=
                                                                Row.lst
                                                                  [SV.raw (Value.int IntKind.i64 k1),
                                                                    SV.raw (Value.int IntKind.i64 f1),
                                                                    SV.raw (Value.int IntKind.i64 t1),
                                                                    SV.raw (Value.int IntKind.i64 a1_1),
                                                                    SV.raw (Value.int IntKind.i64 y1),
                                                                    SV.raw (Value.slice b1_1 l1_1 c1_1)],
                                                              total := 6, own := true }],
                                                        E := E' }
                                else
                                  Ct WL6 6 Try.f6 [1, 1, 1, 1, 1] 0 (pubK E K)
                                    {
                                      fr :=
                                        [some
                                            (SV.agg
                                              [SV.raw (Value.int IntKind.i64 a1), SV.raw (Value.int IntKind.i64 a2),
                                                SV.raw (Value.int IntKind.i64 a3), SV.raw (Value.int IntKind.i64 a4),
                                                SV.raw (Value.int IntKind.i64 a5), SV.raw (Value.slice b1 l1 c1)]),
                                          some (SV.raw (Value.slice b2 l2 c2)), some (SV.loc 0 0), none,
                                          some (SV.raw (Value.bool false)), some (SV.raw (Value.bool true)),
                                          some (SV.raw (Value.slice b' l' c')), some (SV.raw (Value.int IntKind.i64 e)), none,
                                          none, none, none, none, none, some (SV.raw (Value.bool true)), some (SV.loc 0 5),
                                          some (SV.raw (Value.slice b1 l1 c1)),
                                          some (SV.raw (Value.int IntKind.i64 (↑l1 : Int))),
                                          some (SV.raw (Value.bool (decide ((↑l1 : Int) > 6000)))),
                                          some (SV.raw (Value.bool false)), some (SV.raw (Value.slice b2 l2 c2)),
                                          some (SV.raw (Value.int IntKind.i64 (↑l2 : Int))),
                                          some (SV.raw (Value.bool (decide ((↑l2 : Int) > 6000)))),
                                          some (SV.raw (Value.bool (bif false then true else decide ((↑l2 : Int) > 6000)))),
                                          none,
                                          some (SV.tup [SV.raw (Value.slice b' l' c'), SV.raw (Value.int IntKind.i64 e)]),
                                          some
                                            (SV.agg
                                              [SV.raw (Value.int IntKind.i64 a1), SV.raw (Value.int IntKind.i64 a2),
                                                SV.raw (Value.int IntKind.i64 a3), SV.raw (Value.int IntKind.i64 a4),
                                                SV.raw (Value.int IntKind.i64 a5), SV.raw (Value.slice b1 l1 c1)]),
                                          some (SV.tup [SV.raw (Value.slice b' l' c'), SV.raw (Value.int IntKind.i64 e)]),
                                          some (SV.raw (Value.slice b' l' c')), some (SV.raw (Value.int IntKind.i64 e)),
                                          some (SV.raw (Value.int IntKind.i64 e)), some (SV.raw (Value.bool (e == 0))), none,
                                          none, none, none, none, none, none, none, none, none, none, none, none, none, none,
                                          none, none, none, none, none, none, none, none, none, none, none, none, none, none,
                                          none, none, none, none, none, none, none, none, none],
                                      bx :=
                                        [{ elem := 24,
                                            row :=
                                              Row.lst
                                                [SV.raw (Value.int IntKind.i64 a1), SV.raw (Value.int IntKind.i64 a2),
                                                  SV.raw (Value.int IntKind.i64 a3), SV.raw (Value.int IntKind.i64 a4),
                                                  SV.raw (Value.int IntKind.i64 a5), SV.raw (Value.slice b1 l1 c1)],
                                            total := 6, own := true }],
                                      E := E'_1 })
  intro E1 hE0
  have hlen := hB1.2.1
  refine ⟨hE0, condC (fun _ => ⟨hE0, h E1 hE0⟩) (fun g1 => ?_)⟩
  have g1 : l1 ≤ 6000 := by simp at g1; omega
  refine condC (fun _ => ⟨hE0, h E1 hE0⟩) (fun g2 => ?_)
  have g2 : l2 ≤ 6000 := by simp at g2; omega
  refine ⟨_, hB1.mono hE0, by omega, fun b4 l4 c4 ys e E2 q2 hy A => ⟨q2, ?_⟩⟩
  have hy : pk a1 a2 a3 a4 a5 z1 = (ys, e) := hy
  have A : Bs E2 b4 l4 c4 ys := A
  have hq := Mem.le_trans hE0 q2
  refine condC (fun g => ?_) (fun g => ?_)
  · have g : e = 0 := by simpa using g
    subst g
    obtain ⟨o1, o2, o3⟩ := pk_inv hy
    have hl := pkL_len (k := a1) (f := a2) (t := a3) (a := a4) (y := a5) (zs := z1) (by omega)
    refine ⟨ys, A, by rw [← A.2.1, o3]; omega, fun k f t a y b5 l5 c5 xs e E3 q3 hz A5 => ⟨q3, ?_⟩⟩
    have hz : uk0 ys 0 = ([k, f, t, a, y], xs, e) := hz
    rw [o3, uk_pk o1 o2] at hz
    obtain ⟨hx, hz⟩ := Prod.mk.inj hz
    obtain ⟨rfl, rfl⟩ := Prod.mk.inj hz
    have A5 : Bs E3 b5 l5 c5 _ := A5
    have hq3 := Mem.le_trans hq q3
    refine condC (fun _ => ?_) (fun x => absurd x (by simp))
    exact ⟨_, hB1.mono hq3, A5, by omega, hx, Mem.le_refl _, Ct_re [] (Ct_intro okWL6 (pcL6_8 (hB2.mono hq3) g2 hq3 (fun E' hE' => h E' (Mem.le_trans hq3 hE')))) ⟨⟨Nat.zero_le _, Nat.zero_le _, fun j h => absurd h (Nat.not_lt_zero _)⟩, rfl, (by repeat' first | exact True.intro | refine And.intro (Or.inl rfl) ?_), True.intro, (by show List.Nodup []; decide), Mem.le_refl _⟩⟩
  · exact Ct_re [] (Ct_intro okWL6 (pcL6_8 (hB2.mono hq) g2 hq (fun E' hE' => h E' (Mem.le_trans hq hE')))) ⟨⟨Nat.zero_le _, Nat.zero_le _, fun j h => absurd h (Nat.not_lt_zero _)⟩, rfl, (by repeat' first | exact True.intro | refine And.intro (Or.inl rfl) ?_), True.intro, (by show List.Nodup []; decide), Mem.le_refl _⟩


theorem opn6 (W : World) (K : List SV → Prop) (h : ∀ a1 : Int, (Lit.int .i64 a1).wf = true → ∀ a2 : Int, (Lit.int .i64 a2).wf = true → ∀ a3 : Int, (Lit.int .i64 a3).wf = true → ∀ a4 : Int, (Lit.int .i64 a4).wf = true → ∀ a5 : Int, (Lit.int .i64 a5).wf = true → ∀ (b1 : Option Addr) (l1 c1 : Nat) (z1 : List Int), (l1 ≤ c1) → (c1 ≤ maxLen) → (b1 = none → c1 = 0) → (z1.length = c1) → (∀ x ∈ z1, (Lit.int .u8 x).wf = true) → RowAt W (.slice b1 l1 c1) (z1.map (.int .u8)) → ∀ (b2 : Option Addr) (l2 c2 : Nat) (z2 : List Int), (l2 ≤ c2) → (c2 ≤ maxLen) → (b2 = none → c2 = 0) → (z2.length = c2) → (∀ x ∈ z2, (Lit.int .u8 x).wf = true) → RowAt W (.slice b2 l2 c2) (z2.map (.int .u8)) → K [.agg [I a1, I a2, I a3, I a4, I a5, L b1 l1 c1], L b2 l2 c2]) : opnAll Try.prog W Try.f6.params.toList K :=
  same (by kernel_rfl) h

theorem sem6 (W : World) : opnAll Try.prog W Try.f6.params.toList fun ss => TabSem Try.prog 6 ss (fun v cs => RowAt W v cs) fun r _ => r = .raw (.bool true) := by
  refine opn6 W _ ?_
  intro a1 ha1 a2 ha2 a3 ha3 a4 ha4 a5 ha5 b1 l1 c1 z1 hl1 hc1 hb1 hz1 hw1 hE1 b2 l2 c2 z2 hl2 hc2 hb2 hz2 hw2 hE2
  exact Ent.sem okWL6 Try.func6 ⟨by kernel_rfl, by kernel_rfl⟩ rfl (e6 ha1 ha2 ha3 ha4 ha5 (Bs.of hl1 hb1 hz1 hw1 hE1) (Bs.of hl2 hb2 hz2 hw2 hE2) (fun _ _ => rfl))

theorem lifted6 (os : Os) (started : os.Started) (H : Type) (enc : TypeId × Value → H) :
    ReturnsInHanded {} Try.checked os 6 .any (Rows.wireFramesSpec.pre6 enc Try.prog Try.f6 Rows.wireFramesRow.domain false) (Rows.wireFramesSpec.post enc Try.prog Try.f6 false true false false) :=
  lift_true (C := Try.checked) (by kernel_rfl) (by kernel_rfl) started (by kernel_rfl) Try.func6
    (ChangeSpec.witness6 (enc := enc) (C := Try.checked) false ⟨#[], #[.agg #[.int .i64 0, .int .i64 0, .int .i64 0, .int .i64 0, .int .i64 0, .slice none 0 0], .slice none 0 0], []⟩ 8 (by kernel_rfl) (by kernel_rfl) (by kernel_rfl) (by kernel_rfl))
    (Tb := 4) (by kernel_rfl) (by kernel_rfl) (by kernel_rfl) rfl
    (fun ds hl => by
      match ds, hl with
      | [d0, d1], _ => exact ⟨rfl, rfl, rfl⟩)
    sem6

theorem over6 : Rows.wireFramesRow.holds Try.pinned (OpenSpec.ofChange Rows.wireFramesSpec) :=
  OpenClaim.holds_of_wide 6 Try.f6 rfl rfl rfl rfl rfl rfl rfl ⟨rfl, rfl, rfl, rfl, rfl⟩ rfl rfl rfl rfl rfl (by kernel_rfl) Try.func6 (by kernel_rfl)
    (of_decide_eq_true (by kernel_rfl)) (by unfold Func.isWrapper; first | (rw [if_pos (by decide +kernel)]; kernel_rfl) | (rw [if_neg (by decide +kernel)]; exact ⟨rfl, rfl⟩))
    (fun os started H enc _ => lifted6 os started H enc)

theorem proved6 : Rows.WireFramesSaid := over6
end Go.Proofs.Ytjlpfhekhpebpaa.WireOwn
