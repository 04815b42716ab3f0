/- The law SeenExactly. -/
import Derived.Test.YtjibgfihfbdcaaaSeen16
import Derived.OpenShut
import Derived.Test.YtjibgfihfbdcaaaRows
namespace Go.Proofs.Ytjibgfihfbdcaaa.SeenOwn
open Go Go.Sx Go.Proofs.Ytjibgfihfbdcaaa
set_option maxRecDepth 100000
set_option maxHeartbeats 4000000
set_option linter.unusedVariables false
set_option linter.unusedSimpArgs false
variable {E : Mem} {K : SV → Mem → Prop}
noncomputable def tabL4 : FuncId → List SV → Mem → (SV → Mem → Prop) → Prop := fun f args E K => match f with
  | 9 => d0 args ((∀ (E' : Mem), Mem.le E E' → K (B true) E'))
  | 10 => d1 args fun x0 => dS x0 fun b1 l2 c3 => ∃ (xs : List Sn), SS E b1 l2 c3 xs ∧ (∀ x ∈ xs, x.2.length ≤ 9223372036854775807) ∧ (K (B (decide (fewS xs))) E)
  | 11 => d3 args fun x0 x1 x2 => dS x0 fun b1 l2 c3 => dI x1 fun a4 => dI x2 fun a5 => ∃ (xs : List Sn), SS E b1 l2 c3 xs ∧ Sm xs ∧ (∀ (ys : List Sn) (t : Bool) (e : Int), addF xs a4 a5 = (ys, t, e) → ∀ (b' : Option Addr) (l' c' : Nat) (E' : Mem), Mem.le E E' → SS E' b' l' c' ys → K (.tup [L b' l' c', B t, I e]) E')
  | 13 => d1 args fun x0 => dS x0 fun b1 l2 c3 => ∃ (xs : List Sn), SS E b1 l2 c3 xs ∧ Sm xs ∧ (K (B (decide (validS xs))) E)
  | 15 => d3 args fun x0 x1 x2 => dS x0 fun b1 l2 c3 => dI x1 fun a4 => dI x2 fun a5 => ∃ (xs : List Sn), SS E b1 l2 c3 xs ∧ Sm xs ∧ (-9223372036854775808 ≤ a4 ∧ a4 ≤ 9223372036854775807) ∧ (K (B (decide (hasP xs a4 a5))) E)
  | 17 => d2 args fun x0 x1 => dS x0 fun b1 l2 c3 => dS x1 fun b4 l5 c6 => ∃ (xs : List Sn) (ys : List Sn), SS E b1 l2 c3 xs ∧ SS E b4 l5 c6 ys ∧ Sm xs ∧ (K (B (decide (xs = ys))) E)
  | _ => False
theorem tabL4_ok : TabOK Try.prog tabL4 := by
  intro f args E K h
  unfold tabL4 at h
  split at h
  · obtain ⟨rfl, h⟩ := d0_elim h
    exact TabSem.congr rfl (Ent.sem okN3 Try.func9 ⟨by kernel_rfl, by kernel_rfl⟩ rfl (s9 h))
  · replace h := d1_elim h
    obtain ⟨x0, rfl, h⟩ := h
    replace h := dS_elim h
    obtain ⟨b1, l2, c3, rfl, h⟩ := h
    obtain ⟨xs, g0, g1, h⟩ := h
    exact TabSem.congr (valL_cons rfl rfl) (Ent.sem okN2 Try.func10 ⟨by kernel_rfl, by kernel_rfl⟩ rfl (s10 g0 g1 h))
  · replace h := d3_elim h
    obtain ⟨x0, x1, x2, rfl, h⟩ := h
    replace h := dS_elim h
    obtain ⟨b1, l2, c3, rfl, h⟩ := h
    replace h := dI_elim h
    obtain ⟨a4, rfl, h⟩ := h
    replace h := dI_elim h
    obtain ⟨a5, rfl, h⟩ := h
    obtain ⟨xs, g0, g1, h⟩ := h
    exact TabSem.congr (valL_cons rfl (valL_cons rfl (valL_cons rfl rfl))) (Ent.sem okA1 Try.func11 ⟨by kernel_rfl, by kernel_rfl⟩ rfl (s11 g0 g1 h))
  · replace h := d1_elim h
    obtain ⟨x0, rfl, h⟩ := h
    replace h := dS_elim h
    obtain ⟨b1, l2, c3, rfl, h⟩ := h
    obtain ⟨xs, g0, g1, h⟩ := h
    exact TabSem.congr (valL_cons rfl rfl) (Ent.sem okC6 Try.func13 ⟨by kernel_rfl, by kernel_rfl⟩ rfl (s13 g0 g1 h))
  · replace h := d3_elim h
    obtain ⟨x0, x1, x2, rfl, h⟩ := h
    replace h := dS_elim h
    obtain ⟨b1, l2, c3, rfl, h⟩ := h
    replace h := dI_elim h
    obtain ⟨a4, rfl, h⟩ := h
    replace h := dI_elim h
    obtain ⟨a5, rfl, h⟩ := h
    obtain ⟨xs, g0, g1, g2, h⟩ := h
    exact TabSem.congr (valL_cons rfl (valL_cons rfl (valL_cons rfl rfl))) (Ent.sem okD8 Try.func15 ⟨by kernel_rfl, by kernel_rfl⟩ rfl (s15 g0 g1 g2 h))
  · replace h := d2_elim h
    obtain ⟨x0, x1, rfl, h⟩ := h
    replace h := dS_elim h
    obtain ⟨b1, l2, c3, rfl, h⟩ := h
    replace h := dS_elim h
    obtain ⟨b4, l5, c6, rfl, h⟩ := h
    obtain ⟨xs, ys, g0, g1, g2, h⟩ := h
    exact TabSem.congr (valL_cons rfl (valL_cons rfl rfl)) (Ent.sem okG2 Try.func17 ⟨by kernel_rfl, by kernel_rfl⟩ rfl (s17 g0 g1 g2 h))
  · exact h.elim
noncomputable def WL4 : Cx := { P := Try.prog, inl := fun f => List.contains [] f, tab := tabL4, isB := fun _ => false, tabB := fun _ _ _ _ _ => False, opt := { unroll := 0, carry := [] }, muts := mutsD }
theorem okWL4 : CxOK WL4 := CxOK.four tabL4_ok (by kernel_rfl) (okInl (by kernel_rfl)) (fun _ _ _ _ _ h => h.elim)
theorem e4 {b1 : Option Addr} {l1 : Nat} {c1 : Nat} {x1 : List Sn} {a1 : Int} {a2 : Int} {a3 : Int} {a4 : Int} (hc1 : l1 ≤ maxLen) (hS10 : SS E b1 l1 c1 x1) (hS11 : ∀ x ∈ x1, x.2.length ≤ 9223372036854775807) (ha1 : (Lit.int .i64 a1).wf = true) (ha2 : (Lit.int .i64 a2).wf = true) (ha3 : (Lit.int .i64 a3).wf = true) (ha4 : (Lit.int .i64 a4).wf = true) (h : ∀ E' : Mem, Mem.le E E' → K (B true) E') :
    Ent WL4 8 Try.f4 [L b1 l1 c1, I a1, I a2, I a3, I a4] E K := by
  refine same (by kernel_rfl) (?_ : 
      ∀ (E' : Mem),
        Mem.le E E' →
          Mem.le E E' ∧
            ∃ (xs : List Sn),
              SS E' b1 l1 c1 xs ∧
                (∀ (x : Sn), List.Mem x xs → List.length x.snd ≤ 9223372036854775807) ∧
                  Mem.le E' E' ∧
                    bif !decide (fewS xs) then Mem.le E E' ∧ K (SV.raw (Value.bool true)) E'
                    else
                      ∃ (xs : List Sn),
                        SS E' b1 l1 c1 xs ∧
                          Sm xs ∧
                            ∀ (ys : List Sn) (t : Bool) (e : Int),
                              addF xs a1 a2 = (ys, t, e) →
                                ∀ (b' : Option Addr) (l' c' : Nat) (E'_1 : Mem),
                                  Mem.le E' E'_1 →
                                    SS E'_1 b' l' c' ys →
                                      Mem.le E' E'_1 ∧
                                        bif e != (0 : Int) then
                                          bif bif true then (↑l' : Int) == (0 : Int) else false then
                                            Mem.le E E'_1 ∧ K (SV.raw (Value.bool (bif true then !t else false))) E'_1
                                          else Mem.le E E'_1 ∧ K (SV.raw (Value.bool false)) E'_1
                                        else
                                          ∃ (xs : List Sn),
                                            SS E'_1 b' l' c' xs ∧
                                              Sm xs ∧
                                                ∀ (ys : List Sn) (t_1 : Bool) (e : Int),
                                                  addF xs a1 a2 = (ys, t_1, e) →
                                                    ∀ (b'_1 : Option Addr) (l'_1 c'_1 : Nat) (E' : Mem),
                                                      Mem.le E'_1 E' →
                                                        SS E' b'_1 l'_1 c'_1 ys →
                                                          Mem.le E'_1 E' ∧
                                                            ∃ (xs : List Sn),
                                                              SS E' b' l' c' xs ∧
                                                                Sm xs ∧
                                                                  Mem.le E' E' ∧
                                                                    bif !decide (validS xs) then
                                                                      Mem.le E E' ∧ K (SV.raw (Value.bool false)) E'
                                                                    else
                                                                      ∃ (xs : List Sn),
                                                                        SS E' b1 l1 c1 xs ∧
                                                                          Sm xs ∧
                                                                            ((-9223372036854775808 : Int) ≤ a1 ∧
                                                                                a1 ≤ (9223372036854775807 : Int)) ∧
                                                                              Mem.le E' E' ∧
                                                                                bif
                                                                                    bif false then true
                                                                                    else t == decide (hasP xs a1 a2) then
                                                                                  Mem.le E E' ∧
                                                                                    K (SV.raw (Value.bool false)) E'
                                                                                else
                                                                                  ∃ (xs : List Sn),
                                                                                    SS E' b' l' c' xs ∧
                                                                                      Sm xs ∧
                                                                                        ((-9223372036854775808 : Int) ≤ a1 ∧
                                                                                            a1 ≤
                                                                                              (9223372036854775807 : Int)) ∧
                                                                                          Mem.le E' E' ∧
                                                                                            bif
                                                                                                bif false then true
                                                                                                else
                                                                                                  !decide (hasP xs a1 a2) then
                                                                                              Mem.le E E' ∧
                                                                                                K (SV.raw (Value.bool false))
                                                                                                  E'
                                                                                            else
                                                                                              bif
                                                                                                  bif false then true
                                                                                                  else t_1 then
                                                                                                Mem.le E E' ∧
                                                                                                  K
                                                                                                    (SV.raw
                                                                                                      (Value.bool false))
                                                                                                    E'
                                                                                              else
                                                                                                bif
                                                                                                    bif false then true
                                                                                                    else e != (0 : Int) then
                                                                                                  Mem.le E E' ∧
                                                                                                    K
                                                                                                      (SV.raw
                                                                                                        (Value.bool false))
                                                                                                      E'
                                                                                                else
                                                                                                  ∃ (xs : List Sn),
                                                                                                    ∃ (ys : List Sn),
                                                                                                      SS E' b' l' c' xs ∧
                                                                                                        SS E' b'_1 l'_1 c'_1
                                                                                                            ys ∧
                                                                                                          Sm xs ∧
                                                                                                            Mem.le E' E' ∧
                                                                                                              bif
                                                                                                                  bif
                                                                                                                      false then
                                                                                                                    true
                                                                                                                  else
                                                                                                                    !decide
                                                                                                                        (xs =
                                                                                                                          ys) then
                                                                                                                Mem.le E E' ∧
                                                                                                                  K
                                                                                                                    (SV.raw
                                                                                                                      (Value.bool
                                                                                                                        false))
                                                                                                                    E'
                                                                                                              else
                                                                                                                bif
                                                                                                                    a3 ==
                                                                                                                      a1 then
                                                                                                                  bif
                                                                                                                      bif
                                                                                                                          true then
                                                                                                                        a4 ==
                                                                                                                          a2
                                                                                                                      else
                                                                                                                        false then
                                                                                                                    Mem.le E
                                                                                                                        E' ∧
                                                                                                                      K
                                                                                                                        (SV.raw
                                                                                                                          (Value.bool
                                                                                                                            true))
                                                                                                                        E'
                                                                                                                  else
                                                                                                                    ∃ (xs :
                                                                                                                      List
                                                                                                                        Sn),
                                                                                                                      SS E' b'
                                                                                                                          l'
                                                                                                                          c'
                                                                                                                          xs ∧
                                                                                                                        Sm
                                                                                                                            xs ∧
                                                                                                                          ((-9223372036854775808 :
                                                                                                                                  Int) ≤
                                                                                                                                a3 ∧
                                                                                                                              a3 ≤
                                                                                                                                (9223372036854775807 :
                                                                                                                                  Int)) ∧
                                                                                                                            Mem.le
                                                                                                                                E'
                                                                                                                                E' ∧
                                                                                                                              ∃
                                                                                                                                (xs_1
                                                                                                                                :
                                                                                                                                List
                                                                                                                                  Sn),
                                                                                                                                SS
                                                                                                                                    E'
                                                                                                                                    b1
                                                                                                                                    l1
                                                                                                                                    c1
                                                                                                                                    xs_1 ∧
                                                                                                                                  Sm
                                                                                                                                      xs_1 ∧
                                                                                                                                    ((-9223372036854775808 :
                                                                                                                                            Int) ≤
                                                                                                                                          a3 ∧
                                                                                                                                        a3 ≤
                                                                                                                                          (9223372036854775807 :
                                                                                                                                            Int)) ∧
                                                                                                                                      Mem.le
                                                                                                                                          E'
                                                                                                                                          E' ∧
                                                                                                                                        Mem.le
                                                                                                                                            E
                                                                                                                                            E' ∧
                                                                                                                                          K
                                                                                                                                            (SV.raw
                                                                                                                                              (Value.bool
                                                                                                                                                (bif
                                                                                                                                                    true then
                                                                                                                                                  bif
                                                                                                                                                      false then
                                                                                                                                                    true
                                                                                                                                                  else
                                                                                                                                                    decide
                                                                                                                                                        (hasP
                                                                                                                                                          xs
                                                                                                                                                          a3
                                                                                                                                                          a4) ==
                                                                                                                                                      decide
                                                                                                                                                        (hasP
                                                                                                                                                          xs_1
                                                                                                                                                          a3
                                                                                                                                                          a4)
                                                                                                                                                else
                                                                                                                                                  false)))
                                                                                                                                            E'
                                                                                                                else
                                                                                                                  ∃ (xs :
                                                                                                                    List Sn),
                                                                                                                    SS E' b'
                                                                                                                        l' c'
                                                                                                                        xs ∧
                                                                                                                      Sm xs ∧
                                                                                                                        ((-9223372036854775808 :
                                                                                                                                Int) ≤
                                                                                                                              a3 ∧
                                                                                                                            a3 ≤
                                                                                                                              (9223372036854775807 :
                                                                                                                                Int)) ∧
                                                                                                                          Mem.le
                                                                                                                              E'
                                                                                                                              E' ∧
                                                                                                                            ∃
                                                                                                                              (xs_1
                                                                                                                              :
                                                                                                                              List
                                                                                                                                Sn),
                                                                                                                              SS
                                                                                                                                  E'
                                                                                                                                  b1
                                                                                                                                  l1
                                                                                                                                  c1
                                                                                                                                  xs_1 ∧
                                                                                                                                Sm
                                                                                                                                    xs_1 ∧
                                                                                                                                  ((-9223372036854775808 :
                                                                                                                                          Int) ≤
                                                                                                                                        a3 ∧
                                                                                                                                      a3 ≤
                                                                                                                                        (9223372036854775807 :
                                                                                                                                          Int)) ∧
                                                                                                                                    Mem.le
                                                                                                                                        E'
                                                                                                                                        E' ∧
                                                                                                                                      Mem.le
                                                                                                                                          E
                                                                                                                                          E' ∧
                                                                                                                                        K
                                                                                                                                          (SV.raw
                                                                                                                                            (Value.bool
                                                                                                                                              (bif
                                                                                                                                                  true then
                                                                                                                                                bif
                                                                                                                                                    false then
                                                                                                                                                  true
                                                                                                                                                else
                                                                                                                                                  decide
                                                                                                                                                      (hasP
                                                                                                                                                        xs
                                                                                                                                                        a3
                                                                                                                                                        a4) ==
                                                                                                                                                    decide
                                                                                                                                                      (hasP
                                                                                                                                                        xs_1
                                                                                                                                                        a3
                                                                                                                                                        a4)
                                                                                                                                              else
                                                                                                                                                false)))
                                                                                                                                          E')
  have ob1 : -9223372036854775808 ≤ a1 ∧ a1 ≤ 9223372036854775807 := by simpa [Lit.wf, IntKind.min, IntKind.max, IntKind.signed, IntKind.bits] using ha1
  have ob3 : -9223372036854775808 ≤ a3 ∧ a3 ≤ 9223372036854775807 := by simpa [Lit.wf, IntKind.min, IntKind.max, IntKind.signed, IntKind.bits] using ha3
  intro E1 q1
  refine ⟨q1, x1, hS10.mono SR_ok q1, hS11, Mem.le_refl _, condC (fun g => ⟨q1, h E1 q1⟩) (fun g => ?_)⟩
  have g : fewS x1 := by simpa using g
  have hs : Sm x1 := ⟨by have := g.1; omega, hS11⟩
  have p1 := hS10.mono SR_ok q1
  refine ⟨x1, p1, hs, fun ys t e r b2 l2 c2 E2 q2 s2 => ⟨q2, ?_⟩⟩
  have r : addF x1 a1 a2 = (ys, t, e) := r
  have k2 := Mem.le_trans q1 q2
  have p2 := p1.mono SR_ok q2
  have sm := addF_sm r hs
  rcases add_res r with ⟨z1, z2, z3⟩ | ⟨z0, zA, zv, zt, zh, za⟩
  · subst z2; subst z3
    have hl := s2.len
    have hl : 0 = l2 := hl
    subst hl
    exact condC (fun _ => condC (fun _ => ⟨k2, h E2 k2⟩) (fun w => by simp at w)) (fun w => by simp at w; exact absurd w z1)
  · subst z0
    refine condC (fun w => by simp at w) (fun _ => ⟨ys, s2, sm, fun ys' t' e' r' b3 l3 c3 E3 q3 s3 => ⟨q3, ?_⟩⟩)
    have r' : addF ys a1 a2 = (ys', t', e') := r'
    rw [za] at r'
    cases r'
    have k3 := Mem.le_trans k2 q3
    have p3 := p2.mono SR_ok q3
    have s2' := s2.mono SR_ok q3
    have hy : hasP ys a1 a2 := (zh a1 a2).2 (.inr ⟨rfl, rfl⟩)
    have fin : ¬ (a3 = a1 ∧ a4 = a2) → K (B (bif true then (bif false then true else decide (hasP ys a3 a4) == decide (hasP x1 a3 a4)) else false)) E3 := fun w => by
      have e1 : decide (hasP ys a3 a4) = decide (hasP x1 a3 a4) := by
        rw [decide_eq_decide, zh]
        exact ⟨fun q => q.elim id (fun q => absurd q w), .inl⟩
      rw [e1]
      simpa using h E3 k3
    refine ⟨ys, s2', sm, Mem.le_refl _, condC (fun w => by simp [zv] at w) (fun _ => ⟨x1, p3, hs, ob1, Mem.le_refl _, condC (fun w => by rw [zt] at w; simp at w) (fun _ => ⟨ys, s2', sm, ob1, Mem.le_refl _, condC (fun w => by simp [hy] at w) (fun _ => condC (fun w => by simp at w) (fun _ => condC (fun w => by simp at w) (fun _ => ⟨ys, ys, s2', s3, sm, Mem.le_refl _, condC (fun w => by simp at w) (fun _ => condC (fun g5 => condC (fun g6 => ⟨k3, h E3 k3⟩) (fun g6 => ?_)) (fun g5 => ?_))⟩)))⟩)⟩)⟩
    · exact ⟨ys, s2', sm, ob3, Mem.le_refl _, x1, p3, hs, ob3, Mem.le_refl _, k3, fin (fun w => by rw [w.2] at g6; simp at g6)⟩
    · exact ⟨ys, s2', sm, ob3, Mem.le_refl _, x1, p3, hs, ob3, Mem.le_refl _, k3, fin (fun w => by rw [w.1] at g5; simp at g5)⟩


theorem opn4 (W : World) (K : List SV → Prop) (h : ∀ (b1 : Option Addr) (l1 c1 : Nat) (z1 : List (List Value)), (l1 ≤ c1) → (c1 ≤ maxLen) → (b1 = none → c1 = 0) → (z1.length = c1) → RowAt W (.slice b1 l1 c1) z1.flatten → (∀ r ∈ z1, r.length = 2 ∧ Shp Try.prog W 12 45 r) → ∀ a1 : Int, (Lit.int .i64 a1).wf = true → ∀ a2 : Int, (Lit.int .i64 a2).wf = true → ∀ a3 : Int, (Lit.int .i64 a3).wf = true → ∀ a4 : Int, (Lit.int .i64 a4).wf = true → K [L b1 l1 c1, I a1, I a2, I a3, I a4]) : opnAll Try.prog W Try.f4.params.toList K :=
  same (by kernel_rfl) h

theorem sem4 (W : World) : opnAll Try.prog W Try.f4.params.toList fun ss => TabSem Try.prog 4 ss (fun v cs => RowAt W v cs) fun r _ => r = .raw (.bool true) := by
  refine opn4 W _ ?_
  intro b1 l1 c1 z1 hl1 hc1 hb1 hz1 hE1 hr1 a1 ha1 a2 ha2 a3 ha3 a4 ha4
  exact Ent.sem okWL4 Try.func4 ⟨by kernel_rfl, by kernel_rfl⟩ rfl (e4 (Nat.le_trans hl1 hc1) (SSof hl1 hb1 hz1 hE1 hr1).choose_spec.1 (SSof hl1 hb1 hz1 hE1 hr1).choose_spec.2 ha1 ha2 ha3 ha4 (fun _ _ => rfl))

theorem lifted4 (os : Os) (started : os.Started) (H : Type) (enc : TypeId × Value → H) :
    ReturnsInHanded {} Try.checked os 4 .any (Rows.seenExactlySpec.pre6 enc Try.prog Try.f4 Rows.seenExactlyRow.domain false) (Rows.seenExactlySpec.post enc Try.prog Try.f4 false true false false) :=
  lift_true (C := Try.checked) (by kernel_rfl) (by kernel_rfl) started (by kernel_rfl) Try.func4
    (ChangeSpec.witness6 (enc := enc) (C := Try.checked) false ⟨#[], #[.slice none 0 0, .int .i64 0, .int .i64 0, .int .i64 0, .int .i64 0], []⟩ 8 (by kernel_rfl) (by kernel_rfl) (by kernel_rfl) (by kernel_rfl))
    (Tb := 4) (by kernel_rfl) (by kernel_rfl) (by kernel_rfl) rfl
    (fun ds hl => by
      match ds, hl with
      | [d0, d1, d2, d3, d4], _ => exact ⟨rfl, rfl, rfl⟩)
    sem4

theorem over4 : Rows.seenExactlyRow.holds Try.pinned (OpenSpec.ofChange Rows.seenExactlySpec) :=
  OpenClaim.holds_of_wide 4 Try.f4 rfl rfl rfl rfl rfl rfl rfl ⟨rfl, rfl, rfl, rfl, rfl⟩ rfl rfl rfl rfl rfl (by kernel_rfl) Try.func4 (by kernel_rfl)
    (of_decide_eq_true (by kernel_rfl)) (by unfold Func.isWrapper; first | (rw [if_pos (by decide +kernel)]; kernel_rfl) | (rw [if_neg (by decide +kernel)]; exact ⟨rfl, rfl⟩))
    (fun os started H enc _ => lifted4 os started H enc)

theorem proved4 : Rows.SeenExactlySaid := over4
end Go.Proofs.Ytjibgfihfbdcaaa.SeenOwn
