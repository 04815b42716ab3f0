/- The law SeenMatchesReference. -/
import Derived.Test.YtjibgfihfbdcaaaSeen15
import Derived.OpenShut
import Derived.Test.YtjibgfihfbdcaaaRows
namespace Go.Proofs.Ytjibgfihfbdcaaa.SeenOwn
open Go Go.Sx Go.Proofs.Ytjibgfihfbdcaaa
set_option maxRecDepth 100000
set_option maxHeartbeats 4000000
set_option linter.unusedVariables false
set_option linter.unusedSimpArgs false
variable {E : Mem} {K : SV → Mem → Prop}
noncomputable def tabL3 : FuncId → List SV → Mem → (SV → Mem → Prop) → Prop := fun f args E K => match f with
  | 9 => d0 args ((∀ (E' : Mem), Mem.le E E' → K (B true) E'))
  | 10 => d1 args fun x0 => dS x0 fun b1 l2 c3 => ∃ (xs : List Sn), SS E b1 l2 c3 xs ∧ (∀ x ∈ xs, x.2.length ≤ 9223372036854775807) ∧ (K (B (decide (fewS xs))) E)
  | 11 => d3 args fun x0 x1 x2 => dS x0 fun b1 l2 c3 => dI x1 fun a4 => dI x2 fun a5 => ∃ (xs : List Sn), SS E b1 l2 c3 xs ∧ Sm xs ∧ (∀ (ys : List Sn) (t : Bool) (e : Int), addF xs a4 a5 = (ys, t, e) → ∀ (b' : Option Addr) (l' c' : Nat) (E' : Mem), Mem.le E E' → SS E' b' l' c' ys → K (.tup [L b' l' c', B t, I e]) E')
  | 12 => d3 args fun x0 x1 x2 => dS x0 fun b1 l2 c3 => dI x1 fun a4 => dI x2 fun a5 => ∃ (xs : List Sn), SS E b1 l2 c3 xs ∧ Sm xs ∧ (∀ (ys : List Sn) (t : Bool) (e : Int), addR xs a4 a5 = (ys, t, e) → ∀ (b' : Option Addr) (l' c' : Nat) (E' : Mem), Mem.le E E' → SS E' b' l' c' ys → K (.tup [L b' l' c', B t, I e]) E')
  | 13 => d1 args fun x0 => dS x0 fun b1 l2 c3 => ∃ (xs : List Sn), SS E b1 l2 c3 xs ∧ Sm xs ∧ (K (B (decide (validS xs))) E)
  | 14 => d1 args fun x0 => dS x0 fun b1 l2 c3 => ∃ (xs : List Sn), SS E b1 l2 c3 xs ∧ Sm xs ∧ (K (B (decide (validS xs))) E)
  | 15 => d3 args fun x0 x1 x2 => dS x0 fun b1 l2 c3 => dI x1 fun a4 => dI x2 fun a5 => ∃ (xs : List Sn), SS E b1 l2 c3 xs ∧ Sm xs ∧ (-9223372036854775808 ≤ a4 ∧ a4 ≤ 9223372036854775807) ∧ (K (B (decide (hasP xs a4 a5))) E)
  | 16 => d3 args fun x0 x1 x2 => dS x0 fun b1 l2 c3 => dI x1 fun a4 => dI x2 fun a5 => ∃ (xs : List Sn), SS E b1 l2 c3 xs ∧ Sm xs ∧ (K (B (decide (hasP xs a4 a5))) E)
  | 17 => d2 args fun x0 x1 => dS x0 fun b1 l2 c3 => dS x1 fun b4 l5 c6 => ∃ (xs : List Sn) (ys : List Sn), SS E b1 l2 c3 xs ∧ SS E b4 l5 c6 ys ∧ Sm xs ∧ (K (B (decide (xs = ys))) E)
  | 18 => d2 args fun x0 x1 => dS x0 fun b1 l2 c3 => dS x1 fun b4 l5 c6 => ∃ (zs : List Int) (ys : List Int), NL E b1 l2 c3 zs ∧ NL E b4 l5 c6 ys ∧ l2 ≤ 100000 ∧ (K (B (decide (zs = ys))) E)
  | 19 => d3 args fun x0 x1 x2 => dS x0 fun b1 l2 c3 => dI x1 fun a4 => dI x2 fun a5 => ∃ (xs : List Sn), SS E b1 l2 c3 xs ∧ Sm xs ∧ (-9223372036854775808 ≤ a4 ∧ a4 ≤ 9223372036854775807) ∧ a5 ≤ 1000 ∧ (∀ (b' : Option Addr) (l' c' : Nat) (E' : Mem), Mem.le E E' → NL E' b' l' c' (missF xs a4 a5) → K (L b' l' c') E')
  | 20 => d3 args fun x0 x1 x2 => dS x0 fun b1 l2 c3 => dI x1 fun a4 => dI x2 fun a5 => ∃ (xs : List Sn), SS E b1 l2 c3 xs ∧ Sm xs ∧ a5 ≤ 1000 ∧ (∀ (b' : Option Addr) (l' c' : Nat) (E' : Mem), Mem.le E E' → NL E' b' l' c' (missF xs a4 a5) → K (L b' l' c') E')
  | _ => False
theorem tabL3_ok : TabOK Try.prog tabL3 := by
  intro f args E K h
  unfold tabL3 at h
  split at h
  · obtain ⟨rfl, h⟩ := d0_elim h
    exact TabSem.congr rfl (Ent.sem okN3 Try.func9 ⟨by kernel_rfl, by kernel_rfl⟩ rfl (s9 h))
  · replace h := d1_elim h
    obtain ⟨x0, rfl, h⟩ := h
    replace h := dS_elim h
    obtain ⟨b1, l2, c3, rfl, h⟩ := h
    obtain ⟨xs, g0, g1, h⟩ := h
    exact TabSem.congr (valL_cons rfl rfl) (Ent.sem okN2 Try.func10 ⟨by kernel_rfl, by kernel_rfl⟩ rfl (s10 g0 g1 h))
  · replace h := d3_elim h
    obtain ⟨x0, x1, x2, rfl, h⟩ := h
    replace h := dS_elim h
    obtain ⟨b1, l2, c3, rfl, h⟩ := h
    replace h := dI_elim h
    obtain ⟨a4, rfl, h⟩ := h
    replace h := dI_elim h
    obtain ⟨a5, rfl, h⟩ := h
    obtain ⟨xs, g0, g1, h⟩ := h
    exact TabSem.congr (valL_cons rfl (valL_cons rfl (valL_cons rfl rfl))) (Ent.sem okA1 Try.func11 ⟨by kernel_rfl, by kernel_rfl⟩ rfl (s11 g0 g1 h))
  · replace h := d3_elim h
    obtain ⟨x0, x1, x2, rfl, h⟩ := h
    replace h := dS_elim h
    obtain ⟨b1, l2, c3, rfl, h⟩ := h
    replace h := dI_elim h
    obtain ⟨a4, rfl, h⟩ := h
    replace h := dI_elim h
    obtain ⟨a5, rfl, h⟩ := h
    obtain ⟨xs, g0, g1, h⟩ := h
    exact TabSem.congr (valL_cons rfl (valL_cons rfl (valL_cons rfl rfl))) (Ent.sem okA2 Try.func12 ⟨by kernel_rfl, by kernel_rfl⟩ rfl (s12 g0 g1 h))
  · replace h := d1_elim h
    obtain ⟨x0, rfl, h⟩ := h
    replace h := dS_elim h
    obtain ⟨b1, l2, c3, rfl, h⟩ := h
    obtain ⟨xs, g0, g1, h⟩ := h
    exact TabSem.congr (valL_cons rfl rfl) (Ent.sem okC6 Try.func13 ⟨by kernel_rfl, by kernel_rfl⟩ rfl (s13 g0 g1 h))
  · replace h := d1_elim h
    obtain ⟨x0, rfl, h⟩ := h
    replace h := dS_elim h
    obtain ⟨b1, l2, c3, rfl, h⟩ := h
    obtain ⟨xs, g0, g1, h⟩ := h
    exact TabSem.congr (valL_cons rfl rfl) (Ent.sem okC7 Try.func14 ⟨by kernel_rfl, by kernel_rfl⟩ rfl (s14 g0 g1 h))
  · replace h := d3_elim h
    obtain ⟨x0, x1, x2, rfl, h⟩ := h
    replace h := dS_elim h
    obtain ⟨b1, l2, c3, rfl, h⟩ := h
    replace h := dI_elim h
    obtain ⟨a4, rfl, h⟩ := h
    replace h := dI_elim h
    obtain ⟨a5, rfl, h⟩ := h
    obtain ⟨xs, g0, g1, g2, h⟩ := h
    exact TabSem.congr (valL_cons rfl (valL_cons rfl (valL_cons rfl rfl))) (Ent.sem okD8 Try.func15 ⟨by kernel_rfl, by kernel_rfl⟩ rfl (s15 g0 g1 g2 h))
  · replace h := d3_elim h
    obtain ⟨x0, x1, x2, rfl, h⟩ := h
    replace h := dS_elim h
    obtain ⟨b1, l2, c3, rfl, h⟩ := h
    replace h := dI_elim h
    obtain ⟨a4, rfl, h⟩ := h
    replace h := dI_elim h
    obtain ⟨a5, rfl, h⟩ := h
    obtain ⟨xs, g0, g1, h⟩ := h
    exact TabSem.congr (valL_cons rfl (valL_cons rfl (valL_cons rfl rfl))) (Ent.sem okD9 Try.func16 ⟨by kernel_rfl, by kernel_rfl⟩ rfl (s16 g0 g1 h))
  · replace h := d2_elim h
    obtain ⟨x0, x1, rfl, h⟩ := h
    replace h := dS_elim h
    obtain ⟨b1, l2, c3, rfl, h⟩ := h
    replace h := dS_elim h
    obtain ⟨b4, l5, c6, rfl, h⟩ := h
    obtain ⟨xs, ys, g0, g1, g2, h⟩ := h
    exact TabSem.congr (valL_cons rfl (valL_cons rfl rfl)) (Ent.sem okG2 Try.func17 ⟨by kernel_rfl, by kernel_rfl⟩ rfl (s17 g0 g1 g2 h))
  · replace h := d2_elim h
    obtain ⟨x0, x1, rfl, h⟩ := h
    replace h := dS_elim h
    obtain ⟨b1, l2, c3, rfl, h⟩ := h
    replace h := dS_elim h
    obtain ⟨b4, l5, c6, rfl, h⟩ := h
    obtain ⟨zs, ys, g0, g1, g2, h⟩ := h
    exact TabSem.congr (valL_cons rfl (valL_cons rfl rfl)) (Ent.sem okG1 Try.func18 ⟨by kernel_rfl, by kernel_rfl⟩ rfl (s18 g0 g1 g2 h))
  · replace h := d3_elim h
    obtain ⟨x0, x1, x2, rfl, h⟩ := h
    replace h := dS_elim h
    obtain ⟨b1, l2, c3, rfl, h⟩ := h
    replace h := dI_elim h
    obtain ⟨a4, rfl, h⟩ := h
    replace h := dI_elim h
    obtain ⟨a5, rfl, h⟩ := h
    obtain ⟨xs, g0, g1, g2, g3, h⟩ := h
    exact TabSem.congr (valL_cons rfl (valL_cons rfl (valL_cons rfl rfl))) (Ent.sem okM1 Try.func19 ⟨by kernel_rfl, by kernel_rfl⟩ rfl (s19 g0 g1 g2 g3 h))
  · replace h := d3_elim h
    obtain ⟨x0, x1, x2, rfl, h⟩ := h
    replace h := dS_elim h
    obtain ⟨b1, l2, c3, rfl, h⟩ := h
    replace h := dI_elim h
    obtain ⟨a4, rfl, h⟩ := h
    replace h := dI_elim h
    obtain ⟨a5, rfl, h⟩ := h
    obtain ⟨xs, g0, g1, g2, h⟩ := h
    exact TabSem.congr (valL_cons rfl (valL_cons rfl (valL_cons rfl rfl))) (Ent.sem okM2 Try.func20 ⟨by kernel_rfl, by kernel_rfl⟩ rfl (s20 g0 g1 g2 h))
  · exact h.elim
noncomputable def WL3 : Cx := { P := Try.prog, inl := fun f => List.contains [] f, tab := tabL3, isB := fun _ => false, tabB := fun _ _ _ _ _ => False, opt := { unroll := 0, carry := [] }, muts := mutsD }
theorem okWL3 : CxOK WL3 := CxOK.four tabL3_ok (by kernel_rfl) (okInl (by kernel_rfl)) (fun _ _ _ _ _ h => h.elim)
theorem missF_len {xs : List Sn} {o m : Int} : (missF xs o m).length ≤ m.toNat := by
  unfold missF
  split
  · rw [List.length_take]; omega
  · simp
theorem e3 {b1 : Option Addr} {l1 : Nat} {c1 : Nat} {x1 : List Sn} {a1 : Int} {a2 : Int} {a3 : Int} (hc1 : l1 ≤ maxLen) (hS10 : SS E b1 l1 c1 x1) (hS11 : ∀ x ∈ x1, x.2.length ≤ 9223372036854775807) (ha1 : (Lit.int .i64 a1).wf = true) (ha2 : (Lit.int .i64 a2).wf = true) (ha3 : (Lit.int .i64 a3).wf = true) (h : ∀ E' : Mem, Mem.le E E' → K (B true) E') :
    Ent WL3 8 Try.f3 [L b1 l1 c1, I a1, I a2, I a3] E K := by
  refine same (by kernel_rfl) (?_ : 
      ∀ (E' : Mem),
        Mem.le E E' →
          Mem.le E E' ∧
            ∃ (xs : List Sn),
              SS E' b1 l1 c1 xs ∧
                (∀ (x : Sn), List.Mem x xs → List.length x.snd ≤ 9223372036854775807) ∧
                  Mem.le E' E' ∧
                    bif !decide (fewS xs) then Mem.le E E' ∧ K (SV.raw (Value.bool true)) E'
                    else
                      bif bif false then true else decide (a3 > (1000 : Int)) then
                        Mem.le E E' ∧ K (SV.raw (Value.bool true)) E'
                      else
                        ∃ (xs : List Sn),
                          SS E' b1 l1 c1 xs ∧
                            Sm xs ∧
                              ∀ (ys : List Sn) (t : Bool) (e : Int),
                                addF xs a1 a2 = (ys, t, e) →
                                  ∀ (b' : Option Addr) (l' c' : Nat) (E'_1 : Mem),
                                    Mem.le E' E'_1 →
                                      SS E'_1 b' l' c' ys →
                                        Mem.le E' E'_1 ∧
                                          ∃ (xs : List Sn),
                                            SS E'_1 b1 l1 c1 xs ∧
                                              Sm xs ∧
                                                ∀ (ys : List Sn) (t_1 : Bool) (e_1 : Int),
                                                  addR xs a1 a2 = (ys, t_1, e_1) →
                                                    ∀ (b'_1 : Option Addr) (l'_1 c'_1 : Nat) (E' : Mem),
                                                      Mem.le E'_1 E' →
                                                        SS E' b'_1 l'_1 c'_1 ys →
                                                          Mem.le E'_1 E' ∧
                                                            ∃ (xs : List Sn),
                                                              SS E' b1 l1 c1 xs ∧
                                                                Sm xs ∧
                                                                  Mem.le E' E' ∧
                                                                    ∃ (xs_1 : List Sn),
                                                                      SS E' b1 l1 c1 xs_1 ∧
                                                                        Sm xs_1 ∧
                                                                          Mem.le E' E' ∧
                                                                            bif
                                                                                bif true then
                                                                                  decide (validS xs) == decide (validS xs_1)
                                                                                else false then
                                                                              ∃ (xs : List Sn),
                                                                                SS E' b1 l1 c1 xs ∧
                                                                                  Sm xs ∧
                                                                                    ((-9223372036854775808 : Int) ≤ a1 ∧
                                                                                        a1 ≤ (9223372036854775807 : Int)) ∧
                                                                                      Mem.le E' E' ∧
                                                                                        ∃ (xs_2 : List Sn),
                                                                                          SS E' b1 l1 c1 xs_2 ∧
                                                                                            Sm xs_2 ∧
                                                                                              Mem.le E' E' ∧
                                                                                                bif
                                                                                                    bif true then
                                                                                                      decide
                                                                                                          (hasP xs a1 a2) ==
                                                                                                        decide
                                                                                                          (hasP xs_2 a1 a2)
                                                                                                    else false then
                                                                                                  ∃ (xs : List Sn),
                                                                                                    ∃ (ys : List Sn),
                                                                                                      SS E' b' l' c' xs ∧
                                                                                                        SS E' b'_1 l'_1 c'_1
                                                                                                            ys ∧
                                                                                                          Sm xs ∧
                                                                                                            Mem.le E' E' ∧
                                                                                                              bif
                                                                                                                  bif
                                                                                                                      true then
                                                                                                                    decide
                                                                                                                      (xs =
                                                                                                                        ys)
                                                                                                                  else
                                                                                                                    false then
                                                                                                                bif
                                                                                                                    bif
                                                                                                                        true then
                                                                                                                      t == t_1
                                                                                                                    else
                                                                                                                      false then
                                                                                                                  bif
                                                                                                                      bif
                                                                                                                          true then
                                                                                                                        e ==
                                                                                                                          e_1
                                                                                                                      else
                                                                                                                        false then
                                                                                                                    ∃ (xs :
                                                                                                                      List
                                                                                                                        Sn),
                                                                                                                      SS E' b1
                                                                                                                          l1
                                                                                                                          c1
                                                                                                                          xs ∧
                                                                                                                        Sm
                                                                                                                            xs ∧
                                                                                                                          ((-9223372036854775808 :
                                                                                                                                  Int) ≤
                                                                                                                                a1 ∧
                                                                                                                              a1 ≤
                                                                                                                                (9223372036854775807 :
                                                                                                                                  Int)) ∧
                                                                                                                            a3 ≤
                                                                                                                                (1000 :
                                                                                                                                  Int) ∧
                                                                                                                              ∀
                                                                                                                                (b' :
                                                                                                                                  Option
                                                                                                                                    Addr)
                                                                                                                                (l'
                                                                                                                                  c' :
                                                                                                                                  Nat)
                                                                                                                                (E'_2 :
                                                                                                                                  Mem),
                                                                                                                                Mem.le
                                                                                                                                    E'
                                                                                                                                    E'_2 →
                                                                                                                                  NL
                                                                                                                                      E'_2
                                                                                                                                      b'
                                                                                                                                      l'
                                                                                                                                      c'
                                                                                                                                      (missF
                                                                                                                                        xs
                                                                                                                                        a1
                                                                                                                                        a3) →
                                                                                                                                    Mem.le
                                                                                                                                        E'
                                                                                                                                        E'_2 ∧
                                                                                                                                      ∃
                                                                                                                                        (xs
                                                                                                                                        :
                                                                                                                                        List
                                                                                                                                          Sn),
                                                                                                                                        SS
                                                                                                                                            E'_2
                                                                                                                                            b1
                                                                                                                                            l1
                                                                                                                                            c1
                                                                                                                                            xs ∧
                                                                                                                                          Sm
                                                                                                                                              xs ∧
                                                                                                                                            a3 ≤
                                                                                                                                                (1000 :
                                                                                                                                                  Int) ∧
                                                                                                                                              ∀
                                                                                                                                                (b'_2 :
                                                                                                                                                  Option
                                                                                                                                                    Addr)
                                                                                                                                                (l'_2
                                                                                                                                                  c'_2 :
                                                                                                                                                  Nat)
                                                                                                                                                (E' :
                                                                                                                                                  Mem),
                                                                                                                                                Mem.le
                                                                                                                                                    E'_2
                                                                                                                                                    E' →
                                                                                                                                                  NL
                                                                                                                                                      E'
                                                                                                                                                      b'_2
                                                                                                                                                      l'_2
                                                                                                                                                      c'_2
                                                                                                                                                      (missF
                                                                                                                                                        xs
                                                                                                                                                        a1
                                                                                                                                                        a3) →
                                                                                                                                                    Mem.le
                                                                                                                                                        E'_2
                                                                                                                                                        E' ∧
                                                                                                                                                      ∃
                                                                                                                                                        (zs
                                                                                                                                                        :
                                                                                                                                                        List
                                                                                                                                                          Int),
                                                                                                                                                        ∃
                                                                                                                                                          (ys
                                                                                                                                                          :
                                                                                                                                                          List
                                                                                                                                                            Int),
                                                                                                                                                          NL
                                                                                                                                                              E'
                                                                                                                                                              b'
                                                                                                                                                              l'
                                                                                                                                                              c'
                                                                                                                                                              zs ∧
                                                                                                                                                            NL
                                                                                                                                                                E'
                                                                                                                                                                b'_2
                                                                                                                                                                l'_2
                                                                                                                                                                c'_2
                                                                                                                                                                ys ∧
                                                                                                                                                              l' ≤
                                                                                                                                                                  (100000 :
                                                                                                                                                                    Nat) ∧
                                                                                                                                                                Mem.le
                                                                                                                                                                    E'
                                                                                                                                                                    E' ∧
                                                                                                                                                                  Mem.le
                                                                                                                                                                      E
                                                                                                                                                                      E' ∧
                                                                                                                                                                    K
                                                                                                                                                                      (SV.raw
                                                                                                                                                                        (Value.bool
                                                                                                                                                                          (bif
                                                                                                                                                                              true then
                                                                                                                                                                            decide
                                                                                                                                                                              (zs =
                                                                                                                                                                                ys)
                                                                                                                                                                          else
                                                                                                                                                                            false)))
                                                                                                                                                                      E'
                                                                                                                  else
                                                                                                                    Mem.le E
                                                                                                                        E' ∧
                                                                                                                      K
                                                                                                                        (SV.raw
                                                                                                                          (Value.bool
                                                                                                                            false))
                                                                                                                        E'
                                                                                                                else
                                                                                                                  Mem.le E
                                                                                                                      E' ∧
                                                                                                                    K
                                                                                                                      (SV.raw
                                                                                                                        (Value.bool
                                                                                                                          false))
                                                                                                                      E'
                                                                                                              else
                                                                                                                Mem.le E E' ∧
                                                                                                                  K
                                                                                                                    (SV.raw
                                                                                                                      (Value.bool
                                                                                                                        false))
                                                                                                                    E'
                                                                                                else
                                                                                                  Mem.le E E' ∧
                                                                                                    K
                                                                                                      (SV.raw
                                                                                                        (Value.bool false))
                                                                                                      E'
                                                                            else
                                                                              Mem.le E E' ∧ K (SV.raw (Value.bool false)) E')
  have hob : -9223372036854775808 ≤ a1 ∧ a1 ≤ 9223372036854775807 := by simpa [Lit.wf, IntKind.min, IntKind.max, IntKind.signed, IntKind.bits] using ha1
  intro E1 q1
  refine ⟨q1, x1, hS10.mono SR_ok q1, hS11, Mem.le_refl _, condC (fun g => ⟨q1, h E1 q1⟩) (fun g => condC (fun g2 => ⟨q1, h E1 q1⟩) (fun g2 => ?_))⟩
  have g : fewS x1 := by simpa using g
  have hs : Sm x1 := ⟨by have := g.1; omega, hS11⟩
  have g2 : a3 ≤ 1000 := by simp at g2; omega
  have p1 := hS10.mono SR_ok q1
  refine ⟨x1, p1, hs, fun ys t e r b2 l2 c2 E2 q2 s2 => ⟨q2, x1, p1.mono SR_ok q2, hs, fun ys' t' e' r' b3 l3 c3 E3 q3 s3 => ⟨q3, ?_⟩⟩⟩
  have r : addF x1 a1 a2 = (ys, t, e) := r
  have r' : addR x1 a1 a2 = (ys', t', e') := r'
  rw [addR_eq, r] at r'
  cases r'
  have p3 := (p1.mono SR_ok q2).mono SR_ok q3
  have k3 := Mem.le_trans q1 (Mem.le_trans q2 q3)
  refine ⟨x1, p3, hs, Mem.le_refl _, x1, p3, hs, Mem.le_refl _, condC (fun _ => ⟨x1, p3, hs, hob, Mem.le_refl _, x1, p3, hs, Mem.le_refl _, condC (fun _ => ⟨ys, ys, s2.mono SR_ok q3, s3, addF_sm r hs, Mem.le_refl _, condC (fun _ => condC (fun _ => condC (fun _ => ⟨x1, p3, hs, hob, g2, fun b4 l4 c4 E4 q4 n4 => ⟨q4, x1, p3.mono SR_ok q4, hs, g2, fun b5 l5 c5 E5 q5 n5 => ⟨q5, _, _, n4.mono NR_ok q5, n5, ?_, Mem.le_refl _, Mem.le_trans k3 (Mem.le_trans q4 q5), ?_⟩⟩⟩) (fun g => by simp at g)) (fun g => by simp at g)) (fun g => by simp at g)⟩) (fun g => by simp at g)⟩) (fun g => by simp at g)⟩
  · have h1 := n4.len
    have h2 := missF_len (xs := x1) (o := a1) (m := a3)
    omega
  · have := h E5 (Mem.le_trans k3 (Mem.le_trans q4 q5))
    simpa using this


theorem opn3 (W : World) (K : List SV → Prop) (h : ∀ (b1 : Option Addr) (l1 c1 : Nat) (z1 : List (List Value)), (l1 ≤ c1) → (c1 ≤ maxLen) → (b1 = none → c1 = 0) → (z1.length = c1) → RowAt W (.slice b1 l1 c1) z1.flatten → (∀ r ∈ z1, r.length = 2 ∧ Shp Try.prog W 12 45 r) → ∀ a1 : Int, (Lit.int .i64 a1).wf = true → ∀ a2 : Int, (Lit.int .i64 a2).wf = true → ∀ a3 : Int, (Lit.int .i64 a3).wf = true → K [L b1 l1 c1, I a1, I a2, I a3]) : opnAll Try.prog W Try.f3.params.toList K :=
  same (by kernel_rfl) h

theorem sem3 (W : World) : opnAll Try.prog W Try.f3.params.toList fun ss => TabSem Try.prog 3 ss (fun v cs => RowAt W v cs) fun r _ => r = .raw (.bool true) := by
  refine opn3 W _ ?_
  intro b1 l1 c1 z1 hl1 hc1 hb1 hz1 hE1 hr1 a1 ha1 a2 ha2 a3 ha3
  exact Ent.sem okWL3 Try.func3 ⟨by kernel_rfl, by kernel_rfl⟩ rfl (e3 (Nat.le_trans hl1 hc1) (SSof hl1 hb1 hz1 hE1 hr1).choose_spec.1 (SSof hl1 hb1 hz1 hE1 hr1).choose_spec.2 ha1 ha2 ha3 (fun _ _ => rfl))

theorem lifted3 (os : Os) (started : os.Started) (H : Type) (enc : TypeId × Value → H) :
    ReturnsInHanded {} Try.checked os 3 .any (Rows.seenMatchesReferenceSpec.pre6 enc Try.prog Try.f3 Rows.seenMatchesReferenceRow.domain false) (Rows.seenMatchesReferenceSpec.post enc Try.prog Try.f3 false true false false) :=
  lift_true (C := Try.checked) (by kernel_rfl) (by kernel_rfl) started (by kernel_rfl) Try.func3
    (ChangeSpec.witness6 (enc := enc) (C := Try.checked) false ⟨#[], #[.slice none 0 0, .int .i64 0, .int .i64 0, .int .i64 0], []⟩ 8 (by kernel_rfl) (by kernel_rfl) (by kernel_rfl) (by kernel_rfl))
    (Tb := 4) (by kernel_rfl) (by kernel_rfl) (by kernel_rfl) rfl
    (fun ds hl => by
      match ds, hl with
      | [d0, d1, d2, d3], _ => exact ⟨rfl, rfl, rfl⟩)
    sem3

theorem over3 : Rows.seenMatchesReferenceRow.holds Try.pinned (OpenSpec.ofChange Rows.seenMatchesReferenceSpec) :=
  OpenClaim.holds_of_wide 3 Try.f3 rfl rfl rfl rfl rfl rfl rfl ⟨rfl, rfl, rfl, rfl, rfl⟩ rfl rfl rfl rfl rfl (by kernel_rfl) Try.func3 (by kernel_rfl)
    (of_decide_eq_true (by kernel_rfl)) (by unfold Func.isWrapper; first | (rw [if_pos (by decide +kernel)]; kernel_rfl) | (rw [if_neg (by decide +kernel)]; exact ⟨rfl, rfl⟩))
    (fun os started H enc _ => lifted3 os started H enc)

theorem proved3 : Rows.SeenMatchesReferenceSaid := over3
end Go.Proofs.Ytjibgfihfbdcaaa.SeenOwn
