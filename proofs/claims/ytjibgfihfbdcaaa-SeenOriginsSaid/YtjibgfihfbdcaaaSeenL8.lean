/- The law SeenOrigins. -/
import Derived.Test.YtjibgfihfbdcaaaSeen16
import Derived.OpenShut
import Derived.Test.YtjibgfihfbdcaaaRows
namespace Go.Proofs.Ytjibgfihfbdcaaa.SeenOwn
open Go Go.Sx Go.Proofs.Ytjibgfihfbdcaaa
set_option maxRecDepth 100000
set_option maxHeartbeats 4000000
set_option linter.unusedVariables false
set_option linter.unusedSimpArgs false
variable {E : Mem} {K : SV → Mem → Prop}
noncomputable def tabL8 : FuncId → List SV → Mem → (SV → Mem → Prop) → Prop := fun f args E K => match f with
  | 9 => d0 args ((∀ (E' : Mem), Mem.le E E' → K (B true) E'))
  | 10 => d1 args fun x0 => dS x0 fun b1 l2 c3 => ∃ (xs : List Sn), SS E b1 l2 c3 xs ∧ (∀ x ∈ xs, x.2.length ≤ 9223372036854775807) ∧ (K (B (decide (fewS xs))) E)
  | 14 => d1 args fun x0 => dS x0 fun b1 l2 c3 => ∃ (xs : List Sn), SS E b1 l2 c3 xs ∧ Sm xs ∧ (K (B (decide (validS xs))) E)
  | 11 => d3 args fun x0 x1 x2 => dS x0 fun b1 l2 c3 => dI x1 fun a4 => dI x2 fun a5 => ∃ (xs : List Sn), SS E b1 l2 c3 xs ∧ Sm xs ∧ (∀ (ys : List Sn) (t : Bool) (e : Int), addF xs a4 a5 = (ys, t, e) → ∀ (b' : Option Addr) (l' c' : Nat) (E' : Mem), Mem.le E E' → SS E' b' l' c' ys → K (.tup [L b' l' c', B t, I e]) E')
  | 23 => d2 args fun x0 x1 => dS x0 fun b1 l2 c3 => dI x1 fun a4 => ∃ (xs : List Sn), SS E b1 l2 c3 xs ∧ l2 ≤ 1000 ∧ (∀ (b' : Option Addr) (l' c' : Nat), RS E b' l' c' (ofF xs a4) → K (L b' l' c') E)
  | 24 => d2 args fun x0 x1 => dI x0 fun a1 => dS x1 fun b2 l3 c4 => ∃ (rs : List Rg), RS E b2 l3 c4 rs ∧ (∀ (b' : Option Addr) (l' c' : Nat) (E' : Mem), Mem.le E E' → SS E' b' l' c' ([(a1, rs)]) → K (L b' l' c') E')
  | 17 => d2 args fun x0 x1 => dS x0 fun b1 l2 c3 => dS x1 fun b4 l5 c6 => ∃ (xs : List Sn) (ys : List Sn), SS E b1 l2 c3 xs ∧ SS E b4 l5 c6 ys ∧ Sm xs ∧ (K (B (decide (xs = ys))) E)
  | _ => False
theorem tabL8_ok : TabOK Try.prog tabL8 := by
  intro f args E K h
  unfold tabL8 at h
  split at h
  · obtain ⟨rfl, h⟩ := d0_elim h
    exact TabSem.congr rfl (Ent.sem okN3 Try.func9 ⟨by kernel_rfl, by kernel_rfl⟩ rfl (s9 h))
  · replace h := d1_elim h
    obtain ⟨x0, rfl, h⟩ := h
    replace h := dS_elim h
    obtain ⟨b1, l2, c3, rfl, h⟩ := h
    obtain ⟨xs, g0, g1, h⟩ := h
    exact TabSem.congr (valL_cons rfl rfl) (Ent.sem okN2 Try.func10 ⟨by kernel_rfl, by kernel_rfl⟩ rfl (s10 g0 g1 h))
  · replace h := d1_elim h
    obtain ⟨x0, rfl, h⟩ := h
    replace h := dS_elim h
    obtain ⟨b1, l2, c3, rfl, h⟩ := h
    obtain ⟨xs, g0, g1, h⟩ := h
    exact TabSem.congr (valL_cons rfl rfl) (Ent.sem okC7 Try.func14 ⟨by kernel_rfl, by kernel_rfl⟩ rfl (s14 g0 g1 h))
  · replace h := d3_elim h
    obtain ⟨x0, x1, x2, rfl, h⟩ := h
    replace h := dS_elim h
    obtain ⟨b1, l2, c3, rfl, h⟩ := h
    replace h := dI_elim h
    obtain ⟨a4, rfl, h⟩ := h
    replace h := dI_elim h
    obtain ⟨a5, rfl, h⟩ := h
    obtain ⟨xs, g0, g1, h⟩ := h
    exact TabSem.congr (valL_cons rfl (valL_cons rfl (valL_cons rfl rfl))) (Ent.sem okA1 Try.func11 ⟨by kernel_rfl, by kernel_rfl⟩ rfl (s11 g0 g1 h))
  · replace h := d2_elim h
    obtain ⟨x0, x1, rfl, h⟩ := h
    replace h := dS_elim h
    obtain ⟨b1, l2, c3, rfl, h⟩ := h
    replace h := dI_elim h
    obtain ⟨a4, rfl, h⟩ := h
    obtain ⟨xs, g0, g1, h⟩ := h
    exact TabSem.congr (valL_cons rfl (valL_cons rfl rfl)) (Ent.sem okD7 Try.func23 ⟨by kernel_rfl, by kernel_rfl⟩ rfl (s23 g0 g1 h))
  · replace h := d2_elim h
    obtain ⟨x0, x1, rfl, h⟩ := h
    replace h := dI_elim h
    obtain ⟨a1, rfl, h⟩ := h
    replace h := dS_elim h
    obtain ⟨b2, l3, c4, rfl, h⟩ := h
    obtain ⟨rs, g0, h⟩ := h
    exact TabSem.congr (valL_cons rfl (valL_cons rfl rfl)) (Ent.sem okN1 Try.func24 ⟨by kernel_rfl, by kernel_rfl⟩ rfl (s24 g0 h))
  · replace h := d2_elim h
    obtain ⟨x0, x1, rfl, h⟩ := h
    replace h := dS_elim h
    obtain ⟨b1, l2, c3, rfl, h⟩ := h
    replace h := dS_elim h
    obtain ⟨b4, l5, c6, rfl, h⟩ := h
    obtain ⟨xs, ys, g0, g1, g2, h⟩ := h
    exact TabSem.congr (valL_cons rfl (valL_cons rfl rfl)) (Ent.sem okG2 Try.func17 ⟨by kernel_rfl, by kernel_rfl⟩ rfl (s17 g0 g1 g2 h))
  · exact h.elim
noncomputable def WL8 : Cx := { P := Try.prog, inl := fun f => List.contains [] f, tab := tabL8, isB := fun _ => false, tabB := fun _ _ _ _ _ => False, opt := { unroll := 0, carry := [79], cuts := [5, 17, 21] }, muts := mutsD }
theorem okWL8 : CxOK WL8 := CxOK.four tabL8_ok (by kernel_rfl) (okInl (by kernel_rfl)) (fun _ _ _ _ _ h => h.elim)
def shO21 (o n : Int) (b2 : Option Addr) (l2 c2 : Nat) (b3 : Option Addr) (l3 c3 : Nat) (E : Mem) : St := ⟨[none, none, none, none, none, none, none, none, none, some (B true), some (I o), some (I n), none, some (L b2 l2 c2), none, none, none, none, none, some (L b3 l3 c3), none, none, none, none, none, none, none, none, none, none, none, none, none, none, none, none, none, none, none, none, none, none, none, none, none, none, none, none, none, none, none, none, none, none, none, none, none, none, none, none, none, none, none, none, none, none, none, none, none, none, none, none, none, none, none, none, none, none, none, none, none, none, none, none, none, none, none, none, none, none, none, none, none, none, none, none, none, none, none, none, none, none, none, none, none, none, none, none, none, none, none, none, none, none, none, none, none, none, none, none, none, none, none], [], E⟩
theorem pcO21 {b2 b3 : Option Addr} {l2 c2 l3 c3 : Nat} {o n : Int} {ys zs : List Sn} {t : Bool} {E0 : Mem} (hy : SS E b2 l2 c2 ys) (sy : Sm ys) (hz : SS E b3 l3 c3 zs) (sz : Sm zs) (q : addF zs o n = ([(o, ofF ys o)], t, 0)) (hE : Mem.le E0 E) (h : ∀ E' : Mem, Mem.le E0 E' → K (B true) E') : Pc WL8 8 Try.f8 [1, 1, 1, 1, 1, 1, 1, 1, 1, 1, 1] 0 (pubK E0 K) (shO21 o n b2 l2 c2 b3 l3 c3 E) := by
  refine same (by kernel_rfl) (?_ : 
      ∃ (xs : List Sn),
        SS E b3 l3 c3 xs ∧
          Sm xs ∧
            ∀ (ys : List Sn) (t : Bool) (e : Int),
              addF xs o n = (ys, t, e) →
                ∀ (b' : Option Addr) (l' c' : Nat) (E' : Mem),
                  Mem.le E E' →
                    SS E' b' l' c' ys →
                      Mem.le E E' ∧
                        bif bif true then e == (0 : Int) else false then
                          ∃ (xs : List Sn),
                            SS E' b2 l2 c2 xs ∧
                              l2 ≤ 1000 ∧
                                ∀ (b'_1 : Option Addr) (l'_1 c'_1 : Nat),
                                  RS E' b'_1 l'_1 c'_1 (ofF xs o) →
                                    Mem.le E' E' ∧
                                      ∃ (rs : List Rg),
                                        RS E' b'_1 l'_1 c'_1 rs ∧
                                          ∀ (b'_2 : Option Addr) (l'_2 c'_2 : Nat) (E'_1 : Mem),
                                            Mem.le E' E'_1 →
                                              SS E'_1 b'_2 l'_2 c'_2 [(o, rs)] →
                                                Mem.le E' E'_1 ∧
                                                  ∃ (xs : List Sn),
                                                    ∃ (ys : List Sn),
                                                      SS E'_1 b' l' c' xs ∧
                                                        SS E'_1 b'_2 l'_2 c'_2 ys ∧
                                                          Sm xs ∧
                                                            Mem.le E'_1 E'_1 ∧
                                                              Mem.le E0 E'_1 ∧
                                                                K
                                                                  (SV.raw
                                                                    (Value.bool (bif true then decide (xs = ys) else false)))
                                                                  E'_1
                        else Mem.le E0 E' ∧ K (SV.raw (Value.bool false)) E')
  refine ⟨zs, hz, sz, fun ys' t' e' r' b4 l4 c4 E4 q4 s4 => ⟨q4, ?_⟩⟩
  have r' : addF zs o n = (ys', t', e') := r'
  rw [q] at r'
  cases r'
  have hl := hy.len
  refine condC (fun _ => ⟨ys, hy.mono SR_ok q4, by have := sy.1; omega, fun b5 l5 c5 s5 => ⟨Mem.le_refl _, ofF ys o, s5, fun b6 l6 c6 E6 q6 s6 => ⟨q6, [(o, ofF ys o)], [(o, ofF ys o)], s4.mono SR_ok q6, s6, addF_sm q sz, Mem.le_refl _, Mem.le_trans hE (Mem.le_trans q4 q6), ?_⟩⟩⟩) (fun w => by simp at w)
  simpa using h E6 (Mem.le_trans hE (Mem.le_trans q4 q6))
def shO17 (b : Option Addr) (l c : Nat) (o n : Int) (b2 : Option Addr) (l2 c2 : Nat) (E : Mem) : St := ⟨[some (L b l c), none, none, none, none, none, none, none, none, some (B true), some (I o), some (I n), none, some (L b2 l2 c2), none, none, none, none, none, none, none, none, none, none, none, none, none, none, none, none, none, none, none, none, none, none, none, none, none, none, none, none, none, none, none, none, none, none, none, none, none, none, none, none, none, none, none, none, none, none, none, none, none, none, none, none, none, none, none, none, none, none, none, none, none, none, none, none, none, none, none, none, none, none, none, none, none, none, none, none, none, none, none, none, none, none, none, none, none, none, none, none, none, none, none, none, none, none, none, none, none, none, none, none, none, none, none, none, none, none, none, none, none], [], E⟩
theorem pcO17 {b b2 : Option Addr} {l c l2 c2 : Nat} {o n : Int} {xs ys : List Sn} {t : Bool} {E0 : Mem} (hx : SS E b l c xs) (hy : SS E b2 l2 c2 ys) (sx : Sm xs) (gA : okA xs o n) (r : addF xs o n = (ys, t, 0)) (hE : Mem.le E0 E) (h : ∀ E' : Mem, Mem.le E0 E' → K (B true) E') : Pc WL8 8 Try.f8 [1, 1, 1, 1, 1, 1, 1, 1, 1] 0 (pubK E0 K) (shO17 b l c o n b2 l2 c2 E) := by
  refine same (by kernel_rfl) (?_ : 
      ∃ (xs : List Sn),
        SS E b l c xs ∧
          l ≤ 1000 ∧
            ∀ (b' : Option Addr) (l' c' : Nat),
              RS E b' l' c' (ofF xs o) →
                Mem.le E E ∧
                  bif decide ((↑l' : Int) > (0 : Int)) then
                    ∃ (rs : List Rg),
                      RS E b' l' c' rs ∧
                        ∀ (b'_1 : Option Addr) (l'_1 c'_1 : Nat) (E' : Mem),
                          Mem.le E E' →
                            SS E' b'_1 l'_1 c'_1 [(o, rs)] →
                              Mem.le E E' ∧
                                Ct WL8 8 Try.f8
                                  [1, 1, 1, 1, 1, 1, 1, 1,
                                    1, 1, 1]
                                  0 (pubK E0 K)
                                  {
                                    fr :=
                                      [some (SV.raw (Value.slice b l c)), none, none, none, none, none, none, none, none,
                                        some (SV.raw (Value.bool true)), some (SV.raw (Value.int IntKind.i64 o)),
                                        some (SV.raw (Value.int IntKind.i64 n)), none, some (SV.raw (Value.slice b2 l2 c2)),
                                        none, none, none, none, none, some (SV.raw (Value.slice b'_1 l'_1 c'_1)),
                                        some (SV.raw (Value.slice b' l' c')), none, none, none, none, none, none, none, none,
                                        none, none, none, none, none, none, none, none, none, none, none, none, none, none,
                                        none, none, none, none, none, none, none, none, none, none, none, none, none, none,
                                        none, none, none, none, none, none, none, none, none, none, none, none, none, none,
                                        none, none, none, none, none, none, none, none, none, none, none, none, none, none,
                                        none, none, none, none, none, none, none, some (SV.raw (Value.slice b l c)),
                                        some (SV.raw (Value.int IntKind.i64 o)), some (SV.raw (Value.slice b' l' c')),
                                        some (SV.raw (Value.slice b' l' c')),
                                        some (SV.raw (Value.int IntKind.i64 (↑l' : Int))),
                                        some (SV.raw (Value.bool (decide ((↑l' : Int) > (0 : Int))))),
                                        some (SV.raw (Value.int IntKind.i64 o)), some (SV.raw (Value.slice b' l' c')),
                                        some (SV.raw (Value.slice b'_1 l'_1 c'_1)), none, none, none, none, none, none, none,
                                        none, none, none, none, none, none, none, none, none, none, none, none, none, none,
                                        none],
                                    bx := [], E := E' : St }
                  else
                    Ct WL8 8 Try.f8
                      [1, 1, 1, 1, 1, 1, 1, 1, 1,
                        1, 1]
                      0 (pubK E0 K)
                      {
                        fr :=
                          [some (SV.raw (Value.slice b l c)), none, none, none, none, none, none, none, none,
                            some (SV.raw (Value.bool true)), some (SV.raw (Value.int IntKind.i64 o)),
                            some (SV.raw (Value.int IntKind.i64 n)), none, some (SV.raw (Value.slice b2 l2 c2)), none, none,
                            none, none, none, some (SV.raw (Value.slice none 0 0)),
                            some (SV.raw (Value.slice b' l' c')), none, none, none, none, none, none, none, none, none, none,
                            none, none, none, none, none, none, none, none, none, none, none, none, none, none, none, none,
                            none, none, none, none, none, none, none, none, none, none, none, none, none, none, none, none,
                            none, none, none, none, none, none, none, none, none, none, none, none, none, none, none, none,
                            none, none, none, none, none, none, none, none, none, none, none, none, none,
                            some (SV.raw (Value.slice b l c)), some (SV.raw (Value.int IntKind.i64 o)),
                            some (SV.raw (Value.slice b' l' c')), some (SV.raw (Value.slice b' l' c')),
                            some (SV.raw (Value.int IntKind.i64 (↑l' : Int))),
                            some (SV.raw (Value.bool (decide ((↑l' : Int) > (0 : Int))))), none, none, none, none, none, none,
                            none, none, none, none, none, none, none, none, none, none, none, none, none, none, none, none,
                            none, none, none],
                        bx := [], E := E : St })
  have hl := hx.len
  have sy := addF_sm r sx
  obtain ⟨t', q⟩ := alone_add gA r
  refine ⟨xs, hx, by have := sx.1; omega, fun b4 l4 c4 s4 => ⟨Mem.le_refl _, condC (fun g => ⟨ofF xs o, s4, fun b5 l5 c5 E5 q5 s5 => ⟨q5, ?_⟩⟩) (fun g => ?_)⟩⟩
  · have hne : ¬ ofF xs o = [] := fun e => by have := s4.len; rw [e] at this; simp at g; simp at this; omega
    have ea : aloneF xs o = [(o, ofF xs o)] := by unfold aloneF; rw [if_neg hne]
    rw [ea] at q
    have sz : Sm [((o, ofF xs o) : Sn)] := Sm_of ⟨by simp, by have := of_len (xs := xs) (o := o); have := gA.1.1; simp [manyF]; omega⟩
    exact Ct_re [] (Ct_intro okWL8 (pcO21 (hy.mono SR_ok q5) sy s5 sz q (Mem.le_trans hE q5) h)) ⟨⟨by simp, by simp, fun j h => absurd h (Nat.not_lt_zero _)⟩, rfl, (by repeat' first | exact True.intro | refine And.intro (Or.inl rfl) ?_ | refine And.intro (Or.inr ⟨rfl, rfl⟩) ?_), (by repeat' first | exact True.intro | exact rfl | exact Or.inl rfl | fail | refine And.intro ?_ ?_), (show List.Nodup [] from by decide), Mem.le_refl _⟩
  · have he : ofF xs o = [] := List.eq_nil_of_length_eq_zero (by have := s4.len; simp at g; omega)
    have ea : aloneF xs o = [] := by unfold aloneF; rw [if_pos he]
    rw [ea] at q
    exact Ct_re [] (Ct_intro okWL8 (pcO21 hy sy SL.nil (Sm_of (by decide)) q hE h)) ⟨⟨by simp, by simp, fun j h => absurd h (Nat.not_lt_zero _)⟩, rfl, (by repeat' first | exact True.intro | refine And.intro (Or.inl rfl) ?_ | refine And.intro (Or.inr ⟨rfl, rfl⟩) ?_), (by repeat' first | exact True.intro | exact rfl | exact Or.inl rfl | fail | refine And.intro ?_ ?_), (show List.Nodup [] from by decide), Mem.le_refl _⟩
def shO12 (b : Option Addr) (l c : Nat) (o n : Int) (b2 : Option Addr) (l2 c2 : Nat) (b5 : Option Addr) (l5 c5 : Nat) (b6 : Option Addr) (l6 c6 : Nat) (i : Nat) (E : Mem) : St := ⟨[some (L b l c), none, none, none, none, none, none, none, none, some (B true), some (I o), some (I n), none, some (L b2 l2 c2), none, none, some (L b5 l5 c5), some (L b6 l6 c6), none, none, none, none, none, none, none, none, none, none, none, none, none, none, none, none, none, none, none, none, none, none, none, none, none, none, none, none, none, none, none, none, none, none, none, none, none, none, none, none, none, none, none, none, none, none, none, none, none, none, none, none, none, none, none, none, none, none, none, none, some (I (l5 : Nat)), some (I (i : Nat)), none, none, none, none, none, none, none, none, none, none, none, none, none, none, none, none, none, none, none, none, none, none, none, none, none, none, none, none, none, none, none, none, none, none, none, none, none, none, none, none, none, none, none], [], E⟩
theorem rndO12 {b b2 b5 b6 : Option Addr} {l c l2 c2 l5 c5 l6 c6 i : Nat} {o n : Int} {rs : List Rg} {E0 : Mem} (h5 : RS E b5 l5 c5 rs) (h6 : RS E b6 l6 c6 rs) (hl : l5 ≤ 1000) (hi : i ≤ l5) (fin : Pc WL8 8 Try.f8 [1, 1, 1, 1, 1, 1, 1, 1, 1] 0 (pubK E0 K) (shO17 b l c o n b2 l2 c2 E)) (ih : i < l5 → Lp WL8 8 Try.f8 [1, 1, 1, 1, 1, 1, 1, 1, 0, 1, 0] 0 (pubK E0 K) (shO12 b l c o n b2 l2 c2 b5 l5 c5 b6 l6 c6 (i + 1) E)) : Rnd WL8 8 Try.f8 [1, 1, 1, 1, 1, 1, 1, 1, 0, 1, 0] 0 (pubK E0 K) (shO12 b l c o n b2 l2 c2 b5 l5 c5 b6 l6 c6 i E) := by
  refine same (by kernel_rfl) (?_ : 
      bif decide ((↑i : Int) < (↑l5 : Int)) then
        req ((0 : Int) ≤ (↑i : Int) ∧ (↑i : Int) < (↑l5 : Int))
          ((∃ (cs : List Value), E (Value.slice b5 l5 c5) cs ∧ (cs = [] → False)) ∧
            ∃ (n_1 : Int),
              ∃ (n_2 : Int),
                LoadE WL8.P E 47 (Value.slice b5 l5 c5) (Int.toNat (↑i : Int) * 2)
                    (SV.agg [SV.raw (Value.int IntKind.i64 n_1), SV.raw (Value.int IntKind.i64 n_2)]) ∧
                  req ((0 : Int) ≤ (↑i : Int) ∧ (↑i : Int) < (↑l6 : Int))
                    ((∃ (cs : List Value), E (Value.slice b6 l6 c6) cs ∧ (cs = [] → False)) ∧
                      ∃ (n_3 : Int),
                        ∃ (n_4 : Int),
                          LoadE WL8.P E 47 (Value.slice b6 l6 c6) (Int.toNat (↑i : Int) * 2)
                              (SV.agg [SV.raw (Value.int IntKind.i64 n_3), SV.raw (Value.int IntKind.i64 n_4)]) ∧
                            bif !(n_1 == n_3 && (n_2 == n_4 && true)) then Mem.le E0 E ∧ K (SV.raw (Value.bool false)) E
                            else
                              Lp WL8 8 Try.f8
                                [1, 1, 1, 1, 1, 1, 1, 1,
                                  0, 1, 0]
                                0 (pubK E0 K)
                                {
                                  fr :=
                                    [some (SV.raw (Value.slice b l c)), none, none, none, none, none, none, none, none,
                                      some (SV.raw (Value.bool true)), some (SV.raw (Value.int IntKind.i64 o)),
                                      some (SV.raw (Value.int IntKind.i64 n)), none, some (SV.raw (Value.slice b2 l2 c2)),
                                      none, none, some (SV.raw (Value.slice b5 l5 c5)), some (SV.raw (Value.slice b6 l6 c6)),
                                      none, none, none, none, none, none, none, none, none, none, none, none, none, none,
                                      none, none, none, none, none, none, none, none, none, none, none, none, none, none,
                                      none, none, none, none, none, none, none, none, none, none, none, none, none, none,
                                      none, none, none, none, none, none, none, none, none, none, none, none, none, none,
                                      none, none, none, none, some (SV.raw (Value.int IntKind.i64 (↑l5 : Int))),
                                      some
                                        (SV.raw (Value.int IntKind.i64 (IntKind.wrap IntKind.i64 ((↑i : Int) + (1 : Int))))),
                                      none, none, none, none, none, none, none, none, none, none, none, none, none, none,
                                      none, none, none, none, none, none, none, none, none, none, none, none, none, none,
                                      none, none, none, none, none, none, none, none, none, none, none, none, none, none,
                                      none],
                                  bx := [], E := E : St }))
      else
        Ct WL8 8 Try.f8
          [1, 1, 1, 1, 1, 1, 1, 1, 1] 0
          (pubK E0 K)
          {
            fr :=
              [some (SV.raw (Value.slice b l c)), none, none, none, none, none, none, none, none,
                some (SV.raw (Value.bool true)), some (SV.raw (Value.int IntKind.i64 o)),
                some (SV.raw (Value.int IntKind.i64 n)), none, some (SV.raw (Value.slice b2 l2 c2)), none, none,
                some (SV.raw (Value.slice b5 l5 c5)), some (SV.raw (Value.slice b6 l6 c6)), none, none, none, none, none,
                none, none, none, none, none, none, none, none, none, none, none, none, none, none, none, none, none, none,
                none, none, none, none, none, none, none, none, none, none, none, none, none, none, none, none, none, none,
                none, none, none, none, none, none, none, none, none, none, none, none, none, none, none, none, none, none,
                none, some (SV.raw (Value.int IntKind.i64 (↑l5 : Int))), some (SV.raw (Value.int IntKind.i64 (↑i : Int))),
                some (SV.raw (Value.bool (decide ((↑i : Int) < (↑l5 : Int))))), none, none, none, none, none, none, none,
                none, none, none, none, none, none, none, none, none, none, none, none, none, none, none, none, none, none,
                none, none, none, none, none, none, none, none, none, none, none, none, none, none, none, none, none],
            bx := [], E := E : St })
  have n5 := h5.len
  have n6 := h6.len
  refine condC (fun g => ?_) (fun g => ?_)
  · have g : i < l5 := by simpa using g
    obtain ⟨x, ex⟩ : ∃ x, rs[i]? = some x := ⟨_, List.getElem?_eq_getElem (by omega)⟩
    have w1 : IntKind.wrap .i64 ((i : Int) + 1) = ((i + 1 : Nat) : Int) := by rw [wrap_i64 (by omega)]; simp
    rw [w1]
    refine req_intro (by omega) ⟨SL.nex RR_ok h5 ex, x.1, x.2, h5.load ex, req_intro (by omega) ⟨SL.nex RR_ok h6 ex, x.1, x.2, h6.load ex, condC (fun w => by simp at w) (fun _ => ?_)⟩⟩
    exact Lp_re [] (ih g) ⟨⟨by simp, by simp, fun j h => absurd h (Nat.not_lt_zero _)⟩, rfl, (by repeat' first | exact True.intro | refine And.intro (Or.inl rfl) ?_ | refine And.intro (Or.inr ⟨rfl, rfl⟩) ?_), (by repeat' first | exact True.intro | exact rfl | exact Or.inl rfl | fail | refine And.intro ?_ ?_), (show List.Nodup [] from by decide), Mem.le_refl _⟩
  · exact Ct_re [] (Ct_intro okWL8 fin) ⟨⟨by simp, by simp, fun j h => absurd h (Nat.not_lt_zero _)⟩, rfl, (by repeat' first | exact True.intro | refine And.intro (Or.inl rfl) ?_ | refine And.intro (Or.inr ⟨rfl, rfl⟩) ?_), (by repeat' first | exact True.intro | exact rfl | exact Or.inl rfl | fail | refine And.intro ?_ ?_), (show List.Nodup [] from by decide), Mem.le_refl _⟩
theorem lpO12 {b b2 b5 b6 : Option Addr} {l c l2 c2 l5 c5 l6 c6 i : Nat} {o n : Int} {rs : List Rg} {E0 : Mem} (h5 : RS E b5 l5 c5 rs) (h6 : RS E b6 l6 c6 rs) (hl : l5 ≤ 1000) (hi : i ≤ l5) (fin : Pc WL8 8 Try.f8 [1, 1, 1, 1, 1, 1, 1, 1, 1] 0 (pubK E0 K) (shO17 b l c o n b2 l2 c2 E)) : Lp WL8 8 Try.f8 [1, 1, 1, 1, 1, 1, 1, 1, 0, 1, 0] 0 (pubK E0 K) (shO12 b l c o n b2 l2 c2 b5 l5 c5 b6 l6 c6 i E) :=
  Lp_ind okWL8 (fun y : {y : Nat // y ≤ l5} => shO12 b l c o n b2 l2 c2 b5 l5 c5 b6 l6 c6 y.1 E) (fun y => l5 - y.1) (fun y ih => rndO12 h5 h6 hl y.2 fin fun g => ih ⟨y.1 + 1, by omega⟩ (by show l5 - (_ + 1) < l5 - _; omega)) ⟨i, hi⟩
def shO5 (b : Option Addr) (l c : Nat) (o n p : Int) (E : Mem) : St := ⟨[some (L b l c), none, none, none, none, none, none, none, none, some (B true), some (I o), some (I n), some (I p), none, none, none, none, none, none, none, none, none, none, none, none, none, none, none, none, none, none, none, none, none, none, none, none, none, none, none, none, none, none, none, none, none, none, none, none, none, none, none, none, none, none, none, none, none, none, none, none, none, none, none, none, none, none, none, none, none, none, none, none, none, none, none, none, none, none, none, none, none, none, none, none, none, none, none, none, none, none, none, none, none, none, none, none, none, none, none, none, none, none, none, none, none, none, none, none, none, none, none, none, none, none, none, none, none, none, none, none, none, none], [], E⟩
theorem pcO5 {b : Option Addr} {l c : Nat} {o n p : Int} {xs : List Sn} {E0 : Mem} (hx : SS E b l c xs) (sx : Sm xs) (gA : okA xs o n) (hp : ¬ p = o) (hE : Mem.le E0 E) (h : ∀ E' : Mem, Mem.le E0 E' → K (B true) E') : Pc WL8 8 Try.f8 [1, 1, 1, 1] 0 (pubK E0 K) (shO5 b l c o n p E) := by
  refine same (by kernel_rfl) (?_ : 
      ∃ (xs : List Sn),
        SS E b l c xs ∧
          Sm xs ∧
            ∀ (ys : List Sn) (t : Bool) (e : Int),
              addF xs o n = (ys, t, e) →
                ∀ (b' : Option Addr) (l' c' : Nat) (E' : Mem),
                  Mem.le E E' →
                    SS E' b' l' c' ys →
                      Mem.le E E' ∧
                        bif e != (0 : Int) then
                          Mem.le E0 E' ∧ K (SV.raw (Value.bool (bif true then e == (10 : Int) else false))) E'
                        else
                          ∃ (xs : List Sn),
                            SS E' b l c xs ∧
                              l ≤ 1000 ∧
                                ∀ (b'_1 : Option Addr) (l'_1 c'_1 : Nat),
                                  RS E' b'_1 l'_1 c'_1 (ofF xs p) →
                                    Mem.le E' E' ∧
                                      ∃ (xs : List Sn),
                                        SS E' b' l' c' xs ∧
                                          l' ≤ 1000 ∧
                                            ∀ (b'_2 : Option Addr) (l'_2 c'_2 : Nat),
                                              RS E' b'_2 l'_2 c'_2 (ofF xs p) →
                                                Mem.le E' E' ∧
                                                  bif (↑l'_1 : Int) != (↑l'_2 : Int) then
                                                    Mem.le E0 E' ∧ K (SV.raw (Value.bool false)) E'
                                                  else
                                                    Lp WL8 8 Try.f8
                                                      [1, 1, 1, 1, 1, 1,
                                                        1, 1, 0, 1, 0]
                                                      0 (pubK E0 K)
                                                      {
                                                        fr :=
                                                          [some (SV.raw (Value.slice b l c)), none, none, none, none, none,
                                                            none, none, none, some (SV.raw (Value.bool true)),
                                                            some (SV.raw (Value.int IntKind.i64 o)),
                                                            some (SV.raw (Value.int IntKind.i64 n)),
                                                            some (SV.raw (Value.int IntKind.i64 p)),
                                                            some (SV.raw (Value.slice b' l' c')),
                                                            some (SV.raw (Value.bool t)),
                                                            some (SV.raw (Value.int IntKind.i64 e)),
                                                            some (SV.raw (Value.slice b'_1 l'_1 c'_1)),
                                                            some (SV.raw (Value.slice b'_2 l'_2 c'_2)), none, none, none,
                                                            none, none, none, none, none, none, none, none, none, none, none,
                                                            none, none, none, none, none, none, none, none, none, none, none,
                                                            none, none, none, none, none, none, none, none,
                                                            some
                                                              (SV.tup
                                                                [SV.raw (Value.slice b' l' c'), SV.raw (Value.bool t),
                                                                  SV.raw (Value.int IntKind.i64 e)]),
                                                            some (SV.raw (Value.slice b l c)),
                                                            some (SV.raw (Value.int IntKind.i64 o)),
                                                            some (SV.raw (Value.int IntKind.i64 n)),
                                                            some
                                                              (SV.tup
                                                                [SV.raw (Value.slice b' l' c'), SV.raw (Value.bool t),
                                                                  SV.raw (Value.int IntKind.i64 e)]),
                                                            some (SV.raw (Value.slice b' l' c')),
                                                            some (SV.raw (Value.bool t)),
                                                            some (SV.raw (Value.int IntKind.i64 e)),
                                                            some (SV.raw (Value.int IntKind.i64 e)),
                                                            some (SV.raw (Value.bool (e != (0 : Int)))), none, none, none,
                                                            none, none, some (SV.raw (Value.slice b l c)),
                                                            some (SV.raw (Value.int IntKind.i64 p)),
                                                            some (SV.raw (Value.slice b'_1 l'_1 c'_1)),
                                                            some (SV.raw (Value.slice b' l' c')),
                                                            some (SV.raw (Value.int IntKind.i64 p)),
                                                            some (SV.raw (Value.slice b'_2 l'_2 c'_2)),
                                                            some (SV.raw (Value.slice b'_1 l'_1 c'_1)),
                                                            some (SV.raw (Value.int IntKind.i64 (↑l'_1 : Int))),
                                                            some (SV.raw (Value.slice b'_2 l'_2 c'_2)),
                                                            some (SV.raw (Value.int IntKind.i64 (↑l'_2 : Int))),
                                                            some (SV.raw (Value.bool ((↑l'_1 : Int) != (↑l'_2 : Int)))),
                                                            some (SV.raw (Value.slice b'_1 l'_1 c'_1)),
                                                            some (SV.raw (Value.int IntKind.i64 (↑l'_1 : Int))),
                                                            some (SV.raw (Value.int IntKind.i64 (0 : Int))), none, none, none,
                                                            none, none, none, none, none, none, none, none, none, none, none,
                                                            none, none, none, none, none, none, none, none, none, none, none,
                                                            none, none, none, none, none, none, none, none, none, none, none,
                                                            none, none, none, none, none, none, none],
                                                        bx := [], E := E' : St })
  refine ⟨xs, hx, sx, fun ys t e r b2 l2 c2 E2 q2 s2 => ⟨q2, ?_⟩⟩
  have r : addF xs o n = (ys, t, e) := r
  have k2 := Mem.le_trans hE q2
  have p2 := hx.mono SR_ok q2
  have sy := addF_sm r sx
  have hl := p2.len
  have hl2 := s2.len
  refine condC (fun g => ⟨k2, ?_⟩) (fun g => ?_)
  · have g : ¬ e = 0 := by simpa using g
    have := add_err gA r g
    subst this
    simpa using h E2 k2
  · have g : e = 0 := by simpa using g
    subst g
    refine ⟨xs, p2, by have := sx.1; omega, fun b5 l5 c5 s5 => ⟨Mem.le_refl _, ys, s2, by have := sy.1; omega, fun b6 l6 c6 s6 => ⟨Mem.le_refl _, condC (fun w => ?_) (fun _ => ?_)⟩⟩⟩
    · exfalso
      have h1 := s5.len
      have h2 := s6.len
      rw [other_of gA r hp] at h2
      simp at w; omega
    · rw [other_of gA r hp] at s6
      have h1 := s5.len
      have h3 := of_len (xs := xs) (o := p)
      have h4 := gA.1.1
      exact Lp_re [] (lpO12 (i := 0) s5 s6 (by omega) (Nat.zero_le _) (pcO17 p2 s2 sx gA r k2 h)) ⟨⟨by simp, by simp, fun j h => absurd h (Nat.not_lt_zero _)⟩, rfl, (by repeat' first | exact True.intro | refine And.intro (Or.inl rfl) ?_ | refine And.intro (Or.inr ⟨rfl, rfl⟩) ?_), (by repeat' first | exact True.intro | exact rfl | exact Or.inl rfl | fail | refine And.intro ?_ ?_), (show List.Nodup [] from by decide), Mem.le_refl _⟩
theorem e8 {b1 : Option Addr} {l1 : Nat} {c1 : Nat} {x1 : List Sn} {a1 : Int} {a2 : Int} {a3 : Int} (hc1 : l1 ≤ maxLen) (hS10 : SS E b1 l1 c1 x1) (hS11 : ∀ x ∈ x1, x.2.length ≤ 9223372036854775807) (ha1 : (Lit.int .u8 a1).wf = true) (ha2 : (Lit.int .u32 a2).wf = true) (ha3 : (Lit.int .u8 a3).wf = true) (h : ∀ E' : Mem, Mem.le E E' → K (B true) E') :
    Ent WL8 8 Try.f8 [L b1 l1 c1, .raw (.int .u8 a1), .raw (.int .u32 a2), .raw (.int .u8 a3)] E K := by
  refine same (by kernel_rfl) (?_ : 
      ∀ (E' : Mem),
        Mem.le E E' →
          Mem.le E E' ∧
            ∃ (xs : List Sn),
              SS E' b1 l1 c1 xs ∧
                (∀ (x : Sn), List.Mem x xs → List.length x.snd ≤ 9223372036854775807) ∧
                  Mem.le E' E' ∧
                    bif !decide (fewS xs) then Mem.le E E' ∧ K (SV.raw (Value.bool true)) E'
                    else
                      ∃ (xs_1 : List Sn),
                        SS E' b1 l1 c1 xs_1 ∧
                          Sm xs_1 ∧
                            Mem.le E' E' ∧
                              bif bif false then true else !decide (validS xs_1) then
                                Mem.le E E' ∧ K (SV.raw (Value.bool true)) E'
                              else
                                ((60 : Int) = (0 : Int) → False) ∧
                                  ((60 : Int) = (0 : Int) → False) ∧
                                    bif bif false then true else Int.tmod a1 (60 : Int) == Int.tmod a3 (60 : Int) then
                                      Mem.le E E' ∧ K (SV.raw (Value.bool true)) E'
                                    else
                                      ((60 : Int) = (0 : Int) → False) ∧
                                        ((1000000000 : Int) = (0 : Int) → False) ∧
                                          ((60 : Int) = (0 : Int) → False) ∧
                                            Ct WL8 8 Try.f8 [1, 1, 1, 1] 0
                                              (pubK E K)
                                              {
                                                fr :=
                                                  [some (SV.raw (Value.slice b1 l1 c1)),
                                                    some (SV.raw (Value.int IntKind.u8 a1)),
                                                    some (SV.raw (Value.int IntKind.u32 a2)),
                                                    some (SV.raw (Value.int IntKind.u8 a3)), none, none, none, none,
                                                    some (SV.raw (Value.bool false)), some (SV.raw (Value.bool true)),
                                                    some
                                                      (SV.raw
                                                        (Value.int IntKind.i64
                                                          (Int.tmod (IntKind.wrap IntKind.i64 a1) (60 : Int)))),
                                                    some
                                                      (SV.raw
                                                        (Value.int IntKind.i64
                                                          (IntKind.wrap IntKind.i64
                                                            ((1 : Int) +
                                                              Int.tmod (IntKind.wrap IntKind.i64 a2) (1000000000 : Int))))),
                                                    some
                                                      (SV.raw
                                                        (Value.int IntKind.i64
                                                          (Int.tmod (IntKind.wrap IntKind.i64 a3) (60 : Int)))),
                                                    none, none, none, none, none, none, none, none, none, none, none,
                                                    some (SV.raw (Value.bool true)), some (SV.raw (Value.slice b1 l1 c1)),
                                                    some (SV.raw (Value.bool (decide (fewS xs)))),
                                                    some (SV.raw (Value.bool !decide (fewS xs))),
                                                    some (SV.raw (Value.bool false)), some (SV.raw (Value.slice b1 l1 c1)),
                                                    some (SV.raw (Value.bool (decide (validS xs_1)))),
                                                    some (SV.raw (Value.bool !decide (validS xs_1))),
                                                    some
                                                      (SV.raw (Value.bool (bif false then true else !decide (validS xs_1)))),
                                                    some (SV.raw (Value.bool false)), some (SV.raw (Value.int IntKind.u8 a1)),
                                                    some (SV.raw (Value.int IntKind.u8 (Int.tmod a1 (60 : Int)))),
                                                    some (SV.raw (Value.int IntKind.u8 a3)),
                                                    some (SV.raw (Value.int IntKind.u8 (Int.tmod a3 (60 : Int)))),
                                                    some
                                                      (SV.raw
                                                        (Value.bool (Int.tmod a1 (60 : Int) == Int.tmod a3 (60 : Int)))),
                                                    some
                                                      (SV.raw
                                                        (Value.bool
                                                          (bif false then true
                                                          else Int.tmod a1 (60 : Int) == Int.tmod a3 (60 : Int)))),
                                                    none, some (SV.raw (Value.int IntKind.u8 a1)),
                                                    some (SV.raw (Value.int IntKind.i64 (IntKind.wrap IntKind.i64 a1))),
                                                    some
                                                      (SV.raw
                                                        (Value.int IntKind.i64
                                                          (Int.tmod (IntKind.wrap IntKind.i64 a1) (60 : Int)))),
                                                    some (SV.raw (Value.int IntKind.u32 a2)),
                                                    some (SV.raw (Value.int IntKind.i64 (IntKind.wrap IntKind.i64 a2))),
                                                    some
                                                      (SV.raw
                                                        (Value.int IntKind.i64
                                                          (Int.tmod (IntKind.wrap IntKind.i64 a2) (1000000000 : Int)))),
                                                    some
                                                      (SV.raw
                                                        (Value.int IntKind.i64
                                                          (IntKind.wrap IntKind.i64
                                                            ((1 : Int) +
                                                              Int.tmod (IntKind.wrap IntKind.i64 a2) (1000000000 : Int))))),
                                                    some (SV.raw (Value.int IntKind.u8 a3)),
                                                    some (SV.raw (Value.int IntKind.i64 (IntKind.wrap IntKind.i64 a3))),
                                                    some
                                                      (SV.raw
                                                        (Value.int IntKind.i64
                                                          (Int.tmod (IntKind.wrap IntKind.i64 a3) (60 : Int)))),
                                                    none, none, none, none, none, none, none, none, none, none, none, none,
                                                    none, none, none, none, none, none, none, none, none, none, none, none,
                                                    none, none, none, none, none, none, none, none, none, none, none, none,
                                                    none, none, none, none, none, none, none, none, none, none, none, none,
                                                    none, none, none, none, none, none, none, none, none, none, none, none,
                                                    none, none, none, none, none, none, none, none, none, none, none, none],
                                                bx := [], E := E' : St })
  have b1' : 0 ≤ a1 ∧ a1 ≤ 255 := by simpa [Lit.wf, IntKind.min, IntKind.max, IntKind.signed, IntKind.bits] using ha1
  have b2' : 0 ≤ a2 ∧ a2 ≤ 4294967295 := by simpa [Lit.wf, IntKind.min, IntKind.max, IntKind.signed, IntKind.bits] using ha2
  have b3' : 0 ≤ a3 ∧ a3 ≤ 255 := by simpa [Lit.wf, IntKind.min, IntKind.max, IntKind.signed, IntKind.bits] using ha3
  have t1 : Int.tmod a1 60 = a1 % 60 := Int.tmod_eq_emod_of_nonneg b1'.1
  have t2 : Int.tmod a2 1000000000 = a2 % 1000000000 := Int.tmod_eq_emod_of_nonneg b2'.1
  have t3 : Int.tmod a3 60 = a3 % 60 := Int.tmod_eq_emod_of_nonneg b3'.1
  intro E1 q1
  refine ⟨q1, x1, hS10.mono SR_ok q1, hS11, Mem.le_refl _, condC (fun g => ⟨q1, h E1 q1⟩) (fun g => ?_)⟩
  have g : fewS x1 := by simpa using g
  have hs : Sm x1 := ⟨by have := g.1; omega, hS11⟩
  have p1 := hS10.mono SR_ok q1
  refine ⟨x1, p1, hs, Mem.le_refl _, condC (fun g2 => ⟨q1, h E1 q1⟩) (fun g2 => ⟨(by intro w; cases w), (by intro w; cases w), condC (fun g3 => ⟨q1, h E1 q1⟩) (fun g3 => ⟨(by intro w; cases w), (by intro w; cases w), (by intro w; cases w), ?_⟩)⟩)⟩
  have g2 : validS x1 := by simpa using g2
  rw [t1, t3] at g3
  have g3 : ¬ a1 % 60 = a3 % 60 := by simpa using g3
  rw [wrap_i64 (x := a1) (by omega), wrap_i64 (x := a2) (by omega), wrap_i64 (x := a3) (by omega), t1, t2, t3, wrap_i64 (x := 1 + a2 % 1000000000) (by omega)]
  have K1 := pcO5 (o := a1 % 60) (n := 1 + a2 % 1000000000) (p := a3 % 60) p1 hs ⟨g2, ⟨by omega, by omega⟩, by omega, by omega⟩ (fun w => g3 w.symm) q1 h
  exact Ct_re [] (Ct_intro okWL8 K1) ⟨⟨by simp, by simp, fun j h => absurd h (Nat.not_lt_zero _)⟩, rfl, (by repeat' first | exact True.intro | refine And.intro (Or.inl rfl) ?_ | refine And.intro (Or.inr ⟨rfl, rfl⟩) ?_), (by repeat' first | exact True.intro | exact rfl | exact Or.inl rfl | fail | refine And.intro ?_ ?_), (show List.Nodup [] from by decide), Mem.le_refl _⟩


theorem opn8 (W : World) (K : List SV → Prop) (h : ∀ (b1 : Option Addr) (l1 c1 : Nat) (z1 : List (List Value)), (l1 ≤ c1) → (c1 ≤ maxLen) → (b1 = none → c1 = 0) → (z1.length = c1) → RowAt W (.slice b1 l1 c1) z1.flatten → (∀ r ∈ z1, r.length = 2 ∧ Shp Try.prog W 12 45 r) → ∀ a1 : Int, (Lit.int .u8 a1).wf = true → ∀ a2 : Int, (Lit.int .u32 a2).wf = true → ∀ a3 : Int, (Lit.int .u8 a3).wf = true → K [L b1 l1 c1, .raw (.int .u8 a1), .raw (.int .u32 a2), .raw (.int .u8 a3)]) : opnAll Try.prog W Try.f8.params.toList K :=
  same (by kernel_rfl) h

theorem sem8 (W : World) : opnAll Try.prog W Try.f8.params.toList fun ss => TabSem Try.prog 8 ss (fun v cs => RowAt W v cs) fun r _ => r = .raw (.bool true) := by
  refine opn8 W _ ?_
  intro b1 l1 c1 z1 hl1 hc1 hb1 hz1 hE1 hr1 a1 ha1 a2 ha2 a3 ha3
  exact Ent.sem okWL8 Try.func8 ⟨by kernel_rfl, by kernel_rfl⟩ rfl (e8 (Nat.le_trans hl1 hc1) (SSof hl1 hb1 hz1 hE1 hr1).choose_spec.1 (SSof hl1 hb1 hz1 hE1 hr1).choose_spec.2 ha1 ha2 ha3 (fun _ _ => rfl))

theorem lifted8 (os : Os) (started : os.Started) (H : Type) (enc : TypeId × Value → H) :
    ReturnsInHanded {} Try.checked os 8 .any (Rows.seenOriginsSpec.pre6 enc Try.prog Try.f8 Rows.seenOriginsRow.domain false) (Rows.seenOriginsSpec.post enc Try.prog Try.f8 false true false false) :=
  lift_true (C := Try.checked) (by kernel_rfl) (by kernel_rfl) started (by kernel_rfl) Try.func8
    (ChangeSpec.witness6 (enc := enc) (C := Try.checked) false ⟨#[], #[.slice none 0 0, .int .u8 0, .int .u32 0, .int .u8 0], []⟩ 8 (by kernel_rfl) (by kernel_rfl) (by kernel_rfl) (by kernel_rfl))
    (Tb := 4) (by kernel_rfl) (by kernel_rfl) (by kernel_rfl) rfl
    (fun ds hl => by
      match ds, hl with
      | [d0, d1, d2, d3], _ => exact ⟨rfl, rfl, rfl⟩)
    sem8

theorem over8 : Rows.seenOriginsRow.holds Try.pinned (OpenSpec.ofChange Rows.seenOriginsSpec) :=
  OpenClaim.holds_of_wide 8 Try.f8 rfl rfl rfl rfl rfl rfl rfl ⟨rfl, rfl, rfl, rfl, rfl⟩ rfl rfl rfl rfl rfl (by kernel_rfl) Try.func8 (by kernel_rfl)
    (of_decide_eq_true (by kernel_rfl)) (by unfold Func.isWrapper; first | (rw [if_pos (by decide +kernel)]; kernel_rfl) | (rw [if_neg (by decide +kernel)]; exact ⟨rfl, rfl⟩))
    (fun os started H enc _ => lifted8 os started H enc)

theorem proved8 : Rows.SeenOriginsSaid := over8
end Go.Proofs.Ytjibgfihfbdcaaa.SeenOwn
