/- The package seen: what its functions answer. -/
import Derived.Test.YtjibgfihfbdcaaaSeen12
namespace Go.Proofs.Ytjibgfihfbdcaaa.SeenOwn
open Go Go.Sx
set_option maxRecDepth 100000
set_option maxHeartbeats 4000000
set_option linter.unusedVariables false
set_option linter.unusedSimpArgs false
variable {E : Mem} {K : SV → Mem → Prop}

def fewS (xs : List Sn) : Prop := xs.length ≤ 100 ∧ manyI xs ≤ 100
instance (xs : List Sn) : Decidable (fewS xs) := inferInstanceAs (Decidable (_ ∧ _))
def PR : RowR (Int × Int) := fun _ x r => r = [.int .u8 x.1, .int .u8 x.2]
theorem PR_ok : RowOK 2 PR := ⟨fun _ h => h, fun h => by cases h; rfl, fun h v hv => by cases h; simp only [List.mem_cons, List.not_mem_nil, or_false] at hv; rcases hv with rfl | rfl <;> rfl, by decide⟩
abbrev PS (E : Mem) (b : Option Addr) (n c : Nat) (ps : List (Int × Int)) : Prop := SL PR E b n c ps
/-- Numbers of origins added in their order. -/
def addsF (ps : List (Int × Int)) : List Sn × Bool := ps.foldl (fun w x => if w.2 = true then (if (addF w.1 (x.1 % 8) (1 + x.2 % 64)).2.2 = 0 then ((addF w.1 (x.1 % 8) (1 + x.2 % 64)).1, true) else ([], false)) else w) ([], true)
noncomputable def N1 : Cx := { P := Try.prog, inl := fun f => List.contains [] f, tab := fun _ _ _ _ => False, isB := fun _ => false, tabB := fun _ _ _ _ _ => False, opt := { unroll := 0, carry := [] }, muts := mutsD }
theorem okN1 : CxOK N1 := CxOK.four (fun _ _ _ _ h => h.elim) (by kernel_rfl) (okInl (by kernel_rfl)) (fun _ _ _ _ _ h => h.elim)
theorem s24 {a1 : Int} {b2 : Option Addr} {l3 : Nat} {c4 : Nat} {rs : List Rg} (h0 : RS E b2 l3 c4 rs) (h : ∀ (b' : Option Addr) (l' c' : Nat) (E' : Mem), Mem.le E E' → SS E' b' l' c' ([(a1, rs)]) → K (L b' l' c') E') :
    Ent N1 8 Try.f24 [I a1, L b2 l3 c4] E K := by
  refine same (by kernel_rfl) (?_ : 
      ∀ (base : Option Addr) (E' : Mem),
        Mem.le E E' →
          WinE E' base [Value.int IntKind.i64 a1, Value.slice b2 l3 c4] →
            Mem.le E E' ∧
              K (SV.raw (Value.slice (Option.map (fun (x : Addr) => Addr.add x 0) base) 1 1)) E')
  intro base E' q1 q2
  exact ⟨q1, h _ 1 1 E' q1 (SL.win SR_ok (rs := [[.int .i64 a1, .slice b2 l3 c4]]) q2 rfl (SLr.one ⟨b2, l3, c4, rfl, h0.mono RR_ok q1⟩) rfl (Nat.le_refl _))⟩
noncomputable def t10 : FuncId → List SV → Mem → (SV → Mem → Prop) → Prop := fun f args E K => match f with
  | 25 => d1 args fun x0 => dS x0 fun b1 l2 c3 => ∃ (xs : List Sn), SS E b1 l2 c3 xs ∧ Sm xs ∧ (K (I (manyI xs)) E)
  | _ => False
theorem t10_ok : TabOK Try.prog t10 := by
  intro f args E K h
  unfold t10 at h
  split at h
  · replace h := d1_elim h
    obtain ⟨x0, rfl, h⟩ := h
    replace h := dS_elim h
    obtain ⟨b1, l2, c3, rfl, h⟩ := h
    obtain ⟨xs, g0, g1, h⟩ := h
    exact TabSem.congr (valL_cons rfl rfl) (Ent.sem okC2 Try.func25 ⟨by kernel_rfl, by kernel_rfl⟩ rfl (s25 g0 g1 h))
  · exact h.elim
noncomputable def N2 : Cx := { P := Try.prog, inl := fun f => List.contains [] f, tab := t10, isB := fun _ => false, tabB := fun _ _ _ _ _ => False, opt := { unroll := 0, carry := [] }, muts := mutsD }
theorem okN2 : CxOK N2 := CxOK.four t10_ok (by kernel_rfl) (okInl (by kernel_rfl)) (fun _ _ _ _ _ h => h.elim)
theorem s10 {b1 : Option Addr} {l2 : Nat} {c3 : Nat} {xs : List Sn} (h0 : SS E b1 l2 c3 xs) (h1 : (∀ x ∈ xs, x.2.length ≤ 9223372036854775807)) (h : K (B (decide (fewS xs))) E) :
    Ent N2 8 Try.f10 [L b1 l2 c3] E K := by
  refine same (by kernel_rfl) (?_ : 
      bif decide ((↑l2 : Int) ≤ (100 : Int)) then
        ∃ (xs : List Sn),
          SS E b1 l2 c3 xs ∧
            Sm xs ∧
              Mem.le E E ∧ Mem.le E E ∧ K (SV.raw (Value.bool (bif true then decide (manyI xs ≤ (100 : Int)) else false))) E
      else Mem.le E E ∧ K (SV.raw (Value.bool false)) E)
  have hn := h0.len
  refine condC (fun g => ⟨xs, h0, ⟨by simp at g; omega, h1⟩, Mem.le_refl _, Mem.le_refl _, ?_⟩) (fun g => ⟨Mem.le_refl _, ?_⟩)
  · have g : l2 ≤ 100 := by simp at g; omega
    have e : decide (fewS xs) = decide (manyI xs ≤ 100) := by
      rw [decide_eq_decide]; unfold fewS; omega
    rw [e] at h
    exact h
  · have g : ¬ l2 ≤ 100 := by simp at g; omega
    rwa [decide_eq_false (fun w => g (by have := w.1; omega))] at h
noncomputable def t9b : FuncId → List SV → Mem → (SV → Mem → Prop) → Prop := fun f args E K => match f with
  | 24 => d2 args fun x0 x1 => dI x0 fun a1 => dS x1 fun b2 l3 c4 => ∃ (rs : List Rg), RS E b2 l3 c4 rs ∧ (∀ (b' : Option Addr) (l' c' : Nat) (E' : Mem), Mem.le E E' → SS E' b' l' c' ([(a1, rs)]) → K (L b' l' c') E')
  | 17 => d2 args fun x0 x1 => dS x0 fun b1 l2 c3 => dS x1 fun b4 l5 c6 => ∃ (xs : List Sn) (ys : List Sn), SS E b1 l2 c3 xs ∧ SS E b4 l5 c6 ys ∧ Sm xs ∧ (K (B (decide (xs = ys))) E)
  | 19 => d3 args fun x0 x1 x2 => dS x0 fun b1 l2 c3 => dI x1 fun a4 => dI x2 fun a5 => ∃ (xs : List Sn), SS E b1 l2 c3 xs ∧ Sm xs ∧ (-9223372036854775808 ≤ a4 ∧ a4 ≤ 9223372036854775807) ∧ a5 ≤ 1000 ∧ (∀ (b' : Option Addr) (l' c' : Nat) (E' : Mem), Mem.le E E' → NL E' b' l' c' (missF xs a4 a5) → K (L b' l' c') E')
  | 18 => d2 args fun x0 x1 => dS x0 fun b1 l2 c3 => dS x1 fun b4 l5 c6 => ∃ (zs : List Int) (ys : List Int), NL E b1 l2 c3 zs ∧ NL E b4 l5 c6 ys ∧ l2 ≤ 100000 ∧ (K (B (decide (zs = ys))) E)
  | 15 => d3 args fun x0 x1 x2 => dS x0 fun b1 l2 c3 => dI x1 fun a4 => dI x2 fun a5 => ∃ (xs : List Sn), SS E b1 l2 c3 xs ∧ Sm xs ∧ (-9223372036854775808 ≤ a4 ∧ a4 ≤ 9223372036854775807) ∧ (K (B (decide (hasP xs a4 a5))) E)
  | 13 => d1 args fun x0 => dS x0 fun b1 l2 c3 => ∃ (xs : List Sn), SS E b1 l2 c3 xs ∧ Sm xs ∧ (K (B (decide (validS xs))) E)
  | _ => False
theorem t9b_ok : TabOK Try.prog t9b := by
  intro f args E K h
  unfold t9b at h
  split at h
  · replace h := d2_elim h
    obtain ⟨x0, x1, rfl, h⟩ := h
    replace h := dI_elim h
    obtain ⟨a1, rfl, h⟩ := h
    replace h := dS_elim h
    obtain ⟨b2, l3, c4, rfl, h⟩ := h
    obtain ⟨rs, g0, h⟩ := h
    exact TabSem.congr (valL_cons rfl (valL_cons rfl rfl)) (Ent.sem okN1 Try.func24 ⟨by kernel_rfl, by kernel_rfl⟩ rfl (s24 g0 h))
  · replace h := d2_elim h
    obtain ⟨x0, x1, rfl, h⟩ := h
    replace h := dS_elim h
    obtain ⟨b1, l2, c3, rfl, h⟩ := h
    replace h := dS_elim h
    obtain ⟨b4, l5, c6, rfl, h⟩ := h
    obtain ⟨xs, ys, g0, g1, g2, h⟩ := h
    exact TabSem.congr (valL_cons rfl (valL_cons rfl rfl)) (Ent.sem okG2 Try.func17 ⟨by kernel_rfl, by kernel_rfl⟩ rfl (s17 g0 g1 g2 h))
  · replace h := d3_elim h
    obtain ⟨x0, x1, x2, rfl, h⟩ := h
    replace h := dS_elim h
    obtain ⟨b1, l2, c3, rfl, h⟩ := h
    replace h := dI_elim h
    obtain ⟨a4, rfl, h⟩ := h
    replace h := dI_elim h
    obtain ⟨a5, rfl, h⟩ := h
    obtain ⟨xs, g0, g1, g2, g3, h⟩ := h
    exact TabSem.congr (valL_cons rfl (valL_cons rfl (valL_cons rfl rfl))) (Ent.sem okM1 Try.func19 ⟨by kernel_rfl, by kernel_rfl⟩ rfl (s19 g0 g1 g2 g3 h))
  · replace h := d2_elim h
    obtain ⟨x0, x1, rfl, h⟩ := h
    replace h := dS_elim h
    obtain ⟨b1, l2, c3, rfl, h⟩ := h
    replace h := dS_elim h
    obtain ⟨b4, l5, c6, rfl, h⟩ := h
    obtain ⟨zs, ys, g0, g1, g2, h⟩ := h
    exact TabSem.congr (valL_cons rfl (valL_cons rfl rfl)) (Ent.sem okG1 Try.func18 ⟨by kernel_rfl, by kernel_rfl⟩ rfl (s18 g0 g1 g2 h))
  · replace h := d3_elim h
    obtain ⟨x0, x1, x2, rfl, h⟩ := h
    replace h := dS_elim h
    obtain ⟨b1, l2, c3, rfl, h⟩ := h
    replace h := dI_elim h
    obtain ⟨a4, rfl, h⟩ := h
    replace h := dI_elim h
    obtain ⟨a5, rfl, h⟩ := h
    obtain ⟨xs, g0, g1, g2, h⟩ := h
    exact TabSem.congr (valL_cons rfl (valL_cons rfl (valL_cons rfl rfl))) (Ent.sem okD8 Try.func15 ⟨by kernel_rfl, by kernel_rfl⟩ rfl (s15 g0 g1 g2 h))
  · replace h := d1_elim h
    obtain ⟨x0, rfl, h⟩ := h
    replace h := dS_elim h
    obtain ⟨b1, l2, c3, rfl, h⟩ := h
    obtain ⟨xs, g0, g1, h⟩ := h
    exact TabSem.congr (valL_cons rfl rfl) (Ent.sem okC6 Try.func13 ⟨by kernel_rfl, by kernel_rfl⟩ rfl (s13 g0 g1 h))
  · exact h.elim
def eH (o : Int) : Int := match o with | 60 => 1 | _ => 0
noncomputable def t9 : FuncId → List SV → Mem → (SV → Mem → Prop) → Prop := fun f args E K => match f, args with
  | 11, [x, y, z] => dS x fun b l c => dI y fun o => dI z fun n => ∃ (xs ys : List Sn) (t : Bool), SS E b l c xs ∧ Sm xs ∧ addF xs o n = (ys, t, eH o) ∧ ∀ (b' : Option Addr) (l' c' : Nat) (E' : Mem), Mem.le E E' → SS E' b' l' c' ys → K (.tup [L b' l' c', B t, I (eH o)]) E'
  | f, args => t9b f args E K
theorem t9_ok : TabOK Try.prog t9 := by
  intro f args E K h
  unfold t9 at h
  split at h
  · obtain ⟨b, l, c, rfl, h⟩ := dS_elim h
    obtain ⟨o, rfl, h⟩ := dI_elim h
    obtain ⟨n, rfl, xs, ys, t, h1, h2, h3, h4⟩ := dI_elim h
    refine Ent.sem okA1 Try.func11 ⟨by kernel_rfl, by kernel_rfl⟩ rfl (s11 h1 h2 fun ys' t' e' q b' l' c' E' g1 g2 => ?_)
    rw [h3] at q; cases q
    exact h4 b' l' c' E' g1 g2
  · exact t9b_ok _ _ _ _ h
noncomputable def N3 : Cx := { P := Try.prog, inl := fun f => List.contains [] f, tab := t9, isB := fun _ => false, tabB := fun _ _ _ _ _ => False, opt := { unroll := 0, carry := [] }, muts := mutsD }
theorem okN3 : CxOK N3 := CxOK.four t9_ok (by kernel_rfl) (okInl (by kernel_rfl)) (fun _ _ _ _ _ h => h.elim)
theorem Sm_of {xs : List Sn} (h : xs.length ≤ 1000 ∧ manyF xs ≤ 1000) : Sm xs := ⟨h.1, fun x hx => by have := many_mem hx; omega⟩
theorem condT {a b : Prop} (h : a) : (bif true then a else b) := h
theorem condE {α : Type} [DecidableEq α] {x y : α} {a b : Prop} (e : x = y) (h : a) : (bif (bif true then decide (x = y) else false) then a else b) := by simp [e, h]
theorem condP {p : Prop} [Decidable p] {a b : Prop} (e : p) (h : a) : (bif (bif true then decide p else false) then a else b) := by simp [e, h]
theorem condN {p : Prop} [Decidable p] {a b : Prop} (e : ¬ p) (h : a) : (bif (bif true then !decide p else false) then a else b) := by simp [e, h]
theorem s9  (h : ∀ (E' : Mem), Mem.le E E' → K (B true) E') :
    Ent N3 8 Try.f9 [] E K := by
  refine same (by kernel_rfl) (?_ : 
      ∃ (xs : List Sn),
        ∃ (ys : List Sn),
          ∃ (t : Bool),
            SS E none 0 0 xs ∧
              Sm xs ∧
                addF xs (3 : Int) (5 : Int) = (ys, t, (0 : Int)) ∧
                  ∀ (b' : Option Addr) (l' c' : Nat) (E' : Mem),
                    Mem.le E E' →
                      SS E' b' l' c' ys →
                        Mem.le E E' ∧
                          ∃ (xs : List Sn),
                            ∃ (ys : List Sn),
                              ∃ (t_1 : Bool),
                                SS E' b' l' c' xs ∧
                                  Sm xs ∧
                                    addF xs (3 : Int) (7 : Int) = (ys, t_1, (0 : Int)) ∧
                                      ∀ (b'_1 : Option Addr) (l'_1 c'_1 : Nat) (E'_1 : Mem),
                                        Mem.le E' E'_1 →
                                          SS E'_1 b'_1 l'_1 c'_1 ys →
                                            Mem.le E' E'_1 ∧
                                              ∃ (xs : List Sn),
                                                ∃ (ys : List Sn),
                                                  ∃ (t_2 : Bool),
                                                    SS E'_1 b'_1 l'_1 c'_1 xs ∧
                                                      Sm xs ∧
                                                        addF xs (3 : Int) (6 : Int) = (ys, t_2, (0 : Int)) ∧
                                                          ∀ (b'_2 : Option Addr) (l'_2 c'_2 : Nat) (E' : Mem),
                                                            Mem.le E'_1 E' →
                                                              SS E' b'_2 l'_2 c'_2 ys →
                                                                Mem.le E'_1 E' ∧
                                                                  ∃ (xs : List Sn),
                                                                    ∃ (ys : List Sn),
                                                                      ∃ (t_3 : Bool),
                                                                        SS E' b'_2 l'_2 c'_2 xs ∧
                                                                          Sm xs ∧
                                                                            addF xs (3 : Int) (6 : Int) =
                                                                                (ys, t_3, (0 : Int)) ∧
                                                                              ∀ (b'_3 : Option Addr) (l'_3 c'_3 : Nat)
                                                                                (E'_2 : Mem),
                                                                                Mem.le E' E'_2 →
                                                                                  SS E'_2 b'_3 l'_3 c'_3 ys →
                                                                                    Mem.le E' E'_2 ∧
                                                                                      ∃ (xs : List Sn),
                                                                                        ∃ (ys : List Sn),
                                                                                          ∃ (t_4 : Bool),
                                                                                            SS E'_2 none 0 0
                                                                                                xs ∧
                                                                                              Sm xs ∧
                                                                                                addF xs (60 : Int) (1 : Int) =
                                                                                                    (ys, t_4, (1 : Int)) ∧
                                                                                                  ∀ (b'_4 : Option Addr)
                                                                                                    (l'_4 c'_4 : Nat)
                                                                                                    (E' : Mem),
                                                                                                    Mem.le E'_2 E' →
                                                                                                      SS E' b'_4 l'_4 c'_4
                                                                                                          ys →
                                                                                                        Mem.le E'_2 E' ∧
                                                                                                          bif
                                                                                                              bif true then t
                                                                                                              else false then
                                                                                                            bif
                                                                                                                bif true then
                                                                                                                  t_1
                                                                                                                else
                                                                                                                  false then
                                                                                                              bif
                                                                                                                  bif
                                                                                                                      true then
                                                                                                                    t_2
                                                                                                                  else
                                                                                                                    false then
                                                                                                                bif
                                                                                                                    bif
                                                                                                                        true then
                                                                                                                      !t_3
                                                                                                                    else
                                                                                                                      false then
                                                                                                                  ∀
                                                                                                                    (base :
                                                                                                                      Option
                                                                                                                        Addr)
                                                                                                                    (E'_3 :
                                                                                                                      Mem),
                                                                                                                    Mem.le E'
                                                                                                                        E'_3 →
                                                                                                                      WinE
                                                                                                                          E'_3
                                                                                                                          base
                                                                                                                          [Value.int
                                                                                                                              IntKind.i64
                                                                                                                              (5 :
                                                                                                                                Int),
                                                                                                                            Value.int
                                                                                                                              IntKind.i64
                                                                                                                              (5 :
                                                                                                                                Int)] →
                                                                                                                        ∃ (rs
                                                                                                                          :
                                                                                                                          List
                                                                                                                            Rg),
                                                                                                                          RS
                                                                                                                              E'_3
                                                                                                                              (Option.map
                                                                                                                                (fun
                                                                                                                                    (x :
                                                                                                                                      Addr) =>
                                                                                                                                  Addr.add
                                                                                                                                    x
                                                                                                                                    (0 :
                                                                                                                                      Nat))
                                                                                                                                base)
                                                                                                                              (1 :
                                                                                                                                Nat)
                                                                                                                              (1 :
                                                                                                                                Nat)
                                                                                                                              rs ∧
                                                                                                                            ∀
                                                                                                                              (b'_5 :
                                                                                                                                Option
                                                                                                                                  Addr)
                                                                                                                              (l'_5
                                                                                                                                c'_5 :
                                                                                                                                Nat)
                                                                                                                              (E' :
                                                                                                                                Mem),
                                                                                                                              Mem.le
                                                                                                                                  E'_3
                                                                                                                                  E' →
                                                                                                                                SS
                                                                                                                                    E'
                                                                                                                                    b'_5
                                                                                                                                    l'_5
                                                                                                                                    c'_5
                                                                                                                                    [((3 :
                                                                                                                                          Int),
                                                                                                                                        rs)] →
                                                                                                                                  ∃
                                                                                                                                    (xs
                                                                                                                                    :
                                                                                                                                    List
                                                                                                                                      Sn),
                                                                                                                                    ∃
                                                                                                                                      (ys
                                                                                                                                      :
                                                                                                                                      List
                                                                                                                                        Sn),
                                                                                                                                      SS
                                                                                                                                          E'
                                                                                                                                          b'
                                                                                                                                          l'
                                                                                                                                          c'
                                                                                                                                          xs ∧
                                                                                                                                        SS
                                                                                                                                            E'
                                                                                                                                            b'_5
                                                                                                                                            l'_5
                                                                                                                                            c'_5
                                                                                                                                            ys ∧
                                                                                                                                          Sm
                                                                                                                                              xs ∧
                                                                                                                                            Mem.le
                                                                                                                                                E'
                                                                                                                                                E' ∧
                                                                                                                                              bif
                                                                                                                                                  bif
                                                                                                                                                      true then
                                                                                                                                                    decide
                                                                                                                                                      (xs =
                                                                                                                                                        ys)
                                                                                                                                                  else
                                                                                                                                                    false then
                                                                                                                                                ∀
                                                                                                                                                  (base :
                                                                                                                                                    Option
                                                                                                                                                      Addr)
                                                                                                                                                  (E'_4 :
                                                                                                                                                    Mem),
                                                                                                                                                  Mem.le
                                                                                                                                                      E'
                                                                                                                                                      E'_4 →
                                                                                                                                                    WinE
                                                                                                                                                        E'_4
                                                                                                                                                        base
                                                                                                                                                        [Value.int
                                                                                                                                                            IntKind.i64
                                                                                                                                                            (5 :
                                                                                                                                                              Int),
                                                                                                                                                          Value.int
                                                                                                                                                            IntKind.i64
                                                                                                                                                            (5 :
                                                                                                                                                              Int),
                                                                                                                                                          Value.int
                                                                                                                                                            IntKind.i64
                                                                                                                                                            (7 :
                                                                                                                                                              Int),
                                                                                                                                                          Value.int
                                                                                                                                                            IntKind.i64
                                                                                                                                                            (7 :
                                                                                                                                                              Int)] →
                                                                                                                                                      ∃
                                                                                                                                                        (rs
                                                                                                                                                        :
                                                                                                                                                        List
                                                                                                                                                          Rg),
                                                                                                                                                        RS
                                                                                                                                                            E'_4
                                                                                                                                                            (Option.map
                                                                                                                                                              (fun
                                                                                                                                                                  (x :
                                                                                                                                                                    Addr) =>
                                                                                                                                                                Addr.add
                                                                                                                                                                  x
                                                                                                                                                                  (0 :
                                                                                                                                                                    Nat))
                                                                                                                                                              base)
                                                                                                                                                            (2 :
                                                                                                                                                              Nat)
                                                                                                                                                            (2 :
                                                                                                                                                              Nat)
                                                                                                                                                            rs ∧
                                                                                                                                                          ∀
                                                                                                                                                            (b' :
                                                                                                                                                              Option
                                                                                                                                                                Addr)
                                                                                                                                                            (l'
                                                                                                                                                              c' :
                                                                                                                                                              Nat)
                                                                                                                                                            (E' :
                                                                                                                                                              Mem),
                                                                                                                                                            Mem.le
                                                                                                                                                                E'_4
                                                                                                                                                                E' →
                                                                                                                                                              SS
                                                                                                                                                                  E'
                                                                                                                                                                  b'
                                                                                                                                                                  l'
                                                                                                                                                                  c'
                                                                                                                                                                  [((3 :
                                                                                                                                                                        Int),
                                                                                                                                                                      rs)] →
                                                                                                                                                                ∃
                                                                                                                                                                  (xs
                                                                                                                                                                  :
                                                                                                                                                                  List
                                                                                                                                                                    Sn),
                                                                                                                                                                  ∃
                                                                                                                                                                    (ys
                                                                                                                                                                    :
                                                                                                                                                                    List
                                                                                                                                                                      Sn),
                                                                                                                                                                    SS
                                                                                                                                                                        E'
                                                                                                                                                                        b'_1
                                                                                                                                                                        l'_1
                                                                                                                                                                        c'_1
                                                                                                                                                                        xs ∧
                                                                                                                                                                      SS
                                                                                                                                                                          E'
                                                                                                                                                                          b'
                                                                                                                                                                          l'
                                                                                                                                                                          c'
                                                                                                                                                                          ys ∧
                                                                                                                                                                        Sm
                                                                                                                                                                            xs ∧
                                                                                                                                                                          Mem.le
                                                                                                                                                                              E'
                                                                                                                                                                              E' ∧
                                                                                                                                                                            bif
                                                                                                                                                                                bif
                                                                                                                                                                                    true then
                                                                                                                                                                                  decide
                                                                                                                                                                                    (xs =
                                                                                                                                                                                      ys)
                                                                                                                                                                                else
                                                                                                                                                                                  false then
                                                                                                                                                                              ∀
                                                                                                                                                                                (base :
                                                                                                                                                                                  Option
                                                                                                                                                                                    Addr)
                                                                                                                                                                                (E'_5 :
                                                                                                                                                                                  Mem),
                                                                                                                                                                                Mem.le
                                                                                                                                                                                    E'
                                                                                                                                                                                    E'_5 →
                                                                                                                                                                                  WinE
                                                                                                                                                                                      E'_5
                                                                                                                                                                                      base
                                                                                                                                                                                      [Value.int
                                                                                                                                                                                          IntKind.i64
                                                                                                                                                                                          (5 :
                                                                                                                                                                                            Int),
                                                                                                                                                                                        Value.int
                                                                                                                                                                                          IntKind.i64
                                                                                                                                                                                          (7 :
                                                                                                                                                                                            Int)] →
                                                                                                                                                                                    ∃
                                                                                                                                                                                      (rs
                                                                                                                                                                                      :
                                                                                                                                                                                      List
                                                                                                                                                                                        Rg),
                                                                                                                                                                                      RS
                                                                                                                                                                                          E'_5
                                                                                                                                                                                          (Option.map
                                                                                                                                                                                            (fun
                                                                                                                                                                                                (x :
                                                                                                                                                                                                  Addr) =>
                                                                                                                                                                                              Addr.add
                                                                                                                                                                                                x
                                                                                                                                                                                                (0 :
                                                                                                                                                                                                  Nat))
                                                                                                                                                                                            base)
                                                                                                                                                                                          (1 :
                                                                                                                                                                                            Nat)
                                                                                                                                                                                          (1 :
                                                                                                                                                                                            Nat)
                                                                                                                                                                                          rs ∧
                                                                                                                                                                                        ∀
                                                                                                                                                                                          (b' :
                                                                                                                                                                                            Option
                                                                                                                                                                                              Addr)
                                                                                                                                                                                          (l'
                                                                                                                                                                                            c' :
                                                                                                                                                                                            Nat)
                                                                                                                                                                                          (E' :
                                                                                                                                                                                            Mem),
                                                                                                                                                                                          Mem.le
                                                                                                                                                                                              E'_5
                                                                                                                                                                                              E' →
                                                                                                                                                                                            SS
                                                                                                                                                                                                E'
                                                                                                                                                                                                b'
                                                                                                                                                                                                l'
                                                                                                                                                                                                c'
                                                                                                                                                                                                [((3 :
                                                                                                                                                                                                      Int),
                                                                                                                                                                                                    rs)] →
                                                                                                                                                                                              ∃
                                                                                                                                                                                                (xs
                                                                                                                                                                                                :
                                                                                                                                                                                                List
                                                                                                                                                                                                  Sn),
                                                                                                                                                                                                ∃
                                                                                                                                                                                                  (ys
                                                                                                                                                                                                  :
                                                                                                                                                                                                  List
                                                                                                                                                                                                    Sn),
                                                                                                                                                                                                  SS
                                                                                                                                                                                                      E'
                                                                                                                                                                                                      b'_2
                                                                                                                                                                                                      l'_2
                                                                                                                                                                                                      c'_2
                                                                                                                                                                                                      xs ∧
                                                                                                                                                                                                    SS
                                                                                                                                                                                                        E'
                                                                                                                                                                                                        b'
                                                                                                                                                                                                        l'
                                                                                                                                                                                                        c'
                                                                                                                                                                                                        ys ∧
                                                                                                                                                                                                      Sm
                                                                                                                                                                                                          xs ∧
                                                                                                                                                                                                        Mem.le
                                                                                                                                                                                                            E'
                                                                                                                                                                                                            E' ∧
                                                                                                                                                                                                          bif
                                                                                                                                                                                                              bif
                                                                                                                                                                                                                  true then
                                                                                                                                                                                                                decide
                                                                                                                                                                                                                  (xs =
                                                                                                                                                                                                                    ys)
                                                                                                                                                                                                              else
                                                                                                                                                                                                                false then
                                                                                                                                                                                                            ∃
                                                                                                                                                                                                              (xs
                                                                                                                                                                                                              :
                                                                                                                                                                                                              List
                                                                                                                                                                                                                Sn),
                                                                                                                                                                                                              ∃
                                                                                                                                                                                                                (ys
                                                                                                                                                                                                                :
                                                                                                                                                                                                                List
                                                                                                                                                                                                                  Sn),
                                                                                                                                                                                                                SS
                                                                                                                                                                                                                    E'
                                                                                                                                                                                                                    b'_3
                                                                                                                                                                                                                    l'_3
                                                                                                                                                                                                                    c'_3
                                                                                                                                                                                                                    xs ∧
                                                                                                                                                                                                                  SS
                                                                                                                                                                                                                      E'
                                                                                                                                                                                                                      b'_2
                                                                                                                                                                                                                      l'_2
                                                                                                                                                                                                                      c'_2
                                                                                                                                                                                                                      ys ∧
                                                                                                                                                                                                                    Sm
                                                                                                                                                                                                                        xs ∧
                                                                                                                                                                                                                      Mem.le
                                                                                                                                                                                                                          E'
                                                                                                                                                                                                                          E' ∧
                                                                                                                                                                                                                        bif
                                                                                                                                                                                                                            bif
                                                                                                                                                                                                                                true then
                                                                                                                                                                                                                              decide
                                                                                                                                                                                                                                (xs =
                                                                                                                                                                                                                                  ys)
                                                                                                                                                                                                                            else
                                                                                                                                                                                                                              false then
                                                                                                                                                                                                                          ∃
                                                                                                                                                                                                                            (xs
                                                                                                                                                                                                                            :
                                                                                                                                                                                                                            List
                                                                                                                                                                                                                              Sn),
                                                                                                                                                                                                                            SS
                                                                                                                                                                                                                                E'
                                                                                                                                                                                                                                b'_2
                                                                                                                                                                                                                                l'_2
                                                                                                                                                                                                                                c'_2
                                                                                                                                                                                                                                xs ∧
                                                                                                                                                                                                                              Sm
                                                                                                                                                                                                                                  xs ∧
                                                                                                                                                                                                                                ((-9223372036854775808 :
                                                                                                                                                                                                                                        Int) ≤
                                                                                                                                                                                                                                      (3 :
                                                                                                                                                                                                                                        Int) ∧
                                                                                                                                                                                                                                    (3 :
                                                                                                                                                                                                                                        Int) ≤
                                                                                                                                                                                                                                      (9223372036854775807 :
                                                                                                                                                                                                                                        Int)) ∧
                                                                                                                                                                                                                                  (3 :
                                                                                                                                                                                                                                        Int) ≤
                                                                                                                                                                                                                                      (1000 :
                                                                                                                                                                                                                                        Int) ∧
                                                                                                                                                                                                                                    ∀
                                                                                                                                                                                                                                      (b' :
                                                                                                                                                                                                                                        Option
                                                                                                                                                                                                                                          Addr)
                                                                                                                                                                                                                                      (l'
                                                                                                                                                                                                                                        c' :
                                                                                                                                                                                                                                        Nat)
                                                                                                                                                                                                                                      (E'_6 :
                                                                                                                                                                                                                                        Mem),
                                                                                                                                                                                                                                      Mem.le
                                                                                                                                                                                                                                          E'
                                                                                                                                                                                                                                          E'_6 →
                                                                                                                                                                                                                                        NL
                                                                                                                                                                                                                                            E'_6
                                                                                                                                                                                                                                            b'
                                                                                                                                                                                                                                            l'
                                                                                                                                                                                                                                            c'
                                                                                                                                                                                                                                            (missF
                                                                                                                                                                                                                                              xs
                                                                                                                                                                                                                                              (3 :
                                                                                                                                                                                                                                                Int)
                                                                                                                                                                                                                                              (3 :
                                                                                                                                                                                                                                                Int)) →
                                                                                                                                                                                                                                          Mem.le
                                                                                                                                                                                                                                              E'
                                                                                                                                                                                                                                              E'_6 ∧
                                                                                                                                                                                                                                            ∀
                                                                                                                                                                                                                                              (base :
                                                                                                                                                                                                                                                Option
                                                                                                                                                                                                                                                  Addr)
                                                                                                                                                                                                                                              (E' :
                                                                                                                                                                                                                                                Mem),
                                                                                                                                                                                                                                              Mem.le
                                                                                                                                                                                                                                                  E'_6
                                                                                                                                                                                                                                                  E' →
                                                                                                                                                                                                                                                WinE
                                                                                                                                                                                                                                                    E'
                                                                                                                                                                                                                                                    base
                                                                                                                                                                                                                                                    [Value.int
                                                                                                                                                                                                                                                        IntKind.i64
                                                                                                                                                                                                                                                        (1 :
                                                                                                                                                                                                                                                          Int),
                                                                                                                                                                                                                                                      Value.int
                                                                                                                                                                                                                                                        IntKind.i64
                                                                                                                                                                                                                                                        (2 :
                                                                                                                                                                                                                                                          Int),
                                                                                                                                                                                                                                                      Value.int
                                                                                                                                                                                                                                                        IntKind.i64
                                                                                                                                                                                                                                                        (3 :
                                                                                                                                                                                                                                                          Int)] →
                                                                                                                                                                                                                                                  ∃
                                                                                                                                                                                                                                                    (zs
                                                                                                                                                                                                                                                    :
                                                                                                                                                                                                                                                    List
                                                                                                                                                                                                                                                      Int),
                                                                                                                                                                                                                                                    ∃
                                                                                                                                                                                                                                                      (ys
                                                                                                                                                                                                                                                      :
                                                                                                                                                                                                                                                      List
                                                                                                                                                                                                                                                        Int),
                                                                                                                                                                                                                                                      NL
                                                                                                                                                                                                                                                          E'
                                                                                                                                                                                                                                                          b'
                                                                                                                                                                                                                                                          l'
                                                                                                                                                                                                                                                          c'
                                                                                                                                                                                                                                                          zs ∧
                                                                                                                                                                                                                                                        NL
                                                                                                                                                                                                                                                            E'
                                                                                                                                                                                                                                                            (Option.map
                                                                                                                                                                                                                                                              (fun
                                                                                                                                                                                                                                                                  (x :
                                                                                                                                                                                                                                                                    Addr) =>
                                                                                                                                                                                                                                                                Addr.add
                                                                                                                                                                                                                                                                  x
                                                                                                                                                                                                                                                                  (0 :
                                                                                                                                                                                                                                                                    Nat))
                                                                                                                                                                                                                                                              base)
                                                                                                                                                                                                                                                            (3 :
                                                                                                                                                                                                                                                              Nat)
                                                                                                                                                                                                                                                            (3 :
                                                                                                                                                                                                                                                              Nat)
                                                                                                                                                                                                                                                            ys ∧
                                                                                                                                                                                                                                                          l' ≤
                                                                                                                                                                                                                                                              (100000 :
                                                                                                                                                                                                                                                                Nat) ∧
                                                                                                                                                                                                                                                            bif
                                                                                                                                                                                                                                                                bif
                                                                                                                                                                                                                                                                    true then
                                                                                                                                                                                                                                                                  decide
                                                                                                                                                                                                                                                                    (zs =
                                                                                                                                                                                                                                                                      ys)
                                                                                                                                                                                                                                                                else
                                                                                                                                                                                                                                                                  false then
                                                                                                                                                                                                                                                              ∃
                                                                                                                                                                                                                                                                (xs
                                                                                                                                                                                                                                                                :
                                                                                                                                                                                                                                                                List
                                                                                                                                                                                                                                                                  Sn),
                                                                                                                                                                                                                                                                SS
                                                                                                                                                                                                                                                                    E'
                                                                                                                                                                                                                                                                    b'_2
                                                                                                                                                                                                                                                                    l'_2
                                                                                                                                                                                                                                                                    c'_2
                                                                                                                                                                                                                                                                    xs ∧
                                                                                                                                                                                                                                                                  Sm
                                                                                                                                                                                                                                                                      xs ∧
                                                                                                                                                                                                                                                                    ((-9223372036854775808 :
                                                                                                                                                                                                                                                                            Int) ≤
                                                                                                                                                                                                                                                                          (3 :
                                                                                                                                                                                                                                                                            Int) ∧
                                                                                                                                                                                                                                                                        (3 :
                                                                                                                                                                                                                                                                            Int) ≤
                                                                                                                                                                                                                                                                          (9223372036854775807 :
                                                                                                                                                                                                                                                                            Int)) ∧
                                                                                                                                                                                                                                                                      Mem.le
                                                                                                                                                                                                                                                                          E'
                                                                                                                                                                                                                                                                          E' ∧
                                                                                                                                                                                                                                                                        bif
                                                                                                                                                                                                                                                                            bif
                                                                                                                                                                                                                                                                                true then
                                                                                                                                                                                                                                                                              decide
                                                                                                                                                                                                                                                                                (hasP
                                                                                                                                                                                                                                                                                  xs
                                                                                                                                                                                                                                                                                  (3 :
                                                                                                                                                                                                                                                                                    Int)
                                                                                                                                                                                                                                                                                  (7 :
                                                                                                                                                                                                                                                                                    Int))
                                                                                                                                                                                                                                                                            else
                                                                                                                                                                                                                                                                              false then
                                                                                                                                                                                                                                                                          ∃
                                                                                                                                                                                                                                                                            (xs
                                                                                                                                                                                                                                                                            :
                                                                                                                                                                                                                                                                            List
                                                                                                                                                                                                                                                                              Sn),
                                                                                                                                                                                                                                                                            SS
                                                                                                                                                                                                                                                                                E'
                                                                                                                                                                                                                                                                                b'_2
                                                                                                                                                                                                                                                                                l'_2
                                                                                                                                                                                                                                                                                c'_2
                                                                                                                                                                                                                                                                                xs ∧
                                                                                                                                                                                                                                                                              Sm
                                                                                                                                                                                                                                                                                  xs ∧
                                                                                                                                                                                                                                                                                ((-9223372036854775808 :
                                                                                                                                                                                                                                                                                        Int) ≤
                                                                                                                                                                                                                                                                                      (2 :
                                                                                                                                                                                                                                                                                        Int) ∧
                                                                                                                                                                                                                                                                                    (2 :
                                                                                                                                                                                                                                                                                        Int) ≤
                                                                                                                                                                                                                                                                                      (9223372036854775807 :
                                                                                                                                                                                                                                                                                        Int)) ∧
                                                                                                                                                                                                                                                                                  Mem.le
                                                                                                                                                                                                                                                                                      E'
                                                                                                                                                                                                                                                                                      E' ∧
                                                                                                                                                                                                                                                                                    bif
                                                                                                                                                                                                                                                                                        bif
                                                                                                                                                                                                                                                                                            true then
                                                                                                                                                                                                                                                                                          !decide
                                                                                                                                                                                                                                                                                              (hasP
                                                                                                                                                                                                                                                                                                xs
                                                                                                                                                                                                                                                                                                (2 :
                                                                                                                                                                                                                                                                                                  Int)
                                                                                                                                                                                                                                                                                                (7 :
                                                                                                                                                                                                                                                                                                  Int))
                                                                                                                                                                                                                                                                                        else
                                                                                                                                                                                                                                                                                          false then
                                                                                                                                                                                                                                                                                      ∃
                                                                                                                                                                                                                                                                                        (xs
                                                                                                                                                                                                                                                                                        :
                                                                                                                                                                                                                                                                                        List
                                                                                                                                                                                                                                                                                          Sn),
                                                                                                                                                                                                                                                                                        SS
                                                                                                                                                                                                                                                                                            E'
                                                                                                                                                                                                                                                                                            none
                                                                                                                                                                                                                                                                                            (0 :
                                                                                                                                                                                                                                                                                              Nat)
                                                                                                                                                                                                                                                                                            (0 :
                                                                                                                                                                                                                                                                                              Nat)
                                                                                                                                                                                                                                                                                            xs ∧
                                                                                                                                                                                                                                                                                          Sm
                                                                                                                                                                                                                                                                                              xs ∧
                                                                                                                                                                                                                                                                                            Mem.le
                                                                                                                                                                                                                                                                                                E'
                                                                                                                                                                                                                                                                                                E' ∧
                                                                                                                                                                                                                                                                                              Mem.le
                                                                                                                                                                                                                                                                                                  E
                                                                                                                                                                                                                                                                                                  E' ∧
                                                                                                                                                                                                                                                                                                K
                                                                                                                                                                                                                                                                                                  (SV.raw
                                                                                                                                                                                                                                                                                                    (Value.bool
                                                                                                                                                                                                                                                                                                      (bif
                                                                                                                                                                                                                                                                                                          true then
                                                                                                                                                                                                                                                                                                        decide
                                                                                                                                                                                                                                                                                                          (validS
                                                                                                                                                                                                                                                                                                            xs)
                                                                                                                                                                                                                                                                                                      else
                                                                                                                                                                                                                                                                                                        false)))
                                                                                                                                                                                                                                                                                                  E'
                                                                                                                                                                                                                                                                                    else
                                                                                                                                                                                                                                                                                      Mem.le
                                                                                                                                                                                                                                                                                          E
                                                                                                                                                                                                                                                                                          E' ∧
                                                                                                                                                                                                                                                                                        K
                                                                                                                                                                                                                                                                                          (SV.raw
                                                                                                                                                                                                                                                                                            (Value.bool
                                                                                                                                                                                                                                                                                              false))
                                                                                                                                                                                                                                                                                          E'
                                                                                                                                                                                                                                                                        else
                                                                                                                                                                                                                                                                          Mem.le
                                                                                                                                                                                                                                                                              E
                                                                                                                                                                                                                                                                              E' ∧
                                                                                                                                                                                                                                                                            K
                                                                                                                                                                                                                                                                              (SV.raw
                                                                                                                                                                                                                                                                                (Value.bool
                                                                                                                                                                                                                                                                                  false))
                                                                                                                                                                                                                                                                              E'
                                                                                                                                                                                                                                                            else
                                                                                                                                                                                                                                                              Mem.le
                                                                                                                                                                                                                                                                  E
                                                                                                                                                                                                                                                                  E' ∧
                                                                                                                                                                                                                                                                K
                                                                                                                                                                                                                                                                  (SV.raw
                                                                                                                                                                                                                                                                    (Value.bool
                                                                                                                                                                                                                                                                      false))
                                                                                                                                                                                                                                                                  E'
                                                                                                                                                                                                                        else
                                                                                                                                                                                                                          Mem.le
                                                                                                                                                                                                                              E
                                                                                                                                                                                                                              E' ∧
                                                                                                                                                                                                                            K
                                                                                                                                                                                                                              (SV.raw
                                                                                                                                                                                                                                (Value.bool
                                                                                                                                                                                                                                  false))
                                                                                                                                                                                                                              E'
                                                                                                                                                                                                          else
                                                                                                                                                                                                            Mem.le
                                                                                                                                                                                                                E
                                                                                                                                                                                                                E' ∧
                                                                                                                                                                                                              K
                                                                                                                                                                                                                (SV.raw
                                                                                                                                                                                                                  (Value.bool
                                                                                                                                                                                                                    false))
                                                                                                                                                                                                                E'
                                                                                                                                                                            else
                                                                                                                                                                              Mem.le
                                                                                                                                                                                  E
                                                                                                                                                                                  E' ∧
                                                                                                                                                                                K
                                                                                                                                                                                  (SV.raw
                                                                                                                                                                                    (Value.bool
                                                                                                                                                                                      false))
                                                                                                                                                                                  E'
                                                                                                                                              else
                                                                                                                                                Mem.le
                                                                                                                                                    E
                                                                                                                                                    E' ∧
                                                                                                                                                  K
                                                                                                                                                    (SV.raw
                                                                                                                                                      (Value.bool
                                                                                                                                                        false))
                                                                                                                                                    E'
                                                                                                                else
                                                                                                                  Mem.le E
                                                                                                                      E' ∧
                                                                                                                    K
                                                                                                                      (SV.raw
                                                                                                                        (Value.bool
                                                                                                                          false))
                                                                                                                      E'
                                                                                                              else
                                                                                                                Mem.le E E' ∧
                                                                                                                  K
                                                                                                                    (SV.raw
                                                                                                                      (Value.bool
                                                                                                                        false))
                                                                                                                    E'
                                                                                                            else
                                                                                                              Mem.le E E' ∧
                                                                                                                K
                                                                                                                  (SV.raw
                                                                                                                    (Value.bool
                                                                                                                      false))
                                                                                                                  E'
                                                                                                          else
                                                                                                            Mem.le E E' ∧
                                                                                                              K
                                                                                                                (SV.raw
                                                                                                                  (Value.bool
                                                                                                                    false))
                                                                                                                E')
  have k : ∀ {xs : List Sn} (_ : xs.length ≤ 1000 ∧ manyF xs ≤ 1000), Sm xs := fun h => Sm_of h
  refine ⟨[], [(3, [(5, 5)])], true, SL.nil, k (by decide), by decide, fun b1 l1 c1 E1 m1 s1 => ⟨m1, [(3, [(5, 5)])], [(3, [(5, 5), (7, 7)])], true, s1, k (by decide), by decide, fun b2 l2 c2 E2 m2 s2 => ⟨m2, [(3, [(5, 5), (7, 7)])], [(3, [(5, 7)])], true, s2, k (by decide), by decide, fun b3 l3 c3 E3 m3 s3 => ⟨m3, [(3, [(5, 7)])], [(3, [(5, 7)])], false, s3, k (by decide), by decide, fun b4 l4 c4 E4 m4 s4 => ⟨m4, [], [], false, SL.nil, k (by decide), by decide, fun b5 l5 c5 E5 m5 s5 => ⟨m5, ?_⟩⟩⟩⟩⟩⟩
  have M1 := Mem.le_trans (Mem.le_trans (Mem.le_trans m2 m3) m4) m5
  have M2 := Mem.le_trans (Mem.le_trans m3 m4) m5
  have M3 := Mem.le_trans m4 m5
  refine condT (condT (condT (condT (fun a1 F1 n1 w1 => ⟨[(5, 5)], RS.winR (ys := [(5, 5)]) w1 rfl (Nat.le_refl _), fun d1 e1 f1 G1 p1 r1 => ⟨[(3, [(5, 5)])], [(3, [(5, 5)])], s1.mono SR_ok (Mem.le_trans M1 (Mem.le_trans n1 p1)), r1, k (by decide), Mem.le_refl _, condE rfl (fun a2 F2 n2 w2 => ⟨[(5, 5), (7, 7)], RS.winR (ys := [(5, 5), (7, 7)]) w2 rfl (Nat.le_refl _), fun d2 e2 f2 G2 p2 r2 => ?_⟩)⟩⟩))))
  have N2 := Mem.le_trans (Mem.le_trans n1 p1) (Mem.le_trans n2 p2)
  refine ⟨[(3, [(5, 5), (7, 7)])], [(3, [(5, 5), (7, 7)])], s2.mono SR_ok (Mem.le_trans M2 N2), r2, k (by decide), Mem.le_refl _, condE rfl (fun a3 F3 n3 w3 => ⟨[(5, 7)], RS.winR (ys := [(5, 7)]) w3 rfl (Nat.le_refl _), fun d3 e3 f3 G3 p3 r3 => ?_⟩)⟩
  have N3 := Mem.le_trans N2 (Mem.le_trans n3 p3)
  have t3 := s3.mono SR_ok (Mem.le_trans M3 N3)
  have t4 := s4.mono SR_ok (Mem.le_trans m5 N3)
  refine ⟨[(3, [(5, 7)])], [(3, [(5, 7)])], t3, r3, k (by decide), Mem.le_refl _, condE rfl ⟨[(3, [(5, 7)])], [(3, [(5, 7)])], t4, t3, k (by decide), Mem.le_refl _, condE rfl ⟨[(3, [(5, 7)])], t3, k (by decide), by decide, by decide, fun d4 e4 f4 G4 n4 r4 => ⟨n4, fun a5 F5 n5 w5 => ?_⟩⟩⟩⟩
  have r5 := r4.mono NR_ok n5
  have u3 := t3.mono SR_ok (Mem.le_trans n4 n5)
  have em : missF [(3, [(5, 7)])] 3 3 = [1, 2, 3] := by decide
  rw [em] at r5
  have hl5 := r5.len
  have hl5 : 3 = e4 := hl5
  refine ⟨[1, 2, 3], [1, 2, 3], r5, NL.winN (zs := [1, 2, 3]) w5 rfl (Nat.le_refl _), by omega, condE rfl ⟨[(3, [(5, 7)])], u3, k (by decide), by decide, Mem.le_refl _, condP (by decide) ⟨[(3, [(5, 7)])], u3, k (by decide), by decide, Mem.le_refl _, condN (by decide) ⟨[], SL.nil, k (by decide), Mem.le_refl _, ?_, ?_⟩⟩⟩⟩
  · exact Mem.le_trans m1 (Mem.le_trans M1 (Mem.le_trans N3 (Mem.le_trans n4 n5)))
  · exact h _ (Mem.le_trans m1 (Mem.le_trans M1 (Mem.le_trans N3 (Mem.le_trans n4 n5))))
theorem addF_sm {xs ys : List Sn} {o n e : Int} {t : Bool} (h : addF xs o n = (ys, t, e)) (hs : Sm xs) : Sm ys := by
  unfold addF at h
  split at h
  · rename_i gA
    split at h
    · cases h; exact hs
    · split at h
      · cases h; exact Sm_of (by decide)
      · rename_i g
        cases h
        refine Sm_of ⟨?_, by omega⟩
        have h3 := chkS_len gA.1.2 (by omega) (by omega)
        unfold putF
        rw [List.length_append, List.length_cons]
        exact Nat.le_trans (Nat.add_le_add (List.length_filter_le _ _) (Nat.succ_le_succ (List.length_filter_le _ _))) (by omega)
  · cases h; exact Sm_of (by decide)
def stepS (w : List Sn × Bool) (x : Int × Int) : List Sn × Bool := if w.2 = true then (if (addF w.1 (x.1 % 8) (1 + x.2 % 64)).2.2 = 0 then ((addF w.1 (x.1 % 8) (1 + x.2 % 64)).1, true) else ([], false)) else w
theorem loadW_arr {P : Program} {T : TypeId} {k : Nat} (hu : (match P.underlying T with | some (.array _ _) => true | _ => false) = true) (hi : (P.info? T).map (·.size) = some k) {cs : List SV} {off : Nat} {r : List SV} (hr : (cs.drop off).take k = r) (hl : r.length = k) : loadW P T cs off = some (.agg r) := by
  unfold loadW
  split at hu
  · rename_i fs e hfs
    rw [hfs]
    cases hinf : P.info? T with
    | none => rw [hinf] at hi; cases hi
    | some inf =>
      rw [hinf] at hi
      simp only [Option.map_some, Option.some.injEq] at hi
      simp only [hi, hr, hl, if_true]
  · cases hu
theorem addsF_take {ps : List (Int × Int)} {i : Nat} {x : Int × Int} (h : ps[i]? = some x) : addsF (ps.take (i + 1)) = stepS (addsF (ps.take i)) x := by
  unfold addsF; rw [take_get' h, List.foldl_append]; rfl
theorem addsF_stop {ps : List (Int × Int)} : ∀ {i : Nat}, (addsF (ps.take i)).2 = false → (addsF (ps.take i)).1 = [] → addsF ps = ([], false) := by
  intro i h h2
  have key : ∀ (qs : List (Int × Int)) (w : List Sn × Bool), w.2 = false → qs.foldl (fun w x => if w.2 = true then (if (addF w.1 (x.1 % 8) (1 + x.2 % 64)).2.2 = 0 then ((addF w.1 (x.1 % 8) (1 + x.2 % 64)).1, true) else ([], false)) else w) w = w := by
    intro qs
    induction qs with
    | nil => intro w _; rfl
    | cons q qs ih => intro w hw; rw [List.foldl_cons, if_neg (by rw [hw]; decide)]; exact ih w hw
  have e : addsF ps = addsF (ps.take i ++ ps.drop i) := by rw [List.take_append_drop]
  rw [e]
  unfold addsF at h h2 ⊢
  rw [List.foldl_append, key _ _ h]
  exact Prod.ext h2 h
theorem PS.load {E : Mem} {b : Option Addr} {n c : Nat} {ps : List (Int × Int)} (h : PS E b n c ps) {i : Nat} {x : Int × Int} (hx : ps[i]? = some x) : ∃ r, LoadE Try.prog E 36 (.slice b n c) (i * 2) r ∧ r = .agg [.raw (.int .u8 x.1), .raw (.int .u8 x.2)] := by
  obtain ⟨cs, r, h1, h2, h3, h4⟩ := SL.load PR_ok h hx
  cases h4
  exact ⟨_, ⟨cs, h1, loadW_arr (k := 2) (by kernel_rfl) (by kernel_rfl) (by rw [← List.map_drop, ← List.map_take, h2]; rfl) rfl⟩, rfl⟩
noncomputable def t21 : FuncId → List SV → Mem → (SV → Mem → Prop) → Prop := fun f args E K => match f with
  | 11 => d3 args fun x0 x1 x2 => dS x0 fun b1 l2 c3 => dI x1 fun a4 => dI x2 fun a5 => ∃ (xs : List Sn), SS E b1 l2 c3 xs ∧ Sm xs ∧ (∀ (ys : List Sn) (t : Bool) (e : Int), addF xs a4 a5 = (ys, t, e) → ∀ (b' : Option Addr) (l' c' : Nat) (E' : Mem), Mem.le E E' → SS E' b' l' c' ys → K (.tup [L b' l' c', B t, I e]) E')
  | _ => False
theorem t21_ok : TabOK Try.prog t21 := by
  intro f args E K h
  unfold t21 at h
  split at h
  · replace h := d3_elim h
    obtain ⟨x0, x1, x2, rfl, h⟩ := h
    replace h := dS_elim h
    obtain ⟨b1, l2, c3, rfl, h⟩ := h
    replace h := dI_elim h
    obtain ⟨a4, rfl, h⟩ := h
    replace h := dI_elim h
    obtain ⟨a5, rfl, h⟩ := h
    obtain ⟨xs, g0, g1, h⟩ := h
    exact TabSem.congr (valL_cons rfl (valL_cons rfl (valL_cons rfl rfl))) (Ent.sem okA1 Try.func11 ⟨by kernel_rfl, by kernel_rfl⟩ rfl (s11 g0 g1 h))
  · exact h.elim
noncomputable def N4 : Cx := { P := Try.prog, inl := fun f => List.contains [] f, tab := t21, isB := fun _ => false, tabB := fun _ _ _ _ _ => False, opt := { unroll := 0, carry := [4, 12] }, muts := mutsD }
theorem okN4 : CxOK N4 := CxOK.four t21_ok (by kernel_rfl) (okInl (by kernel_rfl)) (fun _ _ _ _ _ h => h.elim)
def sh21 (b : Option Addr) (l c : Nat) (b2 : Option Addr) (l2 c2 : Nat) (i : Nat) (E : Mem) : St := ⟨[none, none, none, none, some (L b2 l2 c2), none, none, none, none, none, some (L b l c), some (I (l : Nat)), some (I (i : Nat)), none, none, none, none, none, none, none, none, none, none, none, none, none, none, none, none, none, none, none, none, none, none, none], [], E⟩
theorem rnd21 {b b2 : Option Addr} {l c l2 c2 i : Nat} {E0 : Mem} {ps : List (Int × Int)} {xs : List Sn} (hp : PS E b l c ps) (hb : ∀ x ∈ ps, 0 ≤ x.1 ∧ x.1 ≤ 255 ∧ 0 ≤ x.2 ∧ x.2 ≤ 255) (hl : l ≤ 1000) (hi : i ≤ l) (hx : SS E b2 l2 c2 xs) (hs : Sm xs) (hw : addsF (ps.take i) = (xs, true)) (hE : Mem.le E0 E) (h : ∀ (ys : List Sn) (t : Bool), addsF ps = (ys, t) → ∀ (b' : Option Addr) (l' c' : Nat) (E' : Mem), Mem.le E0 E' → SS E' b' l' c' ys → K (.tup [L b' l' c', B t]) E') (ih : ∀ (b2 : Option Addr) (l2 c2 : Nat) (xs : List Sn) (E : Mem), i < l → PS E b l c ps → SS E b2 l2 c2 xs → Sm xs → addsF (ps.take (i + 1)) = (xs, true) → Mem.le E0 E → Lp N4 8 Try.f21 [1, 1, 0, 1, 0] 0 (pubK E0 K) (sh21 b l c b2 l2 c2 (i + 1) E)) : Rnd N4 8 Try.f21 [1, 1, 0, 1, 0] 0 (pubK E0 K) (sh21 b l c b2 l2 c2 i E) := by
  refine same (by kernel_rfl) (?_ : 
      bif decide ((↑i : Int) < (↑l : Int)) then
        req ((0 : Int) ≤ (↑i : Int) ∧ (↑i : Int) < (↑l : Int))
          ((∃ (cs : List Value), E (Value.slice b l c) cs ∧ (cs = [] → False)) ∧
            ∃ (n : Int),
              ∃ (n_1 : Int),
                LoadE N4.P E 36 (Value.slice b l c) (Int.toNat (↑i : Int) * 2)
                    (SV.agg [SV.raw (Value.int IntKind.u8 n), SV.raw (Value.int IntKind.u8 n_1)]) ∧
                  ((8 : Int) = (0 : Int) → False) ∧
                    ((64 : Int) = (0 : Int) → False) ∧
                      ∃ (xs : List Sn),
                        SS E b2 l2 c2 xs ∧
                          Sm xs ∧
                            ∀ (ys : List Sn) (t : Bool) (e : Int),
                              addF xs (Int.tmod (IntKind.wrap IntKind.i64 n) (8 : Int))
                                    (IntKind.wrap IntKind.i64
                                      ((1 : Int) + Int.tmod (IntKind.wrap IntKind.i64 n_1) (64 : Int))) =
                                  (ys, t, e) →
                                ∀ (b' : Option Addr) (l' c' : Nat) (E' : Mem),
                                  Mem.le E E' →
                                    SS E' b' l' c' ys →
                                      Mem.le E E' ∧
                                        bif e != (0 : Int) then
                                          Mem.le E0 E' ∧
                                            K
                                              (SV.tup
                                                [SV.raw (Value.slice none 0 0), SV.raw (Value.bool false)])
                                              E'
                                        else
                                          Lp N4 8 Try.f21 [1, 1, 0, 1, 0]
                                            0 (pubK E0 K)
                                            {
                                              fr :=
                                                [none, none, none, none, some (SV.raw (Value.slice b' l' c')), none, none, none, none, none, some (SV.raw (Value.slice b l c)), some (SV.raw (Value.int IntKind.i64 (↑l : Int))), some (SV.raw (Value.int IntKind.i64 (IntKind.wrap IntKind.i64 ((↑i : Int) + (1 : Int))))), none, none, none, none, none, none, none, none, none, none, none, none, none, none, none, none, none, none, none, none, none, none, none],
                                              bx :=
                                                [{ elem := 36,
                                                    row :=
                                                      Row.lst
                                                        [SV.raw (Value.int IntKind.u8 n), SV.raw (Value.int IntKind.u8 n_1)],
                                                    total := 2, own := true : Box }],
                                              E := E' : St })
      else Mem.le E0 E ∧ K (SV.tup [SV.raw (Value.slice b2 l2 c2), SV.raw (Value.bool true)]) E)
  have hn := hp.len
  refine condC (fun g => ?_) (fun g => ⟨hE, ?_⟩)
  · have g : i < l := by simpa using g
    obtain ⟨x, ex⟩ : ∃ x, ps[i]? = some x := ⟨_, List.getElem?_eq_getElem (by omega)⟩
    obtain ⟨r, e1, e2⟩ := hp.load ex
    subst e2
    have hb' := hb x (List.mem_of_getElem? ex)
    have hst := addsF_take ex
    rw [hw] at hst
    have w1 : IntKind.wrap .i64 ((i : Int) + 1) = ((i + 1 : Nat) : Int) := by rw [wrap_i64 (by omega)]; simp
    have t1 : Int.tmod x.1 8 = x.1 % 8 := Int.tmod_eq_emod_of_nonneg hb'.1
    have t2 : Int.tmod x.2 64 = x.2 % 64 := Int.tmod_eq_emod_of_nonneg hb'.2.2.1
    rw [w1]
    refine req_intro (by omega) ⟨SL.nex PR_ok hp ex, x.1, x.2, e1, (by intro w; cases w), (by intro w; cases w), xs, hx, hs, ?_⟩
    rw [wrap_i64 (x := x.1) (by omega), wrap_i64 (x := x.2) (by omega), t1, t2, wrap_i64 (x := 1 + x.2 % 64) (by omega)]
    intro ys t e q b' l' c' E' m1 s1
    have hst2 : stepS (xs, true) x = if e = 0 then (ys, true) else ([], false) := by
      show (if (addF xs (x.1 % 8) (1 + x.2 % 64)).2.2 = 0 then ((addF xs (x.1 % 8) (1 + x.2 % 64)).1, true) else ([], false)) = _
      rw [q]
    rw [hst2] at hst
    refine ⟨m1, condC (fun a => ⟨Mem.le_trans hE m1, ?_⟩) (fun a => ?_)⟩
    · have a : ¬ e = 0 := by simpa using a
      rw [if_neg a] at hst
      exact h [] false (addsF_stop (i := i + 1) (by rw [hst]) (by rw [hst])) none 0 0 E' (Mem.le_trans hE m1) SL.nil
    · have a : e = 0 := by simpa using a
      rw [if_pos a] at hst
      exact Lp_re [] (ih b' l' c' ys E' g (hp.mono PR_ok m1) s1 (addF_sm q hs) hst (Mem.le_trans hE m1)) ⟨⟨by simp, by simp, fun j h => absurd h (Nat.not_lt_zero _)⟩, rfl, (by repeat' first | exact True.intro | refine And.intro (Or.inl rfl) ?_ | refine And.intro (Or.inr ⟨rfl, rfl⟩) ?_), (by repeat' first | exact True.intro | exact rfl | exact Or.inl rfl | fail | refine And.intro ?_ ?_), (show List.Nodup [] from by decide), Mem.le_refl _⟩
  · have g : i = l := by simp at g; omega
    rw [List.take_of_length_le (by omega)] at hw
    exact h xs true hw b2 l2 c2 E hE hx
theorem lp21 {b b2 : Option Addr} {l c l2 c2 i : Nat} {E0 : Mem} {ps : List (Int × Int)} {xs : List Sn} (hp : PS E b l c ps) (hb : ∀ x ∈ ps, 0 ≤ x.1 ∧ x.1 ≤ 255 ∧ 0 ≤ x.2 ∧ x.2 ≤ 255) (hl : l ≤ 1000) (hi : i ≤ l) (hx : SS E b2 l2 c2 xs) (hs : Sm xs) (hw : addsF (ps.take i) = (xs, true)) (hE : Mem.le E0 E) (h : ∀ (ys : List Sn) (t : Bool), addsF ps = (ys, t) → ∀ (b' : Option Addr) (l' c' : Nat) (E' : Mem), Mem.le E0 E' → SS E' b' l' c' ys → K (.tup [L b' l' c', B t]) E') : Lp N4 8 Try.f21 [1, 1, 0, 1, 0] 0 (pubK E0 K) (sh21 b l c b2 l2 c2 i E) :=
  Lp_ind okN4 (fun y : {y : (Nat × Option Addr × Nat × Nat) × List Sn × Mem // y.1.1 ≤ l ∧ PS y.2.2 b l c ps ∧ SS y.2.2 y.1.2.1 y.1.2.2.1 y.1.2.2.2 y.2.1 ∧ Sm y.2.1 ∧ addsF (ps.take y.1.1) = (y.2.1, true) ∧ Mem.le E0 y.2.2} => sh21 b l c y.1.1.2.1 y.1.1.2.2.1 y.1.1.2.2.2 y.1.1.1 y.1.2.2) (fun y => l - y.1.1.1)
    (fun y ih => rnd21 y.2.2.1 hb hl y.2.1 y.2.2.2.1 y.2.2.2.2.1 y.2.2.2.2.2.1 y.2.2.2.2.2.2 h fun b2 l2 c2 xs E g k1 k2 k3 k4 k5 => ih ⟨((y.1.1.1 + 1, b2, l2, c2), xs, E), by show y.1.1.1 + 1 ≤ l; omega, k1, k2, k3, k4, k5⟩ (by show l - (_ + 1) < l - _; omega)) ⟨((i, b2, l2, c2), xs, E), hi, hp, hx, hs, hw, hE⟩
theorem s21 {b1 : Option Addr} {l2 : Nat} {c3 : Nat} {ps : List (Int × Int)} (h0 : PS E b1 l2 c3 ps) (h1 : l2 ≤ 1000) (h2 : (∀ x ∈ ps, 0 ≤ x.1 ∧ x.1 ≤ 255 ∧ 0 ≤ x.2 ∧ x.2 ≤ 255)) (h : ∀ (ys : List Sn) (t : Bool), addsF ps = (ys, t) → ∀ (b' : Option Addr) (l' c' : Nat) (E' : Mem), Mem.le E E' → SS E' b' l' c' ys → K (.tup [L b' l' c', B t]) E') :
    Ent N4 8 Try.f21 [L b1 l2 c3] E K := by
  refine same (by kernel_rfl) (?_ : 
      Lp N4 8 Try.f21 [1, 1, 0, 1, 0] 0 (pubK E K)
        {
          fr :=
            [some (SV.raw (Value.slice b1 l2 c3)), none, none, none, some (SV.raw (Value.slice none 0 0)), none, none, none, none, none, some (SV.raw (Value.slice b1 l2 c3)), some (SV.raw (Value.int IntKind.i64 (↑l2 : Int))), some (SV.raw (Value.int IntKind.i64 (0 : Int))), none, none, none, none, none, none, none, none, none, none, none, none, none, none, none, none, none, none, none, none, none, none, none],
          bx := [], E := E : St })
  exact Lp_re [] (lp21 (K := K) (i := 0) (b2 := none) (l2 := 0) (c2 := 0) (xs := []) h0 h2 h1 (Nat.zero_le _) SL.nil (Sm_of (by decide)) rfl (Mem.le_refl _) h) ⟨⟨by simp, by simp, fun j h => absurd h (Nat.not_lt_zero _)⟩, rfl, (by repeat' first | exact True.intro | refine And.intro (Or.inl rfl) ?_ | refine And.intro (Or.inr ⟨rfl, rfl⟩) ?_), (by repeat' first | exact True.intro | exact rfl | exact Or.inl rfl | fail | refine And.intro ?_ ?_), (show List.Nodup [] from by decide), Mem.le_refl _⟩

end Go.Proofs.Ytjibgfihfbdcaaa.SeenOwn
