/- The law JoinLate. -/
import Derived.Test.YthbfpaemiccjcaaJoin9
import Derived.Test.YthbfpaemiccjcaaRows
namespace Go.Proofs.Ythbfpaemiccjcaa.JoinOwn
open Go Go.Sx Go.Proofs.Ythbfpaemiccjcaa
set_option maxRecDepth 100000
set_option maxHeartbeats 4000000
set_option linter.unusedVariables false
set_option linter.unusedSimpArgs false
variable {E : Mem} {K : SV → Mem → Prop}
noncomputable def JC : Cx := { P := Try.prog, inl := fun f => List.contains [19, 20, 21, 24] f, tab := tabV, isB := fun _ => false, tabB := fun _ _ _ _ _ => False, opt := { unroll := 0, carry := [], cuts := [4] }, muts := mutsD }
theorem okJC : CxOK JC := ⟨tabV_ok, by kernel_rfl, okInl (by kernel_rfl), fun _ _ _ _ _ h => h.elim⟩
def sh8 (a1 a2 a3 a4 a5 a6 a7 a8 a9 a10 a11 : Int) (E : Mem) : St := ⟨[none, some (I a6), some (I a7), some (I a8), some (I a9), some (I a10), none, some (.loc 0 0), none, none, none, none, none, none, some (B false), some (B true), none, none, none, none, none, none, none, none, none, none, none, none, none, none, none, none, none, none, none, none, none, none, none, none, none, none, none, none, none, none, none, none, none, none, none, none, none, none, none, none, none, none, none, none, none, none, none, none, none, none, none, none, none, none, none, none, none, none, none, none, none, none, none, none, none, none, none, none, none, none, none, none, none, none, none, none, none, none, none, none, none, none, none, none, none, none, none, none, none, none, none, none, none, none, none, none, none, none, none, none, none, none, none], [⟨23, .lst [I a1, I a2, I a3, I a4, I a5], 5, true⟩], E⟩
theorem pc8 {a1 a2 a3 a4 a5 a6 a7 a8 a9 a10 a11 : Int} (ha1 : (Lit.int .i64 a1).wf = true) (ha2 : (Lit.int .i64 a2).wf = true) (ha3 : (Lit.int .i64 a3).wf = true) (ha4 : (Lit.int .i64 a4).wf = true) (ha5 : (Lit.int .i64 a5).wf = true) (ha6 : (Lit.int .i64 a6).wf = true) (ha7 : (Lit.int .i64 a7).wf = true) (ha8 : (Lit.int .i64 a8).wf = true) (ha9 : (Lit.int .i64 a9).wf = true) (ha10 : (Lit.int .i64 a10).wf = true) (ha11 : (Lit.int .i64 a11).wf = true) (h : K (B true) E) : Pc JC 10 Try.f8 [1, 1, 1] 0 (pubK E K) (sh8 a1 a2 a3 a4 a5 a6 a7 a8 a9 a10 a11 E) := by
  refine same (by kernel_rfl) (?_ : 
      ∀ (p' s' n' t' r' k x y m c q f g e : Int),
        Hyp
            (ask { p := a1, s := a2, n := a3, t := a4, r := a5 } a6 a7 a8 a10 =
              ({ p := p', s := s', n := n', t := t', r := r' },
                { k := k, x := x, y := y, m := m, c := c, q := q, f := f, g := g }, e)) →
          Mem.le E E ∧
            bif e != 0 then Mem.le E E ∧ K (SV.raw (Value.bool true)) E
            else
              bif bif false then true else decide (a10 > 999999980) then Mem.le E E ∧ K (SV.raw (Value.bool true)) E
              else
                ∀ (p'_1 s'_1 n'_1 t'_1 r'_1 : Int),
                  Hyp
                      (late { p := p', s := s', n := n', t := t', r := r' } (IntKind.wrap IntKind.i64 (a10 + 12)) =
                        { p := p'_1, s := s'_1, n := n'_1, t := t'_1, r := r'_1 }) →
                    Mem.le E E ∧
                      ∀ (p'_2 s'_2 n'_2 t'_2 r'_2 k x y m c q f g e : Int),
                        Hyp
                            (ask { p := p'_1, s := s'_1, n := n'_1, t := t'_1, r := r'_1 } a6 a7 a9
                                (IntKind.wrap IntKind.i64 (a10 + 12)) =
                              ({ p := p'_2, s := s'_2, n := n'_2, t := t'_2, r := r'_2 },
                                { k := k, x := x, y := y, m := m, c := c, q := q, f := f, g := g }, e)) →
                          Mem.le E E ∧
                            bif decide (a9 ≥ 0) then
                              bif bif true then decide (a9 < 60) else false then
                                ∀ (p'_3 s'_3 n'_3 t'_3 r'_3 : Int),
                                  Hyp
                                      (late { p := p', s := s', n := n', t := t', r := r' }
                                          (IntKind.wrap IntKind.i64 (a10 + 11)) =
                                        { p := p'_3, s := s'_3, n := n'_3, t := t'_3, r := r'_3 }) →
                                    Mem.le E E ∧
                                      bif
                                          bif true then
                                            p'_3 == p' && (s'_3 == s' && (n'_3 == n' && (t'_3 == t' && (r'_3 == r' && true))))
                                          else false then
                                        bif
                                            bif true then
                                              p'_1 == 0 && (s'_1 == -1 && (n'_1 == 0 && (t'_1 == 0 && (r'_1 == r' && true))))
                                            else false then
                                          bif !bif true then a9 != a6 else false then
                                            Mem.le E E ∧ K (SV.raw (Value.bool true)) E
                                          else
                                            bif (e == 0) == decide (r' < 255) then
                                              bif e == 0 then Mem.le E E ∧ K (SV.raw (Value.bool true)) E
                                              else
                                                Mem.le E E ∧
                                                  K
                                                    (SV.raw
                                                      (Value.bool
                                                        (bif true then
                                                          bif false then true
                                                          else bif true then bif false then true else e == 2 else false
                                                        else false)))
                                                    E
                                            else Mem.le E E ∧ K (SV.raw (Value.bool false)) E
                                        else Mem.le E E ∧ K (SV.raw (Value.bool false)) E
                                      else Mem.le E E ∧ K (SV.raw (Value.bool false)) E
                              else
                                ∀ (p'_3 s'_3 n'_3 t'_3 r'_3 : Int),
                                  Hyp
                                      (late { p := p', s := s', n := n', t := t', r := r' }
                                          (IntKind.wrap IntKind.i64 (a10 + 11)) =
                                        { p := p'_3, s := s'_3, n := n'_3, t := t'_3, r := r'_3 }) →
                                    Mem.le E E ∧
                                      bif
                                          bif true then
                                            p'_3 == p' && (s'_3 == s' && (n'_3 == n' && (t'_3 == t' && (r'_3 == r' && true))))
                                          else false then
                                        bif
                                            bif true then
                                              p'_1 == 0 && (s'_1 == -1 && (n'_1 == 0 && (t'_1 == 0 && (r'_1 == r' && true))))
                                            else false then
                                          Mem.le E E ∧ K (SV.raw (Value.bool true)) E
                                        else Mem.le E E ∧ K (SV.raw (Value.bool false)) E
                                      else Mem.le E E ∧ K (SV.raw (Value.bool false)) E
                            else
                              ∀ (p'_3 s'_3 n'_3 t'_3 r'_3 : Int),
                                Hyp
                                    (late { p := p', s := s', n := n', t := t', r := r' }
                                        (IntKind.wrap IntKind.i64 (a10 + 11)) =
                                      { p := p'_3, s := s'_3, n := n'_3, t := t'_3, r := r'_3 }) →
                                  Mem.le E E ∧
                                    bif
                                        bif true then
                                          p'_3 == p' && (s'_3 == s' && (n'_3 == n' && (t'_3 == t' && (r'_3 == r' && true))))
                                        else false then
                                      bif
                                          bif true then
                                            p'_1 == 0 && (s'_1 == -1 && (n'_1 == 0 && (t'_1 == 0 && (r'_1 == r' && true))))
                                          else false then
                                        Mem.le E E ∧ K (SV.raw (Value.bool true)) E
                                      else Mem.le E E ∧ K (SV.raw (Value.bool false)) E
                                    else Mem.le E E ∧ K (SV.raw (Value.bool false)) E)
  clear ha1 ha2 ha3 ha4 ha5 ha6 ha7 ha8 ha9 ha10 ha11
  intro p' s' n' t' r' k x y m c q f g e hA
  refine ⟨Mem.le_refl _, ?_⟩
  refine condC (fun _ => ⟨Mem.le_refl _, h⟩) (fun he => ?_)
  have he : e = 0 := by simpa using he
  obtain ⟨hok, hp, hr, rfl, rfl, rfl, rfl, rfl, rfl, rfl, rfl, rfl, rfl, rfl, rfl, rfl⟩ := ask_ok' hA he
  refine condC (fun _ => ⟨Mem.le_refl _, h⟩) (fun ht => ?_)
  have ht : a10 ≤ 999999980 := by simpa using ht
  have hok' := hok
  unfold AskOK VJ at hok'
  rw [wrap_i64 (x := a10 + 12) (by omega), wrap_i64 (x := a10 + 11) (by omega)]
  have hV : VJ 1 a8 (256 * a7 + a5 + 1) a10 (a5 + 1) := by unfold VJ; omega
  intro p2 s2 n2 t2 r2 hl
  obtain ⟨rfl, rfl, rfl, rfl, rfl⟩ := late_go' hl ⟨hV, .inl rfl, by omega⟩
  refine ⟨Mem.le_refl _, ?_⟩
  intro p3 s3 n3 t3 r3 k3 x3 y3 m3 c3 q3 f3 g3 e3 hA2
  have hE := ask_e' hA2
  clear hA2 hA hl
  refine ⟨Mem.le_refl _, ?_⟩
  unfold AskOK VJ at hE
  have g0 : (e3 == 0) = decide (e3 = 0) := by by_cases g : e3 = 0 <;> simp [g]
  have fin : ∀ b : Bool, b = true → Mem.le E E ∧ K (B b) E := fun b hb => ⟨Mem.le_refl _, by rw [hb]; exact h⟩
  by_cases g3 : 0 ≤ a9
  rotate_left
  · simp (decide := true) only [g3, ge_iff_le, decide_false, cond_false]
    intro _ _ _ _ _ hl
    obtain ⟨rfl, rfl, rfl, rfl, rfl⟩ := late_no' hl (fun hx => by have := hx.2.2; omega)
    simp (decide := true) only [decide_true, cond_true, cond_false, beq_self_eq_true, Bool.and_true, Mem.le_refl, true_and]
    exact h
  by_cases g4 : a9 < 60
  rotate_left
  · simp (decide := true) only [g3, g4, ge_iff_le, decide_true, decide_false, cond_true, cond_false]
    intro _ _ _ _ _ hl
    obtain ⟨rfl, rfl, rfl, rfl, rfl⟩ := late_no' hl (fun hx => by have := hx.2.2; omega)
    simp (decide := true) only [decide_true, cond_true, cond_false, beq_self_eq_true, Bool.and_true, Mem.le_refl, true_and]
    exact h
  simp (decide := true) only [g3, g4, ge_iff_le, decide_true, cond_true, cond_false]
  intro _ _ _ _ _ hl
  obtain ⟨rfl, rfl, rfl, rfl, rfl⟩ := late_no' hl (fun hx => by have := hx.2.2; omega)
  by_cases g5 : a9 = a6
  · subst g5
    simp (decide := true) only [bne_self_eq_false, Bool.not_false, decide_true, cond_true, cond_false, beq_self_eq_true, Bool.and_true, Mem.le_refl, true_and]
    exact h
  have g5' : (a9 != a6) = true := by simpa using g5
  by_cases g1 : e3 = 0
  · have g2 : a5 + 1 < 255 := by omega
    subst g1
    simp (decide := true) only [g5', g2, Bool.not_true, decide_true, cond_true, cond_false, beq_self_eq_true, Bool.and_true, Mem.le_refl, true_and]
    exact h
  · obtain rfl : e3 = 2 := by omega
    have g2 : ¬ a5 + 1 < 255 := by omega
    simp (decide := true) only [g5', g2, Bool.not_true, decide_true, decide_false, cond_true, cond_false, beq_self_eq_true, Bool.and_true, Mem.le_refl, true_and, show ((2 : Int) == 0) = false from rfl]
    exact h
theorem e8 {a1 : Int} {a2 : Int} {a3 : Int} {a4 : Int} {a5 : Int} {a6 : Int} {a7 : Int} {a8 : Int} {a9 : Int} {a10 : Int} {a11 : Int} (ha1 : (Lit.int .i64 a1).wf = true) (ha2 : (Lit.int .i64 a2).wf = true) (ha3 : (Lit.int .i64 a3).wf = true) (ha4 : (Lit.int .i64 a4).wf = true) (ha5 : (Lit.int .i64 a5).wf = true) (ha6 : (Lit.int .i64 a6).wf = true) (ha7 : (Lit.int .i64 a7).wf = true) (ha8 : (Lit.int .i64 a8).wf = true) (ha9 : (Lit.int .i64 a9).wf = true) (ha10 : (Lit.int .i64 a10).wf = true) (ha11 : (Lit.int .i64 a11).wf = true) (h : K (B true) E) :
    Ent JC 10 Try.f8 [.agg [I a1, I a2, I a3, I a4, I a5], I a6, I a7, I a8, I a9, I a10, I a11] E K := by
  refine same (by kernel_rfl) (?_ : 
      Mem.le E E ∧
        bif a1 == 0 then
          ∀ (p' s' n' t' r' : Int),
            Hyp (late { p := a1, s := a2, n := a3, t := a4, r := a5 } a11 = { p := p', s := s', n := n', t := t', r := r' }) →
              Mem.le E E ∧
                bif bif true then !(p' == a1 && (s' == a2 && (n' == a3 && (t' == a4 && (r' == a5 && true))))) else false then
                  Mem.le E E ∧ K (SV.raw (Value.bool false)) E
                else
                  Ct JC 10 Try.f8 [1, 1, 1] 0 (pubK E K)
                    {
                      fr :=
                        [some
                            (SV.agg
                              [SV.raw (Value.int IntKind.i64 a1), SV.raw (Value.int IntKind.i64 a2),
                                SV.raw (Value.int IntKind.i64 a3), SV.raw (Value.int IntKind.i64 a4),
                                SV.raw (Value.int IntKind.i64 a5)]),
                          some (SV.raw (Value.int IntKind.i64 a6)), some (SV.raw (Value.int IntKind.i64 a7)),
                          some (SV.raw (Value.int IntKind.i64 a8)), some (SV.raw (Value.int IntKind.i64 a9)),
                          some (SV.raw (Value.int IntKind.i64 a10)), some (SV.raw (Value.int IntKind.i64 a11)),
                          some (SV.loc 0 0), none, none, none, none, none, none, some (SV.raw (Value.bool false)),
                          some (SV.raw (Value.bool true)), none, none, none, none, none, none, none, none,
                          some (SV.raw (Value.bool true)), some (SV.loc 0 0), some (SV.raw (Value.int IntKind.i64 a1)),
                          some (SV.raw (Value.bool (a1 == 0))), some (SV.raw (Value.bool true)),
                          some (SV.raw (Value.tuple { toList := [] })), some (SV.raw (Value.tuple { toList := [] })),
                          some (SV.raw (Value.tuple { toList := [] })), some (SV.raw (Value.bool true)),
                          some (SV.raw (Value.bool true)),
                          some
                            (SV.agg
                              [SV.raw (Value.int IntKind.i64 a1), SV.raw (Value.int IntKind.i64 a2),
                                SV.raw (Value.int IntKind.i64 a3), SV.raw (Value.int IntKind.i64 a4),
                                SV.raw (Value.int IntKind.i64 a5)]),
                          some (SV.raw (Value.int IntKind.i64 a11)),
                          some
                            (SV.agg
                              [SV.raw (Value.int IntKind.i64 p'), SV.raw (Value.int IntKind.i64 s'),
                                SV.raw (Value.int IntKind.i64 n'), SV.raw (Value.int IntKind.i64 t'),
                                SV.raw (Value.int IntKind.i64 r')]),
                          some
                            (SV.agg
                              [SV.raw (Value.int IntKind.i64 a1), SV.raw (Value.int IntKind.i64 a2),
                                SV.raw (Value.int IntKind.i64 a3), SV.raw (Value.int IntKind.i64 a4),
                                SV.raw (Value.int IntKind.i64 a5)]),
                          some
                            (SV.raw (Value.bool !(p' == a1 && (s' == a2 && (n' == a3 && (t' == a4 && (r' == a5 && true))))))),
                          some
                            (SV.raw
                              (Value.bool
                                (bif true then !(p' == a1 && (s' == a2 && (n' == a3 && (t' == a4 && (r' == a5 && true)))))
                                else false))),
                          none, none, none, none, none, none, none, none, none, none, none, none, none, none, none, none,
                          none, none, none, none, none, none, none, none, none, none, none, none, none, none, none, none,
                          none, none, none, none, none, none, none, none, none, none, none, none, none, none, none, none,
                          none, none, none, none, none, none, none, none, none, none, none, none, none, none, none, none,
                          none, none, none, none, none, none, none, none, none, none, none, none, none, none, none],
                      bx :=
                        [{ elem := 23,
                            row :=
                              Row.lst
                                [SV.raw (Value.int IntKind.i64 a1), SV.raw (Value.int IntKind.i64 a2),
                                  SV.raw (Value.int IntKind.i64 a3), SV.raw (Value.int IntKind.i64 a4),
                                  SV.raw (Value.int IntKind.i64 a5)],
                            total := 5, own := true }],
                      E := E }
        else
          bif bif false then true else a1 == 3 then
            ∀ (p' s' n' t' r' : Int),
              Hyp
                  (late { p := a1, s := a2, n := a3, t := a4, r := a5 } a11 =
                    { p := p', s := s', n := n', t := t', r := r' }) →
                Mem.le E E ∧
                  bif
                      bif true then !(p' == a1 && (s' == a2 && (n' == a3 && (t' == a4 && (r' == a5 && true)))))
                      else false then
                    Mem.le E E ∧ K (SV.raw (Value.bool false)) E
                  else
                    Ct JC 10 Try.f8 [1, 1, 1] 0 (pubK E K)
                      {
                        fr :=
                          [some
                              (SV.agg
                                [SV.raw (Value.int IntKind.i64 a1), SV.raw (Value.int IntKind.i64 a2),
                                  SV.raw (Value.int IntKind.i64 a3), SV.raw (Value.int IntKind.i64 a4),
                                  SV.raw (Value.int IntKind.i64 a5)]),
                            some (SV.raw (Value.int IntKind.i64 a6)), some (SV.raw (Value.int IntKind.i64 a7)),
                            some (SV.raw (Value.int IntKind.i64 a8)), some (SV.raw (Value.int IntKind.i64 a9)),
                            some (SV.raw (Value.int IntKind.i64 a10)), some (SV.raw (Value.int IntKind.i64 a11)),
                            some (SV.loc 0 0), none, none, none, none, none, none, some (SV.raw (Value.bool false)),
                            some (SV.raw (Value.bool true)), none, none, none, none, none, none, none, none,
                            some (SV.raw (Value.bool true)), some (SV.loc 0 0), some (SV.raw (Value.int IntKind.i64 a1)),
                            some (SV.raw (Value.bool (a1 == 0))), some (SV.raw (Value.bool false)), some (SV.loc 0 0),
                            some (SV.raw (Value.int IntKind.i64 a1)), some (SV.raw (Value.bool (a1 == 3))),
                            some (SV.raw (Value.bool (bif false then true else a1 == 3))), some (SV.raw (Value.bool true)),
                            some
                              (SV.agg
                                [SV.raw (Value.int IntKind.i64 a1), SV.raw (Value.int IntKind.i64 a2),
                                  SV.raw (Value.int IntKind.i64 a3), SV.raw (Value.int IntKind.i64 a4),
                                  SV.raw (Value.int IntKind.i64 a5)]),
                            some (SV.raw (Value.int IntKind.i64 a11)),
                            some
                              (SV.agg
                                [SV.raw (Value.int IntKind.i64 p'), SV.raw (Value.int IntKind.i64 s'),
                                  SV.raw (Value.int IntKind.i64 n'), SV.raw (Value.int IntKind.i64 t'),
                                  SV.raw (Value.int IntKind.i64 r')]),
                            some
                              (SV.agg
                                [SV.raw (Value.int IntKind.i64 a1), SV.raw (Value.int IntKind.i64 a2),
                                  SV.raw (Value.int IntKind.i64 a3), SV.raw (Value.int IntKind.i64 a4),
                                  SV.raw (Value.int IntKind.i64 a5)]),
                            some
                              (SV.raw
                                (Value.bool !(p' == a1 && (s' == a2 && (n' == a3 && (t' == a4 && (r' == a5 && true))))))),
                            some
                              (SV.raw
                                (Value.bool
                                  (bif true then !(p' == a1 && (s' == a2 && (n' == a3 && (t' == a4 && (r' == a5 && true)))))
                                  else false))),
                            none, none, none, none, none, none, none, none, none, none, none, none, none, none, none, none,
                            none, none, none, none, none, none, none, none, none, none, none, none, none, none, none, none,
                            none, none, none, none, none, none, none, none, none, none, none, none, none, none, none, none,
                            none, none, none, none, none, none, none, none, none, none, none, none, none, none, none, none,
                            none, none, none, none, none, none, none, none, none, none, none, none, none, none, none],
                        bx :=
                          [{ elem := 23,
                              row :=
                                Row.lst
                                  [SV.raw (Value.int IntKind.i64 a1), SV.raw (Value.int IntKind.i64 a2),
                                    SV.raw (Value.int IntKind.i64 a3), SV.raw (Value.int IntKind.i64 a4),
                                    SV.raw (Value.int IntKind.i64 a5)],
                              total := 5, own := true }],
                        E := E }
          else
            Ct JC 10 Try.f8 [1, 1, 1] 0 (pubK E K)
              {
                fr :=
                  [some
                      (SV.agg
                        [SV.raw (Value.int IntKind.i64 a1), SV.raw (Value.int IntKind.i64 a2),
                          SV.raw (Value.int IntKind.i64 a3), SV.raw (Value.int IntKind.i64 a4),
                          SV.raw (Value.int IntKind.i64 a5)]),
                    some (SV.raw (Value.int IntKind.i64 a6)), some (SV.raw (Value.int IntKind.i64 a7)),
                    some (SV.raw (Value.int IntKind.i64 a8)), some (SV.raw (Value.int IntKind.i64 a9)),
                    some (SV.raw (Value.int IntKind.i64 a10)), some (SV.raw (Value.int IntKind.i64 a11)), some (SV.loc 0 0),
                    none, none, none, none, none, none, some (SV.raw (Value.bool false)), some (SV.raw (Value.bool true)),
                    none, none, none, none, none, none, none, none, some (SV.raw (Value.bool true)), some (SV.loc 0 0),
                    some (SV.raw (Value.int IntKind.i64 a1)), some (SV.raw (Value.bool (a1 == 0))),
                    some (SV.raw (Value.bool false)), some (SV.loc 0 0), some (SV.raw (Value.int IntKind.i64 a1)),
                    some (SV.raw (Value.bool (a1 == 3))), some (SV.raw (Value.bool (bif false then true else a1 == 3))),
                    some (SV.raw (Value.bool false)), some (SV.raw (Value.tuple { toList := [] })),
                    some (SV.raw (Value.tuple { toList := [] })), some (SV.raw (Value.tuple { toList := [] })),
                    some (SV.raw (Value.tuple { toList := [] })), some (SV.raw (Value.tuple { toList := [] })),
                    some (SV.raw (Value.bool false)), none, none, none, none, none, none, none, none, none, none, none, none,
                    none, none, none, none, none, none, none, none, none, none, none, none, none, none, none, none, none,
                    none, none, none, none, none, none, none, none, none, none, none, none, none, none, none, none, none,
                    none, none, none, none, none, none, none, none, none, none, none, none, none, none, none, none, none,
                    none, none, none, none, none, none, none, none, none, none, none, none, none, none, none, none],
                bx :=
                  [{ elem := 23,
                      row :=
                        Row.lst
                          [SV.raw (Value.int IntKind.i64 a1), SV.raw (Value.int IntKind.i64 a2),
                            SV.raw (Value.int IntKind.i64 a3), SV.raw (Value.int IntKind.i64 a4),
                            SV.raw (Value.int IntKind.i64 a5)],
                      total := 5, own := true }],
                E := E })
  have hk := Ct_intro okJC (pc8 ha1 ha2 ha3 ha4 ha5 ha6 ha7 ha8 ha9 ha10 ha11 h)
  refine ⟨Mem.le_refl _, ?_⟩
  refine condC (fun hq => ?_) (fun hq => ?_)
  · intro p0 s0 n0 t0 r0 hl0
    obtain ⟨rfl, rfl, rfl, rfl, rfl⟩ := late_no' hl0 (fun hx => by simp at hq; omega)
    refine ⟨Mem.le_refl _, ?_⟩
    refine condC (fun hx => absurd hx (by simp)) (fun _ => ?_)
    exact Ct_from (by repeat' first | exact True.intro | refine And.intro rfl ?_) hk
  refine condC (fun hq2 => ?_) (fun hq2 => ?_)
  · intro p0 s0 n0 t0 r0 hl0
    obtain ⟨rfl, rfl, rfl, rfl, rfl⟩ := late_no' hl0 (fun hx => by simp at hq2; omega)
    refine ⟨Mem.le_refl _, ?_⟩
    refine condC (fun hx => absurd hx (by simp)) (fun _ => ?_)
    exact Ct_from (by repeat' first | exact True.intro | refine And.intro rfl ?_) hk
  · exact Ct_from (by repeat' first | exact True.intro | refine And.intro rfl ?_) hk


theorem opn8 (W : World) (K : List SV → Prop) (h : ∀ a1 : Int, (Lit.int .i64 a1).wf = true → ∀ a2 : Int, (Lit.int .i64 a2).wf = true → ∀ a3 : Int, (Lit.int .i64 a3).wf = true → ∀ a4 : Int, (Lit.int .i64 a4).wf = true → ∀ a5 : Int, (Lit.int .i64 a5).wf = true → ∀ a6 : Int, (Lit.int .i64 a6).wf = true → ∀ a7 : Int, (Lit.int .i64 a7).wf = true → ∀ a8 : Int, (Lit.int .i64 a8).wf = true → ∀ a9 : Int, (Lit.int .i64 a9).wf = true → ∀ a10 : Int, (Lit.int .i64 a10).wf = true → ∀ a11 : Int, (Lit.int .i64 a11).wf = true → K [.agg [I a1, I a2, I a3, I a4, I a5], I a6, I a7, I a8, I a9, I a10, I a11]) : opnAll Try.prog W Try.f8.params.toList K :=
  same (by kernel_rfl) h

theorem sem8 (W : World) : opnAll Try.prog W Try.f8.params.toList fun ss => TabSem Try.prog 8 ss (fun v cs => RowAt W v cs) fun r _ => r = .raw (.bool true) := by
  refine opn8 W _ ?_
  intro a1 ha1 a2 ha2 a3 ha3 a4 ha4 a5 ha5 a6 ha6 a7 ha7 a8 ha8 a9 ha9 a10 ha10 a11 ha11
  exact Ent.sem okJC Try.func8 ⟨by kernel_rfl, by kernel_rfl⟩ rfl (e8 ha1 ha2 ha3 ha4 ha5 ha6 ha7 ha8 ha9 ha10 ha11 rfl)

theorem lifted8 (os : Os) (started : os.Started) (H : Type) (enc : TypeId × Value → H) :
    ReturnsInHanded {} Try.checked os 8 .any (Rows.joinLateSpec.pre6 enc Try.prog Try.f8 Rows.joinLateRow.domain false) (Rows.joinLateSpec.post enc Try.prog Try.f8 false true false false) :=
  lift_true (C := Try.checked) (by kernel_rfl) (by kernel_rfl) started (by kernel_rfl) Try.func8
    (ChangeSpec.witness6 (enc := enc) (C := Try.checked) false ⟨#[], #[.agg #[.int .i64 0, .int .i64 0, .int .i64 0, .int .i64 0, .int .i64 0], .int .i64 0, .int .i64 0, .int .i64 0, .int .i64 0, .int .i64 0, .int .i64 0], []⟩ 8 (by kernel_rfl) (by kernel_rfl) (by kernel_rfl) (by kernel_rfl))
    (Tb := 4) (by kernel_rfl) (by kernel_rfl) (by kernel_rfl) rfl
    (fun ds hl => by
      match ds, hl with
      | [d0, d1, d2, d3, d4, d5, d6], _ => exact ⟨rfl, rfl, rfl⟩)
    sem8

theorem over8 : Rows.joinLateRow.holds Try.pinned (OpenSpec.ofChange Rows.joinLateSpec) :=
  OpenClaim.holds_of_wide 8 Try.f8 rfl rfl rfl rfl rfl rfl rfl ⟨rfl, rfl, rfl, rfl, rfl⟩ rfl rfl rfl rfl rfl (by kernel_rfl) Try.func8 (by kernel_rfl)
    (of_decide_eq_true (by kernel_rfl)) (by unfold Func.isWrapper; first | (rw [if_pos (by decide +kernel)]; kernel_rfl) | (rw [if_neg (by decide +kernel)]; exact ⟨rfl, rfl⟩))
    (fun os started H enc _ => lifted8 os started H enc)

theorem proved8 : Rows.JoinLateSaid := over8
end Go.Proofs.Ythbfpaemiccjcaa.JoinOwn
