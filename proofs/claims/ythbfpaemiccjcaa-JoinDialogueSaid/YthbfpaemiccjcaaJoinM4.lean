/- The law JoinDialogue. -/
import Derived.Test.YthbfpaemiccjcaaJoin9
import Derived.Test.YthbfpaemiccjcaaRows
namespace Go.Proofs.Ythbfpaemiccjcaa.JoinOwn
open Go Go.Sx Go.Proofs.Ythbfpaemiccjcaa
set_option maxRecDepth 100000
set_option maxHeartbeats 4000000
set_option linter.unusedVariables false
set_option linter.unusedSimpArgs false
variable {E : Mem} {K : SV → Mem → Prop}

theorem e4 {a1 : Int} {a2 : Int} {a3 : Int} {a4 : Int} {a5 : Int} {a6 : Int} {a7 : Int} {a8 : Int} {a9 : Int} {a10 : Int} {a11 : Int} {a12 : Int} {a13 : Int} {a14 : Int} (ha1 : (Lit.int .i64 a1).wf = true) (ha2 : (Lit.int .i64 a2).wf = true) (ha3 : (Lit.int .i64 a3).wf = true) (ha4 : (Lit.int .i64 a4).wf = true) (ha5 : (Lit.int .i64 a5).wf = true) (ha6 : (Lit.int .i64 a6).wf = true) (ha7 : (Lit.int .i64 a7).wf = true) (ha8 : (Lit.int .i64 a8).wf = true) (ha9 : (Lit.int .i64 a9).wf = true) (ha10 : (Lit.int .i64 a10).wf = true) (ha11 : (Lit.int .i64 a11).wf = true) (ha12 : (Lit.int .i64 a12).wf = true) (ha13 : (Lit.int .u8 a13).wf = true) (ha14 : (Lit.int .u8 a14).wf = true) (h : K (B true) E) :
    Ent JV 10 Try.f4 [.agg [I a1, I a2, I a3, I a4, I a5], I a6, I a7, I a8, I a9, I a10, .agg [I a11, I a12], .agg [.raw (.int .u8 a13), .raw (.int .u8 a14)]] E K := by
  refine same (by kernel_rfl) (?_ : 
      Mem.le E E ∧
        ∀ (p' s' n' t' r' k x y m c q f g e : Int),
          Hyp
              (ask { p := a1, s := a2, n := a3, t := a4, r := a5 } a6 a7 a8 a9 =
                ({ p := p', s := s', n := n', t := t', r := r' },
                  { k := k, x := x, y := y, m := m, c := c, q := q, f := f, g := g }, e)) →
            Mem.le E E ∧
              bif e != 0 then Mem.le E E ∧ K (SV.raw (Value.bool true)) E
              else
                bif bif false then true else decide (a9 > 999999980) then Mem.le E E ∧ K (SV.raw (Value.bool true)) E
                else
                  bif bif false then true else decide (a10 < 0) then Mem.le E E ∧ K (SV.raw (Value.bool true)) E
                  else
                    bif bif false then true else decide (a10 > 1000000000) then Mem.le E E ∧ K (SV.raw (Value.bool true)) E
                    else
                      bif bif false then true else decide (a11 < 0) then Mem.le E E ∧ K (SV.raw (Value.bool true)) E
                      else
                        bif bif false then true else decide (a11 ≥ a12) then Mem.le E E ∧ K (SV.raw (Value.bool true)) E
                        else
                          bif bif false then true else decide (a12 > 1000000000) then
                            Mem.le E E ∧ K (SV.raw (Value.bool true)) E
                          else
                            ((12 : Int) = 0 → False) ∧
                              (IntKind.wrap IntKind.i64 (12 - Int.tmod (IntKind.wrap IntKind.i64 a13) 12) = 0 → False) ∧
                                ∀ (p'_1 s'_1 n'_1 t'_1 r'_1 : Int),
                                  Hyp
                                      (late { p := p', s := s', n := n', t := t', r := r' }
                                          (IntKind.wrap IntKind.i64 (a9 + Int.tmod (IntKind.wrap IntKind.i64 a13) 12)) =
                                        { p := p'_1, s := s'_1, n := n'_1, t := t'_1, r := r'_1 }) →
                                    Mem.le E E ∧
                                      ∀ (p' s' n' t' r' k x_1 y_1 m_1 c q_1 f_1 g_1 : Int) (v : Bool),
                                        Hyp
                                            (hear { p := p'_1, s := s'_1, n := n'_1, t := t'_1, r := r'_1 } a6
                                                { k := 2, x := x, y := y, m := m, c := a10, q := q, f := f, g := g }
                                                (IntKind.wrap IntKind.i64 (a9 + Int.tmod (IntKind.wrap IntKind.i64 a13) 12)) =
                                              ({ p := p', s := s', n := n', t := t', r := r' },
                                                { k := k, x := x_1, y := y_1, m := m_1, c := c, q := q_1, f := f_1,
                                                  g := g_1 },
                                                v)) →
                                          Mem.le E E ∧
                                            ∀ (k_1 x y m c_1 q f g e : Int),
                                              Hyp
                                                  (judge
                                                      { k := k, x := x_1, y := y_1, m := m_1, c := c, q := q_1, f := f_1,
                                                        g := g_1 }
                                                      a11 a12 =
                                                    ({ k := k_1, x := x, y := y, m := m, c := c_1, q := q, f := f, g := g },
                                                      e)) →
                                                Mem.le E E ∧
                                                  ∀ (p'_2 s'_2 n'_2 t'_2 r'_2 : Int),
                                                    Hyp
                                                        (late { p := p', s := s', n := n', t := t', r := r' }
                                                            (IntKind.wrap IntKind.i64
                                                              (a9 +
                                                                IntKind.wrap IntKind.i64
                                                                  (Int.tmod (IntKind.wrap IntKind.i64 a13) 12 +
                                                                    Int.tmod (IntKind.wrap IntKind.i64 a14)
                                                                      (IntKind.wrap IntKind.i64
                                                                        (12 -
                                                                          Int.tmod (IntKind.wrap IntKind.i64 a13) 12))))) =
                                                          { p := p'_2, s := s'_2, n := n'_2, t := t'_2, r := r'_2 }) →
                                                      Mem.le E E ∧
                                                        ∀ (p' s' n' t' r' k x_2 y_2 m_2 c q_2 f_2 g_2 : Int) (v_1 : Bool),
                                                          Hyp
                                                              (hear { p := p'_2, s := s'_2, n := n'_2, t := t'_2, r := r'_2 }
                                                                  a6
                                                                  { k := k_1, x := x, y := y, m := m, c := c_1, q := q,
                                                                    f := f, g := g }
                                                                  (IntKind.wrap IntKind.i64
                                                                    (a9 +
                                                                      IntKind.wrap IntKind.i64
                                                                        (Int.tmod (IntKind.wrap IntKind.i64 a13) 12 +
                                                                          Int.tmod (IntKind.wrap IntKind.i64 a14)
                                                                            (IntKind.wrap IntKind.i64
                                                                              (12 -
                                                                                Int.tmod (IntKind.wrap IntKind.i64 a13)
                                                                                  12))))) =
                                                                ({ p := p', s := s', n := n', t := t', r := r' },
                                                                  { k := k, x := x_2, y := y_2, m := m_2, c := c, q := q_2,
                                                                    f := f_2, g := g_2 },
                                                                  v_1)) →
                                                            Mem.le E E ∧
                                                              bif bif true then v else false then
                                                                bif bif true then e == 0 else false then
                                                                  bif bif true then v_1 else false then
                                                                    bif
                                                                        bif true then f == a11 && (g == a12 && true)
                                                                        else false then
                                                                      bif bif true then p' == 3 else false then
                                                                        ∀ (p'_3 s'_3 n'_3 t'_3 r'_3 : Int),
                                                                          Hyp
                                                                              (late
                                                                                  { p := p', s := s', n := n', t := t',
                                                                                    r := r' }
                                                                                  (IntKind.wrap IntKind.i64 (a9 + 100)) =
                                                                                { p := p'_3, s := s'_3, n := n'_3, t := t'_3,
                                                                                  r := r'_3 }) →
                                                                            Mem.le E E ∧
                                                                              Mem.le E E ∧
                                                                                K
                                                                                  (SV.raw
                                                                                    (Value.bool
                                                                                      (bif true then
                                                                                        p'_3 == p' &&
                                                                                          (s'_3 == s' &&
                                                                                            (n'_3 == n' &&
                                                                                              (t'_3 == t' &&
                                                                                                (r'_3 == r' && true))))
                                                                                      else false)))
                                                                                  E
                                                                      else Mem.le E E ∧ K (SV.raw (Value.bool false)) E
                                                                    else Mem.le E E ∧ K (SV.raw (Value.bool false)) E
                                                                  else Mem.le E E ∧ K (SV.raw (Value.bool false)) E
                                                                else Mem.le E E ∧ K (SV.raw (Value.bool false)) E
                                                              else Mem.le E E ∧ K (SV.raw (Value.bool false)) E)
  have hb13 : 0 ≤ a13 ∧ a13 ≤ 255 := u8b ha13
  have hb14 : 0 ≤ a14 ∧ a14 ≤ 255 := u8b ha14
  refine ⟨Mem.le_refl _, ?_⟩
  intro p' s' n' t' r' k x y m c q f g e hA
  refine ⟨Mem.le_refl _, ?_⟩
  refine condC (fun _ => ⟨Mem.le_refl _, h⟩) (fun he => ?_)
  have he : e = 0 := by simpa using he
  obtain ⟨hok, hp, hr, rfl, rfl, rfl, rfl, rfl, rfl, rfl, rfl, rfl, rfl, rfl, rfl, rfl⟩ := ask_ok' hA he
  clear hA
  have hok' := hok
  unfold AskOK VJ at hok'
  refine condC (fun _ => ⟨Mem.le_refl _, h⟩) (fun ht => ?_)
  have ht : a9 ≤ 999999980 := by simpa using ht
  refine condC (fun _ => ⟨Mem.le_refl _, h⟩) (fun h10 => ?_)
  have h10 : 0 ≤ a10 := by simpa using h10
  refine condC (fun _ => ⟨Mem.le_refl _, h⟩) (fun h10' => ?_)
  have h10' : a10 ≤ 1000000000 := by simpa using h10'
  refine condC (fun _ => ⟨Mem.le_refl _, h⟩) (fun h11 => ?_)
  have h11 : 0 ≤ a11 := by simpa using h11
  refine condC (fun _ => ⟨Mem.le_refl _, h⟩) (fun h11' => ?_)
  have h11' : a11 < a12 := by simpa using h11'
  refine condC (fun _ => ⟨Mem.le_refl _, h⟩) (fun h12 => ?_)
  have h12 : a12 ≤ 1000000000 := by simpa using h12
  have w13 : IntKind.wrap .i64 a13 = a13 := wrap_i64 (by omega)
  have w14 : IntKind.wrap .i64 a14 = a14 := wrap_i64 (by omega)
  have t13 : Int.tmod a13 12 = a13 % 12 := Int.tmod_eq_emod_of_nonneg (by omega)
  have d13 : 0 ≤ a13 % 12 ∧ a13 % 12 < 12 := by omega
  simp only [w13, w14, t13]
  generalize a13 % 12 = one at d13 ⊢
  have w1 : IntKind.wrap .i64 (12 - one) = 12 - one := wrap_i64 (by omega)
  have w2 : IntKind.wrap .i64 (a9 + one) = a9 + one := wrap_i64 (by omega)
  simp only [w1, w2]
  have t14 : Int.tmod a14 (12 - one) = a14 % (12 - one) := Int.tmod_eq_emod_of_nonneg (by omega)
  have d14 : 0 ≤ a14 % (12 - one) ∧ a14 % (12 - one) < 12 - one := ⟨Int.emod_nonneg _ (by omega), Int.emod_lt_of_pos _ (by omega)⟩
  simp only [t14]
  generalize a14 % (12 - one) = two at d14 ⊢
  have w3 : IntKind.wrap .i64 (one + two) = one + two := wrap_i64 (by omega)
  have w4 : IntKind.wrap .i64 (a9 + (one + two)) = a9 + (one + two) := wrap_i64 (by omega)
  have w5 : IntKind.wrap .i64 (a9 + 100) = a9 + 100 := wrap_i64 (by omega)
  simp only [w3, w4, w5]
  refine ⟨by omega, by omega, ?_⟩
  have hV : VJ 1 a8 (256 * a7 + a5 + 1) a9 (a5 + 1) := by unfold VJ; omega
  have hV2 : VJ 2 a8 (256 * a7 + a5 + 1) a9 (a5 + 1) := by unfold VJ; omega
  have hF : ∀ k c : Int, 1 ≤ k → k ≤ 4 → 0 ≤ c → c ≤ 1000000000 → FW k a6 a8 (256 * a7 + a5 + 1) c := by intro k c _ _ _ _; unfold FW; omega
  intro _ _ _ _ _ hl
  obtain ⟨rfl, rfl, rfl, rfl, rfl⟩ := late_no' hl (fun hx => by have := hx.2.2; omega)
  clear hl
  refine ⟨Mem.le_refl _, ?_⟩
  intro _ _ _ _ _ _ _ _ _ _ _ _ _ _ hl
  obtain ⟨rfl, rfl, rfl, rfl, rfl, rfl, rfl, rfl, rfl, rfl, rfl, rfl, rfl, rfl⟩ := hear_two' hl ⟨hV, hF _ _ (by omega) (by omega) h10 h10', by omega, by omega, rfl, rfl, rfl⟩ ⟨rfl, .inl rfl⟩
  clear hl
  refine ⟨Mem.le_refl _, ?_⟩
  intro _ _ _ _ _ _ _ _ _ hl
  obtain ⟨rfl, rfl, rfl, rfl, rfl, rfl, rfl, rfl, rfl⟩ := judge_go' hl ⟨hF _ _ (by omega) (by omega) h10 h10', h11, h11', h12⟩ rfl rfl
  clear hl
  refine ⟨Mem.le_refl _, ?_⟩
  intro _ _ _ _ _ hl
  obtain ⟨rfl, rfl, rfl, rfl, rfl⟩ := late_no' hl (fun hx => by have := hx.2.2; omega)
  clear hl
  refine ⟨Mem.le_refl _, ?_⟩
  intro _ _ _ _ _ _ _ _ _ _ _ _ _ _ hl
  obtain ⟨rfl, rfl, rfl, rfl, rfl, rfl, rfl, rfl, rfl, rfl, rfl, rfl, rfl, rfl⟩ := hear_four' hl ⟨hV2, hF _ _ (by omega) (by omega) (by omega) (by omega), by omega, by omega, rfl, rfl, rfl⟩ ⟨rfl, rfl, rfl⟩
  clear hl
  refine ⟨Mem.le_refl _, ?_⟩
  simp only [beq_self_eq_true, Bool.and_true, Bool.true_and, cond_true, Mem.le_refl, true_and]
  intro _ _ _ _ _ hl
  obtain ⟨rfl, rfl, rfl, rfl, rfl⟩ := late_no' hl (fun hx => by have := hx.2.1; omega)
  simp only [beq_self_eq_true, Bool.and_true, Bool.true_and, cond_true, Mem.le_refl, true_and]
  exact h


theorem opn4 (W : World) (K : List SV → Prop) (h : ∀ a1 : Int, (Lit.int .i64 a1).wf = true → ∀ a2 : Int, (Lit.int .i64 a2).wf = true → ∀ a3 : Int, (Lit.int .i64 a3).wf = true → ∀ a4 : Int, (Lit.int .i64 a4).wf = true → ∀ a5 : Int, (Lit.int .i64 a5).wf = true → ∀ a6 : Int, (Lit.int .i64 a6).wf = true → ∀ a7 : Int, (Lit.int .i64 a7).wf = true → ∀ a8 : Int, (Lit.int .i64 a8).wf = true → ∀ a9 : Int, (Lit.int .i64 a9).wf = true → ∀ a10 : Int, (Lit.int .i64 a10).wf = true → ∀ a11 : Int, (Lit.int .i64 a11).wf = true → ∀ a12 : Int, (Lit.int .i64 a12).wf = true → ∀ a13 : Int, (Lit.int .u8 a13).wf = true → ∀ a14 : Int, (Lit.int .u8 a14).wf = true → K [.agg [I a1, I a2, I a3, I a4, I a5], I a6, I a7, I a8, I a9, I a10, .agg [I a11, I a12], .agg [.raw (.int .u8 a13), .raw (.int .u8 a14)]]) : opnAll Try.prog W Try.f4.params.toList K :=
  same (by kernel_rfl) h

theorem sem4 (W : World) : opnAll Try.prog W Try.f4.params.toList fun ss => TabSem Try.prog 4 ss (fun v cs => RowAt W v cs) fun r _ => r = .raw (.bool true) := by
  refine opn4 W _ ?_
  intro a1 ha1 a2 ha2 a3 ha3 a4 ha4 a5 ha5 a6 ha6 a7 ha7 a8 ha8 a9 ha9 a10 ha10 a11 ha11 a12 ha12 a13 ha13 a14 ha14
  exact Ent.sem okJV Try.func4 ⟨by kernel_rfl, by kernel_rfl⟩ rfl (e4 ha1 ha2 ha3 ha4 ha5 ha6 ha7 ha8 ha9 ha10 ha11 ha12 ha13 ha14 rfl)

theorem lifted4 (os : Os) (started : os.Started) (H : Type) (enc : TypeId × Value → H) :
    ReturnsInHanded {} Try.checked os 4 .any (Rows.joinDialogueSpec.pre6 enc Try.prog Try.f4 Rows.joinDialogueRow.domain false) (Rows.joinDialogueSpec.post enc Try.prog Try.f4 false true false false) :=
  lift_true (C := Try.checked) (by kernel_rfl) (by kernel_rfl) started (by kernel_rfl) Try.func4
    (ChangeSpec.witness6 (enc := enc) (C := Try.checked) false ⟨#[], #[.agg #[.int .i64 0, .int .i64 0, .int .i64 0, .int .i64 0, .int .i64 0], .int .i64 0, .int .i64 0, .int .i64 0, .int .i64 0, .int .i64 0, .agg #[.int .i64 0, .int .i64 0], .agg #[.int .u8 0, .int .u8 0]], []⟩ 8 (by kernel_rfl) (by kernel_rfl) (by kernel_rfl) (by kernel_rfl))
    (Tb := 4) (by kernel_rfl) (by kernel_rfl) (by kernel_rfl) rfl
    (fun ds hl => by
      match ds, hl with
      | [d0, d1, d2, d3, d4, d5, d6, d7], _ => exact ⟨rfl, rfl, rfl⟩)
    sem4

theorem over4 : Rows.joinDialogueRow.holds Try.pinned (OpenSpec.ofChange Rows.joinDialogueSpec) :=
  OpenClaim.holds_of_wide 4 Try.f4 rfl rfl rfl rfl rfl rfl rfl ⟨rfl, rfl, rfl, rfl, rfl⟩ rfl rfl rfl rfl rfl (by kernel_rfl) Try.func4 (by kernel_rfl)
    (of_decide_eq_true (by kernel_rfl)) (by unfold Func.isWrapper; first | (rw [if_pos (by decide +kernel)]; kernel_rfl) | (rw [if_neg (by decide +kernel)]; exact ⟨rfl, rfl⟩))
    (fun os started H enc _ => lifted4 os started H enc)

theorem proved4 : Rows.JoinDialogueSaid := over4
end Go.Proofs.Ythbfpaemiccjcaa.JoinOwn
