/- The law JoinJudges. -/
import Derived.Test.YthbfpaemiccjcaaJoin7
import Derived.Test.YthbfpaemiccjcaaRows
namespace Go.Proofs.Ythbfpaemiccjcaa.JoinOwn
open Go Go.Sx Go.Proofs.Ythbfpaemiccjcaa
set_option maxRecDepth 100000
set_option maxHeartbeats 4000000
set_option linter.unusedVariables false
set_option linter.unusedSimpArgs false
variable {E : Mem} {K : SV → Mem → Prop}

theorem e9 {a1 : Int} {a2 : Int} {a3 : Int} {a4 : Int} {a5 : Int} {a6 : Int} {a7 : Int} {a8 : Int} {a9 : Int} {a10 : Int} (ha1 : (Lit.int .i64 a1).wf = true) (ha2 : (Lit.int .i64 a2).wf = true) (ha3 : (Lit.int .i64 a3).wf = true) (ha4 : (Lit.int .i64 a4).wf = true) (ha5 : (Lit.int .i64 a5).wf = true) (ha6 : (Lit.int .i64 a6).wf = true) (ha7 : (Lit.int .i64 a7).wf = true) (ha8 : (Lit.int .i64 a8).wf = true) (ha9 : (Lit.int .i64 a9).wf = true) (ha10 : (Lit.int .i64 a10).wf = true) (h : K (B true) E) :
    Ent JM 10 Try.f9 [.agg [I a1, I a2, I a3, I a4, I a5, I a6, I a7, I a8], .agg [I a9, I a10]] E K := by
  have leafT : ∀ (b : Bool), b = true → K (B b) E := fun b hb => by rw [hb]; exact h
  refine same (by kernel_rfl) (?_ : 
      Mem.le E E ∧
        bif decide (a2 ≥ 0) then
          Mem.le E E ∧
            bif bif true then decide (a2 < 60) else false then
              bif decide (a3 ≥ 0) then
                Mem.le E E ∧
                  bif bif true then bif true then decide (a3 < 60) else false else false then
                    bif bif true then a2 != a3 else false then
                      bif bif true then decide (a4 ≥ 0) else false then
                        bif bif true then decide (a4 ≤ 1000000000) else false then
                          bif bif true then decide (a5 ≥ 0) else false then
                            bif bif true then decide (a5 ≤ 1000000000) else false then
                              bif bif true then decide (a1 ≥ 1) else false then
                                Mem.le E E ∧
                                  bif !bif true then decide (a1 ≤ 4) else false then
                                    Mem.le E E ∧ K (SV.raw (Value.bool true)) E
                                  else
                                    bif bif false then true else a1 != 3 then Mem.le E E ∧ K (SV.raw (Value.bool true)) E
                                    else
                                      bif bif false then true else decide (a9 < 0) then
                                        Mem.le E E ∧ K (SV.raw (Value.bool true)) E
                                      else
                                        bif bif false then true else decide (a9 ≥ a10) then
                                          Mem.le E E ∧ K (SV.raw (Value.bool true)) E
                                        else
                                          bif bif false then true else decide (a10 > 1000000000) then
                                            Mem.le E E ∧ K (SV.raw (Value.bool true)) E
                                          else
                                            ∀ (k x y m c q f g e : Int),
                                              Hyp (JudgeR a1 a2 a3 a4 a5 a6 a7 a8 a9 a10 k x y m c q f g e) →
                                                Mem.le E E ∧
                                                  bif a6 != IntKind.wrap IntKind.i64 (1000000 + a2) then
                                                    bif bif true then e == 13 else false then
                                                      Mem.le E E ∧
                                                        K
                                                          (SV.raw
                                                            (Value.bool
                                                              (bif true then
                                                                k == 0 &&
                                                                  (x == 0 &&
                                                                    (y == 0 &&
                                                                      (m == 0 &&
                                                                        (c == 0 &&
                                                                          (q == 0 && (f == 0 && (g == 0 && true) && true))))))
                                                              else false)))
                                                          E
                                                    else Mem.le E E ∧ K (SV.raw (Value.bool false)) E
                                                  else
                                                    bif bif true then e == 0 else false then
                                                      bif decide (x ≥ 0) then
                                                        Mem.le E E ∧
                                                          bif bif true then decide (x < 60) else false then
                                                            bif decide (y ≥ 0) then
                                                              Mem.le E E ∧
                                                                bif
                                                                    bif true then bif true then decide (y < 60) else false
                                                                    else false then
                                                                  bif bif true then x != y else false then
                                                                    bif bif true then decide (m ≥ 0) else false then
                                                                      bif
                                                                          bif true then decide (m ≤ 1000000000)
                                                                          else false then
                                                                        bif bif true then decide (c ≥ 0) else false then
                                                                          bif
                                                                              bif true then decide (c ≤ 1000000000)
                                                                              else false then
                                                                            bif bif true then decide (k ≥ 1) else false then
                                                                              Mem.le E E ∧
                                                                                bif
                                                                                    bif true then
                                                                                      bif true then decide (k ≤ 4) else false
                                                                                    else false then
                                                                                  Mem.le E E ∧
                                                                                    K
                                                                                      (SV.raw
                                                                                        (Value.bool
                                                                                          (bif true then
                                                                                            k == 4 &&
                                                                                              (x == a2 &&
                                                                                                (y == a3 &&
                                                                                                  (m == a4 &&
                                                                                                    (c == 0 &&
                                                                                                      (q == a6 &&
                                                                                                        (f == a9 &&
                                                                                                            (g == a10 &&
                                                                                                              true) &&
                                                                                                          true))))))
                                                                                          else false)))
                                                                                      E
                                                                                else
                                                                                  Mem.le E E ∧ K (SV.raw (Value.bool false)) E
                                                                            else
                                                                              Mem.le E E ∧
                                                                                Mem.le E E ∧ K (SV.raw (Value.bool false)) E
                                                                          else
                                                                            Mem.le E E ∧
                                                                              Mem.le E E ∧ K (SV.raw (Value.bool false)) E
                                                                        else
                                                                          Mem.le E E ∧
                                                                            Mem.le E E ∧ K (SV.raw (Value.bool false)) E
                                                                      else
                                                                        Mem.le E E ∧
                                                                          Mem.le E E ∧ K (SV.raw (Value.bool false)) E
                                                                    else
                                                                      Mem.le E E ∧
                                                                        Mem.le E E ∧ K (SV.raw (Value.bool false)) E
                                                                  else
                                                                    Mem.le E E ∧ Mem.le E E ∧ K (SV.raw (Value.bool false)) E
                                                                else Mem.le E E ∧ Mem.le E E ∧ K (SV.raw (Value.bool false)) E
                                                            else
                                                              Mem.le E E ∧
                                                                Mem.le E E ∧ Mem.le E E ∧ K (SV.raw (Value.bool false)) E
                                                          else Mem.le E E ∧ Mem.le E E ∧ K (SV.raw (Value.bool false)) E
                                                      else
                                                        Mem.le E E ∧ Mem.le E E ∧ Mem.le E E ∧ K (SV.raw (Value.bool false)) E
                                                    else Mem.le E E ∧ K (SV.raw (Value.bool false)) E
                              else Mem.le E E ∧ Mem.le E E ∧ K (SV.raw (Value.bool true)) E
                            else Mem.le E E ∧ Mem.le E E ∧ K (SV.raw (Value.bool true)) E
                          else Mem.le E E ∧ Mem.le E E ∧ K (SV.raw (Value.bool true)) E
                        else Mem.le E E ∧ Mem.le E E ∧ K (SV.raw (Value.bool true)) E
                      else Mem.le E E ∧ Mem.le E E ∧ K (SV.raw (Value.bool true)) E
                    else Mem.le E E ∧ Mem.le E E ∧ K (SV.raw (Value.bool true)) E
                  else Mem.le E E ∧ Mem.le E E ∧ K (SV.raw (Value.bool true)) E
              else Mem.le E E ∧ Mem.le E E ∧ Mem.le E E ∧ K (SV.raw (Value.bool true)) E
            else Mem.le E E ∧ Mem.le E E ∧ K (SV.raw (Value.bool true)) E
        else Mem.le E E ∧ Mem.le E E ∧ Mem.le E E ∧ K (SV.raw (Value.bool true)) E)
  simp only [cond_true, cond_false, Bool.cond_eq_ite, Bool.false_eq_true, if_true, if_false, ite_true, ite_false, beq_iff_eq, bne_iff_ne, decide_eq_true_eq, decide_eq_false_iff_not, ne_eq, reduceCtorEq, beq_self_eq_true, bne_self_eq_false, Bool.true_eq_false, iff_true, true_iff, iff_false, false_iff, not_false_eq_true, not_true_eq_false, Bool.and_eq_true, Bool.or_eq_true, Bool.not_eq_true', Bool.and_true, Bool.true_and, Bool.and_false, Bool.false_and, Bool.or_true, Bool.true_or, Bool.or_false, Bool.false_or, Bool.not_true, Bool.not_false, beq_eq_false_iff_ne, Decidable.not_not, Mem.le_refl, true_and, and_true]
  repeat' (first | refine alike ?_ | refine iteI (fun _ => ?_) (fun _ => ?_) | intro _ | refine And.intro ?_ ?_ | fail)
  all_goals first
    | exact Mem.le_refl _
    | exact h
    | (refine leafT _ ?_; clear h leafT; (try simp only [cond_true, cond_false, Bool.cond_eq_ite, Bool.false_eq_true, if_true, if_false, ite_true, ite_false, beq_iff_eq, bne_iff_ne, decide_eq_true_eq, decide_eq_false_iff_not, ne_eq, reduceCtorEq, beq_self_eq_true, bne_self_eq_false, Bool.true_eq_false, iff_true, true_iff, iff_false, false_iff, not_false_eq_true, not_true_eq_false, Bool.and_eq_true, Bool.or_eq_true, Bool.not_eq_true', Bool.and_true, Bool.true_and, Bool.and_false, Bool.false_and, Bool.or_true, Bool.true_or, Bool.or_false, Bool.false_or, Bool.not_true, Bool.not_false, beq_eq_false_iff_ne, Decidable.not_not, Mem.le_refl, true_and, and_true]); ((try simp only [Hyp, OwnR, FWR, VJR, AskR, HearR, LateR, JudgeR, AskOK, Meant, JudgeOK, VJ, FW, ZW, EJ] at *); grind (splits := 60) [wrap_i64]))


theorem opn9 (W : World) (K : List SV → Prop) (h : ∀ a1 : Int, (Lit.int .i64 a1).wf = true → ∀ a2 : Int, (Lit.int .i64 a2).wf = true → ∀ a3 : Int, (Lit.int .i64 a3).wf = true → ∀ a4 : Int, (Lit.int .i64 a4).wf = true → ∀ a5 : Int, (Lit.int .i64 a5).wf = true → ∀ a6 : Int, (Lit.int .i64 a6).wf = true → ∀ a7 : Int, (Lit.int .i64 a7).wf = true → ∀ a8 : Int, (Lit.int .i64 a8).wf = true → ∀ a9 : Int, (Lit.int .i64 a9).wf = true → ∀ a10 : Int, (Lit.int .i64 a10).wf = true → K [.agg [I a1, I a2, I a3, I a4, I a5, I a6, I a7, I a8], .agg [I a9, I a10]]) : opnAll Try.prog W Try.f9.params.toList K :=
  same (by kernel_rfl) h

theorem sem9 (W : World) : opnAll Try.prog W Try.f9.params.toList fun ss => TabSem Try.prog 9 ss (fun v cs => RowAt W v cs) fun r _ => r = .raw (.bool true) := by
  refine opn9 W _ ?_
  intro a1 ha1 a2 ha2 a3 ha3 a4 ha4 a5 ha5 a6 ha6 a7 ha7 a8 ha8 a9 ha9 a10 ha10
  exact Ent.sem okJM Try.func9 ⟨by kernel_rfl, by kernel_rfl⟩ rfl (e9 ha1 ha2 ha3 ha4 ha5 ha6 ha7 ha8 ha9 ha10 rfl)

theorem lifted9 (os : Os) (started : os.Started) (H : Type) (enc : TypeId × Value → H) :
    ReturnsInHanded {} Try.checked os 9 .any (Rows.joinJudgesSpec.pre6 enc Try.prog Try.f9 Rows.joinJudgesRow.domain false) (Rows.joinJudgesSpec.post enc Try.prog Try.f9 false true false false) :=
  lift_true (C := Try.checked) (by kernel_rfl) (by kernel_rfl) started (by kernel_rfl) Try.func9
    (ChangeSpec.witness6 (enc := enc) (C := Try.checked) false ⟨#[], #[.agg #[.int .i64 0, .int .i64 0, .int .i64 0, .int .i64 0, .int .i64 0, .int .i64 0, .int .i64 0, .int .i64 0], .agg #[.int .i64 0, .int .i64 0]], []⟩ 8 (by kernel_rfl) (by kernel_rfl) (by kernel_rfl) (by kernel_rfl))
    (Tb := 4) (by kernel_rfl) (by kernel_rfl) (by kernel_rfl) rfl
    (fun ds hl => by
      match ds, hl with
      | [d0, d1], _ => exact ⟨rfl, rfl, rfl⟩)
    sem9

theorem over9 : Rows.joinJudgesRow.holds Try.pinned (OpenSpec.ofChange Rows.joinJudgesSpec) :=
  OpenClaim.holds_of_wide 9 Try.f9 rfl rfl rfl rfl rfl rfl rfl ⟨rfl, rfl, rfl, rfl, rfl⟩ rfl rfl rfl rfl rfl (by kernel_rfl) Try.func9 (by kernel_rfl)
    (of_decide_eq_true (by kernel_rfl)) (by unfold Func.isWrapper; first | (rw [if_pos (by decide +kernel)]; kernel_rfl) | (rw [if_neg (by decide +kernel)]; exact ⟨rfl, rfl⟩))
    (fun os started H enc _ => lifted9 os started H enc)

theorem proved9 : Rows.JoinJudgesSaid := over9
end Go.Proofs.Ythbfpaemiccjcaa.JoinOwn
