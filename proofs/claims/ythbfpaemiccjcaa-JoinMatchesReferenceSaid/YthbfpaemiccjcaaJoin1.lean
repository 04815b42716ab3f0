/- The join package: what its functions answer. -/
import Derived.Test.YthbfpaemiccjcaaProg
import Derived.Test.YthbfpaemiccjcaaSyU
namespace Go.Proofs.Ythbfpaemiccjcaa.JoinOwn
open Go Go.Sx
set_option maxRecDepth 100000
set_option maxHeartbeats 4000000
set_option linter.unusedVariables false
set_option linter.unusedSimpArgs false

theorem iteI {c : Prop} [Decidable c] {p q : Prop} (h1 : c → p) (h2 : ¬ c → q) : if c then p else q := by
  by_cases h : c
  · rw [if_pos h]; exact h1 h
  · rw [if_neg h]; exact h2 h
/-- A truth value, as a number. -/
theorem bK {R : Int → Prop} {K : SV → Mem → Prop} {E : Mem} (h : ∀ v, Hyp (R v) → K (B (v == 1)) E) {b : Bool} (h1 : b = true → R 1) (h0 : b = false → R 0) : K (B b) E := by
  cases b with
  | true => exact h 1 (h1 rfl)
  | false => exact h 0 (h0 rfl)
def VJ (p s n t r : Int) : Prop := 0 ≤ p ∧ p ≤ 3 ∧ 0 ≤ r ∧ r ≤ 255 ∧ 0 ≤ t ∧ t ≤ 1000000000 ∧ 0 ≤ n ∧ n ≤ 1000000000 ∧ -1 ≤ s ∧ s < 60
def FW (k x y m c : Int) : Prop := 0 ≤ x ∧ x < 60 ∧ 0 ≤ y ∧ y < 60 ∧ x ≠ y ∧ 0 ≤ m ∧ 0 ≤ c ∧ m ≤ 1000000000 ∧ c ≤ 1000000000 ∧ 1 ≤ k ∧ k ≤ 4
def ZW (k x y m c q f g : Int) : Prop := k = 0 ∧ x = 0 ∧ y = 0 ∧ m = 0 ∧ c = 0 ∧ q = 0 ∧ f = 0 ∧ g = 0
def EJ (p s n t r p' s' n' t' r' : Int) : Prop := p' = p ∧ s' = s ∧ n' = n ∧ t' = t ∧ r' = r
def AskOK (p s n t r me boot sp fr : Int) : Prop := VJ p s n t r ∧ 0 ≤ me ∧ me < 60 ∧ 0 ≤ sp ∧ sp < 60 ∧ me ≠ sp ∧ 0 ≤ boot ∧ boot ≤ 1000000 ∧ 0 ≤ fr ∧ fr ≤ 1000000000
def AskR (p s n t r me boot sp fr p' s' n' t' r' k x y m c q f g e : Int) : Prop :=
  (¬ AskOK p s n t r me boot sp fr ∧ e = 1 ∧ EJ 0 0 0 0 0 p' s' n' t' r' ∧ ZW k x y m c q f g) ∨
  (AskOK p s n t r me boot sp fr ∧ p ≠ 0 ∧ e = 6 ∧ EJ 0 0 0 0 0 p' s' n' t' r' ∧ ZW k x y m c q f g) ∨
  (AskOK p s n t r me boot sp fr ∧ p = 0 ∧ r = 255 ∧ e = 2 ∧ EJ 0 0 0 0 0 p' s' n' t' r' ∧ ZW k x y m c q f g) ∨
  (AskOK p s n t r me boot sp fr ∧ p = 0 ∧ r ≠ 255 ∧ e = 0 ∧ EJ 1 sp (256 * boot + r + 1) fr (r + 1) p' s' n' t' r' ∧ k = 1 ∧ x = me ∧ y = sp ∧ m = 256 * boot + r + 1 ∧ c = 0 ∧ q = 0 ∧ f = 0 ∧ g = 0)
def Meant (p s n t r me K X Y M C fr : Int) : Prop := VJ p s n t r ∧ FW K X Y M C ∧ 0 ≤ fr ∧ fr ≤ 1000000000 ∧ X = me ∧ Y = s ∧ M = n
def HearR (p s n t r me K X Y M C Q F G fr p' s' n' t' r' k x y m c q f g : Int) (v : Int) : Prop :=
  (Meant p s n t r me K X Y M C fr ∧ K = 2 ∧ (p = 1 ∨ p = 2) ∧ v = 1 ∧ EJ 2 s n t r p' s' n' t' r' ∧ k = 3 ∧ x = X ∧ y = Y ∧ m = M ∧ c = C ∧ q = me + 1000000 ∧ f = 0 ∧ g = 0) ∨
  (Meant p s n t r me K X Y M C fr ∧ K = 4 ∧ p = 2 ∧ Q = me + 1000000 ∧ v = 1 ∧ EJ 3 s n t r p' s' n' t' r' ∧ ZW k x y m c q f g) ∨
  (¬ (Meant p s n t r me K X Y M C fr ∧ (K = 2 ∧ (p = 1 ∨ p = 2) ∨ K = 4 ∧ p = 2 ∧ Q = me + 1000000)) ∧ v = 0 ∧ EJ p s n t r p' s' n' t' r' ∧ ZW k x y m c q f g)
def LateR (p s n t r fr p' s' n' t' r' : Int) : Prop :=
  (VJ p s n t r ∧ (p = 1 ∨ p = 2) ∧ t + 12 ≤ fr ∧ EJ 0 (-1) 0 0 r p' s' n' t' r') ∨
  (¬ (VJ p s n t r ∧ (p = 1 ∨ p = 2) ∧ t + 12 ≤ fr) ∧ EJ p s n t r p' s' n' t' r')
def JudgeOK (K X Y M C F G : Int) : Prop := FW K X Y M C ∧ 0 ≤ F ∧ F < G ∧ G ≤ 1000000000
def JudgeR (K X Y M C Q U V F G k x y m c q f g e : Int) : Prop :=
  (¬ JudgeOK K X Y M C F G ∧ e = 1 ∧ ZW k x y m c q f g) ∨
  (JudgeOK K X Y M C F G ∧ K ≠ 3 ∧ e = 9 ∧ ZW k x y m c q f g) ∨
  (JudgeOK K X Y M C F G ∧ K = 3 ∧ Q ≠ X + 1000000 ∧ e = 13 ∧ ZW k x y m c q f g) ∨
  (JudgeOK K X Y M C F G ∧ K = 3 ∧ Q = X + 1000000 ∧ e = 0 ∧ k = 4 ∧ x = X ∧ y = Y ∧ m = M ∧ c = 0 ∧ q = Q ∧ f = F ∧ g = G)

def OwnR (me o e : Int) : Prop := (0 ≤ me ∧ me < 60 ∧ o = me + 1000000 ∧ e = 0) ∨ (¬ (0 ≤ me ∧ me < 60) ∧ o = 0 ∧ e = 1)
def FWR (K X Y M C v : Int) : Prop := (v = 1 ∧ FW K X Y M C) ∨ (v = 0 ∧ ¬ FW K X Y M C)
def VJR (p s n t r v : Int) : Prop := (v = 1 ∧ VJ p s n t r) ∨ (v = 0 ∧ ¬ VJ p s n t r)

noncomputable def J9 : Cx := { P := Try.prog, inl := fun f => List.contains [23, 24, 28, 45] f, tab := fun _ _ _ _ => False, isB := fun _ => false, tabB := fun _ _ _ _ _ => False, opt := { unroll := 0, carry := [] }, muts := mutsD }
theorem okJ9 : CxOK J9 := CxOK.four (fun _ _ _ _ h => h.elim) (by kernel_rfl) (okInl (by kernel_rfl)) (fun _ _ _ _ _ h => h.elim)

variable {E : Mem} {K : SV → Mem → Prop}

theorem s26 {a1 : Int} (h : ∀ (o : Int) (e : Int), Hyp (OwnR a1 o e) → K (.tup [I o, I e]) E) :
    Ent J9 6 Try.f26 [I a1] E K := by
  refine same (by kernel_rfl) (?_ : 
      bif decide (a1 ≥ 0) then
        bif !bif true then decide (a1 < 60) else false then
          Mem.le E E ∧ Mem.le E E ∧ K (SV.tup [SV.raw (Value.int IntKind.i64 0), SV.raw (Value.int IntKind.i64 1)]) E
        else
          Mem.le E E ∧
            Mem.le E E ∧
              Mem.le E E ∧
                K
                  (SV.tup
                    [SV.raw (Value.int IntKind.i64 (IntKind.wrap IntKind.i64 (1000000 + a1))),
                      SV.raw (Value.int IntKind.i64 0)])
                  E
      else Mem.le E E ∧ Mem.le E E ∧ K (SV.tup [SV.raw (Value.int IntKind.i64 0), SV.raw (Value.int IntKind.i64 1)]) E)
  simp only [cond_true, cond_false, Bool.cond_eq_ite, Bool.false_eq_true, if_true, if_false, ite_true, ite_false, beq_iff_eq, bne_iff_ne, decide_eq_true_eq, decide_eq_false_iff_not, ne_eq, reduceCtorEq, beq_self_eq_true, bne_self_eq_false, Bool.true_eq_false, iff_true, true_iff, iff_false, false_iff, not_false_eq_true, not_true_eq_false, Bool.and_eq_true, Bool.or_eq_true, Bool.not_eq_true', Bool.and_true, Bool.true_and, Bool.and_false, Bool.false_and, Bool.or_true, Bool.true_or, Bool.or_false, Bool.false_or, Bool.not_true, Bool.not_false, beq_eq_false_iff_ne, Decidable.not_not, Mem.le_refl, true_and, and_true]
  repeat' (first | refine alike ?_ | refine iteI (fun _ => ?_) (fun _ => ?_) | intro _ | refine And.intro ?_ ?_ | fail)
  all_goals (refine h _ _ ?_; ((try clear h); (try simp only [Hyp, OwnR, FWR, VJR, AskR, HearR, LateR, JudgeR, AskOK, Meant, JudgeOK, VJ, FW, ZW, EJ] at *); first | done | grind (splits := 60) [wrap_i64]))

theorem s27 {a1 : Int} {a2 : Int} {a3 : Int} {a4 : Int} {a5 : Int} {a6 : Int} {a7 : Int} {a8 : Int} (h : ∀ (v : Int), Hyp (FWR a1 a2 a3 a4 a5 v) → K (B (v == 1)) E) :
    Ent J9 6 Try.f27 [.agg [I a1, I a2, I a3, I a4, I a5, I a6, I a7, I a8]] E K := by
  refine same (by kernel_rfl) (?_ : 
      bif decide (a2 ≥ 0) then
        Mem.le E E ∧
          bif bif true then decide (a2 < 60) else false then
            bif decide (a3 ≥ 0) then
              Mem.le E E ∧
                bif bif true then bif true then decide (a3 < 60) else false else false then
                  bif bif true then a2 != a3 else false then
                    bif bif true then decide ((if a5 < a4 then a5 else a4) ≥ 0) else false then
                      bif bif true then decide ((if a5 > a4 then a5 else a4) ≤ 1000000000) else false then
                        bif bif true then decide (a1 ≥ 1) else false then
                          Mem.le E E ∧ K (SV.raw (Value.bool (bif true then decide (a1 ≤ 4) else false))) E
                        else Mem.le E E ∧ K (SV.raw (Value.bool false)) E
                      else Mem.le E E ∧ K (SV.raw (Value.bool false)) E
                    else Mem.le E E ∧ K (SV.raw (Value.bool false)) E
                  else Mem.le E E ∧ K (SV.raw (Value.bool false)) E
                else Mem.le E E ∧ K (SV.raw (Value.bool false)) E
            else Mem.le E E ∧ Mem.le E E ∧ K (SV.raw (Value.bool false)) E
          else Mem.le E E ∧ K (SV.raw (Value.bool false)) E
      else Mem.le E E ∧ Mem.le E E ∧ K (SV.raw (Value.bool false)) E)
  simp only [cond_true, cond_false, Bool.cond_eq_ite, Bool.false_eq_true, if_true, if_false, ite_true, ite_false, beq_iff_eq, bne_iff_ne, decide_eq_true_eq, decide_eq_false_iff_not, ne_eq, reduceCtorEq, beq_self_eq_true, bne_self_eq_false, Bool.true_eq_false, iff_true, true_iff, iff_false, false_iff, not_false_eq_true, not_true_eq_false, Bool.and_eq_true, Bool.or_eq_true, Bool.not_eq_true', Bool.and_true, Bool.true_and, Bool.and_false, Bool.false_and, Bool.or_true, Bool.true_or, Bool.or_false, Bool.false_or, Bool.not_true, Bool.not_false, beq_eq_false_iff_ne, Decidable.not_not, Mem.le_refl, true_and, and_true]
  repeat' (first | refine alike ?_ | refine iteI (fun _ => ?_) (fun _ => ?_) | intro _ | refine And.intro ?_ ?_ | fail)
  all_goals refine bK h ?_ ?_
  all_goals (intro hb; (try simp only [cond_true, cond_false, Bool.cond_eq_ite, Bool.false_eq_true, if_true, if_false, ite_true, ite_false, beq_iff_eq, bne_iff_ne, decide_eq_true_eq, decide_eq_false_iff_not, ne_eq, reduceCtorEq, beq_self_eq_true, bne_self_eq_false, Bool.true_eq_false, iff_true, true_iff, iff_false, false_iff, not_false_eq_true, not_true_eq_false, Bool.and_eq_true, Bool.or_eq_true, Bool.not_eq_true', Bool.and_true, Bool.true_and, Bool.and_false, Bool.false_and, Bool.or_true, Bool.true_or, Bool.or_false, Bool.false_or, Bool.not_true, Bool.not_false, beq_eq_false_iff_ne, Decidable.not_not, Mem.le_refl, true_and, and_true] at hb); ((try clear h); (try simp only [Hyp, OwnR, FWR, VJR, AskR, HearR, LateR, JudgeR, AskOK, Meant, JudgeOK, VJ, FW, ZW, EJ] at *); first | done | grind (splits := 60) [wrap_i64]))

theorem s21 {a1 : Int} {a2 : Int} {a3 : Int} {a4 : Int} {a5 : Int} {a6 : Int} {a7 : Int} {a8 : Int} (h : ∀ (v : Int), Hyp (FWR a1 a2 a3 a4 a5 v) → K (B (v == 1)) E) :
    Ent J9 6 Try.f21 [.agg [I a1, I a2, I a3, I a4, I a5, I a6, I a7, I a8]] E K := by
  refine same (by kernel_rfl) (?_ : 
      bif decide (a2 ≥ 0) then
        Mem.le E E ∧
          bif bif true then decide (a2 < 60) else false then
            bif decide (a3 ≥ 0) then
              Mem.le E E ∧
                bif bif true then bif true then decide (a3 < 60) else false else false then
                  bif bif true then a2 != a3 else false then
                    bif bif true then decide (a4 ≥ 0) else false then
                      bif bif true then decide (a4 ≤ 1000000000) else false then
                        bif bif true then decide (a5 ≥ 0) else false then
                          bif bif true then decide (a5 ≤ 1000000000) else false then
                            bif bif true then decide (a1 ≥ 1) else false then
                              Mem.le E E ∧ K (SV.raw (Value.bool (bif true then decide (a1 ≤ 4) else false))) E
                            else Mem.le E E ∧ K (SV.raw (Value.bool false)) E
                          else Mem.le E E ∧ K (SV.raw (Value.bool false)) E
                        else Mem.le E E ∧ K (SV.raw (Value.bool false)) E
                      else Mem.le E E ∧ K (SV.raw (Value.bool false)) E
                    else Mem.le E E ∧ K (SV.raw (Value.bool false)) E
                  else Mem.le E E ∧ K (SV.raw (Value.bool false)) E
                else Mem.le E E ∧ K (SV.raw (Value.bool false)) E
            else Mem.le E E ∧ Mem.le E E ∧ K (SV.raw (Value.bool false)) E
          else Mem.le E E ∧ K (SV.raw (Value.bool false)) E
      else Mem.le E E ∧ Mem.le E E ∧ K (SV.raw (Value.bool false)) E)
  simp only [cond_true, cond_false, Bool.cond_eq_ite, Bool.false_eq_true, if_true, if_false, ite_true, ite_false, beq_iff_eq, bne_iff_ne, decide_eq_true_eq, decide_eq_false_iff_not, ne_eq, reduceCtorEq, beq_self_eq_true, bne_self_eq_false, Bool.true_eq_false, iff_true, true_iff, iff_false, false_iff, not_false_eq_true, not_true_eq_false, Bool.and_eq_true, Bool.or_eq_true, Bool.not_eq_true', Bool.and_true, Bool.true_and, Bool.and_false, Bool.false_and, Bool.or_true, Bool.true_or, Bool.or_false, Bool.false_or, Bool.not_true, Bool.not_false, beq_eq_false_iff_ne, Decidable.not_not, Mem.le_refl, true_and, and_true]
  repeat' (first | refine alike ?_ | refine iteI (fun _ => ?_) (fun _ => ?_) | intro _ | refine And.intro ?_ ?_ | fail)
  all_goals refine bK h ?_ ?_
  all_goals (intro hb; (try simp only [cond_true, cond_false, Bool.cond_eq_ite, Bool.false_eq_true, if_true, if_false, ite_true, ite_false, beq_iff_eq, bne_iff_ne, decide_eq_true_eq, decide_eq_false_iff_not, ne_eq, reduceCtorEq, beq_self_eq_true, bne_self_eq_false, Bool.true_eq_false, iff_true, true_iff, iff_false, false_iff, not_false_eq_true, not_true_eq_false, Bool.and_eq_true, Bool.or_eq_true, Bool.not_eq_true', Bool.and_true, Bool.true_and, Bool.and_false, Bool.false_and, Bool.or_true, Bool.true_or, Bool.or_false, Bool.false_or, Bool.not_true, Bool.not_false, beq_eq_false_iff_ne, Decidable.not_not, Mem.le_refl, true_and, and_true] at hb); ((try clear h); (try simp only [Hyp, OwnR, FWR, VJR, AskR, HearR, LateR, JudgeR, AskOK, Meant, JudgeOK, VJ, FW, ZW, EJ] at *); first | done | grind (splits := 60) [wrap_i64]))

theorem s19 {a1 : Int} {a2 : Int} {a3 : Int} {a4 : Int} {a5 : Int} (h : ∀ (v : Int), Hyp (VJR a1 a2 a3 a4 a5 v) → K (B (v == 1)) E) :
    Ent J9 6 Try.f19 [.agg [I a1, I a2, I a3, I a4, I a5]] E K := by
  refine same (by kernel_rfl) (?_ : 
      bif decide (a1 ≥ 0) then
        bif bif true then decide (a1 ≤ 3) else false then
          bif bif true then decide (a5 ≥ 0) else false then
            bif bif true then decide (a5 ≤ 255) else false then
              bif bif true then decide (a4 ≥ 0) else false then
                bif bif true then decide (a4 ≤ 1000000000) else false then
                  bif bif true then decide (a3 ≥ 0) else false then
                    bif bif true then decide (a3 ≤ 1000000000) else false then
                      bif a2 == -1 then Mem.le E E ∧ K (SV.raw (Value.bool true)) E
                      else
                        bif decide (a2 ≥ 0) then
                          Mem.le E E ∧
                            Mem.le E E ∧
                              K
                                (SV.raw
                                  (Value.bool
                                    (bif true then bif false then true else bif true then decide (a2 < 60) else false
                                    else false)))
                                E
                        else Mem.le E E ∧ Mem.le E E ∧ K (SV.raw (Value.bool false)) E
                    else Mem.le E E ∧ K (SV.raw (Value.bool false)) E
                  else Mem.le E E ∧ K (SV.raw (Value.bool false)) E
                else Mem.le E E ∧ K (SV.raw (Value.bool false)) E
              else Mem.le E E ∧ K (SV.raw (Value.bool false)) E
            else Mem.le E E ∧ K (SV.raw (Value.bool false)) E
          else Mem.le E E ∧ K (SV.raw (Value.bool false)) E
        else Mem.le E E ∧ K (SV.raw (Value.bool false)) E
      else Mem.le E E ∧ K (SV.raw (Value.bool false)) E)
  simp only [cond_true, cond_false, Bool.cond_eq_ite, Bool.false_eq_true, if_true, if_false, ite_true, ite_false, beq_iff_eq, bne_iff_ne, decide_eq_true_eq, decide_eq_false_iff_not, ne_eq, reduceCtorEq, beq_self_eq_true, bne_self_eq_false, Bool.true_eq_false, iff_true, true_iff, iff_false, false_iff, not_false_eq_true, not_true_eq_false, Bool.and_eq_true, Bool.or_eq_true, Bool.not_eq_true', Bool.and_true, Bool.true_and, Bool.and_false, Bool.false_and, Bool.or_true, Bool.true_or, Bool.or_false, Bool.false_or, Bool.not_true, Bool.not_false, beq_eq_false_iff_ne, Decidable.not_not, Mem.le_refl, true_and, and_true]
  repeat' (first | refine alike ?_ | refine iteI (fun _ => ?_) (fun _ => ?_) | intro _ | refine And.intro ?_ ?_ | fail)
  all_goals refine bK h ?_ ?_
  all_goals (intro hb; (try simp only [cond_true, cond_false, Bool.cond_eq_ite, Bool.false_eq_true, if_true, if_false, ite_true, ite_false, beq_iff_eq, bne_iff_ne, decide_eq_true_eq, decide_eq_false_iff_not, ne_eq, reduceCtorEq, beq_self_eq_true, bne_self_eq_false, Bool.true_eq_false, iff_true, true_iff, iff_false, false_iff, not_false_eq_true, not_true_eq_false, Bool.and_eq_true, Bool.or_eq_true, Bool.not_eq_true', Bool.and_true, Bool.true_and, Bool.and_false, Bool.false_and, Bool.or_true, Bool.true_or, Bool.or_false, Bool.false_or, Bool.not_true, Bool.not_false, beq_eq_false_iff_ne, Decidable.not_not, Mem.le_refl, true_and, and_true] at hb); ((try clear h); (try simp only [Hyp, OwnR, FWR, VJR, AskR, HearR, LateR, JudgeR, AskOK, Meant, JudgeOK, VJ, FW, ZW, EJ] at *); first | done | grind (splits := 60) [wrap_i64]))

noncomputable def tab9 : FuncId → List SV → Mem → (SV → Mem → Prop) → Prop := fun f args E K => match f with
  | 26 => d1 args fun x0 => dI x0 fun a1 => (∀ (o : Int) (e : Int), Hyp (OwnR a1 o e) → K (.tup [I o, I e]) E)
  | 27 => d1 args fun x0 => dC x0 fun l1 => d8 l1 fun x0_0 x0_1 x0_2 x0_3 x0_4 x0_5 x0_6 x0_7 => dI x0_0 fun a1 => dI x0_1 fun a2 => dI x0_2 fun a3 => dI x0_3 fun a4 => dI x0_4 fun a5 => dI x0_5 fun a6 => dI x0_6 fun a7 => dI x0_7 fun a8 => (∀ (v : Int), Hyp (FWR a1 a2 a3 a4 a5 v) → K (B (v == 1)) E)
  | 21 => d1 args fun x0 => dC x0 fun l1 => d8 l1 fun x0_0 x0_1 x0_2 x0_3 x0_4 x0_5 x0_6 x0_7 => dI x0_0 fun a1 => dI x0_1 fun a2 => dI x0_2 fun a3 => dI x0_3 fun a4 => dI x0_4 fun a5 => dI x0_5 fun a6 => dI x0_6 fun a7 => dI x0_7 fun a8 => (∀ (v : Int), Hyp (FWR a1 a2 a3 a4 a5 v) → K (B (v == 1)) E)
  | 19 => d1 args fun x0 => dC x0 fun l1 => d5 l1 fun x0_0 x0_1 x0_2 x0_3 x0_4 => dI x0_0 fun a1 => dI x0_1 fun a2 => dI x0_2 fun a3 => dI x0_3 fun a4 => dI x0_4 fun a5 => (∀ (v : Int), Hyp (VJR a1 a2 a3 a4 a5 v) → K (B (v == 1)) E)
  | _ => False
theorem tab9_ok : TabOK Try.prog tab9 := by
  intro f args E K h
  unfold tab9 at h
  split at h
  · obtain ⟨x0, rfl, h⟩ := d1_elim h
    obtain ⟨a1, rfl, h⟩ := dI_elim h
    exact TabSem.congr (valL_cons rfl rfl) (Ent.sem okJ9 Try.func26 ⟨by kernel_rfl, by kernel_rfl⟩ rfl (s26 h))
  · obtain ⟨x0, rfl, h⟩ := d1_elim h
    obtain ⟨l1, hl1, h⟩ := dC_elim h
    obtain ⟨x0_0, x0_1, x0_2, x0_3, x0_4, x0_5, x0_6, x0_7, rfl, h⟩ := d8_elim h
    obtain ⟨a1, rfl, h⟩ := dI_elim h
    obtain ⟨a2, rfl, h⟩ := dI_elim h
    obtain ⟨a3, rfl, h⟩ := dI_elim h
    obtain ⟨a4, rfl, h⟩ := dI_elim h
    obtain ⟨a5, rfl, h⟩ := dI_elim h
    obtain ⟨a6, rfl, h⟩ := dI_elim h
    obtain ⟨a7, rfl, h⟩ := dI_elim h
    obtain ⟨a8, rfl, h⟩ := dI_elim h
    exact TabSem.congr (valL_cons (asCells_val hl1) rfl) (Ent.sem okJ9 Try.func27 ⟨by kernel_rfl, by kernel_rfl⟩ rfl (s27 h))
  · obtain ⟨x0, rfl, h⟩ := d1_elim h
    obtain ⟨l1, hl1, h⟩ := dC_elim h
    obtain ⟨x0_0, x0_1, x0_2, x0_3, x0_4, x0_5, x0_6, x0_7, rfl, h⟩ := d8_elim h
    obtain ⟨a1, rfl, h⟩ := dI_elim h
    obtain ⟨a2, rfl, h⟩ := dI_elim h
    obtain ⟨a3, rfl, h⟩ := dI_elim h
    obtain ⟨a4, rfl, h⟩ := dI_elim h
    obtain ⟨a5, rfl, h⟩ := dI_elim h
    obtain ⟨a6, rfl, h⟩ := dI_elim h
    obtain ⟨a7, rfl, h⟩ := dI_elim h
    obtain ⟨a8, rfl, h⟩ := dI_elim h
    exact TabSem.congr (valL_cons (asCells_val hl1) rfl) (Ent.sem okJ9 Try.func21 ⟨by kernel_rfl, by kernel_rfl⟩ rfl (s21 h))
  · obtain ⟨x0, rfl, h⟩ := d1_elim h
    obtain ⟨l1, hl1, h⟩ := dC_elim h
    obtain ⟨x0_0, x0_1, x0_2, x0_3, x0_4, rfl, h⟩ := d5_elim h
    obtain ⟨a1, rfl, h⟩ := dI_elim h
    obtain ⟨a2, rfl, h⟩ := dI_elim h
    obtain ⟨a3, rfl, h⟩ := dI_elim h
    obtain ⟨a4, rfl, h⟩ := dI_elim h
    obtain ⟨a5, rfl, h⟩ := dI_elim h
    exact TabSem.congr (valL_cons (asCells_val hl1) rfl) (Ent.sem okJ9 Try.func19 ⟨by kernel_rfl, by kernel_rfl⟩ rfl (s19 h))
  · exact h.elim
noncomputable def J0 : Cx := { P := Try.prog, inl := fun f => List.contains [20, 22, 23, 24, 25] f, tab := tab9, isB := fun _ => false, tabB := fun _ _ _ _ _ => False, opt := { unroll := 0, carry := [] }, muts := mutsD }
theorem okJ0 : CxOK J0 := CxOK.four (tab9_ok) (by kernel_rfl) (okInl (by kernel_rfl)) (fun _ _ _ _ _ h => h.elim)

end Go.Proofs.Ythbfpaemiccjcaa.JoinOwn
