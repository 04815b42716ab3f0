/- The join package: what its functions answer. -/
import Derived.Test.YthbfpaemiccjcaaJoin5
namespace Go.Proofs.Ythbfpaemiccjcaa.JoinOwn
open Go Go.Sx
set_option maxRecDepth 100000
set_option maxHeartbeats 4000000
set_option linter.unusedVariables false
set_option linter.unusedSimpArgs false
variable {E : Mem} {K : SV → Mem → Prop}
theorem ask_go {p s n t r me boot sp fr p' s' n' t' r' k x y m c q f g e : Int} (h : Hyp (AskR p s n t r me boot sp fr p' s' n' t' r' k x y m c q f g e)) (h1 : AskOK p s n t r me boot sp fr) (h2 : p = 0) (h3 : r ≠ 255) :
    p' = 1 ∧ s' = sp ∧ n' = 256 * boot + r + 1 ∧ t' = fr ∧ r' = r + 1 ∧ k = 1 ∧ x = me ∧ y = sp ∧ m = 256 * boot + r + 1 ∧ c = 0 ∧ q = 0 ∧ f = 0 ∧ g = 0 ∧ e = 0 := by
  simp only [Hyp, AskR, EJ, ZW] at h
  grind (splits := 30)
theorem ask_ok {p s n t r me boot sp fr p' s' n' t' r' k x y m c q f g e : Int} (h : Hyp (AskR p s n t r me boot sp fr p' s' n' t' r' k x y m c q f g e)) (h1 : e = 0) :
    AskOK p s n t r me boot sp fr ∧ p = 0 ∧ r ≠ 255 ∧ p' = 1 ∧ s' = sp ∧ n' = 256 * boot + r + 1 ∧ t' = fr ∧ r' = r + 1 ∧ k = 1 ∧ x = me ∧ y = sp ∧ m = 256 * boot + r + 1 ∧ c = 0 ∧ q = 0 ∧ f = 0 ∧ g = 0 := by
  simp only [Hyp, AskR, EJ, ZW] at h
  grind (splits := 30)
theorem ask_busy {p s n t r me boot sp fr p' s' n' t' r' k x y m c q f g e : Int} (h : Hyp (AskR p s n t r me boot sp fr p' s' n' t' r' k x y m c q f g e)) (h1 : AskOK p s n t r me boot sp fr) (h2 : p ≠ 0) :
    p' = 0 ∧ s' = 0 ∧ n' = 0 ∧ t' = 0 ∧ r' = 0 ∧ k = 0 ∧ x = 0 ∧ y = 0 ∧ m = 0 ∧ c = 0 ∧ q = 0 ∧ f = 0 ∧ g = 0 ∧ e = 6 := by
  simp only [Hyp, AskR, EJ, ZW] at h
  grind (splits := 30)
theorem condC {c : Bool} {p q : Prop} (h1 : c = true → p) (h0 : c = false → q) : bif c then p else q := by cases c; exact h0 rfl; exact h1 rfl
theorem ask_e {p s n t r me boot sp fr p' s' n' t' r' k x y m c q f g e : Int} (h : Hyp (AskR p s n t r me boot sp fr p' s' n' t' r' k x y m c q f g e))  :
    (¬ AskOK p s n t r me boot sp fr ∧ e = 1) ∨ (AskOK p s n t r me boot sp fr ∧ p ≠ 0 ∧ e = 6) ∨ (AskOK p s n t r me boot sp fr ∧ p = 0 ∧ r = 255 ∧ e = 2) ∨ (AskOK p s n t r me boot sp fr ∧ p = 0 ∧ r ≠ 255 ∧ e = 0) := by
  simp only [Hyp, AskR, EJ, ZW] at h
  grind (splits := 30)
theorem hear_two {p s n t r me K X Y M C Q F G fr p' s' n' t' r' k x y m c q f g v : Int} (h : Hyp (HearR p s n t r me K X Y M C Q F G fr p' s' n' t' r' k x y m c q f g v)) (h1 : Meant p s n t r me K X Y M C fr) (h2 : K = 2) (h3 : p = 1 ∨ p = 2) :
    p' = 2 ∧ s' = s ∧ n' = n ∧ t' = t ∧ r' = r ∧ k = 3 ∧ x = X ∧ y = Y ∧ m = M ∧ c = C ∧ q = me + 1000000 ∧ f = 0 ∧ g = 0 ∧ v = 1 := by
  simp only [Hyp, HearR, EJ, ZW] at h
  grind (splits := 30)
theorem hear_four {p s n t r me K X Y M C Q F G fr p' s' n' t' r' k x y m c q f g v : Int} (h : Hyp (HearR p s n t r me K X Y M C Q F G fr p' s' n' t' r' k x y m c q f g v)) (h1 : Meant p s n t r me K X Y M C fr) (h2 : K = 4) (h3 : p = 2) (h4 : Q = me + 1000000) :
    p' = 3 ∧ s' = s ∧ n' = n ∧ t' = t ∧ r' = r ∧ k = 0 ∧ x = 0 ∧ y = 0 ∧ m = 0 ∧ c = 0 ∧ q = 0 ∧ f = 0 ∧ g = 0 ∧ v = 1 := by
  simp only [Hyp, HearR, EJ, ZW] at h
  grind (splits := 30)
theorem hear_no {p s n t r me K X Y M C Q F G fr p' s' n' t' r' k x y m c q f g v : Int} (h : Hyp (HearR p s n t r me K X Y M C Q F G fr p' s' n' t' r' k x y m c q f g v)) (h1 : ¬ (Meant p s n t r me K X Y M C fr ∧ (K = 2 ∧ (p = 1 ∨ p = 2) ∨ K = 4 ∧ p = 2 ∧ Q = me + 1000000))) :
    p' = p ∧ s' = s ∧ n' = n ∧ t' = t ∧ r' = r ∧ k = 0 ∧ x = 0 ∧ y = 0 ∧ m = 0 ∧ c = 0 ∧ q = 0 ∧ f = 0 ∧ g = 0 ∧ v = 0 := by
  simp only [Hyp, HearR, EJ, ZW] at h
  grind (splits := 30)
theorem late_go {p s n t r fr p' s' n' t' r' : Int} (h : Hyp (LateR p s n t r fr p' s' n' t' r')) (h1 : VJ p s n t r ∧ (p = 1 ∨ p = 2) ∧ t + 12 ≤ fr) :
    p' = 0 ∧ s' = -1 ∧ n' = 0 ∧ t' = 0 ∧ r' = r := by
  simp only [Hyp, LateR, EJ, ZW] at h
  grind (splits := 30)
theorem late_no {p s n t r fr p' s' n' t' r' : Int} (h : Hyp (LateR p s n t r fr p' s' n' t' r')) (h1 : ¬ (VJ p s n t r ∧ (p = 1 ∨ p = 2) ∧ t + 12 ≤ fr)) :
    p' = p ∧ s' = s ∧ n' = n ∧ t' = t ∧ r' = r := by
  simp only [Hyp, LateR, EJ, ZW] at h
  grind (splits := 30)
theorem judge_go {K X Y M C Q U V F G k x y m c q f g e : Int} (h : Hyp (JudgeR K X Y M C Q U V F G k x y m c q f g e)) (h1 : JudgeOK K X Y M C F G) (h2 : K = 3) (h3 : Q = X + 1000000) :
    k = 4 ∧ x = X ∧ y = Y ∧ m = M ∧ c = 0 ∧ q = Q ∧ f = F ∧ g = G ∧ e = 0 := by
  simp only [Hyp, JudgeR, EJ, ZW] at h
  grind (splits := 30)
theorem judge_no {K X Y M C Q U V F G k x y m c q f g e : Int} (h : Hyp (JudgeR K X Y M C Q U V F G k x y m c q f g e)) (h1 : JudgeOK K X Y M C F G) (h2 : K = 3) (h3 : Q ≠ X + 1000000) :
    k = 0 ∧ x = 0 ∧ y = 0 ∧ m = 0 ∧ c = 0 ∧ q = 0 ∧ f = 0 ∧ g = 0 ∧ e = 13 := by
  simp only [Hyp, JudgeR, EJ, ZW] at h
  grind (splits := 30)

theorem condT {c : Bool} {p q : Prop} (hc : c = true) (h : p) : bif c then p else q := by subst hc; exact h

end Go.Proofs.Ythbfpaemiccjcaa.JoinOwn
