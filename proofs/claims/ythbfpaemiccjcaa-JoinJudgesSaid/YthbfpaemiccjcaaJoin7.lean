/- The join package: what its functions answer. -/
import Derived.Test.YthbfpaemiccjcaaJoin6
namespace Go.Proofs.Ythbfpaemiccjcaa.JoinOwn
open Go Go.Sx
set_option maxRecDepth 100000
set_option maxHeartbeats 4000000
set_option linter.unusedVariables false
set_option linter.unusedSimpArgs false
variable {E : Mem} {K : SV → Mem → Prop}

theorem s10  (h : K (B true) E) :
    Ent JL 8 Try.f10 [] E K := by
  refine same (by kernel_rfl) (?_ : 
      ∀ (p' s' n' t' r' k x y m c q f g e : Int),
        Hyp (AskR 0 (-1) 0 0 0 5 2 3 10 p' s' n' t' r' k x y m c q f g e) →
          Mem.le E E ∧
            ∀ (p'_1 s'_1 n'_1 t'_1 r'_1 k_1 x_1 y_1 m_1 c_1 q_1 f_1 g_1 e_1 : Int),
              Hyp (AskR p' s' n' t' r' 5 2 4 11 p'_1 s'_1 n'_1 t'_1 r'_1 k_1 x_1 y_1 m_1 c_1 q_1 f_1 g_1 e_1) →
                Mem.le E E ∧
                  ∀ (p'_2 s'_2 n'_2 t'_2 r'_2 k_2 x_2 y_2 m_2 c_2 q_2 f_2 g_2 v : Int),
                    Hyp
                        (HearR p' s' n' t' r' 5 2 5 3 513 7 0 0 0 12 p'_2 s'_2 n'_2 t'_2 r'_2 k_2 x_2 y_2 m_2 c_2 q_2 f_2 g_2
                          v) →
                      Mem.le E E ∧
                        ∀ (k_3 x_3 y_3 m_3 c_3 q_3 f_3 g_3 e_2 : Int),
                          Hyp (JudgeR k_2 x_2 y_2 m_2 c_2 q_2 f_2 g_2 4 6 k_3 x_3 y_3 m_3 c_3 q_3 f_3 g_3 e_2) →
                            Mem.le E E ∧
                              ∀ (p'_3 s'_3 n'_3 t'_3 r'_3 k_4 x_4 y_4 m_4 c_4 q_4 f_4 g_4 v_1 : Int),
                                Hyp
                                    (HearR p'_2 s'_2 n'_2 t'_2 r'_2 5 k_3 x_3 y_3 m_3 c_3 q_3 f_3 g_3 13 p'_3 s'_3 n'_3 t'_3
                                      r'_3 k_4 x_4 y_4 m_4 c_4 q_4 f_4 g_4 v_1) →
                                  Mem.le E E ∧
                                    ∀ (p'_4 s'_4 n'_4 t'_4 r'_4 k_5 x_5 y_5 m_5 c_5 q_5 f_5 g_5 v_2 : Int),
                                      Hyp
                                          (HearR p' s' n' t' r' 5 k_3 x_3 y_3 m_3 c_3 q_3 f_3 g_3 13 p'_4 s'_4 n'_4 t'_4 r'_4
                                            k_5 x_5 y_5 m_5 c_5 q_5 f_5 g_5 v_2) →
                                        Mem.le E E ∧
                                          ∀ (k_6 x_6 y_6 m_6 c_6 q_6 f_6 g_6 e_3 : Int),
                                            Hyp
                                                (JudgeR k_2 x_2 y_2 m_2 c_2 (IntKind.wrap IntKind.i64 (q_2 - 1)) f_2 g_2 4 6
                                                  k_6 x_6 y_6 m_6 c_6 q_6 f_6 g_6 e_3) →
                                              Mem.le E E ∧
                                                bif e == 0 then
                                                  bif bif true then e_1 == 6 else false then
                                                    bif bif true then e_2 == 0 else false then
                                                      bif bif true then e_3 == 13 else false then
                                                        bif bif true then v == 1 else false then
                                                          bif bif true then v_1 == 1 else false then
                                                            bif bif true then !v_2 == 1 else false then
                                                              bif
                                                                  bif true then
                                                                    k == 1 &&
                                                                      (x == 5 &&
                                                                        (y == 3 &&
                                                                          (m == 513 &&
                                                                            (c == 0 &&
                                                                              (q == 0 &&
                                                                                (f == 0 && (g == 0 && true) && true))))))
                                                                  else false then
                                                                bif
                                                                    bif true then
                                                                      p' == 1 &&
                                                                        (s' == 3 &&
                                                                          (n' == 513 && (t' == 10 && (r' == 1 && true))))
                                                                    else false then
                                                                  bif bif true then p'_2 == 2 else false then
                                                                    bif bif true then q_3 == 1000005 else false then
                                                                      bif bif true then p'_3 == 3 else false then
                                                                        bif
                                                                            bif true then
                                                                              k_4 == 0 &&
                                                                                (x_4 == 0 &&
                                                                                  (y_4 == 0 &&
                                                                                    (m_4 == 0 &&
                                                                                      (c_4 == 0 &&
                                                                                        (q_4 == 0 &&
                                                                                          (f_4 == 0 && (g_4 == 0 && true) &&
                                                                                            true))))))
                                                                            else false then
                                                                          ∀ (p'_5 s'_5 n'_5 t'_5 r'_5 : Int),
                                                                            Hyp
                                                                                (LateR p' s' n' t' r' 21 p'_5 s'_5 n'_5 t'_5
                                                                                  r'_5) →
                                                                              Mem.le E E ∧
                                                                                bif
                                                                                    bif true then
                                                                                      p'_5 == p' &&
                                                                                        (s'_5 == s' &&
                                                                                          (n'_5 == n' &&
                                                                                            (t'_5 == t' &&
                                                                                              (r'_5 == r' && true))))
                                                                                    else false then
                                                                                  ∀ (p'_6 s'_6 n'_6 t'_6 r'_6 : Int),
                                                                                    Hyp
                                                                                        (LateR p' s' n' t' r' 22 p'_6 s'_6
                                                                                          n'_6 t'_6 r'_6) →
                                                                                      Mem.le E E ∧
                                                                                        bif
                                                                                            bif true then
                                                                                              p'_6 == 0 &&
                                                                                                (s'_6 == -1 &&
                                                                                                  (n'_6 == 0 &&
                                                                                                    (t'_6 == 0 &&
                                                                                                      (r'_6 == 1 && true))))
                                                                                            else false then
                                                                                          ∀ (p' s' n' t' r' : Int),
                                                                                            Hyp
                                                                                                (LateR p'_3 s'_3 n'_3 t'_3
                                                                                                  r'_3 99 p' s' n' t' r') →
                                                                                              Mem.le E E ∧
                                                                                                Mem.le E E ∧
                                                                                                  K
                                                                                                    (SV.raw
                                                                                                      (Value.bool
                                                                                                        (bif true then
                                                                                                          p' == p'_3 &&
                                                                                                            (s' == s'_3 &&
                                                                                                              (n' == n'_3 &&
                                                                                                                (t' == t'_3 &&
                                                                                                                  (r' ==
                                                                                                                      r'_3 &&
                                                                                                                    true))))
                                                                                                        else false)))
                                                                                                    E
                                                                                        else
                                                                                          Mem.le E E ∧
                                                                                            K (SV.raw (Value.bool false)) E
                                                                                else
                                                                                  Mem.le E E ∧ K (SV.raw (Value.bool false)) E
                                                                        else Mem.le E E ∧ K (SV.raw (Value.bool false)) E
                                                                      else Mem.le E E ∧ K (SV.raw (Value.bool false)) E
                                                                    else Mem.le E E ∧ K (SV.raw (Value.bool false)) E
                                                                  else Mem.le E E ∧ K (SV.raw (Value.bool false)) E
                                                                else Mem.le E E ∧ K (SV.raw (Value.bool false)) E
                                                              else Mem.le E E ∧ K (SV.raw (Value.bool false)) E
                                                            else Mem.le E E ∧ K (SV.raw (Value.bool false)) E
                                                          else Mem.le E E ∧ K (SV.raw (Value.bool false)) E
                                                        else Mem.le E E ∧ K (SV.raw (Value.bool false)) E
                                                      else Mem.le E E ∧ K (SV.raw (Value.bool false)) E
                                                    else Mem.le E E ∧ K (SV.raw (Value.bool false)) E
                                                  else Mem.le E E ∧ K (SV.raw (Value.bool false)) E
                                                else Mem.le E E ∧ K (SV.raw (Value.bool false)) E)
  intro _ _ _ _ _ _ _ _ _ _ _ _ _ _ hh
  obtain ⟨rfl, rfl, rfl, rfl, rfl, rfl, rfl, rfl, rfl, rfl, rfl, rfl, rfl, rfl⟩ := ask_go hh (by first | rfl | decide | (simp (decide := true) only [AskOK, Meant, JudgeOK, VJ, FW])) (by first | rfl | decide | (simp (decide := true) only [AskOK, Meant, JudgeOK, VJ, FW])) (by first | rfl | decide | (simp (decide := true) only [AskOK, Meant, JudgeOK, VJ, FW]))
  refine ⟨Mem.le_refl _, ?_⟩
  intro _ _ _ _ _ _ _ _ _ _ _ _ _ _ hh
  obtain ⟨rfl, rfl, rfl, rfl, rfl, rfl, rfl, rfl, rfl, rfl, rfl, rfl, rfl, rfl⟩ := ask_busy hh (by first | rfl | decide | (simp (decide := true) only [AskOK, Meant, JudgeOK, VJ, FW])) (by first | rfl | decide | (simp (decide := true) only [AskOK, Meant, JudgeOK, VJ, FW]))
  refine ⟨Mem.le_refl _, ?_⟩
  intro _ _ _ _ _ _ _ _ _ _ _ _ _ _ hh
  obtain ⟨rfl, rfl, rfl, rfl, rfl, rfl, rfl, rfl, rfl, rfl, rfl, rfl, rfl, rfl⟩ := hear_two hh (by first | rfl | decide | (simp (decide := true) only [AskOK, Meant, JudgeOK, VJ, FW])) (by first | rfl | decide | (simp (decide := true) only [AskOK, Meant, JudgeOK, VJ, FW])) (by first | rfl | decide | (simp (decide := true) only [AskOK, Meant, JudgeOK, VJ, FW]))
  refine ⟨Mem.le_refl _, ?_⟩
  intro _ _ _ _ _ _ _ _ _ hh
  obtain ⟨rfl, rfl, rfl, rfl, rfl, rfl, rfl, rfl, rfl⟩ := judge_go hh (by first | rfl | decide | (simp (decide := true) only [AskOK, Meant, JudgeOK, VJ, FW])) (by first | rfl | decide | (simp (decide := true) only [AskOK, Meant, JudgeOK, VJ, FW])) (by first | rfl | decide | (simp (decide := true) only [AskOK, Meant, JudgeOK, VJ, FW]))
  refine ⟨Mem.le_refl _, ?_⟩
  intro _ _ _ _ _ _ _ _ _ _ _ _ _ _ hh
  obtain ⟨rfl, rfl, rfl, rfl, rfl, rfl, rfl, rfl, rfl, rfl, rfl, rfl, rfl, rfl⟩ := hear_four hh (by first | rfl | decide | (simp (decide := true) only [AskOK, Meant, JudgeOK, VJ, FW])) (by first | rfl | decide | (simp (decide := true) only [AskOK, Meant, JudgeOK, VJ, FW])) (by first | rfl | decide | (simp (decide := true) only [AskOK, Meant, JudgeOK, VJ, FW])) (by first | rfl | decide | (simp (decide := true) only [AskOK, Meant, JudgeOK, VJ, FW]))
  refine ⟨Mem.le_refl _, ?_⟩
  intro _ _ _ _ _ _ _ _ _ _ _ _ _ _ hh
  obtain ⟨rfl, rfl, rfl, rfl, rfl, rfl, rfl, rfl, rfl, rfl, rfl, rfl, rfl, rfl⟩ := hear_no hh (by first | rfl | decide | (simp (decide := true) only [AskOK, Meant, JudgeOK, VJ, FW]))
  refine ⟨Mem.le_refl _, ?_⟩
  intro _ _ _ _ _ _ _ _ _ hh
  rw [show IntKind.wrap .i64 (5 + 1000000 - 1) = 1000004 from by decide] at hh
  obtain ⟨rfl, rfl, rfl, rfl, rfl, rfl, rfl, rfl, rfl⟩ := judge_no hh (by first | rfl | decide | (simp (decide := true) only [AskOK, Meant, JudgeOK, VJ, FW])) (by first | rfl | decide | (simp (decide := true) only [AskOK, Meant, JudgeOK, VJ, FW])) (by first | rfl | decide | (simp (decide := true) only [AskOK, Meant, JudgeOK, VJ, FW]))
  refine ⟨Mem.le_refl _, ?_⟩
  repeat refine condT (by decide) ?_
  intro _ _ _ _ _ hh
  obtain ⟨rfl, rfl, rfl, rfl, rfl⟩ := late_no hh (by first | rfl | decide | (simp (decide := true) only [AskOK, Meant, JudgeOK, VJ, FW]))
  refine ⟨Mem.le_refl _, ?_⟩
  repeat refine condT (by decide) ?_
  intro _ _ _ _ _ hh
  obtain ⟨rfl, rfl, rfl, rfl, rfl⟩ := late_go hh (by first | rfl | decide | (simp (decide := true) only [AskOK, Meant, JudgeOK, VJ, FW]))
  refine ⟨Mem.le_refl _, ?_⟩
  repeat refine condT (by decide) ?_
  intro _ _ _ _ _ hh
  obtain ⟨rfl, rfl, rfl, rfl, rfl⟩ := late_no hh (by first | rfl | decide | (simp (decide := true) only [AskOK, Meant, JudgeOK, VJ, FW]))
  refine ⟨Mem.le_refl _, ?_⟩
  exact ⟨Mem.le_refl _, h⟩

noncomputable def tabL : FuncId → List SV → Mem → (SV → Mem → Prop) → Prop := fun f args E K => match f with
  | 11 => d5 args fun x0 x1 x2 x3 x4 => dC x0 fun l1 => d5 l1 fun x0_0 x0_1 x0_2 x0_3 x0_4 => dI x0_0 fun a1 => dI x0_1 fun a2 => dI x0_2 fun a3 => dI x0_3 fun a4 => dI x0_4 fun a5 => dI x1 fun a6 => dI x2 fun a7 => dI x3 fun a8 => dI x4 fun a9 => (∀ (p' : Int) (s' : Int) (n' : Int) (t' : Int) (r' : Int) (k : Int) (x : Int) (y : Int) (m : Int) (c : Int) (q : Int) (f : Int) (g : Int) (e : Int), Hyp (AskR a1 a2 a3 a4 a5 a6 a7 a8 a9 p' s' n' t' r' k x y m c q f g e) → K (.tup [.agg [I p', I s', I n', I t', I r'], .agg [I k, I x, I y, I m, I c, I q, I f, I g], I e]) E)
  | 12 => d5 args fun x0 x1 x2 x3 x4 => dC x0 fun l1 => d5 l1 fun x0_0 x0_1 x0_2 x0_3 x0_4 => dI x0_0 fun a1 => dI x0_1 fun a2 => dI x0_2 fun a3 => dI x0_3 fun a4 => dI x0_4 fun a5 => dI x1 fun a6 => dI x2 fun a7 => dI x3 fun a8 => dI x4 fun a9 => (∀ (p' : Int) (s' : Int) (n' : Int) (t' : Int) (r' : Int) (k : Int) (x : Int) (y : Int) (m : Int) (c : Int) (q : Int) (f : Int) (g : Int) (e : Int), Hyp (AskR a1 a2 a3 a4 a5 a6 a7 a8 a9 p' s' n' t' r' k x y m c q f g e) → K (.tup [.agg [I p', I s', I n', I t', I r'], .agg [I k, I x, I y, I m, I c, I q, I f, I g], I e]) E)
  | 13 => d4 args fun x0 x1 x2 x3 => dC x0 fun l1 => d5 l1 fun x0_0 x0_1 x0_2 x0_3 x0_4 => dI x0_0 fun a1 => dI x0_1 fun a2 => dI x0_2 fun a3 => dI x0_3 fun a4 => dI x0_4 fun a5 => dI x1 fun a6 => dC x2 fun l2 => d8 l2 fun x2_0 x2_1 x2_2 x2_3 x2_4 x2_5 x2_6 x2_7 => dI x2_0 fun a7 => dI x2_1 fun a8 => dI x2_2 fun a9 => dI x2_3 fun a10 => dI x2_4 fun a11 => dI x2_5 fun a12 => dI x2_6 fun a13 => dI x2_7 fun a14 => dI x3 fun a15 => (∀ (p' : Int) (s' : Int) (n' : Int) (t' : Int) (r' : Int) (k : Int) (x : Int) (y : Int) (m : Int) (c : Int) (q : Int) (f : Int) (g : Int) (v : Int), Hyp (HearR a1 a2 a3 a4 a5 a6 a7 a8 a9 a10 a11 a12 a13 a14 a15 p' s' n' t' r' k x y m c q f g v) → K (.tup [.agg [I p', I s', I n', I t', I r'], .agg [I k, I x, I y, I m, I c, I q, I f, I g], B (v == 1)]) E)
  | 15 => d2 args fun x0 x1 => dC x0 fun l1 => d8 l1 fun x0_0 x0_1 x0_2 x0_3 x0_4 x0_5 x0_6 x0_7 => dI x0_0 fun a1 => dI x0_1 fun a2 => dI x0_2 fun a3 => dI x0_3 fun a4 => dI x0_4 fun a5 => dI x0_5 fun a6 => dI x0_6 fun a7 => dI x0_7 fun a8 => dC x1 fun l2 => d2 l2 fun x1_0 x1_1 => dI x1_0 fun a9 => dI x1_1 fun a10 => (∀ (k : Int) (x : Int) (y : Int) (m : Int) (c : Int) (q : Int) (f : Int) (g : Int) (e : Int), Hyp (JudgeR a1 a2 a3 a4 a5 a6 a7 a8 a9 a10 k x y m c q f g e) → K (.tup [.agg [I k, I x, I y, I m, I c, I q, I f, I g], I e]) E)
  | 16 => d2 args fun x0 x1 => dC x0 fun l1 => d8 l1 fun x0_0 x0_1 x0_2 x0_3 x0_4 x0_5 x0_6 x0_7 => dI x0_0 fun a1 => dI x0_1 fun a2 => dI x0_2 fun a3 => dI x0_3 fun a4 => dI x0_4 fun a5 => dI x0_5 fun a6 => dI x0_6 fun a7 => dI x0_7 fun a8 => dC x1 fun l2 => d2 l2 fun x1_0 x1_1 => dI x1_0 fun a9 => dI x1_1 fun a10 => (∀ (k : Int) (x : Int) (y : Int) (m : Int) (c : Int) (q : Int) (f : Int) (g : Int) (e : Int), Hyp (JudgeR a1 a2 a3 a4 a5 a6 a7 a8 a9 a10 k x y m c q f g e) → K (.tup [.agg [I k, I x, I y, I m, I c, I q, I f, I g], I e]) E)
  | 17 => d2 args fun x0 x1 => dC x0 fun l1 => d5 l1 fun x0_0 x0_1 x0_2 x0_3 x0_4 => dI x0_0 fun a1 => dI x0_1 fun a2 => dI x0_2 fun a3 => dI x0_3 fun a4 => dI x0_4 fun a5 => dI x1 fun a6 => (∀ (p' : Int) (s' : Int) (n' : Int) (t' : Int) (r' : Int), Hyp (LateR a1 a2 a3 a4 a5 a6 p' s' n' t' r') → K (.agg [I p', I s', I n', I t', I r']) E)
  | 18 => d2 args fun x0 x1 => dC x0 fun l1 => d5 l1 fun x0_0 x0_1 x0_2 x0_3 x0_4 => dI x0_0 fun a1 => dI x0_1 fun a2 => dI x0_2 fun a3 => dI x0_3 fun a4 => dI x0_4 fun a5 => dI x1 fun a6 => (∀ (p' : Int) (s' : Int) (n' : Int) (t' : Int) (r' : Int), Hyp (LateR a1 a2 a3 a4 a5 a6 p' s' n' t' r') → K (.agg [I p', I s', I n', I t', I r']) E)
  | 10 => d0 args ((K (B true) E))
  | _ => False
theorem tabL_ok : TabOK Try.prog tabL := by
  intro f args E K h
  unfold tabL at h
  split at h
  · obtain ⟨x0, x1, x2, x3, x4, rfl, h⟩ := d5_elim h
    obtain ⟨l1, hl1, h⟩ := dC_elim h
    obtain ⟨x0_0, x0_1, x0_2, x0_3, x0_4, rfl, h⟩ := d5_elim h
    obtain ⟨a1, rfl, h⟩ := dI_elim h
    obtain ⟨a2, rfl, h⟩ := dI_elim h
    obtain ⟨a3, rfl, h⟩ := dI_elim h
    obtain ⟨a4, rfl, h⟩ := dI_elim h
    obtain ⟨a5, rfl, h⟩ := dI_elim h
    obtain ⟨a6, rfl, h⟩ := dI_elim h
    obtain ⟨a7, rfl, h⟩ := dI_elim h
    obtain ⟨a8, rfl, h⟩ := dI_elim h
    obtain ⟨a9, rfl, h⟩ := dI_elim h
    exact TabSem.congr (valL_cons (asCells_val hl1) (valL_cons rfl (valL_cons rfl (valL_cons rfl (valL_cons rfl rfl))))) (Ent.sem okJ0 Try.func11 ⟨by kernel_rfl, by kernel_rfl⟩ rfl (s11 h))
  · obtain ⟨x0, x1, x2, x3, x4, rfl, h⟩ := d5_elim h
    obtain ⟨l1, hl1, h⟩ := dC_elim h
    obtain ⟨x0_0, x0_1, x0_2, x0_3, x0_4, rfl, h⟩ := d5_elim h
    obtain ⟨a1, rfl, h⟩ := dI_elim h
    obtain ⟨a2, rfl, h⟩ := dI_elim h
    obtain ⟨a3, rfl, h⟩ := dI_elim h
    obtain ⟨a4, rfl, h⟩ := dI_elim h
    obtain ⟨a5, rfl, h⟩ := dI_elim h
    obtain ⟨a6, rfl, h⟩ := dI_elim h
    obtain ⟨a7, rfl, h⟩ := dI_elim h
    obtain ⟨a8, rfl, h⟩ := dI_elim h
    obtain ⟨a9, rfl, h⟩ := dI_elim h
    exact TabSem.congr (valL_cons (asCells_val hl1) (valL_cons rfl (valL_cons rfl (valL_cons rfl (valL_cons rfl rfl))))) (Ent.sem okJ0 Try.func12 ⟨by kernel_rfl, by kernel_rfl⟩ rfl (s12 h))
  · obtain ⟨x0, x1, x2, x3, rfl, h⟩ := d4_elim h
    obtain ⟨l1, hl1, h⟩ := dC_elim h
    obtain ⟨x0_0, x0_1, x0_2, x0_3, x0_4, rfl, h⟩ := d5_elim h
    obtain ⟨a1, rfl, h⟩ := dI_elim h
    obtain ⟨a2, rfl, h⟩ := dI_elim h
    obtain ⟨a3, rfl, h⟩ := dI_elim h
    obtain ⟨a4, rfl, h⟩ := dI_elim h
    obtain ⟨a5, rfl, h⟩ := dI_elim h
    obtain ⟨a6, rfl, h⟩ := dI_elim h
    obtain ⟨l2, hl2, h⟩ := dC_elim h
    obtain ⟨x2_0, x2_1, x2_2, x2_3, x2_4, x2_5, x2_6, x2_7, rfl, h⟩ := d8_elim h
    obtain ⟨a7, rfl, h⟩ := dI_elim h
    obtain ⟨a8, rfl, h⟩ := dI_elim h
    obtain ⟨a9, rfl, h⟩ := dI_elim h
    obtain ⟨a10, rfl, h⟩ := dI_elim h
    obtain ⟨a11, rfl, h⟩ := dI_elim h
    obtain ⟨a12, rfl, h⟩ := dI_elim h
    obtain ⟨a13, rfl, h⟩ := dI_elim h
    obtain ⟨a14, rfl, h⟩ := dI_elim h
    obtain ⟨a15, rfl, h⟩ := dI_elim h
    exact TabSem.congr (valL_cons (asCells_val hl1) (valL_cons rfl (valL_cons (asCells_val hl2) (valL_cons rfl rfl)))) (Ent.sem okJ0 Try.func13 ⟨by kernel_rfl, by kernel_rfl⟩ rfl (s13 h))
  · obtain ⟨x0, x1, rfl, h⟩ := d2_elim h
    obtain ⟨l1, hl1, h⟩ := dC_elim h
    obtain ⟨x0_0, x0_1, x0_2, x0_3, x0_4, x0_5, x0_6, x0_7, rfl, h⟩ := d8_elim h
    obtain ⟨a1, rfl, h⟩ := dI_elim h
    obtain ⟨a2, rfl, h⟩ := dI_elim h
    obtain ⟨a3, rfl, h⟩ := dI_elim h
    obtain ⟨a4, rfl, h⟩ := dI_elim h
    obtain ⟨a5, rfl, h⟩ := dI_elim h
    obtain ⟨a6, rfl, h⟩ := dI_elim h
    obtain ⟨a7, rfl, h⟩ := dI_elim h
    obtain ⟨a8, rfl, h⟩ := dI_elim h
    obtain ⟨l2, hl2, h⟩ := dC_elim h
    obtain ⟨x1_0, x1_1, rfl, h⟩ := d2_elim h
    obtain ⟨a9, rfl, h⟩ := dI_elim h
    obtain ⟨a10, rfl, h⟩ := dI_elim h
    exact TabSem.congr (valL_cons (asCells_val hl1) (valL_cons (asCells_val hl2) rfl)) (Ent.sem okJ0 Try.func15 ⟨by kernel_rfl, by kernel_rfl⟩ rfl (s15 h))
  · obtain ⟨x0, x1, rfl, h⟩ := d2_elim h
    obtain ⟨l1, hl1, h⟩ := dC_elim h
    obtain ⟨x0_0, x0_1, x0_2, x0_3, x0_4, x0_5, x0_6, x0_7, rfl, h⟩ := d8_elim h
    obtain ⟨a1, rfl, h⟩ := dI_elim h
    obtain ⟨a2, rfl, h⟩ := dI_elim h
    obtain ⟨a3, rfl, h⟩ := dI_elim h
    obtain ⟨a4, rfl, h⟩ := dI_elim h
    obtain ⟨a5, rfl, h⟩ := dI_elim h
    obtain ⟨a6, rfl, h⟩ := dI_elim h
    obtain ⟨a7, rfl, h⟩ := dI_elim h
    obtain ⟨a8, rfl, h⟩ := dI_elim h
    obtain ⟨l2, hl2, h⟩ := dC_elim h
    obtain ⟨x1_0, x1_1, rfl, h⟩ := d2_elim h
    obtain ⟨a9, rfl, h⟩ := dI_elim h
    obtain ⟨a10, rfl, h⟩ := dI_elim h
    exact TabSem.congr (valL_cons (asCells_val hl1) (valL_cons (asCells_val hl2) rfl)) (Ent.sem okJ0 Try.func16 ⟨by kernel_rfl, by kernel_rfl⟩ rfl (s16 h))
  · obtain ⟨x0, x1, rfl, h⟩ := d2_elim h
    obtain ⟨l1, hl1, h⟩ := dC_elim h
    obtain ⟨x0_0, x0_1, x0_2, x0_3, x0_4, rfl, h⟩ := d5_elim h
    obtain ⟨a1, rfl, h⟩ := dI_elim h
    obtain ⟨a2, rfl, h⟩ := dI_elim h
    obtain ⟨a3, rfl, h⟩ := dI_elim h
    obtain ⟨a4, rfl, h⟩ := dI_elim h
    obtain ⟨a5, rfl, h⟩ := dI_elim h
    obtain ⟨a6, rfl, h⟩ := dI_elim h
    exact TabSem.congr (valL_cons (asCells_val hl1) (valL_cons rfl rfl)) (Ent.sem okJ0 Try.func17 ⟨by kernel_rfl, by kernel_rfl⟩ rfl (s17 h))
  · obtain ⟨x0, x1, rfl, h⟩ := d2_elim h
    obtain ⟨l1, hl1, h⟩ := dC_elim h
    obtain ⟨x0_0, x0_1, x0_2, x0_3, x0_4, rfl, h⟩ := d5_elim h
    obtain ⟨a1, rfl, h⟩ := dI_elim h
    obtain ⟨a2, rfl, h⟩ := dI_elim h
    obtain ⟨a3, rfl, h⟩ := dI_elim h
    obtain ⟨a4, rfl, h⟩ := dI_elim h
    obtain ⟨a5, rfl, h⟩ := dI_elim h
    obtain ⟨a6, rfl, h⟩ := dI_elim h
    exact TabSem.congr (valL_cons (asCells_val hl1) (valL_cons rfl rfl)) (Ent.sem okJ0 Try.func18 ⟨by kernel_rfl, by kernel_rfl⟩ rfl (s18 h))
  · obtain ⟨rfl, h⟩ := d0_elim h
    exact TabSem.congr rfl (Ent.sem okJL Try.func10 ⟨by kernel_rfl, by kernel_rfl⟩ rfl (s10 h))
  · exact h.elim
noncomputable def JM : Cx := { P := Try.prog, inl := fun f => List.contains [19, 20, 21, 24] f, tab := tabL, isB := fun _ => false, tabB := fun _ _ _ _ _ => False, opt := { unroll := 0, carry := [] }, muts := mutsD }
theorem okJM : CxOK JM := ⟨tabL_ok, by kernel_rfl, okInl (by kernel_rfl), fun _ _ _ _ _ h => h.elim⟩

end Go.Proofs.Ythbfpaemiccjcaa.JoinOwn
