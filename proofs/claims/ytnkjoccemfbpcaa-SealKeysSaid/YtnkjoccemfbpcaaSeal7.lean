/- The law SealKeys. -/
import Derived.Test.YtnkjoccemfbpcaaSeal2
import Derived.Test.YtnkjoccemfbpcaaRows
namespace Go.Proofs.Ytnkjoccemfbpcaa.SealOwn
open Go Go.Sx Go.Proofs.Ytnkjoccemfbpcaa
set_option maxRecDepth 100000
set_option maxHeartbeats 4000000
set_option linter.unusedVariables false
set_option linter.unusedSimpArgs false
variable {E : Mem} {K : SV → Mem → Prop}

theorem e7 {n : Int} {m : Int} {q : Int} {r : Int} (hn : (Lit.int .i64 n).wf = true) (hm : (Lit.int .i64 m).wf = true) (hq : (Lit.int .i64 q).wf = true) (hr : (Lit.int .i64 r).wf = true) (h : K (B true) E) :
    Ent C2 3 Try.f7 [I n, I m, I q, I r] E K := by
  refine same (by kernel_rfl) (?_ : 
      Mem.le E E ∧
        Mem.le E E ∧
          Mem.le E E ∧
            Mem.le E E ∧
              Mem.le E E ∧
                bif keyE n == 0 then
                  bif bif true then keyE m == 0 else false then
                    bif
                        bif true then
                          (keyN n == keyN m) ==
                            (IntKind.wrap IntKind.i64 (Int.tdiv n 2000) == IntKind.wrap IntKind.i64 (Int.tdiv m 2000))
                        else false then
                      bif bif true then decide (keyN n > 0) else false then
                        bif decide (n > m) then
                          bif ownE q == 0 then
                            bif bif true then ownE r == 0 else false then
                              bif bif true then (ownN q == ownN r) == (q == r) else false then
                                bif bif true then decide (ownN q > 0) else false then
                                  bif keyE n != 0 then Mem.le E E ∧ K (SV.raw (Value.bool true)) E
                                  else
                                    bif bif false then true else ownE q != 0 then Mem.le E E ∧ K (SV.raw (Value.bool true)) E
                                    else
                                      Mem.le E E ∧
                                        K
                                          (SV.raw
                                            (Value.bool (bif true then bif false then true else keyN n != ownN q else false)))
                                          E
                                else Mem.le E E ∧ K (SV.raw (Value.bool false)) E
                              else Mem.le E E ∧ K (SV.raw (Value.bool false)) E
                            else
                              bif keyE n != 0 then Mem.le E E ∧ K (SV.raw (Value.bool true)) E
                              else
                                bif bif false then true else ownE q != 0 then Mem.le E E ∧ K (SV.raw (Value.bool true)) E
                                else
                                  Mem.le E E ∧
                                    K
                                      (SV.raw
                                        (Value.bool (bif true then bif false then true else keyN n != ownN q else false)))
                                      E
                          else
                            bif keyE n != 0 then Mem.le E E ∧ K (SV.raw (Value.bool true)) E
                            else
                              bif bif false then true else ownE q != 0 then Mem.le E E ∧ K (SV.raw (Value.bool true)) E
                              else
                                Mem.le E E ∧
                                  K (SV.raw (Value.bool (bif true then bif false then true else keyN n != ownN q else false)))
                                    E
                        else
                          bif ownE q == 0 then
                            bif bif true then ownE r == 0 else false then
                              bif bif true then bif false then true else decide (keyN n ≤ keyN m) else false then
                                bif bif true then (ownN q == ownN r) == (q == r) else false then
                                  bif bif true then decide (ownN q > 0) else false then
                                    bif keyE n != 0 then Mem.le E E ∧ K (SV.raw (Value.bool true)) E
                                    else
                                      bif bif false then true else ownE q != 0 then
                                        Mem.le E E ∧ K (SV.raw (Value.bool true)) E
                                      else
                                        Mem.le E E ∧
                                          K
                                            (SV.raw
                                              (Value.bool
                                                (bif true then bif false then true else keyN n != ownN q else false)))
                                            E
                                  else Mem.le E E ∧ K (SV.raw (Value.bool false)) E
                                else Mem.le E E ∧ K (SV.raw (Value.bool false)) E
                              else Mem.le E E ∧ K (SV.raw (Value.bool false)) E
                            else
                              bif bif true then bif false then true else decide (keyN n ≤ keyN m) else false then
                                bif keyE n != 0 then Mem.le E E ∧ K (SV.raw (Value.bool true)) E
                                else
                                  bif bif false then true else ownE q != 0 then Mem.le E E ∧ K (SV.raw (Value.bool true)) E
                                  else
                                    Mem.le E E ∧
                                      K
                                        (SV.raw
                                          (Value.bool (bif true then bif false then true else keyN n != ownN q else false)))
                                        E
                              else Mem.le E E ∧ K (SV.raw (Value.bool false)) E
                          else
                            bif bif true then bif false then true else decide (keyN n ≤ keyN m) else false then
                              bif keyE n != 0 then Mem.le E E ∧ K (SV.raw (Value.bool true)) E
                              else
                                bif bif false then true else ownE q != 0 then Mem.le E E ∧ K (SV.raw (Value.bool true)) E
                                else
                                  Mem.le E E ∧
                                    K
                                      (SV.raw
                                        (Value.bool (bif true then bif false then true else keyN n != ownN q else false)))
                                      E
                            else Mem.le E E ∧ K (SV.raw (Value.bool false)) E
                      else
                        bif ownE q == 0 then
                          bif bif true then ownE r == 0 else false then Mem.le E E ∧ K (SV.raw (Value.bool false)) E
                          else Mem.le E E ∧ K (SV.raw (Value.bool false)) E
                        else Mem.le E E ∧ K (SV.raw (Value.bool false)) E
                    else
                      bif ownE q == 0 then
                        bif bif true then ownE r == 0 else false then Mem.le E E ∧ K (SV.raw (Value.bool false)) E
                        else Mem.le E E ∧ K (SV.raw (Value.bool false)) E
                      else Mem.le E E ∧ K (SV.raw (Value.bool false)) E
                  else
                    bif ownE q == 0 then
                      bif bif true then ownE r == 0 else false then
                        bif bif true then (ownN q == ownN r) == (q == r) else false then
                          bif bif true then decide (ownN q > 0) else false then
                            bif keyE n != 0 then Mem.le E E ∧ K (SV.raw (Value.bool true)) E
                            else
                              bif bif false then true else ownE q != 0 then Mem.le E E ∧ K (SV.raw (Value.bool true)) E
                              else
                                Mem.le E E ∧
                                  K (SV.raw (Value.bool (bif true then bif false then true else keyN n != ownN q else false)))
                                    E
                          else Mem.le E E ∧ K (SV.raw (Value.bool false)) E
                        else Mem.le E E ∧ K (SV.raw (Value.bool false)) E
                      else
                        bif keyE n != 0 then Mem.le E E ∧ K (SV.raw (Value.bool true)) E
                        else
                          bif bif false then true else ownE q != 0 then Mem.le E E ∧ K (SV.raw (Value.bool true)) E
                          else
                            Mem.le E E ∧
                              K (SV.raw (Value.bool (bif true then bif false then true else keyN n != ownN q else false))) E
                    else
                      bif keyE n != 0 then Mem.le E E ∧ K (SV.raw (Value.bool true)) E
                      else
                        bif bif false then true else ownE q != 0 then Mem.le E E ∧ K (SV.raw (Value.bool true)) E
                        else
                          Mem.le E E ∧
                            K (SV.raw (Value.bool (bif true then bif false then true else keyN n != ownN q else false))) E
                else
                  bif ownE q == 0 then
                    bif bif true then ownE r == 0 else false then
                      bif bif true then (ownN q == ownN r) == (q == r) else false then
                        bif bif true then decide (ownN q > 0) else false then
                          bif keyE n != 0 then Mem.le E E ∧ K (SV.raw (Value.bool true)) E
                          else
                            bif bif false then true else ownE q != 0 then Mem.le E E ∧ K (SV.raw (Value.bool true)) E
                            else
                              Mem.le E E ∧
                                K (SV.raw (Value.bool (bif true then bif false then true else keyN n != ownN q else false))) E
                        else Mem.le E E ∧ K (SV.raw (Value.bool false)) E
                      else Mem.le E E ∧ K (SV.raw (Value.bool false)) E
                    else
                      bif keyE n != 0 then Mem.le E E ∧ K (SV.raw (Value.bool true)) E
                      else
                        bif bif false then true else ownE q != 0 then Mem.le E E ∧ K (SV.raw (Value.bool true)) E
                        else
                          Mem.le E E ∧
                            K (SV.raw (Value.bool (bif true then bif false then true else keyN n != ownN q else false))) E
                  else
                    bif keyE n != 0 then Mem.le E E ∧ K (SV.raw (Value.bool true)) E
                    else
                      bif bif false then true else ownE q != 0 then Mem.le E E ∧ K (SV.raw (Value.bool true)) E
                      else
                        Mem.le E E ∧
                          K (SV.raw (Value.bool (bif true then bif false then true else keyN n != ownN q else false))) E)
  have k1 := keyS n
  have k2 := keyS m
  have o1 := ownS q
  have o2 := ownS r
  have q1 := quoS n
  have q2 := quoS m
  simp only [Mem.le_refl, true_and, cond_true, cond_false, Bool.cond_eq_ite, Bool.false_eq_true, if_true, if_false, ite_true, ite_false, beq_iff_eq, bne_iff_ne, decide_eq_true_eq, beqs, beqd, ne_eq, reduceCtorEq, beq_self_eq_true, bne_self_eq_false, eqF_self, Bool.true_eq_false, iff_true, true_iff, iff_false, false_iff, not_false_eq_true, not_true_eq_false, Bool.and_eq_true, Bool.or_eq_true, Bool.not_eq_true']
  repeat' (first | refine iteI (fun _ => ?_) (fun _ => ?_))
  all_goals refine leaf h ?_
  all_goals try simp only [cond_true, cond_false, Bool.cond_eq_ite, Bool.false_eq_true, if_true, if_false, ite_true, ite_false, beq_iff_eq, bne_iff_ne, decide_eq_true_eq, beqs, beqd, ne_eq, reduceCtorEq, beq_self_eq_true, bne_self_eq_false, eqF_self, Bool.true_eq_false, iff_true, true_iff, iff_false, false_iff, not_false_eq_true, not_true_eq_false, Bool.and_eq_true, Bool.or_eq_true, Bool.not_eq_true']
  all_goals try omega


theorem opn7 (W : World) (K : List SV → Prop) (h : ∀ n : Int, (Lit.int .i64 n).wf = true → ∀ m : Int, (Lit.int .i64 m).wf = true → ∀ q : Int, (Lit.int .i64 q).wf = true → ∀ r : Int, (Lit.int .i64 r).wf = true → K [I n, I m, I q, I r]) : opnAll Try.prog W Try.f7.params.toList K :=
  same (by kernel_rfl) h

theorem sem7 (W : World) : opnAll Try.prog W Try.f7.params.toList fun ss => TabSem Try.prog 7 ss (fun v cs => RowAt W v cs) fun r _ => r = .raw (.bool true) := by
  refine opn7 W _ ?_
  intro n hn m hm q hq r hr
  exact Ent.sem okC2 Try.func7 ⟨by kernel_rfl, by kernel_rfl⟩ rfl (e7 hn hm hq hr  rfl)

theorem lifted7 (os : Os) (started : os.Started) (H : Type) (enc : TypeId × Value → H) :
    ReturnsInHanded {} Try.checked os 7 .any (Rows.sealKeysSpec.pre6 enc Try.prog Try.f7 Rows.sealKeysRow.domain false) (Rows.sealKeysSpec.post enc Try.prog Try.f7 false true false false) :=
  lift_true (C := Try.checked) (by kernel_rfl) (by kernel_rfl) started (by kernel_rfl) Try.func7
    (ChangeSpec.witness6 (enc := enc) (C := Try.checked) false ⟨#[], #[.int .i64 0, .int .i64 0, .int .i64 0, .int .i64 0], []⟩ 8 (by kernel_rfl) (by kernel_rfl) (by kernel_rfl) (by kernel_rfl))
    (Tb := 4) (by kernel_rfl) (by kernel_rfl) (by kernel_rfl) rfl
    (fun ds hl => by
      match ds, hl with
      | [d0, d1, d2, d3], _ => exact ⟨rfl, rfl, rfl⟩)
    sem7

theorem over7 : Rows.sealKeysRow.holds Try.pinned (OpenSpec.ofChange Rows.sealKeysSpec) :=
  OpenClaim.holds_of_wide 7 Try.f7 rfl rfl rfl rfl rfl rfl rfl ⟨rfl, rfl, rfl, rfl, rfl⟩ rfl rfl rfl rfl rfl (by kernel_rfl) Try.func7 (by kernel_rfl)
    (of_decide_eq_true (by kernel_rfl)) (by unfold Func.isWrapper; first | (rw [if_pos (by decide +kernel)]; kernel_rfl) | (rw [if_neg (by decide +kernel)]; exact ⟨rfl, rfl⟩))
    (fun os started H enc _ => lifted7 os started H enc)

theorem proved7 : Rows.SealKeysSaid := over7
end Go.Proofs.Ytnkjoccemfbpcaa.SealOwn
