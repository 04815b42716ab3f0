/- The law SealMoreKeys. -/
import Derived.Test.YtnkjoccemfbpcaaSeal2
import Derived.Test.YtnkjoccemfbpcaaRows
namespace Go.Proofs.Ytnkjoccemfbpcaa.SealOwn
open Go Go.Sx Go.Proofs.Ytnkjoccemfbpcaa
set_option maxRecDepth 100000
set_option maxHeartbeats 4000000
set_option linter.unusedVariables false
set_option linter.unusedSimpArgs false
variable {E : Mem} {K : SV → Mem → Prop}

theorem wrapF {F n : Int} (hF : (Lit.int .i64 F).wf = true) (hn : (Lit.int .i64 n).wf = true) : ¬ (0 ≤ n ∧ n ≤ 1099511627776 ∧ -1099511627776 ≤ F ∧ F ≤ 1099511627776) ∨ IntKind.wrap .i64 (F - n) = F - n := by
  by_cases h : 0 ≤ n ∧ n ≤ 1099511627776 ∧ -1099511627776 ≤ F ∧ F ≤ 1099511627776
  · exact .inr (wrap_i64 (by omega))
  · exact .inl h
theorem wrapN {N m : Int} (hN : (Lit.int .i64 N).wf = true) (hm : (Lit.int .i64 m).wf = true) : ¬ (0 ≤ m ∧ m ≤ 1099511627776 ∧ -1099511627776 ≤ N ∧ N ≤ 1099511627776) ∨ IntKind.wrap .i64 (N + m) = N + m := by
  by_cases h : 0 ≤ m ∧ m ≤ 1099511627776 ∧ -1099511627776 ≤ N ∧ N ≤ 1099511627776
  · exact .inr (wrap_i64 (by omega))
  · exact .inl h

theorem e8 {a : Int} {b : Int} {c : Int} {d : Int} {e : Int} {F : Int} {N : Int} {n : Int} {m : Int} {q : Int} {s : Option Addr} {l cp : Nat} {zs : List Int} (ha : (Lit.int .i64 a).wf = true) (hb : (Lit.int .i64 b).wf = true) (hc : (Lit.int .i64 c).wf = true) (hd : (Lit.int .i64 d).wf = true) (he : (Lit.int .i64 e).wf = true) (hF : (Lit.int .i64 F).wf = true) (hN : (Lit.int .i64 N).wf = true) (hn : (Lit.int .i64 n).wf = true) (hm : (Lit.int .i64 m).wf = true) (hq : (Lit.int .i64 q).wf = true) (hB : Ints .u8 E s l cp zs) (hz : Ints .u8 E none 0 0 []) (h : K (B true) E) :
    Ent C2 3 Try.f8 [Fr a b c d e s l cp, .agg [I F, I N], I n, I m, I q] E K := by
  refine same (by kernel_rfl) (?_ : 
      Mem.le E E ∧
        bif decide ((↑l : Int) > 6000) then Mem.le E E ∧ K (SV.raw (Value.bool true)) E
        else
          bif bif false then true else decide (n < 0) then Mem.le E E ∧ K (SV.raw (Value.bool true)) E
          else
            bif bif false then true else decide (m < 0) then Mem.le E E ∧ K (SV.raw (Value.bool true)) E
            else
              bif bif false then true else decide (n > 1099511627776) then Mem.le E E ∧ K (SV.raw (Value.bool true)) E
              else
                bif bif false then true else decide (m > 1099511627776) then Mem.le E E ∧ K (SV.raw (Value.bool true)) E
                else
                  bif bif false then true else decide (F < -1099511627776) then Mem.le E E ∧ K (SV.raw (Value.bool true)) E
                  else
                    bif bif false then true else decide (N > 1099511627776) then Mem.le E E ∧ K (SV.raw (Value.bool true)) E
                    else
                      bif bif false then true else decide (F ≥ N) then Mem.le E E ∧ K (SV.raw (Value.bool true)) E
                      else
                        bif sealE d F N == 0 then
                          Mem.le E E ∧
                            bif sealE d (IntKind.wrap IntKind.i64 (F - n)) (IntKind.wrap IntKind.i64 (N + m)) == 0 then
                              Mem.le E E ∧
                                ∃ (zs : List Int),
                                  ∃ (ys : List Int),
                                    Ints IntKind.u8 E s l cp zs ∧
                                      Ints IntKind.u8 E s l cp ys ∧
                                        Mem.le E E ∧
                                          bif
                                              bif true then
                                                eqF a b c d (keyN d) a b c d (keyN d) (List.take l zs) (List.take l ys)
                                              else false then
                                            Mem.le E E ∧
                                              bif openE d e F N q != 0 then Mem.le E E ∧ K (SV.raw (Value.bool true)) E
                                              else
                                                Mem.le E E ∧
                                                  Mem.le E E ∧
                                                    K
                                                      (SV.raw
                                                        (Value.bool
                                                          (bif true then
                                                            bif false then true
                                                            else
                                                              openE d e (IntKind.wrap IntKind.i64 (F - n))
                                                                  (IntKind.wrap IntKind.i64 (N + m)) q ==
                                                                0
                                                          else false)))
                                                      E
                                          else Mem.le E E ∧ K (SV.raw (Value.bool false)) E
                            else
                              Mem.le E E ∧
                                bif
                                    bif true then
                                      sealE d (IntKind.wrap IntKind.i64 (F - n)) (IntKind.wrap IntKind.i64 (N + m)) == 0
                                    else false then
                                  ∃ (zs : List Int),
                                    ∃ (ys : List Int),
                                      Ints IntKind.u8 E s l cp zs ∧
                                        Ints IntKind.u8 E none 0 0 ys ∧
                                          Mem.le E E ∧
                                            bif
                                                bif true then eqF a b c d (keyN d) 0 0 0 0 0 (List.take l zs) (List.take 0 ys)
                                                else false then
                                              Mem.le E E ∧
                                                bif openE d e F N q != 0 then Mem.le E E ∧ K (SV.raw (Value.bool true)) E
                                                else
                                                  Mem.le E E ∧
                                                    Mem.le E E ∧
                                                      K
                                                        (SV.raw
                                                          (Value.bool
                                                            (bif true then
                                                              bif false then true
                                                              else
                                                                openE d e (IntKind.wrap IntKind.i64 (F - n))
                                                                    (IntKind.wrap IntKind.i64 (N + m)) q ==
                                                                  0
                                                            else false)))
                                                        E
                                            else Mem.le E E ∧ K (SV.raw (Value.bool false)) E
                                else Mem.le E E ∧ K (SV.raw (Value.bool false)) E
                        else
                          Mem.le E E ∧
                            bif sealE d (IntKind.wrap IntKind.i64 (F - n)) (IntKind.wrap IntKind.i64 (N + m)) == 0 then
                              Mem.le E E ∧
                                bif sealE d F N == 0 then
                                  ∃ (zs : List Int),
                                    ∃ (ys : List Int),
                                      Ints IntKind.u8 E none 0 0 zs ∧
                                        Ints IntKind.u8 E s l cp ys ∧
                                          Mem.le E E ∧
                                            bif
                                                bif true then eqF 0 0 0 0 0 a b c d (keyN d) (List.take 0 zs) (List.take l ys)
                                                else false then
                                              Mem.le E E ∧
                                                bif openE d e F N q != 0 then Mem.le E E ∧ K (SV.raw (Value.bool true)) E
                                                else
                                                  Mem.le E E ∧
                                                    Mem.le E E ∧
                                                      K
                                                        (SV.raw
                                                          (Value.bool
                                                            (bif true then
                                                              bif false then true
                                                              else
                                                                openE d e (IntKind.wrap IntKind.i64 (F - n))
                                                                    (IntKind.wrap IntKind.i64 (N + m)) q ==
                                                                  0
                                                            else false)))
                                                        E
                                            else Mem.le E E ∧ K (SV.raw (Value.bool false)) E
                                else
                                  Mem.le E E ∧
                                    bif openE d e F N q != 0 then Mem.le E E ∧ K (SV.raw (Value.bool true)) E
                                    else
                                      Mem.le E E ∧
                                        Mem.le E E ∧
                                          K
                                            (SV.raw
                                              (Value.bool
                                                (bif true then
                                                  bif false then true
                                                  else
                                                    openE d e (IntKind.wrap IntKind.i64 (F - n))
                                                        (IntKind.wrap IntKind.i64 (N + m)) q ==
                                                      0
                                                else false)))
                                            E
                            else
                              Mem.le E E ∧
                                bif sealE d F N == 0 then
                                  bif
                                      bif true then
                                        sealE d (IntKind.wrap IntKind.i64 (F - n)) (IntKind.wrap IntKind.i64 (N + m)) == 0
                                      else false then
                                    ∃ (zs : List Int),
                                      ∃ (ys : List Int),
                                        Ints IntKind.u8 E none 0 0 zs ∧
                                          Ints IntKind.u8 E none 0 0 ys ∧
                                            Mem.le E E ∧
                                              Mem.le E E ∧
                                                bif openE d e F N q != 0 then Mem.le E E ∧ K (SV.raw (Value.bool true)) E
                                                else
                                                  Mem.le E E ∧
                                                    Mem.le E E ∧
                                                      K
                                                        (SV.raw
                                                          (Value.bool
                                                            (bif true then
                                                              bif false then true
                                                              else
                                                                openE d e (IntKind.wrap IntKind.i64 (F - n))
                                                                    (IntKind.wrap IntKind.i64 (N + m)) q ==
                                                                  0
                                                            else false)))
                                                        E
                                  else Mem.le E E ∧ K (SV.raw (Value.bool false)) E
                                else
                                  Mem.le E E ∧
                                    bif openE d e F N q != 0 then Mem.le E E ∧ K (SV.raw (Value.bool true)) E
                                    else
                                      Mem.le E E ∧
                                        Mem.le E E ∧
                                          K
                                            (SV.raw
                                              (Value.bool
                                                (bif true then
                                                  bif false then true
                                                  else
                                                    openE d e (IntKind.wrap IntKind.i64 (F - n))
                                                        (IntKind.wrap IntKind.i64 (N + m)) q ==
                                                      0
                                                else false)))
                                            E)
  have wF := wrapF hF hn
  have wN := wrapN hN hm
  have s1 := sealS d F N
  have s2 := sealS d (IntKind.wrap .i64 (F - n)) (IntKind.wrap .i64 (N + m))
  have p1 := openS d e F N q
  have p2 := openS d e (IntKind.wrap .i64 (F - n)) (IntKind.wrap .i64 (N + m)) q
  simp only [Mem.le_refl, true_and, cond_true, cond_false, Bool.cond_eq_ite, Bool.false_eq_true, if_true, if_false, ite_true, ite_false, beq_iff_eq, bne_iff_ne, decide_eq_true_eq, beqs, beqd, ne_eq, reduceCtorEq, beq_self_eq_true, bne_self_eq_false, eqF_self, Bool.true_eq_false, iff_true, true_iff, iff_false, false_iff, not_false_eq_true, not_true_eq_false, Bool.and_eq_true, Bool.or_eq_true, Bool.not_eq_true']
  repeat' (first | refine iteI (fun _ => ?_) (fun _ => ?_) | refine ⟨_, _, hB, hB, ?_⟩ | refine ⟨_, _, hz, hz, ?_⟩ | refine ⟨_, _, hz, hB, ?_⟩ | refine ⟨_, _, hB, hz, ?_⟩ | fail)
  all_goals refine leaf h ?_
  all_goals try simp only [cond_true, cond_false, Bool.cond_eq_ite, Bool.false_eq_true, if_true, if_false, ite_true, ite_false, beq_iff_eq, bne_iff_ne, decide_eq_true_eq, beqs, beqd, ne_eq, reduceCtorEq, beq_self_eq_true, bne_self_eq_false, eqF_self, Bool.true_eq_false, iff_true, true_iff, iff_false, false_iff, not_false_eq_true, not_true_eq_false, Bool.and_eq_true, Bool.or_eq_true, Bool.not_eq_true']
  all_goals first | omega | skip
  all_goals (exfalso; rename_i hh; exact hh (by simp [eqF]))


theorem opn8 (W : World) (K : List SV → Prop) (h : ∀ a : Int, (Lit.int .i64 a).wf = true → ∀ b : Int, (Lit.int .i64 b).wf = true → ∀ c : Int, (Lit.int .i64 c).wf = true → ∀ d : Int, (Lit.int .i64 d).wf = true → ∀ e : Int, (Lit.int .i64 e).wf = true → ∀ (s : Option Addr) (l cp : Nat) (zs : List Int), l ≤ cp → cp ≤ maxLen → (s = none → cp = 0) → zs.length = cp → (∀ z ∈ zs, (Lit.int .u8 z).wf = true) → RowAt W (.slice s l cp) (zs.map (.int .u8)) → ∀ F : Int, (Lit.int .i64 F).wf = true → ∀ N : Int, (Lit.int .i64 N).wf = true → ∀ n : Int, (Lit.int .i64 n).wf = true → ∀ m : Int, (Lit.int .i64 m).wf = true → ∀ q : Int, (Lit.int .i64 q).wf = true → K [Fr a b c d e s l cp, .agg [I F, I N], I n, I m, I q]) : opnAll Try.prog W Try.f8.params.toList K :=
  same (by kernel_rfl) h

theorem sem8 (W : World) : opnAll Try.prog W Try.f8.params.toList fun ss => TabSem Try.prog 8 ss (fun v cs => RowAt W v cs) fun r _ => r = .raw (.bool true) := by
  refine opn8 W _ ?_
  intro a ha b hb c hc d hd e he s l cp zs g1 g2 g3 g4 g5 g6 F hF N hN n hn m hm q hq
  exact Ent.sem okC2 Try.func8 ⟨by kernel_rfl, by kernel_rfl⟩ rfl (e8 ha hb hc hd he hF hN hn hm hq ⟨g6, by omega, by omega⟩ ⟨.inl rfl, Nat.le_refl _, Nat.zero_le _⟩ rfl)

theorem lifted8 (os : Os) (started : os.Started) (H : Type) (enc : TypeId × Value → H) :
    ReturnsInHanded {} Try.checked os 8 .any (Rows.sealMoreKeysSpec.pre6 enc Try.prog Try.f8 Rows.sealMoreKeysRow.domain false) (Rows.sealMoreKeysSpec.post enc Try.prog Try.f8 false true false false) :=
  lift_true (C := Try.checked) (by kernel_rfl) (by kernel_rfl) started (by kernel_rfl) Try.func8
    (ChangeSpec.witness6 (enc := enc) (C := Try.checked) false ⟨#[], #[.agg #[.int .i64 0, .int .i64 0, .int .i64 0, .int .i64 0, .int .i64 0, .slice none 0 0], .agg #[.int .i64 0, .int .i64 0], .int .i64 0, .int .i64 0, .int .i64 0], []⟩ 8 (by kernel_rfl) (by kernel_rfl) (by kernel_rfl) (by kernel_rfl))
    (Tb := 4) (by kernel_rfl) (by kernel_rfl) (by kernel_rfl) rfl
    (fun ds hl => by
      match ds, hl with
      | [d0, d1, d2, d3, d4], _ => exact ⟨rfl, rfl, rfl⟩)
    sem8

theorem over8 : Rows.sealMoreKeysRow.holds Try.pinned (OpenSpec.ofChange Rows.sealMoreKeysSpec) :=
  OpenClaim.holds_of_wide 8 Try.f8 rfl rfl rfl rfl rfl rfl rfl ⟨rfl, rfl, rfl, rfl, rfl⟩ rfl rfl rfl rfl rfl (by kernel_rfl) Try.func8 (by kernel_rfl)
    (of_decide_eq_true (by kernel_rfl)) (by unfold Func.isWrapper; first | (rw [if_pos (by decide +kernel)]; kernel_rfl) | (rw [if_neg (by decide +kernel)]; exact ⟨rfl, rfl⟩))
    (fun os started H enc _ => lifted8 os started H enc)

theorem proved8 : Rows.SealMoreKeysSaid := over8
end Go.Proofs.Ytnkjoccemfbpcaa.SealOwn
