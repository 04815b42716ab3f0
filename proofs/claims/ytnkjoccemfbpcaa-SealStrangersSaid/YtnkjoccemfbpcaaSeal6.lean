/- The law SealStrangers. -/
import Derived.Test.YtnkjoccemfbpcaaSeal2
import Derived.Test.YtnkjoccemfbpcaaRows
namespace Go.Proofs.Ytnkjoccemfbpcaa.SealOwn
open Go Go.Sx Go.Proofs.Ytnkjoccemfbpcaa
set_option maxRecDepth 100000
set_option maxHeartbeats 4000000
set_option linter.unusedVariables false
set_option linter.unusedSimpArgs false
variable {E : Mem} {K : SV → Mem → Prop}

theorem e6 {a : Int} {b : Int} {c : Int} {d : Int} {e : Int} {F : Int} {N : Int} {n : Int} {m : Int} {s : Option Addr} {l cp : Nat} {zs : List Int} (ha : (Lit.int .i64 a).wf = true) (hb : (Lit.int .i64 b).wf = true) (hc : (Lit.int .i64 c).wf = true) (hd : (Lit.int .i64 d).wf = true) (he : (Lit.int .i64 e).wf = true) (hF : (Lit.int .i64 F).wf = true) (hN : (Lit.int .i64 N).wf = true) (hn : (Lit.int .i64 n).wf = true) (hm : (Lit.int .i64 m).wf = true) (hB : Ints .u8 E s l cp zs) (hz : Ints .u8 E none 0 0 []) (h : K (B true) E) :
    Ent C2 3 Try.f6 [Fr a b c d e s l cp, .agg [I F, I N], I n, I m] E K := by
  refine same (by kernel_rfl) (?_ : 
      Mem.le E E ∧
        bif decide ((↑l : Int) > 6000) then Mem.le E E ∧ K (SV.raw (Value.bool true)) E
        else
          Mem.le E E ∧
            Mem.le E E ∧
              bif ownE m == 0 then
                bif bif true then openE d 0 F N n != 0 else false then
                  Mem.le E E ∧
                    bif decide (F < N) then
                      Mem.le E E ∧ K (SV.raw (Value.bool (bif true then openE d (ownN m) F N n != 0 else false))) E
                    else
                      bif sealE d F N == 0 then
                        Mem.le E E ∧
                          bif bif true then openE d (ownN m) F N n != 0 else false then
                            Mem.le E E ∧ K (SV.raw (Value.bool false)) E
                          else Mem.le E E ∧ K (SV.raw (Value.bool false)) E
                      else
                        Mem.le E E ∧
                          bif bif true then openE d (ownN m) F N n != 0 else false then
                            bif bif true then sealE d F N != 0 else false then
                              Mem.le E E ∧
                                Mem.le E E ∧ K (SV.raw (Value.bool (bif true then openE d e F N n != 0 else false))) E
                            else Mem.le E E ∧ K (SV.raw (Value.bool false)) E
                          else Mem.le E E ∧ K (SV.raw (Value.bool false)) E
                else
                  bif decide (F < N) then Mem.le E E ∧ K (SV.raw (Value.bool false)) E
                  else
                    bif sealE d F N == 0 then Mem.le E E ∧ Mem.le E E ∧ K (SV.raw (Value.bool false)) E
                    else Mem.le E E ∧ Mem.le E E ∧ K (SV.raw (Value.bool false)) E
              else
                bif decide (F < N) then Mem.le E E ∧ K (SV.raw (Value.bool (bif true then openE d 0 F N n != 0 else false))) E
                else
                  bif sealE d F N == 0 then
                    Mem.le E E ∧
                      bif bif true then openE d 0 F N n != 0 else false then Mem.le E E ∧ K (SV.raw (Value.bool false)) E
                      else Mem.le E E ∧ K (SV.raw (Value.bool false)) E
                  else
                    Mem.le E E ∧
                      bif bif true then openE d 0 F N n != 0 else false then
                        bif bif true then sealE d F N != 0 else false then
                          Mem.le E E ∧ Mem.le E E ∧ K (SV.raw (Value.bool (bif true then openE d e F N n != 0 else false))) E
                        else Mem.le E E ∧ K (SV.raw (Value.bool false)) E
                      else Mem.le E E ∧ K (SV.raw (Value.bool false)) E)
  have o1 := ownS m
  have s1 := sealS d F N
  have p1 := openS d 0 F N n
  have p2 := openS d (ownN m) F N n
  have p3 := openS d e F N n
  simp only [Mem.le_refl, true_and, cond_true, cond_false, Bool.cond_eq_ite, Bool.false_eq_true, if_true, if_false, ite_true, ite_false, beq_iff_eq, bne_iff_ne, decide_eq_true_eq, beqs, beqd, ne_eq, reduceCtorEq, beq_self_eq_true, bne_self_eq_false, eqF_self, Bool.true_eq_false, iff_true, true_iff, iff_false, false_iff, not_false_eq_true, not_true_eq_false, Bool.and_eq_true, Bool.or_eq_true, Bool.not_eq_true']
  repeat' (first | refine iteI (fun _ => ?_) (fun _ => ?_))
  all_goals refine leaf h ?_
  all_goals try simp only [cond_true, cond_false, Bool.cond_eq_ite, Bool.false_eq_true, if_true, if_false, ite_true, ite_false, beq_iff_eq, bne_iff_ne, decide_eq_true_eq, beqs, beqd, ne_eq, reduceCtorEq, beq_self_eq_true, bne_self_eq_false, eqF_self, Bool.true_eq_false, iff_true, true_iff, iff_false, false_iff, not_false_eq_true, not_true_eq_false, Bool.and_eq_true, Bool.or_eq_true, Bool.not_eq_true']
  all_goals try omega


theorem opn6 (W : World) (K : List SV → Prop) (h : ∀ a : Int, (Lit.int .i64 a).wf = true → ∀ b : Int, (Lit.int .i64 b).wf = true → ∀ c : Int, (Lit.int .i64 c).wf = true → ∀ d : Int, (Lit.int .i64 d).wf = true → ∀ e : Int, (Lit.int .i64 e).wf = true → ∀ (s : Option Addr) (l cp : Nat) (zs : List Int), l ≤ cp → cp ≤ maxLen → (s = none → cp = 0) → zs.length = cp → (∀ z ∈ zs, (Lit.int .u8 z).wf = true) → RowAt W (.slice s l cp) (zs.map (.int .u8)) → ∀ F : Int, (Lit.int .i64 F).wf = true → ∀ N : Int, (Lit.int .i64 N).wf = true → ∀ n : Int, (Lit.int .i64 n).wf = true → ∀ m : Int, (Lit.int .i64 m).wf = true → K [Fr a b c d e s l cp, .agg [I F, I N], I n, I m]) : opnAll Try.prog W Try.f6.params.toList K :=
  same (by kernel_rfl) h

theorem sem6 (W : World) : opnAll Try.prog W Try.f6.params.toList fun ss => TabSem Try.prog 6 ss (fun v cs => RowAt W v cs) fun r _ => r = .raw (.bool true) := by
  refine opn6 W _ ?_
  intro a ha b hb c hc d hd e he s l cp zs g1 g2 g3 g4 g5 g6 F hF N hN n hn m hm
  exact Ent.sem okC2 Try.func6 ⟨by kernel_rfl, by kernel_rfl⟩ rfl (e6 ha hb hc hd he hF hN hn hm ⟨g6, by omega, by omega⟩ ⟨.inl rfl, Nat.le_refl _, Nat.zero_le _⟩ rfl)

theorem lifted6 (os : Os) (started : os.Started) (H : Type) (enc : TypeId × Value → H) :
    ReturnsInHanded {} Try.checked os 6 .any (Rows.sealStrangersSpec.pre6 enc Try.prog Try.f6 Rows.sealStrangersRow.domain false) (Rows.sealStrangersSpec.post enc Try.prog Try.f6 false true false false) :=
  lift_true (C := Try.checked) (by kernel_rfl) (by kernel_rfl) started (by kernel_rfl) Try.func6
    (ChangeSpec.witness6 (enc := enc) (C := Try.checked) false ⟨#[], #[.agg #[.int .i64 0, .int .i64 0, .int .i64 0, .int .i64 0, .int .i64 0, .slice none 0 0], .agg #[.int .i64 0, .int .i64 0], .int .i64 0, .int .i64 0], []⟩ 8 (by kernel_rfl) (by kernel_rfl) (by kernel_rfl) (by kernel_rfl))
    (Tb := 4) (by kernel_rfl) (by kernel_rfl) (by kernel_rfl) rfl
    (fun ds hl => by
      match ds, hl with
      | [d0, d1, d2, d3], _ => exact ⟨rfl, rfl, rfl⟩)
    sem6

theorem over6 : Rows.sealStrangersRow.holds Try.pinned (OpenSpec.ofChange Rows.sealStrangersSpec) :=
  OpenClaim.holds_of_wide 6 Try.f6 rfl rfl rfl rfl rfl rfl rfl ⟨rfl, rfl, rfl, rfl, rfl⟩ rfl rfl rfl rfl rfl (by kernel_rfl) Try.func6 (by kernel_rfl)
    (of_decide_eq_true (by kernel_rfl)) (by unfold Func.isWrapper; first | (rw [if_pos (by decide +kernel)]; kernel_rfl) | (rw [if_neg (by decide +kernel)]; exact ⟨rfl, rfl⟩))
    (fun os started H enc _ => lifted6 os started H enc)

theorem proved6 : Rows.SealStrangersSaid := over6
end Go.Proofs.Ytnkjoccemfbpcaa.SealOwn
