/- The seal package: what its functions answer. -/
import Derived.Test.YtnkjoccemfbpcaaProg
import Derived.Test.YtnkjoccemfbpcaaSxU
namespace Go.Proofs.Ytnkjoccemfbpcaa.SealOwn
open Go Go.Sx
set_option maxRecDepth 100000
set_option linter.unusedVariables false
set_option linter.unusedSimpArgs false

def keyN (n : Int) : Int := if 0 ≤ n ∧ n ≤ 1000000000 then n / 2000 + 1 else 0
def keyE (n : Int) : Int := if 0 ≤ n ∧ n ≤ 1000000000 then 0 else 1
def ownN (n : Int) : Int := if 0 ≤ n ∧ n < 60 then n + 1000000 else 0
def ownE (n : Int) : Int := if 0 ≤ n ∧ n < 60 then 0 else 1
def sealE (d F N : Int) : Int := if 0 ≤ d ∧ d ≤ 1000000000 then (if F ≤ d / 2000 ∧ d / 2000 < N then 0 else 13) else 1
def openE (d e F N n : Int) : Int := if 0 ≤ n ∧ n ≤ 1000000000 then (if d = n then (if e = n / 2000 + 1 ∧ F ≤ n / 2000 ∧ n / 2000 < N then 0 else 13) else 14) else 1
def epochN (n : Int) : Int := IntKind.wrap .i64 (Int.tdiv (IntKind.wrap .i64 (n - Int.tmod n 2000)) 2000)

theorem quo {n : Int} (h0 : 0 ≤ n) (h1 : n ≤ 1000000000) : IntKind.wrap .i64 (Int.tdiv n 2000) = n / 2000 := by
  rw [Int.tdiv_eq_ediv_of_nonneg h0, wrap_i64 (by omega)]
theorem quo1 {n : Int} (h0 : 0 ≤ n) (h1 : n ≤ 1000000000) : IntKind.wrap .i64 (n / 2000 + 1) = n / 2000 + 1 := wrap_i64 (by omega)
theorem epochN_eq {n : Int} (h0 : 0 ≤ n) (h1 : n ≤ 1000000000) : epochN n = n / 2000 := by
  unfold epochN
  rw [Int.tmod_eq_emod_of_nonneg h0, wrap_i64 (x := n - n % 2000) (by omega), quo (by omega) (by omega)]
  omega
theorem epochN_eq' {n : Int} (h0 : 0 ≤ n) (h1 : n ≤ 1000000000) : IntKind.wrap .i64 (Int.tdiv (IntKind.wrap .i64 (n - Int.tmod n 2000)) 2000) = n / 2000 := epochN_eq h0 h1

noncomputable def C0 : Cx := { P := Try.prog, inl := fun f => List.contains [20, 21, 22, 23, 24, 25, 26, 28, 29, 30, 31, 32, 49] f, tab := fun _ _ _ _ => False, opt := ⟨4, [5]⟩, muts := mutsD }

variable {E : Mem} {K : SV → Mem → Prop}

theorem s10 {n : Int} (h : K (.tup [I (keyN n), I (keyE n)]) E) :
    Ent C0 3 Try.f10 [I n] E K := by
  refine same (by kernel_rfl) (?_ : 
      Mem.le E E ∧
        bif decide (n ≥ 0) then
          Mem.le E E ∧
            bif !bif true then decide (n ≤ 1000000000) else false then
              Mem.le E E ∧ Mem.le E E ∧ K (SV.tup [SV.raw (Value.int IntKind.i64 0), SV.raw (Value.int IntKind.i64 1)]) E
            else
              Mem.le E E ∧
                Mem.le E E ∧
                  Mem.le E E ∧
                    K
                      (SV.tup
                        [SV.raw
                            (Value.int IntKind.i64
                              (IntKind.wrap IntKind.i64 (IntKind.wrap IntKind.i64 (Int.tdiv n 2000) + 1))),
                          SV.raw (Value.int IntKind.i64 0)])
                      E
        else
          Mem.le E E ∧
            Mem.le E E ∧ Mem.le E E ∧ K (SV.tup [SV.raw (Value.int IntKind.i64 0), SV.raw (Value.int IntKind.i64 1)]) E)
  by_cases h0 : 0 ≤ n <;> by_cases h1 : n ≤ 1000000000 <;> simp [h0, h1, keyN, keyE, Mem.le_refl, quo, quo1, epochN_eq', epochN_eq] at h ⊢ <;> assumption


theorem s11 {n : Int} (h : K (.tup [I (keyN n), I (keyE n)]) E) :
    Ent C0 3 Try.f11 [I n] E K := by
  refine same (by kernel_rfl) (?_ : 
      bif decide (n ≥ 0) then
        Mem.le E E ∧
          bif !bif true then decide (n ≤ 1000000000) else false then
            Mem.le E E ∧ K (SV.tup [SV.raw (Value.int IntKind.i64 0), SV.raw (Value.int IntKind.i64 1)]) E
          else
            Mem.le E E ∧
              Mem.le E E ∧
                K
                  (SV.tup
                    [SV.raw
                        (Value.int IntKind.i64
                          (IntKind.wrap IntKind.i64
                            (IntKind.wrap IntKind.i64 (Int.tdiv (IntKind.wrap IntKind.i64 (n - Int.tmod n 2000)) 2000) + 1))),
                      SV.raw (Value.int IntKind.i64 0)])
                  E
      else Mem.le E E ∧ Mem.le E E ∧ K (SV.tup [SV.raw (Value.int IntKind.i64 0), SV.raw (Value.int IntKind.i64 1)]) E)
  by_cases h0 : 0 ≤ n <;> by_cases h1 : n ≤ 1000000000 <;> simp [h0, h1, keyN, keyE, Mem.le_refl, quo, quo1, epochN_eq', epochN_eq] at h ⊢ <;> assumption


theorem s12 {n : Int} (h : K (.tup [I (ownN n), I (ownE n)]) E) :
    Ent C0 3 Try.f12 [I n] E K := by
  refine same (by kernel_rfl) (?_ : 
      bif decide (n ≥ 0) then
        bif !bif true then decide (n < 60) else false then
          Mem.le E E ∧ Mem.le E E ∧ K (SV.tup [SV.raw (Value.int IntKind.i64 0), SV.raw (Value.int IntKind.i64 1)]) E
        else
          Mem.le E E ∧
            Mem.le E E ∧
              Mem.le E E ∧
                K
                  (SV.tup
                    [SV.raw (Value.int IntKind.i64 (IntKind.wrap IntKind.i64 (1000000 + n))),
                      SV.raw (Value.int IntKind.i64 0)])
                  E
      else Mem.le E E ∧ Mem.le E E ∧ K (SV.tup [SV.raw (Value.int IntKind.i64 0), SV.raw (Value.int IntKind.i64 1)]) E)
  by_cases h0 : 0 ≤ n <;> by_cases h1 : n < 60 <;> simp [h0, h1, ownN, ownE, Mem.le_refl, show ¬ (n > 59) ↔ n < 60 by omega, show n > 59 ↔ ¬ n < 60 by omega, show n < 0 ↔ ¬ 0 ≤ n by omega] at h ⊢
  all_goals first | exact h | skip
  all_goals rw [wrap_i64 (by omega), Int.add_comm]; exact h


theorem s13 {n : Int} (h : K (.tup [I (ownN n), I (ownE n)]) E) :
    Ent C0 3 Try.f13 [I n] E K := by
  refine same (by kernel_rfl) (?_ : 
      bif decide (n < 0) then Mem.le E E ∧ K (SV.tup [SV.raw (Value.int IntKind.i64 0), SV.raw (Value.int IntKind.i64 1)]) E
      else
        bif bif false then true else decide (n > 59) then
          Mem.le E E ∧ K (SV.tup [SV.raw (Value.int IntKind.i64 0), SV.raw (Value.int IntKind.i64 1)]) E
        else
          Mem.le E E ∧
            K
              (SV.tup
                [SV.raw (Value.int IntKind.i64 (IntKind.wrap IntKind.i64 (1000000 + n))), SV.raw (Value.int IntKind.i64 0)])
              E)
  by_cases h0 : 0 ≤ n <;> by_cases h1 : n < 60 <;> simp [h0, h1, ownN, ownE, Mem.le_refl, show ¬ (n > 59) ↔ n < 60 by omega, show n > 59 ↔ ¬ n < 60 by omega, show n < 0 ↔ ¬ 0 ≤ n by omega] at h ⊢
  all_goals first | exact h | skip
  all_goals rw [wrap_i64 (by omega), Int.add_comm]; exact h


theorem s20 {n : Int} (h : K (I (epochN n)) E) :
    Ent C0 3 Try.f20 [I n] E K := by
  refine same (by kernel_rfl) (?_ : 
      Mem.le E E ∧
        K
          (SV.raw
            (Value.int IntKind.i64
              (IntKind.wrap IntKind.i64 (Int.tdiv (IntKind.wrap IntKind.i64 (n - Int.tmod n 2000)) 2000))))
          E)
  exact ⟨Mem.le_refl _, h⟩


theorem s19 {n m q : Int} (h : K (B (decide (n ≤ q ∧ q < m))) E) :
    Ent C0 3 Try.f19 [.agg [I n, I m], I q] E K := by
  refine same (by kernel_rfl) (?_ : 
      bif decide (n ≤ q) then Mem.le E E ∧ K (SV.raw (Value.bool (bif true then decide (q < m) else false))) E
      else Mem.le E E ∧ K (SV.raw (Value.bool false)) E)
  by_cases h0 : n ≤ q <;> by_cases h1 : q < m <;> simp [h0, h1, Mem.le_refl] at h ⊢ <;> exact h


noncomputable def tab1 : FuncId → List SV → Mem → (SV → Mem → Prop) → Prop
  | 10, [.raw (.int .i64 n)], E, K => K (.tup [I (keyN n), I (keyE n)]) E
  | 11, [.raw (.int .i64 n)], E, K => K (.tup [I (keyN n), I (keyE n)]) E
  | 12, [.raw (.int .i64 n)], E, K => K (.tup [I (ownN n), I (ownE n)]) E
  | 13, [.raw (.int .i64 n)], E, K => K (.tup [I (ownN n), I (ownE n)]) E
  | 19, [.agg [.raw (.int .i64 n), .raw (.int .i64 m)], .raw (.int .i64 q)], E, K => K (B (decide (n ≤ q ∧ q < m))) E
  | 20, [.raw (.int .i64 n)], E, K => K (I (epochN n)) E
  | _, _, _, _ => False
def inl1 : FuncId → Bool := fun f => List.contains [21, 22, 23, 24, 25, 26, 28, 29, 30, 31, 32, 49] f
noncomputable def C1 : Cx := { P := Try.prog, inl := inl1, tab := tab1, opt := ⟨4, [5]⟩, muts := mutsD }
def Fr (a b c d e : Int) (s : Option Addr) (l cp : Nat) : SV := .agg [I a, I b, I c, I d, I e, L s l cp]

theorem s14 {a b c d e : Int} {s : Option Addr} {l cp : Nat} {F N : Int} (h : bif sealE d F N == 0 then K (.tup [Fr a b c d (keyN d) s l cp, I 0]) E else K (.tup [Fr 0 0 0 0 0 none 0 0, I (sealE d F N)]) E) :
    Ent C1 3 Try.f14 [Fr a b c d e s l cp, .agg [I F, I N]] E K := by
  refine same (by kernel_rfl) (?_ : 
      Mem.le E E ∧
        bif keyE d != 0 then
          Mem.le E E ∧
            K
              (SV.tup
                [SV.agg
                    [SV.raw (Value.int IntKind.i64 0), SV.raw (Value.int IntKind.i64 0), SV.raw (Value.int IntKind.i64 0),
                      SV.raw (Value.int IntKind.i64 0), SV.raw (Value.int IntKind.i64 0), SV.raw (Value.slice none 0 0)],
                  SV.raw (Value.int IntKind.i64 (keyE d))])
              E
        else
          Mem.le E E ∧
            bif decide (IntKind.wrap IntKind.i64 (Int.tdiv d 2000) ≥ F) then
              Mem.le E E ∧
                bif !bif true then decide (IntKind.wrap IntKind.i64 (Int.tdiv d 2000) < N) else false then
                  Mem.le E E ∧
                    K
                      (SV.tup
                        [SV.agg
                            [SV.raw (Value.int IntKind.i64 0), SV.raw (Value.int IntKind.i64 0),
                              SV.raw (Value.int IntKind.i64 0), SV.raw (Value.int IntKind.i64 0),
                              SV.raw (Value.int IntKind.i64 0), SV.raw (Value.slice none 0 0)],
                          SV.raw (Value.int IntKind.i64 13)])
                      E
                else
                  Mem.le E E ∧
                    K
                      (SV.tup
                        [SV.agg
                            [SV.raw (Value.int IntKind.i64 a), SV.raw (Value.int IntKind.i64 b),
                              SV.raw (Value.int IntKind.i64 c), SV.raw (Value.int IntKind.i64 d),
                              SV.raw (Value.int IntKind.i64 (keyN d)), SV.raw (Value.slice s l cp)],
                          SV.raw (Value.int IntKind.i64 0)])
                      E
            else
              Mem.le E E ∧
                Mem.le E E ∧
                  K
                    (SV.tup
                      [SV.agg
                          [SV.raw (Value.int IntKind.i64 0), SV.raw (Value.int IntKind.i64 0),
                            SV.raw (Value.int IntKind.i64 0), SV.raw (Value.int IntKind.i64 0),
                            SV.raw (Value.int IntKind.i64 0), SV.raw (Value.slice none 0 0)],
                        SV.raw (Value.int IntKind.i64 13)])
                    E)
  by_cases h0 : 0 ≤ d <;> by_cases h1 : d ≤ 1000000000 <;> simp [h0, h1, keyE, sealE, Mem.le_refl, quo, quo1, epochN_eq', epochN_eq] at h ⊢ <;> first | exact h | skip
  all_goals by_cases h2 : F ≤ d / 2000 <;> by_cases h3 : d / 2000 < N <;> simp [h0, h1, h2, h3, Mem.le_refl, quo1, keyN, show d / 2000 < F ↔ ¬ F ≤ d / 2000 by omega, show N ≤ d / 2000 ↔ ¬ d / 2000 < N by omega] at h ⊢ <;> exact h


theorem s15 {a b c d e : Int} {s : Option Addr} {l cp : Nat} {F N : Int} (h : bif sealE d F N == 0 then K (.tup [Fr a b c d (keyN d) s l cp, I 0]) E else K (.tup [Fr 0 0 0 0 0 none 0 0, I (sealE d F N)]) E) :
    Ent C1 3 Try.f15 [Fr a b c d e s l cp, .agg [I F, I N]] E K := by
  refine same (by kernel_rfl) (?_ : 
      bif decide (d ≥ 0) then
        Mem.le E E ∧
          bif !bif true then decide (d ≤ 1000000000) else false then
            Mem.le E E ∧
              K
                (SV.tup
                  [SV.agg
                      [SV.raw (Value.int IntKind.i64 0), SV.raw (Value.int IntKind.i64 0), SV.raw (Value.int IntKind.i64 0),
                        SV.raw (Value.int IntKind.i64 0), SV.raw (Value.int IntKind.i64 0), SV.raw (Value.slice none 0 0)],
                    SV.raw (Value.int IntKind.i64 1)])
                E
          else
            Mem.le E E ∧
              Mem.le E E ∧
                bif !decide (F ≤ epochN d ∧ epochN d < N) then
                  Mem.le E E ∧
                    K
                      (SV.tup
                        [SV.agg
                            [SV.raw (Value.int IntKind.i64 0), SV.raw (Value.int IntKind.i64 0),
                              SV.raw (Value.int IntKind.i64 0), SV.raw (Value.int IntKind.i64 0),
                              SV.raw (Value.int IntKind.i64 0), SV.raw (Value.slice none 0 0)],
                          SV.raw (Value.int IntKind.i64 13)])
                      E
                else
                  Mem.le E E ∧
                    Mem.le E E ∧
                      K
                        (SV.tup
                          [SV.agg
                              [SV.raw (Value.int IntKind.i64 a), SV.raw (Value.int IntKind.i64 b),
                                SV.raw (Value.int IntKind.i64 c), SV.raw (Value.int IntKind.i64 d),
                                SV.raw (Value.int IntKind.i64 (IntKind.wrap IntKind.i64 (epochN d + 1))),
                                SV.raw (Value.slice s l cp)],
                            SV.raw (Value.int IntKind.i64 0)])
                        E
      else
        Mem.le E E ∧
          Mem.le E E ∧
            K
              (SV.tup
                [SV.agg
                    [SV.raw (Value.int IntKind.i64 0), SV.raw (Value.int IntKind.i64 0), SV.raw (Value.int IntKind.i64 0),
                      SV.raw (Value.int IntKind.i64 0), SV.raw (Value.int IntKind.i64 0), SV.raw (Value.slice none 0 0)],
                  SV.raw (Value.int IntKind.i64 1)])
              E)
  by_cases h0 : 0 ≤ d <;> by_cases h1 : d ≤ 1000000000 <;> simp [h0, h1, keyE, sealE, Mem.le_refl, quo, quo1, epochN_eq', epochN_eq] at h ⊢ <;> first | exact h | skip
  all_goals by_cases h2 : F ≤ d / 2000 <;> by_cases h3 : d / 2000 < N <;> simp [h0, h1, h2, h3, Mem.le_refl, quo1, keyN, show d / 2000 < F ↔ ¬ F ≤ d / 2000 by omega, show N ≤ d / 2000 ↔ ¬ d / 2000 < N by omega] at h ⊢ <;> exact h


theorem s17 {a b c d e : Int} {s : Option Addr} {l cp : Nat} {F N : Int} {n : Int} (h : K (I (openE d e F N n)) E) :
    Ent C1 3 Try.f17 [Fr a b c d e s l cp, .agg [I F, I N], I n] E K := by
  refine same (by kernel_rfl) (?_ : 
      Mem.le E E ∧
        bif keyE n != 0 then Mem.le E E ∧ K (SV.raw (Value.int IntKind.i64 (keyE n))) E
        else
          bif d == n then
            Mem.le E E ∧
              Mem.le E E ∧
                Mem.le E E ∧
                  bif e == IntKind.wrap IntKind.i64 (IntKind.wrap IntKind.i64 (Int.tdiv n 2000) + 1) then
                    Mem.le E E ∧
                      bif decide (IntKind.wrap IntKind.i64 (Int.tdiv n 2000) ≥ F) then
                        Mem.le E E ∧
                          bif
                              bif true then bif true then decide (IntKind.wrap IntKind.i64 (Int.tdiv n 2000) < N) else false
                              else false then
                            Mem.le E E ∧ Mem.le E E ∧ K (SV.raw (Value.int IntKind.i64 0)) E
                          else Mem.le E E ∧ Mem.le E E ∧ K (SV.raw (Value.int IntKind.i64 13)) E
                      else Mem.le E E ∧ Mem.le E E ∧ Mem.le E E ∧ K (SV.raw (Value.int IntKind.i64 13)) E
                  else Mem.le E E ∧ Mem.le E E ∧ K (SV.raw (Value.int IntKind.i64 13)) E
          else Mem.le E E ∧ Mem.le E E ∧ K (SV.raw (Value.int IntKind.i64 14)) E)
  by_cases h0 : 0 ≤ n <;> by_cases h1 : n ≤ 1000000000 <;> simp [h0, h1, keyE, openE, Mem.le_refl, quo, quo1, epochN_eq', epochN_eq] at h ⊢ <;> first | exact h | skip
  all_goals by_cases h4 : d = n <;> simp [h4, Mem.le_refl] at h ⊢ <;> first | exact h | skip
  all_goals by_cases h5 : e = n / 2000 + 1 <;> by_cases h2 : F ≤ n / 2000 <;> by_cases h3 : n / 2000 < N <;> simp [h5, h2, h3, Mem.le_refl, show n / 2000 < F ↔ ¬ F ≤ n / 2000 by omega, show N ≤ n / 2000 ↔ ¬ n / 2000 < N by omega] at h ⊢ <;> exact h


theorem s18 {a b c d e : Int} {s : Option Addr} {l cp : Nat} {F N : Int} {n : Int} (h : K (I (openE d e F N n)) E) :
    Ent C1 3 Try.f18 [Fr a b c d e s l cp, .agg [I F, I N], I n] E K := by
  refine same (by kernel_rfl) (?_ : 
      bif decide (n ≥ 0) then
        Mem.le E E ∧
          bif !bif true then decide (n ≤ 1000000000) else false then Mem.le E E ∧ K (SV.raw (Value.int IntKind.i64 1)) E
          else
            bif d != n then Mem.le E E ∧ K (SV.raw (Value.int IntKind.i64 14)) E
            else
              Mem.le E E ∧
                Mem.le E E ∧
                  bif !decide (F ≤ epochN n ∧ epochN n < N) then Mem.le E E ∧ K (SV.raw (Value.int IntKind.i64 13)) E
                  else
                    Mem.le E E ∧
                      bif bif false then true else e != IntKind.wrap IntKind.i64 (epochN n + 1) then
                        Mem.le E E ∧ K (SV.raw (Value.int IntKind.i64 13)) E
                      else Mem.le E E ∧ K (SV.raw (Value.int IntKind.i64 0)) E
      else Mem.le E E ∧ Mem.le E E ∧ K (SV.raw (Value.int IntKind.i64 1)) E)
  by_cases h0 : 0 ≤ n <;> by_cases h1 : n ≤ 1000000000 <;> simp [h0, h1, keyE, openE, Mem.le_refl, quo, quo1, epochN_eq', epochN_eq] at h ⊢ <;> first | exact h | skip
  all_goals by_cases h4 : d = n <;> simp [h4, Mem.le_refl] at h ⊢ <;> first | exact h | skip
  all_goals by_cases h5 : e = n / 2000 + 1 <;> by_cases h2 : F ≤ n / 2000 <;> by_cases h3 : n / 2000 < N <;> simp [h5, h2, h3, Mem.le_refl, show n / 2000 < F ↔ ¬ F ≤ n / 2000 by omega, show N ≤ n / 2000 ↔ ¬ n / 2000 < N by omega] at h ⊢ <;> exact h


/-- Same: the loop. -/
def shSame (b b' : Option Addr) (l c l' c' : Nat) (E : Mem) (k : Nat) : St :=
  { fr := [some (L b l c), some (L b' l' c'), none, none, none, some (I k)] ++ List.replicate 20 none, bx := [], E := E }

noncomputable def CS : Cx := { P := Try.prog, inl := fun f => List.contains [] f, tab := fun _ _ _ _ => False, opt := ⟨0, [5]⟩, muts := mutsD }
theorem okCS : CxOK CS := ⟨fun _ _ _ _ h => h.elim, by kernel_rfl, okInl (by kernel_rfl)⟩
theorem okC0 : CxOK C0 := ⟨fun _ _ _ _ h => h.elim, by kernel_rfl, okInl (by kernel_rfl)⟩

theorem sameLoop {b b' : Option Addr} {l c l' c' : Nat} {zs ys : List Int} (h1 : Ints .u8 E b l c zs) (h2 : Ints .u8 E b' l' c' ys) (hl : l = l') (h : K (B (decide (zs.take l = ys.take l'))) E) :
    ∀ i : {k : Nat // k ≤ l ∧ zs.take k = ys.take k}, Lp CS 3 Try.f27 [1, 1, 0, 1, 0] E K (shSame b b' l c l' c' E i.1) := by
  refine Lp_ind okCS (fun i : {k : Nat // k ≤ l ∧ zs.take k = ys.take k} => shSame b b' l c l' c' E i.1) (fun i => l - i.1) ?_
  rintro ⟨k, hk, heq⟩ ih
  show Rnd CS 3 Try.f27 [1, 1, 0, 1, 0] E K (shSame b b' l c l' c' E k)
  refine same (by kernel_rfl) (?_ : 
      bif decide ((↑k : Int) < (↑l : Int)) then
        req (0 ≤ (↑k : Int) ∧ (↑k : Int) < (↑l : Int))
          ((∃ (cs : List Value), E (Value.slice b l c) cs ∧ (cs = [] → False)) ∧
            ∃ (n : Int),
              LoadE CS.P E 5 (Value.slice b l c) (Int.toNat (↑k : Int) * 1) (SV.raw (Value.int IntKind.u8 n)) ∧
                req (0 ≤ (↑k : Int) ∧ (↑k : Int) < (↑l' : Int))
                  ((∃ (cs : List Value), E (Value.slice b' l' c') cs ∧ (cs = [] → False)) ∧
                    ∃ (n_1 : Int),
                      LoadE CS.P E 5 (Value.slice b' l' c') (Int.toNat (↑k : Int) * 1) (SV.raw (Value.int IntKind.u8 n_1)) ∧
                        bif n != n_1 then Mem.le E E ∧ K (SV.raw (Value.bool false)) E
                        else
                          Lp CS 3 Try.f27 [1, 1, 0, 1, 0] E K
                            {
                              fr :=
                                [some (SV.raw (Value.slice b l c)), some (SV.raw (Value.slice b' l' c')), none, none, none,
                                  some (SV.raw (Value.int IntKind.i64 (IntKind.wrap IntKind.i64 ((↑k : Int) + 1)))), none,
                                  none, none, none, none, none, none, none, none, none, none, none, none, none, none, none,
                                  none, none, none, none],
                              bx := [], E := E }))
      else Mem.le E E ∧ K (SV.raw (Value.bool true)) E)
  have hlen1 := h1.2
  have hlen2 := h2.2
  have hmax : maxLen = 9223372036854775807 := rfl
  by_cases hkl : k < l
  · have hg : ((k : Int) < (l : Int)) := by omega
    have hg' : ((k : Int) < (l' : Int)) := by omega
    simp only [hg, hg', decide_true, cond_true, Int.toNat_natCast]
    refine req_intro ⟨by omega, trivial⟩ ⟨h1.ne hkl, _, h1.load (by kernel_rfl) hkl, req_intro ⟨by omega, trivial⟩ ⟨h2.ne (hl ▸ hkl), _, h2.load (by kernel_rfl) (hl ▸ hkl), ?_⟩⟩
    by_cases e : zs.getD k 0 = ys.getD k 0
    · rw [show (zs.getD k 0 != ys.getD k 0) = false by simp only [e, bne_self_eq_false], wrap_i64 (by omega)]
      have ih2 := ih ⟨k + 1, by omega, take_snoc heq (by omega) (by omega) e⟩ (by simp only; omega)
      exact ih2
    · rw [show (zs.getD k 0 != ys.getD k 0) = true by simpa using e]
      refine ⟨Mem.le_refl _, ?_⟩
      rw [show decide (zs.take l = ys.take l') = false from decide_eq_false (take_ne hkl (hl ▸ hkl) (by omega) (by omega) e)] at h
      exact h
  · have hg : ¬ ((k : Int) < (l : Int)) := by omega
    simp only [hg, decide_false, cond_false]
    refine ⟨Mem.le_refl _, ?_⟩
    obtain rfl : k = l := by omega
    rw [show decide (zs.take k = ys.take l') = true from decide_eq_true (by rw [← hl]; exact heq)] at h
    exact h

theorem s27 {b b' : Option Addr} {l c l' c' : Nat} {zs ys : List Int} (h1 : Ints .u8 E b l c zs) (h2 : Ints .u8 E b' l' c' ys) (h : K (B (decide (zs.take l = ys.take l'))) E) :
    Ent CS 3 Try.f27 [L b l c, L b' l' c'] E K := by
  refine same (by kernel_rfl) (?_ : 
      bif (↑l : Int) != (↑l' : Int) then Mem.le E E ∧ K (SV.raw (Value.bool false)) E
      else
        Lp CS 3 Try.f27 [1, 1, 0, 1, 0] E K
          {
            fr :=
              [some (SV.raw (Value.slice b l c)), some (SV.raw (Value.slice b' l' c')), none, none, none,
                some (SV.raw (Value.int IntKind.i64 0)), some (SV.raw (Value.slice b l c)),
                some (SV.raw (Value.int IntKind.i64 (↑l : Int))), some (SV.raw (Value.slice b' l' c')),
                some (SV.raw (Value.int IntKind.i64 (↑l' : Int))), some (SV.raw (Value.bool ((↑l : Int) != (↑l' : Int)))),
                none, none, none, none, none, none, none, none, none, none, none, none, none, none, none],
            bx := [], E := E })
  by_cases hl : l = l'
  · rw [show ((l : Int) != (l' : Int)) = false by simp [hl]]
    exact Lp_from (fr' := (shSame b b' l c l' c' E 0).fr) (by simp [weakFr, shSame, List.replicate]) (sameLoop h1 h2 hl h ⟨0, by omega, rfl⟩)
  · rw [show ((l : Int) != (l' : Int)) = true by simp; omega]
    refine ⟨Mem.le_refl _, ?_⟩
    rw [show decide (zs.take l = ys.take l') = false from decide_eq_false (fun e => hl (by have := congrArg List.length e; have := h1.2; have := h2.2; simp at *; omega))] at h
    exact h

end Go.Proofs.Ytnkjoccemfbpcaa.SealOwn
