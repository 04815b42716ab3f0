/- The join package: what its functions answer. -/
import Derived.Test.YthbfpaemiccjcaaJoin1
namespace Go.Proofs.Ythbfpaemiccjcaa.JoinOwn
open Go Go.Sx
set_option maxRecDepth 100000
set_option maxHeartbeats 4000000
set_option linter.unusedVariables false
set_option linter.unusedSimpArgs false
variable {E : Mem} {K : SV → Mem → Prop}

theorem s11 {a1 : Int} {a2 : Int} {a3 : Int} {a4 : Int} {a5 : Int} {a6 : Int} {a7 : Int} {a8 : Int} {a9 : Int} (h : ∀ (p' : Int) (s' : Int) (n' : Int) (t' : Int) (r' : Int) (k : Int) (x : Int) (y : Int) (m : Int) (c : Int) (q : Int) (f : Int) (g : Int) (e : Int), Hyp (AskR a1 a2 a3 a4 a5 a6 a7 a8 a9 p' s' n' t' r' k x y m c q f g e) → K (.tup [.agg [I p', I s', I n', I t', I r'], .agg [I k, I x, I y, I m, I c, I q, I f, I g], I e]) E) :
    Ent J0 6 Try.f11 [.agg [I a1, I a2, I a3, I a4, I a5], I a6, I a7, I a8, I a9] E K := by
  refine same (by kernel_rfl) (?_ : 
      bif decide (a1 ≥ 0) then
        bif bif true then decide (a1 ≤ 3) else false then
          bif bif true then decide (a5 ≥ 0) else false then
            bif bif true then decide (a5 ≤ 255) else false then
              bif bif true then decide (a4 ≥ 0) else false then
                bif bif true then decide (a4 ≤ 1000000000) else false then
                  bif bif true then decide (a3 ≥ 0) else false then
                    bif bif true then decide (a3 ≤ 1000000000) else false then
                      bif bif true then decide (a2 ≥ -1) else false then
                        bif !bif true then decide (a2 < 60) else false then
                          Mem.le E E ∧
                            K
                              (SV.tup
                                [SV.agg
                                    [SV.raw (Value.int IntKind.i64 0), SV.raw (Value.int IntKind.i64 0),
                                      SV.raw (Value.int IntKind.i64 0), SV.raw (Value.int IntKind.i64 0),
                                      SV.raw (Value.int IntKind.i64 0)],
                                  SV.agg
                                    [SV.raw (Value.int IntKind.i64 0), SV.raw (Value.int IntKind.i64 0),
                                      SV.raw (Value.int IntKind.i64 0), SV.raw (Value.int IntKind.i64 0),
                                      SV.raw (Value.int IntKind.i64 0), SV.raw (Value.int IntKind.i64 0),
                                      SV.raw (Value.int IntKind.i64 0), SV.raw (Value.int IntKind.i64 0)],
                                  SV.raw (Value.int IntKind.i64 1)])
                              E
                        else
                          bif decide (a6 ≥ 0) then
                            Mem.le E E ∧
                              bif bif false then true else !bif true then decide (a6 < 60) else false then
                                Mem.le E E ∧
                                  K
                                    (SV.tup
                                      [SV.agg
                                          [SV.raw (Value.int IntKind.i64 0), SV.raw (Value.int IntKind.i64 0),
                                            SV.raw (Value.int IntKind.i64 0), SV.raw (Value.int IntKind.i64 0),
                                            SV.raw (Value.int IntKind.i64 0)],
                                        SV.agg
                                          [SV.raw (Value.int IntKind.i64 0), SV.raw (Value.int IntKind.i64 0),
                                            SV.raw (Value.int IntKind.i64 0), SV.raw (Value.int IntKind.i64 0),
                                            SV.raw (Value.int IntKind.i64 0), SV.raw (Value.int IntKind.i64 0),
                                            SV.raw (Value.int IntKind.i64 0), SV.raw (Value.int IntKind.i64 0)],
                                        SV.raw (Value.int IntKind.i64 1)])
                                    E
                              else
                                bif decide (a8 ≥ 0) then
                                  Mem.le E E ∧
                                    bif bif false then true else !bif true then decide (a8 < 60) else false then
                                      Mem.le E E ∧
                                        K
                                          (SV.tup
                                            [SV.agg
                                                [SV.raw (Value.int IntKind.i64 0), SV.raw (Value.int IntKind.i64 0),
                                                  SV.raw (Value.int IntKind.i64 0), SV.raw (Value.int IntKind.i64 0),
                                                  SV.raw (Value.int IntKind.i64 0)],
                                              SV.agg
                                                [SV.raw (Value.int IntKind.i64 0), SV.raw (Value.int IntKind.i64 0),
                                                  SV.raw (Value.int IntKind.i64 0), SV.raw (Value.int IntKind.i64 0),
                                                  SV.raw (Value.int IntKind.i64 0), SV.raw (Value.int IntKind.i64 0),
                                                  SV.raw (Value.int IntKind.i64 0), SV.raw (Value.int IntKind.i64 0)],
                                              SV.raw (Value.int IntKind.i64 1)])
                                          E
                                    else
                                      bif bif false then true else a6 == a8 then
                                        Mem.le E E ∧
                                          K
                                            (SV.tup
                                              [SV.agg
                                                  [SV.raw (Value.int IntKind.i64 0), SV.raw (Value.int IntKind.i64 0),
                                                    SV.raw (Value.int IntKind.i64 0), SV.raw (Value.int IntKind.i64 0),
                                                    SV.raw (Value.int IntKind.i64 0)],
                                                SV.agg
                                                  [SV.raw (Value.int IntKind.i64 0), SV.raw (Value.int IntKind.i64 0),
                                                    SV.raw (Value.int IntKind.i64 0), SV.raw (Value.int IntKind.i64 0),
                                                    SV.raw (Value.int IntKind.i64 0), SV.raw (Value.int IntKind.i64 0),
                                                    SV.raw (Value.int IntKind.i64 0), SV.raw (Value.int IntKind.i64 0)],
                                                SV.raw (Value.int IntKind.i64 1)])
                                            E
                                      else
                                        bif bif false then true else decide (a7 < 0) then
                                          Mem.le E E ∧
                                            K
                                              (SV.tup
                                                [SV.agg
                                                    [SV.raw (Value.int IntKind.i64 0), SV.raw (Value.int IntKind.i64 0),
                                                      SV.raw (Value.int IntKind.i64 0), SV.raw (Value.int IntKind.i64 0),
                                                      SV.raw (Value.int IntKind.i64 0)],
                                                  SV.agg
                                                    [SV.raw (Value.int IntKind.i64 0), SV.raw (Value.int IntKind.i64 0),
                                                      SV.raw (Value.int IntKind.i64 0), SV.raw (Value.int IntKind.i64 0),
                                                      SV.raw (Value.int IntKind.i64 0), SV.raw (Value.int IntKind.i64 0),
                                                      SV.raw (Value.int IntKind.i64 0), SV.raw (Value.int IntKind.i64 0)],
                                                  SV.raw (Value.int IntKind.i64 1)])
                                              E
                                        else
                                          bif bif false then true else decide (a7 > 1000000) then
                                            Mem.le E E ∧
                                              K
                                                (SV.tup
                                                  [SV.agg
                                                      [SV.raw (Value.int IntKind.i64 0), SV.raw (Value.int IntKind.i64 0),
                                                        SV.raw (Value.int IntKind.i64 0), SV.raw (Value.int IntKind.i64 0),
                                                        SV.raw (Value.int IntKind.i64 0)],
                                                    SV.agg
                                                      [SV.raw (Value.int IntKind.i64 0), SV.raw (Value.int IntKind.i64 0),
                                                        SV.raw (Value.int IntKind.i64 0), SV.raw (Value.int IntKind.i64 0),
                                                        SV.raw (Value.int IntKind.i64 0), SV.raw (Value.int IntKind.i64 0),
                                                        SV.raw (Value.int IntKind.i64 0), SV.raw (Value.int IntKind.i64 0)],
                                                    SV.raw (Value.int IntKind.i64 1)])
                                                E
                                          else
                                            bif bif false then true else decide (a9 < 0) then
                                              Mem.le E E ∧
                                                K
                                                  (SV.tup
                                                    [SV.agg
                                                        [SV.raw (Value.int IntKind.i64 0), SV.raw (Value.int IntKind.i64 0),
                                                          SV.raw (Value.int IntKind.i64 0), SV.raw (Value.int IntKind.i64 0),
                                                          SV.raw (Value.int IntKind.i64 0)],
                                                      SV.agg
                                                        [SV.raw (Value.int IntKind.i64 0), SV.raw (Value.int IntKind.i64 0),
                                                          SV.raw (Value.int IntKind.i64 0), SV.raw (Value.int IntKind.i64 0),
                                                          SV.raw (Value.int IntKind.i64 0), SV.raw (Value.int IntKind.i64 0),
                                                          SV.raw (Value.int IntKind.i64 0), SV.raw (Value.int IntKind.i64 0)],
                                                      SV.raw (Value.int IntKind.i64 1)])
                                                  E
                                            else
                                              bif bif false then true else decide (a9 > 1000000000) then
                                                Mem.le E E ∧
                                                  K
                                                    (SV.tup
                                                      [SV.agg
                                                          [SV.raw (Value.int IntKind.i64 0), SV.raw (Value.int IntKind.i64 0),
                                                            SV.raw (Value.int IntKind.i64 0),
                                                            SV.raw (Value.int IntKind.i64 0),
                                                            SV.raw (Value.int IntKind.i64 0)],
                                                        SV.agg
                                                          [SV.raw (Value.int IntKind.i64 0), SV.raw (Value.int IntKind.i64 0),
                                                            SV.raw (Value.int IntKind.i64 0),
                                                            SV.raw (Value.int IntKind.i64 0),
                                                            SV.raw (Value.int IntKind.i64 0),
                                                            SV.raw (Value.int IntKind.i64 0),
                                                            SV.raw (Value.int IntKind.i64 0),
                                                            SV.raw (Value.int IntKind.i64 0)],
                                                        SV.raw (Value.int IntKind.i64 1)])
                                                    E
                                              else
                                                bif a1 != 0 then
                                                  Mem.le E E ∧
                                                    K
                                                      (SV.tup
                                                        [SV.agg
                                                            [SV.raw (Value.int IntKind.i64 0),
                                                              SV.raw (Value.int IntKind.i64 0),
                                                              SV.raw (Value.int IntKind.i64 0),
                                                              SV.raw (Value.int IntKind.i64 0),
                                                              SV.raw (Value.int IntKind.i64 0)],
                                                          SV.agg
                                                            [SV.raw (Value.int IntKind.i64 0),
                                                              SV.raw (Value.int IntKind.i64 0),
                                                              SV.raw (Value.int IntKind.i64 0),
                                                              SV.raw (Value.int IntKind.i64 0),
                                                              SV.raw (Value.int IntKind.i64 0),
                                                              SV.raw (Value.int IntKind.i64 0),
                                                              SV.raw (Value.int IntKind.i64 0),
                                                              SV.raw (Value.int IntKind.i64 0)],
                                                          SV.raw (Value.int IntKind.i64 6)])
                                                      E
                                                else
                                                  bif a5 == 255 then
                                                    Mem.le E E ∧
                                                      K
                                                        (SV.tup
                                                          [SV.agg
                                                              [SV.raw (Value.int IntKind.i64 0),
                                                                SV.raw (Value.int IntKind.i64 0),
                                                                SV.raw (Value.int IntKind.i64 0),
                                                                SV.raw (Value.int IntKind.i64 0),
                                                                SV.raw (Value.int IntKind.i64 0)],
                                                            SV.agg
                                                              [SV.raw (Value.int IntKind.i64 0),
                                                                SV.raw (Value.int IntKind.i64 0),
                                                                SV.raw (Value.int IntKind.i64 0),
                                                                SV.raw (Value.int IntKind.i64 0),
                                                                SV.raw (Value.int IntKind.i64 0),
                                                                SV.raw (Value.int IntKind.i64 0),
                                                                SV.raw (Value.int IntKind.i64 0),
                                                                SV.raw (Value.int IntKind.i64 0)],
                                                            SV.raw (Value.int IntKind.i64 2)])
                                                        E
                                                  else
                                                    (Mem.le E E ∧
                                                        K
                                                          (SV.tup
                                                            [SV.agg
                                                                [SV.raw (Value.int IntKind.i64 1),
                                                                  SV.raw (Value.int IntKind.i64 a8),
                                                                  SV.raw
                                                                    (Value.int IntKind.i64
                                                                      (IntKind.wrap IntKind.i64
                                                                        (IntKind.wrap IntKind.i64 (256 * a7) +
                                                                          IntKind.wrap IntKind.i64 (a5 + 1)))),
                                                                  SV.raw (Value.int IntKind.i64 a9),
                                                                  SV.raw
                                                                    (Value.int IntKind.i64
                                                                      (IntKind.wrap IntKind.i64 (a5 + 1)))],
                                                              SV.agg
                                                                [SV.raw (Value.int IntKind.i64 1),
                                                                  SV.raw (Value.int IntKind.i64 a6),
                                                                  SV.raw (Value.int IntKind.i64 a8),
                                                                  SV.raw
                                                                    (Value.int IntKind.i64
                                                                      (IntKind.wrap IntKind.i64
                                                                        (IntKind.wrap IntKind.i64 (256 * a7) +
                                                                          IntKind.wrap IntKind.i64 (a5 + 1)))),
                                                                  SV.raw (Value.int IntKind.i64 0),
                                                                  SV.raw (Value.int IntKind.i64 0),
                                                                  SV.raw (Value.int IntKind.i64 0),
                                                                  SV.raw (Value.int IntKind.i64 0)],
                                                              SV.raw (Value.int IntKind.i64 0)])
                                                          E) ∧
                                                      Mem.le E E ∧
                                                        K
                                                          (SV.tup
                                                            [SV.agg
                                                                [SV.raw (Value.int IntKind.i64 1),
                                                                  SV.raw (Value.int IntKind.i64 a8),
                                                                  SV.raw
                                                                    (Value.int IntKind.i64
                                                                      (IntKind.wrap IntKind.i64
                                                                        (IntKind.wrap IntKind.i64 (256 * a7) +
                                                                          IntKind.wrap IntKind.i64 (a5 + 1)))),
                                                                  SV.raw (Value.int IntKind.i64 a9),
                                                                  SV.raw
                                                                    (Value.int IntKind.i64
                                                                      (IntKind.wrap IntKind.i64 (a5 + 1)))],
                                                              SV.agg
                                                                [SV.raw (Value.int IntKind.i64 1),
                                                                  SV.raw (Value.int IntKind.i64 a6),
                                                                  SV.raw (Value.int IntKind.i64 a8),
                                                                  SV.raw
                                                                    (Value.int IntKind.i64
                                                                      (IntKind.wrap IntKind.i64
                                                                        (IntKind.wrap IntKind.i64 (256 * a7) +
                                                                          IntKind.wrap IntKind.i64 (a5 + 1)))),
                                                                  SV.raw (Value.int IntKind.i64 0),
                                                                  SV.raw (Value.int IntKind.i64 0),
                                                                  SV.raw (Value.int IntKind.i64 0),
                                                                  SV.raw (Value.int IntKind.i64 0)],
                                                              SV.raw (Value.int IntKind.i64 0)])
                                                          E
                                else
                                  Mem.le E E ∧
                                    Mem.le E E ∧
                                      K
                                        (SV.tup
                                          [SV.agg
                                              [SV.raw (Value.int IntKind.i64 0), SV.raw (Value.int IntKind.i64 0),
                                                SV.raw (Value.int IntKind.i64 0), SV.raw (Value.int IntKind.i64 0),
                                                SV.raw (Value.int IntKind.i64 0)],
                                            SV.agg
                                              [SV.raw (Value.int IntKind.i64 0), SV.raw (Value.int IntKind.i64 0),
                                                SV.raw (Value.int IntKind.i64 0), SV.raw (Value.int IntKind.i64 0),
                                                SV.raw (Value.int IntKind.i64 0), SV.raw (Value.int IntKind.i64 0),
                                                SV.raw (Value.int IntKind.i64 0), SV.raw (Value.int IntKind.i64 0)],
                                            SV.raw (Value.int IntKind.i64 1)])
                                        E
                          else
                            Mem.le E E ∧
                              Mem.le E E ∧
                                K
                                  (SV.tup
                                    [SV.agg
                                        [SV.raw (Value.int IntKind.i64 0), SV.raw (Value.int IntKind.i64 0),
                                          SV.raw (Value.int IntKind.i64 0), SV.raw (Value.int IntKind.i64 0),
                                          SV.raw (Value.int IntKind.i64 0)],
                                      SV.agg
                                        [SV.raw (Value.int IntKind.i64 0), SV.raw (Value.int IntKind.i64 0),
                                          SV.raw (Value.int IntKind.i64 0), SV.raw (Value.int IntKind.i64 0),
                                          SV.raw (Value.int IntKind.i64 0), SV.raw (Value.int IntKind.i64 0),
                                          SV.raw (Value.int IntKind.i64 0), SV.raw (Value.int IntKind.i64 0)],
                                      SV.raw (Value.int IntKind.i64 1)])
                                  E
                      else
                        Mem.le E E ∧
                          K
                            (SV.tup
                              [SV.agg
                                  [SV.raw (Value.int IntKind.i64 0), SV.raw (Value.int IntKind.i64 0),
                                    SV.raw (Value.int IntKind.i64 0), SV.raw (Value.int IntKind.i64 0),
                                    SV.raw (Value.int IntKind.i64 0)],
                                SV.agg
                                  [SV.raw (Value.int IntKind.i64 0), SV.raw (Value.int IntKind.i64 0),
                                    SV.raw (Value.int IntKind.i64 0), SV.raw (Value.int IntKind.i64 0),
                                    SV.raw (Value.int IntKind.i64 0), SV.raw (Value.int IntKind.i64 0),
                                    SV.raw (Value.int IntKind.i64 0), SV.raw (Value.int IntKind.i64 0)],
                                SV.raw (Value.int IntKind.i64 1)])
                            E
                    else
                      Mem.le E E ∧
                        K
                          (SV.tup
                            [SV.agg
                                [SV.raw (Value.int IntKind.i64 0), SV.raw (Value.int IntKind.i64 0),
                                  SV.raw (Value.int IntKind.i64 0), SV.raw (Value.int IntKind.i64 0),
                                  SV.raw (Value.int IntKind.i64 0)],
                              SV.agg
                                [SV.raw (Value.int IntKind.i64 0), SV.raw (Value.int IntKind.i64 0),
                                  SV.raw (Value.int IntKind.i64 0), SV.raw (Value.int IntKind.i64 0),
                                  SV.raw (Value.int IntKind.i64 0), SV.raw (Value.int IntKind.i64 0),
                                  SV.raw (Value.int IntKind.i64 0), SV.raw (Value.int IntKind.i64 0)],
                              SV.raw (Value.int IntKind.i64 1)])
                          E
                  else
                    Mem.le E E ∧
                      K
                        (SV.tup
                          [SV.agg
                              [SV.raw (Value.int IntKind.i64 0), SV.raw (Value.int IntKind.i64 0),
                                SV.raw (Value.int IntKind.i64 0), SV.raw (Value.int IntKind.i64 0),
                                SV.raw (Value.int IntKind.i64 0)],
                            SV.agg
                              [SV.raw (Value.int IntKind.i64 0), SV.raw (Value.int IntKind.i64 0),
                                SV.raw (Value.int IntKind.i64 0), SV.raw (Value.int IntKind.i64 0),
                                SV.raw (Value.int IntKind.i64 0), SV.raw (Value.int IntKind.i64 0),
                                SV.raw (Value.int IntKind.i64 0), SV.raw (Value.int IntKind.i64 0)],
                            SV.raw (Value.int IntKind.i64 1)])
                        E
                else
                  Mem.le E E ∧
                    K
                      (SV.tup
                        [SV.agg
                            [SV.raw (Value.int IntKind.i64 0), SV.raw (Value.int IntKind.i64 0),
                              SV.raw (Value.int IntKind.i64 0), SV.raw (Value.int IntKind.i64 0),
                              SV.raw (Value.int IntKind.i64 0)],
                          SV.agg
                            [SV.raw (Value.int IntKind.i64 0), SV.raw (Value.int IntKind.i64 0),
                              SV.raw (Value.int IntKind.i64 0), SV.raw (Value.int IntKind.i64 0),
                              SV.raw (Value.int IntKind.i64 0), SV.raw (Value.int IntKind.i64 0),
                              SV.raw (Value.int IntKind.i64 0), SV.raw (Value.int IntKind.i64 0)],
                          SV.raw (Value.int IntKind.i64 1)])
                      E
              else
                Mem.le E E ∧
                  K
                    (SV.tup
                      [SV.agg
                          [SV.raw (Value.int IntKind.i64 0), SV.raw (Value.int IntKind.i64 0),
                            SV.raw (Value.int IntKind.i64 0), SV.raw (Value.int IntKind.i64 0),
                            SV.raw (Value.int IntKind.i64 0)],
                        SV.agg
                          [SV.raw (Value.int IntKind.i64 0), SV.raw (Value.int IntKind.i64 0),
                            SV.raw (Value.int IntKind.i64 0), SV.raw (Value.int IntKind.i64 0),
                            SV.raw (Value.int IntKind.i64 0), SV.raw (Value.int IntKind.i64 0),
                            SV.raw (Value.int IntKind.i64 0), SV.raw (Value.int IntKind.i64 0)],
                        SV.raw (Value.int IntKind.i64 1)])
                    E
            else
              Mem.le E E ∧
                K
                  (SV.tup
                    [SV.agg
                        [SV.raw (Value.int IntKind.i64 0), SV.raw (Value.int IntKind.i64 0), SV.raw (Value.int IntKind.i64 0),
                          SV.raw (Value.int IntKind.i64 0), SV.raw (Value.int IntKind.i64 0)],
                      SV.agg
                        [SV.raw (Value.int IntKind.i64 0), SV.raw (Value.int IntKind.i64 0), SV.raw (Value.int IntKind.i64 0),
                          SV.raw (Value.int IntKind.i64 0), SV.raw (Value.int IntKind.i64 0),
                          SV.raw (Value.int IntKind.i64 0), SV.raw (Value.int IntKind.i64 0),
                          SV.raw (Value.int IntKind.i64 0)],
                      SV.raw (Value.int IntKind.i64 1)])
                  E
          else
            Mem.le E E ∧
              K
                (SV.tup
                  [SV.agg
                      [SV.raw (Value.int IntKind.i64 0), SV.raw (Value.int IntKind.i64 0), SV.raw (Value.int IntKind.i64 0),
                        SV.raw (Value.int IntKind.i64 0), SV.raw (Value.int IntKind.i64 0)],
                    SV.agg
                      [SV.raw (Value.int IntKind.i64 0), SV.raw (Value.int IntKind.i64 0), SV.raw (Value.int IntKind.i64 0),
                        SV.raw (Value.int IntKind.i64 0), SV.raw (Value.int IntKind.i64 0), SV.raw (Value.int IntKind.i64 0),
                        SV.raw (Value.int IntKind.i64 0), SV.raw (Value.int IntKind.i64 0)],
                    SV.raw (Value.int IntKind.i64 1)])
                E
        else
          Mem.le E E ∧
            K
              (SV.tup
                [SV.agg
                    [SV.raw (Value.int IntKind.i64 0), SV.raw (Value.int IntKind.i64 0), SV.raw (Value.int IntKind.i64 0),
                      SV.raw (Value.int IntKind.i64 0), SV.raw (Value.int IntKind.i64 0)],
                  SV.agg
                    [SV.raw (Value.int IntKind.i64 0), SV.raw (Value.int IntKind.i64 0), SV.raw (Value.int IntKind.i64 0),
                      SV.raw (Value.int IntKind.i64 0), SV.raw (Value.int IntKind.i64 0), SV.raw (Value.int IntKind.i64 0),
                      SV.raw (Value.int IntKind.i64 0), SV.raw (Value.int IntKind.i64 0)],
                  SV.raw (Value.int IntKind.i64 1)])
              E
      else
        Mem.le E E ∧
          K
            (SV.tup
              [SV.agg
                  [SV.raw (Value.int IntKind.i64 0), SV.raw (Value.int IntKind.i64 0), SV.raw (Value.int IntKind.i64 0),
                    SV.raw (Value.int IntKind.i64 0), SV.raw (Value.int IntKind.i64 0)],
                SV.agg
                  [SV.raw (Value.int IntKind.i64 0), SV.raw (Value.int IntKind.i64 0), SV.raw (Value.int IntKind.i64 0),
                    SV.raw (Value.int IntKind.i64 0), SV.raw (Value.int IntKind.i64 0), SV.raw (Value.int IntKind.i64 0),
                    SV.raw (Value.int IntKind.i64 0), SV.raw (Value.int IntKind.i64 0)],
                SV.raw (Value.int IntKind.i64 1)])
            E)
  simp only [cond_true, cond_false, Bool.cond_eq_ite, Bool.false_eq_true, if_true, if_false, ite_true, ite_false, beq_iff_eq, bne_iff_ne, decide_eq_true_eq, decide_eq_false_iff_not, ne_eq, reduceCtorEq, beq_self_eq_true, bne_self_eq_false, Bool.true_eq_false, iff_true, true_iff, iff_false, false_iff, not_false_eq_true, not_true_eq_false, Bool.and_eq_true, Bool.or_eq_true, Bool.not_eq_true', Bool.and_true, Bool.true_and, Bool.and_false, Bool.false_and, Bool.or_true, Bool.true_or, Bool.or_false, Bool.false_or, Bool.not_true, Bool.not_false, beq_eq_false_iff_ne, Decidable.not_not, Mem.le_refl, true_and, and_true]
  repeat' (first | refine iteI (fun _ => ?_) (fun _ => ?_) | intro _ | refine And.intro ?_ ?_ | fail)
  all_goals (refine h _ _ _ _ _ _ _ _ _ _ _ _ _ _ ?_; ((try clear h); (try simp only [Hyp, OwnR, FWR, VJR, AskR, HearR, LateR, JudgeR, AskOK, Meant, JudgeOK, VJ, FW, ZW, EJ] at *); first | done | grind (splits := 60) [wrap_i64]))

theorem s12 {a1 : Int} {a2 : Int} {a3 : Int} {a4 : Int} {a5 : Int} {a6 : Int} {a7 : Int} {a8 : Int} {a9 : Int} (h : ∀ (p' : Int) (s' : Int) (n' : Int) (t' : Int) (r' : Int) (k : Int) (x : Int) (y : Int) (m : Int) (c : Int) (q : Int) (f : Int) (g : Int) (e : Int), Hyp (AskR a1 a2 a3 a4 a5 a6 a7 a8 a9 p' s' n' t' r' k x y m c q f g e) → K (.tup [.agg [I p', I s', I n', I t', I r'], .agg [I k, I x, I y, I m, I c, I q, I f, I g], I e]) E) :
    Ent J0 6 Try.f12 [.agg [I a1, I a2, I a3, I a4, I a5], I a6, I a7, I a8, I a9] E K := by
  refine same (by kernel_rfl) (?_ : 
      ∀ (v : Int),
        Hyp (VJR a1 a2 a3 a4 a5 v) →
          Mem.le E E ∧
            bif !v == 1 then
              Mem.le E E ∧
                K
                  (SV.tup
                    [SV.agg
                        [SV.raw (Value.int IntKind.i64 0), SV.raw (Value.int IntKind.i64 0), SV.raw (Value.int IntKind.i64 0),
                          SV.raw (Value.int IntKind.i64 0), SV.raw (Value.int IntKind.i64 0)],
                      SV.agg
                        [SV.raw (Value.int IntKind.i64 0), SV.raw (Value.int IntKind.i64 0), SV.raw (Value.int IntKind.i64 0),
                          SV.raw (Value.int IntKind.i64 0), SV.raw (Value.int IntKind.i64 0),
                          SV.raw (Value.int IntKind.i64 0), SV.raw (Value.int IntKind.i64 0),
                          SV.raw (Value.int IntKind.i64 0)],
                      SV.raw (Value.int IntKind.i64 1)])
                  E
            else
              bif decide (a6 ≥ 0) then
                Mem.le E E ∧
                  bif bif false then true else !bif true then decide (a6 < 60) else false then
                    Mem.le E E ∧
                      K
                        (SV.tup
                          [SV.agg
                              [SV.raw (Value.int IntKind.i64 0), SV.raw (Value.int IntKind.i64 0),
                                SV.raw (Value.int IntKind.i64 0), SV.raw (Value.int IntKind.i64 0),
                                SV.raw (Value.int IntKind.i64 0)],
                            SV.agg
                              [SV.raw (Value.int IntKind.i64 0), SV.raw (Value.int IntKind.i64 0),
                                SV.raw (Value.int IntKind.i64 0), SV.raw (Value.int IntKind.i64 0),
                                SV.raw (Value.int IntKind.i64 0), SV.raw (Value.int IntKind.i64 0),
                                SV.raw (Value.int IntKind.i64 0), SV.raw (Value.int IntKind.i64 0)],
                            SV.raw (Value.int IntKind.i64 1)])
                        E
                  else
                    bif decide (a8 ≥ 0) then
                      Mem.le E E ∧
                        bif bif false then true else !bif true then decide (a8 < 60) else false then
                          Mem.le E E ∧
                            K
                              (SV.tup
                                [SV.agg
                                    [SV.raw (Value.int IntKind.i64 0), SV.raw (Value.int IntKind.i64 0),
                                      SV.raw (Value.int IntKind.i64 0), SV.raw (Value.int IntKind.i64 0),
                                      SV.raw (Value.int IntKind.i64 0)],
                                  SV.agg
                                    [SV.raw (Value.int IntKind.i64 0), SV.raw (Value.int IntKind.i64 0),
                                      SV.raw (Value.int IntKind.i64 0), SV.raw (Value.int IntKind.i64 0),
                                      SV.raw (Value.int IntKind.i64 0), SV.raw (Value.int IntKind.i64 0),
                                      SV.raw (Value.int IntKind.i64 0), SV.raw (Value.int IntKind.i64 0)],
                                  SV.raw (Value.int IntKind.i64 1)])
                              E
                        else
                          bif bif false then true else a6 == a8 then
                            Mem.le E E ∧
                              K
                                (SV.tup
                                  [SV.agg
                                      [SV.raw (Value.int IntKind.i64 0), SV.raw (Value.int IntKind.i64 0),
                                        SV.raw (Value.int IntKind.i64 0), SV.raw (Value.int IntKind.i64 0),
                                        SV.raw (Value.int IntKind.i64 0)],
                                    SV.agg
                                      [SV.raw (Value.int IntKind.i64 0), SV.raw (Value.int IntKind.i64 0),
                                        SV.raw (Value.int IntKind.i64 0), SV.raw (Value.int IntKind.i64 0),
                                        SV.raw (Value.int IntKind.i64 0), SV.raw (Value.int IntKind.i64 0),
                                        SV.raw (Value.int IntKind.i64 0), SV.raw (Value.int IntKind.i64 0)],
                                    SV.raw (Value.int IntKind.i64 1)])
                                E
                          else
                            bif bif false then true else decide (a7 < 0) then
                              Mem.le E E ∧
                                K
                                  (SV.tup
                                    [SV.agg
                                        [SV.raw (Value.int IntKind.i64 0), SV.raw (Value.int IntKind.i64 0),
                                          SV.raw (Value.int IntKind.i64 0), SV.raw (Value.int IntKind.i64 0),
                                          SV.raw (Value.int IntKind.i64 0)],
                                      SV.agg
                                        [SV.raw (Value.int IntKind.i64 0), SV.raw (Value.int IntKind.i64 0),
                                          SV.raw (Value.int IntKind.i64 0), SV.raw (Value.int IntKind.i64 0),
                                          SV.raw (Value.int IntKind.i64 0), SV.raw (Value.int IntKind.i64 0),
                                          SV.raw (Value.int IntKind.i64 0), SV.raw (Value.int IntKind.i64 0)],
                                      SV.raw (Value.int IntKind.i64 1)])
                                  E
                            else
                              bif bif false then true else decide (a7 > 1000000) then
                                Mem.le E E ∧
                                  K
                                    (SV.tup
                                      [SV.agg
                                          [SV.raw (Value.int IntKind.i64 0), SV.raw (Value.int IntKind.i64 0),
                                            SV.raw (Value.int IntKind.i64 0), SV.raw (Value.int IntKind.i64 0),
                                            SV.raw (Value.int IntKind.i64 0)],
                                        SV.agg
                                          [SV.raw (Value.int IntKind.i64 0), SV.raw (Value.int IntKind.i64 0),
                                            SV.raw (Value.int IntKind.i64 0), SV.raw (Value.int IntKind.i64 0),
                                            SV.raw (Value.int IntKind.i64 0), SV.raw (Value.int IntKind.i64 0),
                                            SV.raw (Value.int IntKind.i64 0), SV.raw (Value.int IntKind.i64 0)],
                                        SV.raw (Value.int IntKind.i64 1)])
                                    E
                              else
                                bif bif false then true else decide (a9 < 0) then
                                  Mem.le E E ∧
                                    K
                                      (SV.tup
                                        [SV.agg
                                            [SV.raw (Value.int IntKind.i64 0), SV.raw (Value.int IntKind.i64 0),
                                              SV.raw (Value.int IntKind.i64 0), SV.raw (Value.int IntKind.i64 0),
                                              SV.raw (Value.int IntKind.i64 0)],
                                          SV.agg
                                            [SV.raw (Value.int IntKind.i64 0), SV.raw (Value.int IntKind.i64 0),
                                              SV.raw (Value.int IntKind.i64 0), SV.raw (Value.int IntKind.i64 0),
                                              SV.raw (Value.int IntKind.i64 0), SV.raw (Value.int IntKind.i64 0),
                                              SV.raw (Value.int IntKind.i64 0), SV.raw (Value.int IntKind.i64 0)],
                                          SV.raw (Value.int IntKind.i64 1)])
                                      E
                                else
                                  bif bif false then true else decide (a9 > 1000000000) then
                                    Mem.le E E ∧
                                      K
                                        (SV.tup
                                          [SV.agg
                                              [SV.raw (Value.int IntKind.i64 0), SV.raw (Value.int IntKind.i64 0),
                                                SV.raw (Value.int IntKind.i64 0), SV.raw (Value.int IntKind.i64 0),
                                                SV.raw (Value.int IntKind.i64 0)],
                                            SV.agg
                                              [SV.raw (Value.int IntKind.i64 0), SV.raw (Value.int IntKind.i64 0),
                                                SV.raw (Value.int IntKind.i64 0), SV.raw (Value.int IntKind.i64 0),
                                                SV.raw (Value.int IntKind.i64 0), SV.raw (Value.int IntKind.i64 0),
                                                SV.raw (Value.int IntKind.i64 0), SV.raw (Value.int IntKind.i64 0)],
                                            SV.raw (Value.int IntKind.i64 1)])
                                        E
                                  else
                                    bif a1 != 0 then
                                      Mem.le E E ∧
                                        K
                                          (SV.tup
                                            [SV.agg
                                                [SV.raw (Value.int IntKind.i64 0), SV.raw (Value.int IntKind.i64 0),
                                                  SV.raw (Value.int IntKind.i64 0), SV.raw (Value.int IntKind.i64 0),
                                                  SV.raw (Value.int IntKind.i64 0)],
                                              SV.agg
                                                [SV.raw (Value.int IntKind.i64 0), SV.raw (Value.int IntKind.i64 0),
                                                  SV.raw (Value.int IntKind.i64 0), SV.raw (Value.int IntKind.i64 0),
                                                  SV.raw (Value.int IntKind.i64 0), SV.raw (Value.int IntKind.i64 0),
                                                  SV.raw (Value.int IntKind.i64 0), SV.raw (Value.int IntKind.i64 0)],
                                              SV.raw (Value.int IntKind.i64 6)])
                                          E
                                    else
                                      bif a5 == 255 then
                                        Mem.le E E ∧
                                          K
                                            (SV.tup
                                              [SV.agg
                                                  [SV.raw (Value.int IntKind.i64 0), SV.raw (Value.int IntKind.i64 0),
                                                    SV.raw (Value.int IntKind.i64 0), SV.raw (Value.int IntKind.i64 0),
                                                    SV.raw (Value.int IntKind.i64 0)],
                                                SV.agg
                                                  [SV.raw (Value.int IntKind.i64 0), SV.raw (Value.int IntKind.i64 0),
                                                    SV.raw (Value.int IntKind.i64 0), SV.raw (Value.int IntKind.i64 0),
                                                    SV.raw (Value.int IntKind.i64 0), SV.raw (Value.int IntKind.i64 0),
                                                    SV.raw (Value.int IntKind.i64 0), SV.raw (Value.int IntKind.i64 0)],
                                                SV.raw (Value.int IntKind.i64 2)])
                                            E
                                      else
                                        Mem.le E E ∧
                                          K
                                            (SV.tup
                                              [SV.agg
                                                  [SV.raw (Value.int IntKind.i64 1), SV.raw (Value.int IntKind.i64 a8),
                                                    SV.raw
                                                      (Value.int IntKind.i64
                                                        (IntKind.wrap IntKind.i64
                                                          (IntKind.wrap IntKind.i64
                                                              (IntKind.wrap IntKind.i64 (256 * a7) + a5) +
                                                            1))),
                                                    SV.raw (Value.int IntKind.i64 a9),
                                                    SV.raw (Value.int IntKind.i64 (IntKind.wrap IntKind.i64 (a5 + 1)))],
                                                SV.agg
                                                  [SV.raw (Value.int IntKind.i64 1), SV.raw (Value.int IntKind.i64 a6),
                                                    SV.raw (Value.int IntKind.i64 a8),
                                                    SV.raw
                                                      (Value.int IntKind.i64
                                                        (IntKind.wrap IntKind.i64
                                                          (IntKind.wrap IntKind.i64
                                                              (IntKind.wrap IntKind.i64 (256 * a7) + a5) +
                                                            1))),
                                                    SV.raw (Value.int IntKind.i64 0), SV.raw (Value.int IntKind.i64 0),
                                                    SV.raw (Value.int IntKind.i64 0), SV.raw (Value.int IntKind.i64 0)],
                                                SV.raw (Value.int IntKind.i64 0)])
                                            E
                    else
                      Mem.le E E ∧
                        Mem.le E E ∧
                          K
                            (SV.tup
                              [SV.agg
                                  [SV.raw (Value.int IntKind.i64 0), SV.raw (Value.int IntKind.i64 0),
                                    SV.raw (Value.int IntKind.i64 0), SV.raw (Value.int IntKind.i64 0),
                                    SV.raw (Value.int IntKind.i64 0)],
                                SV.agg
                                  [SV.raw (Value.int IntKind.i64 0), SV.raw (Value.int IntKind.i64 0),
                                    SV.raw (Value.int IntKind.i64 0), SV.raw (Value.int IntKind.i64 0),
                                    SV.raw (Value.int IntKind.i64 0), SV.raw (Value.int IntKind.i64 0),
                                    SV.raw (Value.int IntKind.i64 0), SV.raw (Value.int IntKind.i64 0)],
                                SV.raw (Value.int IntKind.i64 1)])
                            E
              else
                Mem.le E E ∧
                  Mem.le E E ∧
                    K
                      (SV.tup
                        [SV.agg
                            [SV.raw (Value.int IntKind.i64 0), SV.raw (Value.int IntKind.i64 0),
                              SV.raw (Value.int IntKind.i64 0), SV.raw (Value.int IntKind.i64 0),
                              SV.raw (Value.int IntKind.i64 0)],
                          SV.agg
                            [SV.raw (Value.int IntKind.i64 0), SV.raw (Value.int IntKind.i64 0),
                              SV.raw (Value.int IntKind.i64 0), SV.raw (Value.int IntKind.i64 0),
                              SV.raw (Value.int IntKind.i64 0), SV.raw (Value.int IntKind.i64 0),
                              SV.raw (Value.int IntKind.i64 0), SV.raw (Value.int IntKind.i64 0)],
                          SV.raw (Value.int IntKind.i64 1)])
                      E)
  simp only [cond_true, cond_false, Bool.cond_eq_ite, Bool.false_eq_true, if_true, if_false, ite_true, ite_false, beq_iff_eq, bne_iff_ne, decide_eq_true_eq, decide_eq_false_iff_not, ne_eq, reduceCtorEq, beq_self_eq_true, bne_self_eq_false, Bool.true_eq_false, iff_true, true_iff, iff_false, false_iff, not_false_eq_true, not_true_eq_false, Bool.and_eq_true, Bool.or_eq_true, Bool.not_eq_true', Bool.and_true, Bool.true_and, Bool.and_false, Bool.false_and, Bool.or_true, Bool.true_or, Bool.or_false, Bool.false_or, Bool.not_true, Bool.not_false, beq_eq_false_iff_ne, Decidable.not_not, Mem.le_refl, true_and, and_true]
  repeat' (first | refine iteI (fun _ => ?_) (fun _ => ?_) | intro _ | refine And.intro ?_ ?_ | fail)
  all_goals (refine h _ _ _ _ _ _ _ _ _ _ _ _ _ _ ?_; ((try clear h); (try simp only [Hyp, OwnR, FWR, VJR, AskR, HearR, LateR, JudgeR, AskOK, Meant, JudgeOK, VJ, FW, ZW, EJ] at *); first | done | grind (splits := 60) [wrap_i64]))

end Go.Proofs.Ythbfpaemiccjcaa.JoinOwn
