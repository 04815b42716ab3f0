/- The join package: what its functions answer. -/
import Derived.Test.YthbfpaemiccjcaaJoin1
namespace Go.Proofs.Ythbfpaemiccjcaa.JoinOwn
open Go Go.Sx
set_option maxRecDepth 100000
set_option maxHeartbeats 4000000
set_option linter.unusedVariables false
set_option linter.unusedSimpArgs false
variable {E : Mem} {K : SV → Mem → Prop}

theorem s13 {a1 : Int} {a2 : Int} {a3 : Int} {a4 : Int} {a5 : Int} {a6 : Int} {a7 : Int} {a8 : Int} {a9 : Int} {a10 : Int} {a11 : Int} {a12 : Int} {a13 : Int} {a14 : Int} {a15 : Int} (h : ∀ (p' : Int) (s' : Int) (n' : Int) (t' : Int) (r' : Int) (k : Int) (x : Int) (y : Int) (m : Int) (c : Int) (q : Int) (f : Int) (g : Int) (v : Int), Hyp (HearR a1 a2 a3 a4 a5 a6 a7 a8 a9 a10 a11 a12 a13 a14 a15 p' s' n' t' r' k x y m c q f g v) → K (.tup [.agg [I p', I s', I n', I t', I r'], .agg [I k, I x, I y, I m, I c, I q, I f, I g], B (v == 1)]) E) :
    Ent J0 6 Try.f13 [.agg [I a1, I a2, I a3, I a4, I a5], I a6, .agg [I a7, I a8, I a9, I a10, I a11, I a12, I a13, I a14], I a15] E K := by
  refine same (by kernel_rfl) (?_ : 
      ∀ (o e : Int),
        Hyp (OwnR a6 o e) →
          Mem.le E E ∧
            bif decide (a1 ≥ 0) then
              bif bif true then decide (a1 ≤ 3) else false then
                bif bif true then decide (a5 ≥ 0) else false then
                  bif bif true then decide (a5 ≤ 255) else false then
                    bif bif true then decide (a4 ≥ 0) else false then
                      bif bif true then decide (a4 ≤ 1000000000) else false then
                        bif bif true then decide (a3 ≥ 0) else false then
                          bif bif true then decide (a3 ≤ 1000000000) else false then
                            bif bif true then decide (a2 ≥ -1) else false then
                              bif !bif true then decide (a2 < 60) else false then
                                Mem.le E E ∧
                                  K
                                    (SV.tup
                                      [SV.agg
                                          [SV.raw (Value.int IntKind.i64 a1), SV.raw (Value.int IntKind.i64 a2),
                                            SV.raw (Value.int IntKind.i64 a3), SV.raw (Value.int IntKind.i64 a4),
                                            SV.raw (Value.int IntKind.i64 a5)],
                                        SV.agg
                                          [SV.raw (Value.int IntKind.i64 0), SV.raw (Value.int IntKind.i64 0),
                                            SV.raw (Value.int IntKind.i64 0), SV.raw (Value.int IntKind.i64 0),
                                            SV.raw (Value.int IntKind.i64 0), SV.raw (Value.int IntKind.i64 0),
                                            SV.raw (Value.int IntKind.i64 0), SV.raw (Value.int IntKind.i64 0)],
                                        SV.raw (Value.bool false)])
                                    E
                              else
                                ∀ (v : Int),
                                  Hyp (FWR a7 a8 a9 a10 a11 v) →
                                    Mem.le E E ∧
                                      bif bif false then true else !v == 1 then
                                        Mem.le E E ∧
                                          K
                                            (SV.tup
                                              [SV.agg
                                                  [SV.raw (Value.int IntKind.i64 a1), SV.raw (Value.int IntKind.i64 a2),
                                                    SV.raw (Value.int IntKind.i64 a3), SV.raw (Value.int IntKind.i64 a4),
                                                    SV.raw (Value.int IntKind.i64 a5)],
                                                SV.agg
                                                  [SV.raw (Value.int IntKind.i64 0), SV.raw (Value.int IntKind.i64 0),
                                                    SV.raw (Value.int IntKind.i64 0), SV.raw (Value.int IntKind.i64 0),
                                                    SV.raw (Value.int IntKind.i64 0), SV.raw (Value.int IntKind.i64 0),
                                                    SV.raw (Value.int IntKind.i64 0), SV.raw (Value.int IntKind.i64 0)],
                                                SV.raw (Value.bool false)])
                                            E
                                      else
                                        bif bif false then true else decide (a15 < 0) then
                                          Mem.le E E ∧
                                            K
                                              (SV.tup
                                                [SV.agg
                                                    [SV.raw (Value.int IntKind.i64 a1), SV.raw (Value.int IntKind.i64 a2),
                                                      SV.raw (Value.int IntKind.i64 a3), SV.raw (Value.int IntKind.i64 a4),
                                                      SV.raw (Value.int IntKind.i64 a5)],
                                                  SV.agg
                                                    [SV.raw (Value.int IntKind.i64 0), SV.raw (Value.int IntKind.i64 0),
                                                      SV.raw (Value.int IntKind.i64 0), SV.raw (Value.int IntKind.i64 0),
                                                      SV.raw (Value.int IntKind.i64 0), SV.raw (Value.int IntKind.i64 0),
                                                      SV.raw (Value.int IntKind.i64 0), SV.raw (Value.int IntKind.i64 0)],
                                                  SV.raw (Value.bool false)])
                                              E
                                        else
                                          bif bif false then true else decide (a15 > 1000000000) then
                                            Mem.le E E ∧
                                              K
                                                (SV.tup
                                                  [SV.agg
                                                      [SV.raw (Value.int IntKind.i64 a1), SV.raw (Value.int IntKind.i64 a2),
                                                        SV.raw (Value.int IntKind.i64 a3), SV.raw (Value.int IntKind.i64 a4),
                                                        SV.raw (Value.int IntKind.i64 a5)],
                                                    SV.agg
                                                      [SV.raw (Value.int IntKind.i64 0), SV.raw (Value.int IntKind.i64 0),
                                                        SV.raw (Value.int IntKind.i64 0), SV.raw (Value.int IntKind.i64 0),
                                                        SV.raw (Value.int IntKind.i64 0), SV.raw (Value.int IntKind.i64 0),
                                                        SV.raw (Value.int IntKind.i64 0), SV.raw (Value.int IntKind.i64 0)],
                                                    SV.raw (Value.bool false)])
                                                E
                                          else
                                            bif
                                                bif false then true
                                                else
                                                  !(a7 == a7 &&
                                                      (a8 == a6 &&
                                                        (a9 == a2 &&
                                                          (a10 == a3 &&
                                                            (a11 == a11 &&
                                                              (a12 == a12 &&
                                                                (a13 == a13 && (a14 == a14 && true) && true))))))) then
                                              Mem.le E E ∧
                                                K
                                                  (SV.tup
                                                    [SV.agg
                                                        [SV.raw (Value.int IntKind.i64 a1), SV.raw (Value.int IntKind.i64 a2),
                                                          SV.raw (Value.int IntKind.i64 a3),
                                                          SV.raw (Value.int IntKind.i64 a4),
                                                          SV.raw (Value.int IntKind.i64 a5)],
                                                      SV.agg
                                                        [SV.raw (Value.int IntKind.i64 0), SV.raw (Value.int IntKind.i64 0),
                                                          SV.raw (Value.int IntKind.i64 0), SV.raw (Value.int IntKind.i64 0),
                                                          SV.raw (Value.int IntKind.i64 0), SV.raw (Value.int IntKind.i64 0),
                                                          SV.raw (Value.int IntKind.i64 0), SV.raw (Value.int IntKind.i64 0)],
                                                      SV.raw (Value.bool false)])
                                                  E
                                            else
                                              bif bif false then true else e != 0 then
                                                Mem.le E E ∧
                                                  K
                                                    (SV.tup
                                                      [SV.agg
                                                          [SV.raw (Value.int IntKind.i64 a1),
                                                            SV.raw (Value.int IntKind.i64 a2),
                                                            SV.raw (Value.int IntKind.i64 a3),
                                                            SV.raw (Value.int IntKind.i64 a4),
                                                            SV.raw (Value.int IntKind.i64 a5)],
                                                        SV.agg
                                                          [SV.raw (Value.int IntKind.i64 0), SV.raw (Value.int IntKind.i64 0),
                                                            SV.raw (Value.int IntKind.i64 0),
                                                            SV.raw (Value.int IntKind.i64 0),
                                                            SV.raw (Value.int IntKind.i64 0),
                                                            SV.raw (Value.int IntKind.i64 0),
                                                            SV.raw (Value.int IntKind.i64 0),
                                                            SV.raw (Value.int IntKind.i64 0)],
                                                        SV.raw (Value.bool false)])
                                                    E
                                              else
                                                bif a7 == 2 then
                                                  bif a1 != 1 then
                                                    bif bif true then a1 != 2 else false then
                                                      (Mem.le E E ∧
                                                          K
                                                            (SV.tup
                                                              [SV.agg
                                                                  [SV.raw (Value.int IntKind.i64 a1),
                                                                    SV.raw (Value.int IntKind.i64 a2),
                                                                    SV.raw (Value.int IntKind.i64 a3),
                                                                    SV.raw (Value.int IntKind.i64 a4),
                                                                    SV.raw (Value.int IntKind.i64 a5)],
                                                                SV.agg
                                                                  [SV.raw (Value.int IntKind.i64 0),
                                                                    SV.raw (Value.int IntKind.i64 0),
                                                                    SV.raw (Value.int IntKind.i64 0),
                                                                    SV.raw (Value.int IntKind.i64 0),
                                                                    SV.raw (Value.int IntKind.i64 0),
                                                                    SV.raw (Value.int IntKind.i64 0),
                                                                    SV.raw (Value.int IntKind.i64 0),
                                                                    SV.raw (Value.int IntKind.i64 0)],
                                                                SV.raw (Value.bool false)])
                                                            E) ∧
                                                        Mem.le E E ∧
                                                          K
                                                            (SV.tup
                                                              [SV.agg
                                                                  [SV.raw (Value.int IntKind.i64 a1),
                                                                    SV.raw (Value.int IntKind.i64 a2),
                                                                    SV.raw (Value.int IntKind.i64 a3),
                                                                    SV.raw (Value.int IntKind.i64 a4),
                                                                    SV.raw (Value.int IntKind.i64 a5)],
                                                                SV.agg
                                                                  [SV.raw (Value.int IntKind.i64 0),
                                                                    SV.raw (Value.int IntKind.i64 0),
                                                                    SV.raw (Value.int IntKind.i64 0),
                                                                    SV.raw (Value.int IntKind.i64 0),
                                                                    SV.raw (Value.int IntKind.i64 0),
                                                                    SV.raw (Value.int IntKind.i64 0),
                                                                    SV.raw (Value.int IntKind.i64 0),
                                                                    SV.raw (Value.int IntKind.i64 0)],
                                                                SV.raw (Value.bool false)])
                                                            E
                                                    else
                                                      (Mem.le E E ∧
                                                          K
                                                            (SV.tup
                                                              [SV.agg
                                                                  [SV.raw (Value.int IntKind.i64 2),
                                                                    SV.raw (Value.int IntKind.i64 a2),
                                                                    SV.raw (Value.int IntKind.i64 a3),
                                                                    SV.raw (Value.int IntKind.i64 a4),
                                                                    SV.raw (Value.int IntKind.i64 a5)],
                                                                SV.agg
                                                                  [SV.raw (Value.int IntKind.i64 3),
                                                                    SV.raw (Value.int IntKind.i64 a8),
                                                                    SV.raw (Value.int IntKind.i64 a9),
                                                                    SV.raw (Value.int IntKind.i64 a10),
                                                                    SV.raw (Value.int IntKind.i64 a11),
                                                                    SV.raw (Value.int IntKind.i64 o),
                                                                    SV.raw (Value.int IntKind.i64 0),
                                                                    SV.raw (Value.int IntKind.i64 0)],
                                                                SV.raw (Value.bool true)])
                                                            E) ∧
                                                        Mem.le E E ∧
                                                          K
                                                            (SV.tup
                                                              [SV.agg
                                                                  [SV.raw (Value.int IntKind.i64 2),
                                                                    SV.raw (Value.int IntKind.i64 a2),
                                                                    SV.raw (Value.int IntKind.i64 a3),
                                                                    SV.raw (Value.int IntKind.i64 a4),
                                                                    SV.raw (Value.int IntKind.i64 a5)],
                                                                SV.agg
                                                                  [SV.raw (Value.int IntKind.i64 3),
                                                                    SV.raw (Value.int IntKind.i64 a8),
                                                                    SV.raw (Value.int IntKind.i64 a9),
                                                                    SV.raw (Value.int IntKind.i64 a10),
                                                                    SV.raw (Value.int IntKind.i64 a11),
                                                                    SV.raw (Value.int IntKind.i64 o),
                                                                    SV.raw (Value.int IntKind.i64 0),
                                                                    SV.raw (Value.int IntKind.i64 0)],
                                                                SV.raw (Value.bool true)])
                                                            E
                                                  else
                                                    (Mem.le E E ∧
                                                        K
                                                          (SV.tup
                                                            [SV.agg
                                                                [SV.raw (Value.int IntKind.i64 2),
                                                                  SV.raw (Value.int IntKind.i64 a2),
                                                                  SV.raw (Value.int IntKind.i64 a3),
                                                                  SV.raw (Value.int IntKind.i64 a4),
                                                                  SV.raw (Value.int IntKind.i64 a5)],
                                                              SV.agg
                                                                [SV.raw (Value.int IntKind.i64 3),
                                                                  SV.raw (Value.int IntKind.i64 a8),
                                                                  SV.raw (Value.int IntKind.i64 a9),
                                                                  SV.raw (Value.int IntKind.i64 a10),
                                                                  SV.raw (Value.int IntKind.i64 a11),
                                                                  SV.raw (Value.int IntKind.i64 o),
                                                                  SV.raw (Value.int IntKind.i64 0),
                                                                  SV.raw (Value.int IntKind.i64 0)],
                                                              SV.raw (Value.bool true)])
                                                          E) ∧
                                                      Mem.le E E ∧
                                                        K
                                                          (SV.tup
                                                            [SV.agg
                                                                [SV.raw (Value.int IntKind.i64 2),
                                                                  SV.raw (Value.int IntKind.i64 a2),
                                                                  SV.raw (Value.int IntKind.i64 a3),
                                                                  SV.raw (Value.int IntKind.i64 a4),
                                                                  SV.raw (Value.int IntKind.i64 a5)],
                                                              SV.agg
                                                                [SV.raw (Value.int IntKind.i64 3),
                                                                  SV.raw (Value.int IntKind.i64 a8),
                                                                  SV.raw (Value.int IntKind.i64 a9),
                                                                  SV.raw (Value.int IntKind.i64 a10),
                                                                  SV.raw (Value.int IntKind.i64 a11),
                                                                  SV.raw (Value.int IntKind.i64 o),
                                                                  SV.raw (Value.int IntKind.i64 0),
                                                                  SV.raw (Value.int IntKind.i64 0)],
                                                              SV.raw (Value.bool true)])
                                                          E
                                                else
                                                  bif a7 == 4 then
                                                    bif a1 == 2 then
                                                      bif bif true then a12 == o else false then
                                                        (Mem.le E E ∧
                                                            K
                                                              (SV.tup
                                                                [SV.agg
                                                                    [SV.raw (Value.int IntKind.i64 3),
                                                                      SV.raw (Value.int IntKind.i64 a2),
                                                                      SV.raw (Value.int IntKind.i64 a3),
                                                                      SV.raw (Value.int IntKind.i64 a4),
                                                                      SV.raw (Value.int IntKind.i64 a5)],
                                                                  SV.agg
                                                                    [SV.raw (Value.int IntKind.i64 0),
                                                                      SV.raw (Value.int IntKind.i64 0),
                                                                      SV.raw (Value.int IntKind.i64 0),
                                                                      SV.raw (Value.int IntKind.i64 0),
                                                                      SV.raw (Value.int IntKind.i64 0),
                                                                      SV.raw (Value.int IntKind.i64 0),
                                                                      SV.raw (Value.int IntKind.i64 0),
                                                                      SV.raw (Value.int IntKind.i64 0)],
                                                                  SV.raw (Value.bool true)])
                                                              E) ∧
                                                          Mem.le E E ∧
                                                            K
                                                              (SV.tup
                                                                [SV.agg
                                                                    [SV.raw (Value.int IntKind.i64 3),
                                                                      SV.raw (Value.int IntKind.i64 a2),
                                                                      SV.raw (Value.int IntKind.i64 a3),
                                                                      SV.raw (Value.int IntKind.i64 a4),
                                                                      SV.raw (Value.int IntKind.i64 a5)],
                                                                  SV.agg
                                                                    [SV.raw (Value.int IntKind.i64 0),
                                                                      SV.raw (Value.int IntKind.i64 0),
                                                                      SV.raw (Value.int IntKind.i64 0),
                                                                      SV.raw (Value.int IntKind.i64 0),
                                                                      SV.raw (Value.int IntKind.i64 0),
                                                                      SV.raw (Value.int IntKind.i64 0),
                                                                      SV.raw (Value.int IntKind.i64 0),
                                                                      SV.raw (Value.int IntKind.i64 0)],
                                                                  SV.raw (Value.bool true)])
                                                              E
                                                      else
                                                        (Mem.le E E ∧
                                                            K
                                                              (SV.tup
                                                                [SV.agg
                                                                    [SV.raw (Value.int IntKind.i64 a1),
                                                                      SV.raw (Value.int IntKind.i64 a2),
                                                                      SV.raw (Value.int IntKind.i64 a3),
                                                                      SV.raw (Value.int IntKind.i64 a4),
                                                                      SV.raw (Value.int IntKind.i64 a5)],
                                                                  SV.agg
                                                                    [SV.raw (Value.int IntKind.i64 0),
                                                                      SV.raw (Value.int IntKind.i64 0),
                                                                      SV.raw (Value.int IntKind.i64 0),
                                                                      SV.raw (Value.int IntKind.i64 0),
                                                                      SV.raw (Value.int IntKind.i64 0),
                                                                      SV.raw (Value.int IntKind.i64 0),
                                                                      SV.raw (Value.int IntKind.i64 0),
                                                                      SV.raw (Value.int IntKind.i64 0)],
                                                                  SV.raw (Value.bool false)])
                                                              E) ∧
                                                          Mem.le E E ∧
                                                            K
                                                              (SV.tup
                                                                [SV.agg
                                                                    [SV.raw (Value.int IntKind.i64 a1),
                                                                      SV.raw (Value.int IntKind.i64 a2),
                                                                      SV.raw (Value.int IntKind.i64 a3),
                                                                      SV.raw (Value.int IntKind.i64 a4),
                                                                      SV.raw (Value.int IntKind.i64 a5)],
                                                                  SV.agg
                                                                    [SV.raw (Value.int IntKind.i64 0),
                                                                      SV.raw (Value.int IntKind.i64 0),
                                                                      SV.raw (Value.int IntKind.i64 0),
                                                                      SV.raw (Value.int IntKind.i64 0),
                                                                      SV.raw (Value.int IntKind.i64 0),
                                                                      SV.raw (Value.int IntKind.i64 0),
                                                                      SV.raw (Value.int IntKind.i64 0),
                                                                      SV.raw (Value.int IntKind.i64 0)],
                                                                  SV.raw (Value.bool false)])
                                                              E
                                                    else
                                                      (Mem.le E E ∧
                                                          K
                                                            (SV.tup
                                                              [SV.agg
                                                                  [SV.raw (Value.int IntKind.i64 a1),
                                                                    SV.raw (Value.int IntKind.i64 a2),
                                                                    SV.raw (Value.int IntKind.i64 a3),
                                                                    SV.raw (Value.int IntKind.i64 a4),
                                                                    SV.raw (Value.int IntKind.i64 a5)],
                                                                SV.agg
                                                                  [SV.raw (Value.int IntKind.i64 0),
                                                                    SV.raw (Value.int IntKind.i64 0),
                                                                    SV.raw (Value.int IntKind.i64 0),
                                                                    SV.raw (Value.int IntKind.i64 0),
                                                                    SV.raw (Value.int IntKind.i64 0),
                                                                    SV.raw (Value.int IntKind.i64 0),
                                                                    SV.raw (Value.int IntKind.i64 0),
                                                                    SV.raw (Value.int IntKind.i64 0)],
                                                                SV.raw (Value.bool false)])
                                                            E) ∧
                                                        Mem.le E E ∧
                                                          K
                                                            (SV.tup
                                                              [SV.agg
                                                                  [SV.raw (Value.int IntKind.i64 a1),
                                                                    SV.raw (Value.int IntKind.i64 a2),
                                                                    SV.raw (Value.int IntKind.i64 a3),
                                                                    SV.raw (Value.int IntKind.i64 a4),
                                                                    SV.raw (Value.int IntKind.i64 a5)],
                                                                SV.agg
                                                                  [SV.raw (Value.int IntKind.i64 0),
                                                                    SV.raw (Value.int IntKind.i64 0),
                                                                    SV.raw (Value.int IntKind.i64 0),
                                                                    SV.raw (Value.int IntKind.i64 0),
                                                                    SV.raw (Value.int IntKind.i64 0),
                                                                    SV.raw (Value.int IntKind.i64 0),
                                                                    SV.raw (Value.int IntKind.i64 0),
                                                                    SV.raw (Value.int IntKind.i64 0)],
                                                                SV.raw (Value.bool false)])
                                                            E
                                                  else
                                                    (Mem.le E E ∧
                                                        K
                                                          (SV.tup
                                                            [SV.agg
                                                                [SV.raw (Value.int IntKind.i64 a1),
                                                                  SV.raw (Value.int IntKind.i64 a2),
                                                                  SV.raw (Value.int IntKind.i64 a3),
                                                                  SV.raw (Value.int IntKind.i64 a4),
                                                                  SV.raw (Value.int IntKind.i64 a5)],
                                                              SV.agg
                                                                [SV.raw (Value.int IntKind.i64 0),
                                                                  SV.raw (Value.int IntKind.i64 0),
                                                                  SV.raw (Value.int IntKind.i64 0),
                                                                  SV.raw (Value.int IntKind.i64 0),
                                                                  SV.raw (Value.int IntKind.i64 0),
                                                                  SV.raw (Value.int IntKind.i64 0),
                                                                  SV.raw (Value.int IntKind.i64 0),
                                                                  SV.raw (Value.int IntKind.i64 0)],
                                                              SV.raw (Value.bool false)])
                                                          E) ∧
                                                      Mem.le E E ∧
                                                        K
                                                          (SV.tup
                                                            [SV.agg
                                                                [SV.raw (Value.int IntKind.i64 a1),
                                                                  SV.raw (Value.int IntKind.i64 a2),
                                                                  SV.raw (Value.int IntKind.i64 a3),
                                                                  SV.raw (Value.int IntKind.i64 a4),
                                                                  SV.raw (Value.int IntKind.i64 a5)],
                                                              SV.agg
                                                                [SV.raw (Value.int IntKind.i64 0),
                                                                  SV.raw (Value.int IntKind.i64 0),
                                                                  SV.raw (Value.int IntKind.i64 0),
                                                                  SV.raw (Value.int IntKind.i64 0),
                                                                  SV.raw (Value.int IntKind.i64 0),
                                                                  SV.raw (Value.int IntKind.i64 0),
                                                                  SV.raw (Value.int IntKind.i64 0),
                                                                  SV.raw (Value.int IntKind.i64 0)],
                                                              SV.raw (Value.bool false)])
                                                          E
                            else
                              Mem.le E E ∧
                                K
                                  (SV.tup
                                    [SV.agg
                                        [SV.raw (Value.int IntKind.i64 a1), SV.raw (Value.int IntKind.i64 a2),
                                          SV.raw (Value.int IntKind.i64 a3), SV.raw (Value.int IntKind.i64 a4),
                                          SV.raw (Value.int IntKind.i64 a5)],
                                      SV.agg
                                        [SV.raw (Value.int IntKind.i64 0), SV.raw (Value.int IntKind.i64 0),
                                          SV.raw (Value.int IntKind.i64 0), SV.raw (Value.int IntKind.i64 0),
                                          SV.raw (Value.int IntKind.i64 0), SV.raw (Value.int IntKind.i64 0),
                                          SV.raw (Value.int IntKind.i64 0), SV.raw (Value.int IntKind.i64 0)],
                                      SV.raw (Value.bool false)])
                                  E
                          else
                            Mem.le E E ∧
                              K
                                (SV.tup
                                  [SV.agg
                                      [SV.raw (Value.int IntKind.i64 a1), SV.raw (Value.int IntKind.i64 a2),
                                        SV.raw (Value.int IntKind.i64 a3), SV.raw (Value.int IntKind.i64 a4),
                                        SV.raw (Value.int IntKind.i64 a5)],
                                    SV.agg
                                      [SV.raw (Value.int IntKind.i64 0), SV.raw (Value.int IntKind.i64 0),
                                        SV.raw (Value.int IntKind.i64 0), SV.raw (Value.int IntKind.i64 0),
                                        SV.raw (Value.int IntKind.i64 0), SV.raw (Value.int IntKind.i64 0),
                                        SV.raw (Value.int IntKind.i64 0), SV.raw (Value.int IntKind.i64 0)],
                                    SV.raw (Value.bool false)])
                                E
                        else
                          Mem.le E E ∧
                            K
                              (SV.tup
                                [SV.agg
                                    [SV.raw (Value.int IntKind.i64 a1), SV.raw (Value.int IntKind.i64 a2),
                                      SV.raw (Value.int IntKind.i64 a3), SV.raw (Value.int IntKind.i64 a4),
                                      SV.raw (Value.int IntKind.i64 a5)],
                                  SV.agg
                                    [SV.raw (Value.int IntKind.i64 0), SV.raw (Value.int IntKind.i64 0),
                                      SV.raw (Value.int IntKind.i64 0), SV.raw (Value.int IntKind.i64 0),
                                      SV.raw (Value.int IntKind.i64 0), SV.raw (Value.int IntKind.i64 0),
                                      SV.raw (Value.int IntKind.i64 0), SV.raw (Value.int IntKind.i64 0)],
                                  SV.raw (Value.bool false)])
                              E
                      else
                        Mem.le E E ∧
                          K
                            (SV.tup
                              [SV.agg
                                  [SV.raw (Value.int IntKind.i64 a1), SV.raw (Value.int IntKind.i64 a2),
                                    SV.raw (Value.int IntKind.i64 a3), SV.raw (Value.int IntKind.i64 a4),
                                    SV.raw (Value.int IntKind.i64 a5)],
                                SV.agg
                                  [SV.raw (Value.int IntKind.i64 0), SV.raw (Value.int IntKind.i64 0),
                                    SV.raw (Value.int IntKind.i64 0), SV.raw (Value.int IntKind.i64 0),
                                    SV.raw (Value.int IntKind.i64 0), SV.raw (Value.int IntKind.i64 0),
                                    SV.raw (Value.int IntKind.i64 0), SV.raw (Value.int IntKind.i64 0)],
                                SV.raw (Value.bool false)])
                            E
                    else
                      Mem.le E E ∧
                        K
                          (SV.tup
                            [SV.agg
                                [SV.raw (Value.int IntKind.i64 a1), SV.raw (Value.int IntKind.i64 a2),
                                  SV.raw (Value.int IntKind.i64 a3), SV.raw (Value.int IntKind.i64 a4),
                                  SV.raw (Value.int IntKind.i64 a5)],
                              SV.agg
                                [SV.raw (Value.int IntKind.i64 0), SV.raw (Value.int IntKind.i64 0),
                                  SV.raw (Value.int IntKind.i64 0), SV.raw (Value.int IntKind.i64 0),
                                  SV.raw (Value.int IntKind.i64 0), SV.raw (Value.int IntKind.i64 0),
                                  SV.raw (Value.int IntKind.i64 0), SV.raw (Value.int IntKind.i64 0)],
                              SV.raw (Value.bool false)])
                          E
                  else
                    Mem.le E E ∧
                      K
                        (SV.tup
                          [SV.agg
                              [SV.raw (Value.int IntKind.i64 a1), SV.raw (Value.int IntKind.i64 a2),
                                SV.raw (Value.int IntKind.i64 a3), SV.raw (Value.int IntKind.i64 a4),
                                SV.raw (Value.int IntKind.i64 a5)],
                            SV.agg
                              [SV.raw (Value.int IntKind.i64 0), SV.raw (Value.int IntKind.i64 0),
                                SV.raw (Value.int IntKind.i64 0), SV.raw (Value.int IntKind.i64 0),
                                SV.raw (Value.int IntKind.i64 0), SV.raw (Value.int IntKind.i64 0),
                                SV.raw (Value.int IntKind.i64 0), SV.raw (Value.int IntKind.i64 0)],
                            SV.raw (Value.bool false)])
                        E
                else
                  Mem.le E E ∧
                    K
                      (SV.tup
                        [SV.agg
                            [SV.raw (Value.int IntKind.i64 a1), SV.raw (Value.int IntKind.i64 a2),
                              SV.raw (Value.int IntKind.i64 a3), SV.raw (Value.int IntKind.i64 a4),
                              SV.raw (Value.int IntKind.i64 a5)],
                          SV.agg
                            [SV.raw (Value.int IntKind.i64 0), SV.raw (Value.int IntKind.i64 0),
                              SV.raw (Value.int IntKind.i64 0), SV.raw (Value.int IntKind.i64 0),
                              SV.raw (Value.int IntKind.i64 0), SV.raw (Value.int IntKind.i64 0),
                              SV.raw (Value.int IntKind.i64 0), SV.raw (Value.int IntKind.i64 0)],
                          SV.raw (Value.bool false)])
                      E
              else
                Mem.le E E ∧
                  K
                    (SV.tup
                      [SV.agg
                          [SV.raw (Value.int IntKind.i64 a1), SV.raw (Value.int IntKind.i64 a2),
                            SV.raw (Value.int IntKind.i64 a3), SV.raw (Value.int IntKind.i64 a4),
                            SV.raw (Value.int IntKind.i64 a5)],
                        SV.agg
                          [SV.raw (Value.int IntKind.i64 0), SV.raw (Value.int IntKind.i64 0),
                            SV.raw (Value.int IntKind.i64 0), SV.raw (Value.int IntKind.i64 0),
                            SV.raw (Value.int IntKind.i64 0), SV.raw (Value.int IntKind.i64 0),
                            SV.raw (Value.int IntKind.i64 0), SV.raw (Value.int IntKind.i64 0)],
                        SV.raw (Value.bool false)])
                    E
            else
              Mem.le E E ∧
                K
                  (SV.tup
                    [SV.agg
                        [SV.raw (Value.int IntKind.i64 a1), SV.raw (Value.int IntKind.i64 a2),
                          SV.raw (Value.int IntKind.i64 a3), SV.raw (Value.int IntKind.i64 a4),
                          SV.raw (Value.int IntKind.i64 a5)],
                      SV.agg
                        [SV.raw (Value.int IntKind.i64 0), SV.raw (Value.int IntKind.i64 0), SV.raw (Value.int IntKind.i64 0),
                          SV.raw (Value.int IntKind.i64 0), SV.raw (Value.int IntKind.i64 0),
                          SV.raw (Value.int IntKind.i64 0), SV.raw (Value.int IntKind.i64 0),
                          SV.raw (Value.int IntKind.i64 0)],
                      SV.raw (Value.bool false)])
                  E)
  simp only [cond_true, cond_false, Bool.cond_eq_ite, Bool.false_eq_true, if_true, if_false, ite_true, ite_false, beq_iff_eq, bne_iff_ne, decide_eq_true_eq, decide_eq_false_iff_not, ne_eq, reduceCtorEq, beq_self_eq_true, bne_self_eq_false, Bool.true_eq_false, iff_true, true_iff, iff_false, false_iff, not_false_eq_true, not_true_eq_false, Bool.and_eq_true, Bool.or_eq_true, Bool.not_eq_true', Bool.and_true, Bool.true_and, Bool.and_false, Bool.false_and, Bool.or_true, Bool.true_or, Bool.or_false, Bool.false_or, Bool.not_true, Bool.not_false, beq_eq_false_iff_ne, Decidable.not_not, Mem.le_refl, true_and, and_true]
  repeat' (first | refine alike ?_ | refine iteI (fun _ => ?_) (fun _ => ?_) | intro _ | refine And.intro ?_ ?_ | fail)
  all_goals first
    | (refine h _ _ _ _ _ _ _ _ _ _ _ _ _ 1 ?_; ((try clear h); (try simp only [Hyp, OwnR, FWR, VJR, AskR, HearR, LateR, JudgeR, AskOK, Meant, JudgeOK, VJ, FW, ZW, EJ] at *); first | done | grind (splits := 60) [wrap_i64]))
    | (refine h _ _ _ _ _ _ _ _ _ _ _ _ _ 0 ?_; ((try clear h); (try simp only [Hyp, OwnR, FWR, VJR, AskR, HearR, LateR, JudgeR, AskOK, Meant, JudgeOK, VJ, FW, ZW, EJ] at *); first | done | grind (splits := 60) [wrap_i64]))

end Go.Proofs.Ythbfpaemiccjcaa.JoinOwn
