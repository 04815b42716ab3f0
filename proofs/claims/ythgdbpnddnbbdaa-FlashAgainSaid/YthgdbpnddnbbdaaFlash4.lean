/- The flash package: what its functions answer. -/
import Derived.Test.YthgdbpnddnbbdaaFlash3
namespace Go.Proofs.Ythgdbpnddnbbdaa.FlashOwn
open Go Go.Sx
set_option maxRecDepth 100000
set_option maxHeartbeats 4000000
set_option linter.unusedVariables false
set_option linter.unusedSimpArgs false
variable {E : Mem} {K : SV → Mem → Prop}
def gE : Nat → Int → Int := fun _ _ => 255
def sh33e (s : Int) (a : Nat) (b : Option Addr) (l c m : Nat) (rc : Rc) (i cap tot : Nat) (vs : List Value) (zs : List Int) (E : Mem) : St := ⟨[some (.raw (.func (.yield rc.l) #[] #[])), some (.loc 2 0), some (.loc 4 0), some (.loc 5 0), some (.loc 3 0), none, some (.loc 9 0), some (I (i : Nat))] ++ List.replicate 43 none,
  [⟨24, .lst [I s, L b l c], 2, true⟩, ⟨24, .lst [I s, L b l c], 2, true⟩, ⟨24, .lst [I s, L b l c], 2, true⟩, ⟨3, .lst [I (a : Nat)], 1, true⟩, ⟨3, .lst [I (m : Nat)], 1, true⟩, ⟨50, .lst [.clo 30 [] []], 1, true⟩] ++ [⟨24, .lst [], 0, false⟩, ⟨30, .lst [.slc 10 0 i cap], 1, true⟩, ⟨5, .vals (vB zs), l * 1, true⟩, ⟨24, .lst [I s, .slc 8 0 l l], 2, true⟩, ⟨24, .vals vs, tot, true⟩], E⟩
def sh5e (s : Int) (a : Nat) (b : Option Addr) (l c m : Nat) (n cap tot : Nat) (vs : List Value) (E : Mem) : St := ⟨[some (.clo 33 [] [.loc 2 0, .loc 4 0, .loc 5 0, .loc 3 0]), none, none, none, none, some (.loc 6 0)] ++ List.replicate 10 none,
  [⟨24, .lst [I s, L b l c], 2, true⟩, ⟨24, .lst [I s, L b l c], 2, true⟩, ⟨24, .lst [I s, L b l c], 2, true⟩, ⟨3, .lst [I (a : Nat)], 1, true⟩, ⟨3, .lst [I (m : Nat)], 1, true⟩, ⟨50, .lst [.clo 30 [] []], 1, true⟩] ++ [⟨30, .lst [.slc 7 0 n cap], 1, true⟩, ⟨24, .vals vs, tot, true⟩], E⟩
theorem cn27e {K : KT} {s : Int} {a : Nat} {b : Option Addr} {l c m k cap tot : Nat} {n0 : Int} {vs x8 x12 : List Value} {t8 t12 : Nat} {b3 b4 : Option Addr} {l3 c3 l4 c4 : Nat}
    (h : Ct F1 6 Try.f27 [1, 1, 1] 6 K (sh5e s a b l c m k cap tot vs E)) :
    Pn F1 6 Try.f27 [1, 1, 0, 1, 0] 6 K ⟨fr27 n0, [⟨24, .lst [I s, L b l c], 2, true⟩, ⟨24, .lst [I s, L b l c], 2, true⟩, ⟨24, .lst [I s, L b l c], 2, true⟩, ⟨3, .lst [I (a : Nat)], 1, true⟩, ⟨3, .lst [I (m : Nat)], 1, true⟩, ⟨50, .lst [.clo 30 [] []], 1, true⟩] ++ [⟨24, .lst [], 0, false⟩, ⟨30, .lst [.slc 15 0 k cap], 1, true⟩, ⟨5, .vals x8, t8, true⟩, ⟨24, .lst [I s, .slc 8 0 l l], 2, true⟩, ⟨24, .lst [], 0, false⟩, ⟨5, .lst [], 0, false⟩, ⟨5, .vals x12, t12, false⟩, ⟨24, .lst [I s, L b3 l3 c3], 2, true⟩, ⟨24, .lst [I s, L b4 l4 c4], 2, true⟩, ⟨24, .vals vs, tot, true⟩], E⟩ := by
  refine same (by kernel_rfl) (?_ : 
      Ct F1 6 Try.f27 [1, 1, 1] 6 K
        {
          fr :=
            [some
                (SV.clo 33 []
                  [SV.loc 2 0, SV.loc 4 0, SV.loc 5 0,
                    SV.loc 3 0]),
              some (SV.raw (Value.int IntKind.i64 n0)), none, none, some (SV.raw (Value.slice none 0 0)),
              some (SV.loc 7 0), none, some (SV.raw (Value.int IntKind.i64 n0)),
              some (SV.slc 6 0 0 (Int.toNat n0)),
              some
                (SV.clo 33 []
                  [SV.loc 2 0, SV.loc 4 0, SV.loc 5 0,
                    SV.loc 3 0]),
              none, none, none, none, none, none],
          bx :=
            [{ elem := 24, row := Row.lst [SV.raw (Value.int IntKind.i64 s), SV.raw (Value.slice b l c)],
                total := 2, own := true : Box },
              { elem := 24, row := Row.lst [SV.raw (Value.int IntKind.i64 s), SV.raw (Value.slice b l c)],
                total := 2, own := true : Box },
              { elem := 24, row := Row.lst [SV.raw (Value.int IntKind.i64 s), SV.raw (Value.slice b l c)],
                total := 2, own := true : Box },
              { elem := 3, row := Row.lst [SV.raw (Value.int IntKind.i64 (↑a : Int))], total := 1,
                own := true : Box },
              { elem := 3, row := Row.lst [SV.raw (Value.int IntKind.i64 (↑m : Int))], total := 1,
                own := true : Box },
              { elem := 50, row := Row.lst [SV.clo 30 [] []], total := 1, own := true : Box },
              { elem := 24, row := Row.lst [], total := 0, own := false : Box },
              { elem := 30, row := Row.lst [SV.slc 15 0 k cap], total := 1, own := true :
                Box },
              { elem := 5, row := Row.vals x8, total := t8, own := true : Box },
              { elem := 24, row := Row.lst [SV.raw (Value.int IntKind.i64 s), SV.slc 8 0 l l],
                total := 2, own := true : Box },
              { elem := 24, row := Row.lst [], total := 0, own := false : Box },
              { elem := 5, row := Row.lst [], total := 0, own := false : Box },
              { elem := 5, row := Row.vals x12, total := t12, own := false : Box },
              { elem := 24, row := Row.lst [SV.raw (Value.int IntKind.i64 s), SV.raw (Value.slice b3 l3 c3)],
                total := 2, own := true : Box },
              { elem := 24, row := Row.lst [SV.raw (Value.int IntKind.i64 s), SV.raw (Value.slice b4 l4 c4)],
                total := 2, own := true : Box },
              { elem := 24, row := Row.vals vs, total := tot, own := true : Box }],
          E := E : St })
  exact Ct_re [some 0, some 1, some 2, some 3, some 4, some 5, some 7, some 15] h ⟨⟨by simp, by simp, fun j h => (by have e : j = 0 ∨ j = 1 ∨ j = 2 ∨ j = 3 ∨ j = 4 ∨ j = 5 := (by omega); rcases e with rfl | rfl | rfl | rfl | rfl | rfl <;> rfl)⟩, rfl, (by repeat' first | exact True.intro | refine And.intro (Or.inl rfl) ?_), (by repeat' first | exact True.intro | exact rfl | exact Or.inl rfl | fail | refine And.intro ?_ ?_), (show List.Nodup [0, 1, 2, 3, 4, 5, 7, 15] from by decide), Mem.le_refl _⟩

theorem rnd33e {E0 : Mem} {K : KT} {s : Int} {a : Nat} {b : Option Addr} {l c m : Nat} {rc : Rc} {i cap tot : Nat} {vs : List Value} {zs zs0 : List Int} {rs : List FRow} {n0 : Int} (hn : n0 = ((m + 1 : Nat) : Int))
    (hI : I33 E0 E s (gE) a l m zs0 i cap tot vs zs rs) 
    (hK : ∀ (E' : Mem) (rs : List FRow) (vs : List Value) (cap tot : Nat), Mem.le E0 E' → m + 1 ≤ cap → cap * 2 ≤ tot → vs = rs.flatMap rowV → FLr E' rs (mems s (gE) a zs0 (m + 1)) → Ct F1 6 Try.f27 [1, 1, 1] 6 K (sh5e s a b l c m (m + 1) cap tot vs E'))
    (ih : ∀ (E' : Mem) (cap tot : Nat) (vs : List Value) (zs : List Int) (rs : List FRow), i < m → I33 E0 E' s (gE) a l m zs0 (i + 1) cap tot vs zs rs →
      Lp (FY n0 rc) 6 Try.f33 [1, 1, 1, 0] 8 (fun _ bx E => Cn F1 6 Try.f27 [1, 1, 0, 1, 0] 6 K { fr := fr27 n0, bx := bx, E := E }) (sh33e s a b l c m rc (i + 1) cap tot vs zs E')) :
    Rnd (FY n0 rc) 6 Try.f33 [1, 1, 1, 0] 8 (fun _ bx E => Cn F1 6 Try.f27 [1, 1, 0, 1, 0] 6 K { fr := fr27 n0, bx := bx, E := E }) (sh33e s a b l c m rc i cap tot vs zs E) := by
  refine same (by kernel_rfl) (?_ : 
      Sx.Alike (AlikeT.n AlikeT.l AlikeT.l)
        (∀ (r : Bool),
          (r = true → Sx.Alike (AlikeT.n AlikeT.l AlikeT.l) (l = 0)) →
            bif r then
              rc.l = rc.l ∧
                i * 2 ≤ List.length (Row.cells (Row.vals vs)) ∧
                  cap * 2 ≤ tot ∧
                    i ≤ cap ∧
                      req ((i + 1) * 32 ≤ 140737488355328)
                        (∀ (cap' tot' : Nat),
                          i + 1 ≤ cap' →
                            cap' * 2 ≤ tot' →
                              Sx.Alike (AlikeT.n AlikeT.l AlikeT.l)
                                (bif bif true then decide ((↑i : Int) < (↑m : Int)) else false then
                                  req
                                    ((0 : Int) ≤ IntKind.wrap IntKind.i64 ((↑a : Int) + (↑i : Int)) ∧
                                      IntKind.wrap IntKind.i64 ((↑a : Int) + (↑i : Int)) < (↑l : Int))
                                    (∃ (n : Int),
                                      LoadV (FY n0 rc).P 5 (vB zs)
                                          (0 +
                                            Int.toNat (IntKind.wrap IntKind.i64 ((↑a : Int) + (↑i : Int))) * 1)
                                          (SV.raw (Value.int IntKind.u8 n)) ∧
                                        Sx.Alike
                                          (AlikeT.n (AlikeT.n AlikeT.l AlikeT.l)
                                            (AlikeT.n (AlikeT.n AlikeT.l AlikeT.l) AlikeT.l))
                                          (Mem.le E E ∧
                                            req
                                              ((0 : Int) ≤ IntKind.wrap IntKind.i64 ((↑a : Int) + (↑i : Int)) ∧
                                                IntKind.wrap IntKind.i64 ((↑a : Int) + (↑i : Int)) < (↑l : Int))
                                              (0 +
                                                      Int.toNat (IntKind.wrap IntKind.i64 ((↑a : Int) + (↑i : Int))) *
                                                        1 +
                                                    1 ≤
                                                  List.length (vB zs) ∧
                                                Lp (FY n0 rc) 6 Try.f33 [1, 1, 1, 0]
                                                  8
                                                  (fun (x : SV) (bx : List Box) (E : Mem) =>
                                                    Cn F1 6 Try.f27
                                                      [1, 1, 0, 1, 0] 6 K
                                                      { fr := fr27 n0, bx := bx, E := E : St })
                                                  {
                                                    fr :=
                                                      [some
                                                          (SV.raw
                                                            (Value.func (Fn.yield rc.l) { toList := [] : Array Value }
                                                              { toList := [] : Array Value })),
                                                        some (SV.loc 2 0), some (SV.loc 4 0),
                                                        some (SV.loc 5 0), some (SV.loc 3 0),
                                                        none, some (SV.loc 9 0),
                                                        some
                                                          (SV.raw
                                                            (Value.int IntKind.i64
                                                              (IntKind.wrap IntKind.i64 ((↑i : Int) + (1 : Int))))),
                                                        none, none, none, none, none, none, none, none, none, none, none,
                                                        none, none, none, none, none, none, none, none, none, none, none,
                                                        none, none, none, none, none, none, none, none, none, none, none,
                                                        none, none, none, none, none, none, none, none, none, none],
                                                    bx :=
                                                      [{ elem := 24,
                                                          row :=
                                                            Row.lst
                                                              [SV.raw (Value.int IntKind.i64 s), SV.raw (Value.slice b l c)],
                                                          total := 2, own := true : Box },
                                                        { elem := 24,
                                                          row :=
                                                            Row.lst
                                                              [SV.raw (Value.int IntKind.i64 s), SV.raw (Value.slice b l c)],
                                                          total := 2, own := true : Box },
                                                        { elem := 24,
                                                          row :=
                                                            Row.lst
                                                              [SV.raw (Value.int IntKind.i64 s), SV.raw (Value.slice b l c)],
                                                          total := 2, own := true : Box },
                                                        { elem := 3,
                                                          row := Row.lst [SV.raw (Value.int IntKind.i64 (↑a : Int))],
                                                          total := 1, own := true : Box },
                                                        { elem := 3,
                                                          row := Row.lst [SV.raw (Value.int IntKind.i64 (↑m : Int))],
                                                          total := 1, own := true : Box },
                                                        { elem := 50, row := Row.lst [SV.clo 30 [] []],
                                                          total := 1, own := true : Box },
                                                        { elem := 24, row := Row.lst [], total := 0,
                                                          own := false : Box },
                                                        { elem := 30,
                                                          row := Row.lst [SV.slc 13 0 (i + 1) cap'],
                                                          total := 1, own := true : Box },
                                                        { elem := 5,
                                                          row :=
                                                            Row.vals
                                                              (layV (vB zs)
                                                                (0 +
                                                                  Int.toNat
                                                                      (IntKind.wrap IntKind.i64 ((↑a : Int) + (↑i : Int))) *
                                                                    1)
                                                                [Value.int IntKind.u8 (255 : Int)]),
                                                          total := l * 1, own := true : Box },
                                                        { elem := 24,
                                                          row :=
                                                            Row.lst
                                                              [SV.raw (Value.int IntKind.i64 s),
                                                                SV.slc 8 0 l l],
                                                          total := 2, own := true : Box },
                                                        { elem := 24, row := Row.lst [], total := 0,
                                                          own := false : Box },
                                                        { elem := 24,
                                                          row :=
                                                            Row.lst
                                                              [SV.raw (Value.int IntKind.i64 s),
                                                                SV.raw (Value.slice none 0 0)],
                                                          total := 2, own := true : Box },
                                                        { elem := 24,
                                                          row :=
                                                            Row.lst
                                                              [SV.raw (Value.int IntKind.i64 s),
                                                                SV.raw (Value.slice none 0 0)],
                                                          total := 2, own := true : Box },
                                                        { elem := 24,
                                                          row :=
                                                            Row.vals
                                                              (List.take (i * 2) vs ++
                                                                [Value.int IntKind.i64 s,
                                                                  Value.slice none 0 0]),
                                                          total := tot', own := true : Box }],
                                                    E := E : St })))
                                else
                                  Cn F1 6 Try.f27 [1, 1, 0, 1, 0] 6 K
                                    {
                                      fr :=
                                        [some
                                            (SV.clo 33 []
                                              [SV.loc 2 0, SV.loc 4 0,
                                                SV.loc 5 0, SV.loc 3 0]),
                                          some (SV.raw (Value.int IntKind.i64 n0)), none, none,
                                          some (SV.raw (Value.slice none 0 0)),
                                          some (SV.loc 7 0), none, some (SV.raw (Value.int IntKind.i64 n0)),
                                          some (SV.slc 6 0 0 (Int.toNat n0)),
                                          some
                                            (SV.clo 33 []
                                              [SV.loc 2 0, SV.loc 4 0,
                                                SV.loc 5 0, SV.loc 3 0]),
                                          none, none, none, none, none, none],
                                      bx :=
                                        [{ elem := 24,
                                            row := Row.lst [SV.raw (Value.int IntKind.i64 s), SV.raw (Value.slice b l c)],
                                            total := 2, own := true : Box },
                                          { elem := 24,
                                            row := Row.lst [SV.raw (Value.int IntKind.i64 s), SV.raw (Value.slice b l c)],
                                            total := 2, own := true : Box },
                                          { elem := 24,
                                            row := Row.lst [SV.raw (Value.int IntKind.i64 s), SV.raw (Value.slice b l c)],
                                            total := 2, own := true : Box },
                                          { elem := 3, row := Row.lst [SV.raw (Value.int IntKind.i64 (↑a : Int))],
                                            total := 1, own := true : Box },
                                          { elem := 3, row := Row.lst [SV.raw (Value.int IntKind.i64 (↑m : Int))],
                                            total := 1, own := true : Box },
                                          { elem := 50, row := Row.lst [SV.clo 30 [] []], total := 1,
                                            own := true : Box },
                                          { elem := 24, row := Row.lst [], total := 0, own := false : Box },
                                          { elem := 30,
                                            row := Row.lst [SV.slc 13 0 (i + 1) cap'],
                                            total := 1, own := true : Box },
                                          { elem := 5, row := Row.vals (vB zs), total := l * 1, own := true :
                                            Box },
                                          { elem := 24,
                                            row := Row.lst [SV.raw (Value.int IntKind.i64 s), SV.slc 8 0 l l],
                                            total := 2, own := true : Box },
                                          { elem := 24, row := Row.lst [], total := 0, own := false : Box },
                                          { elem := 24,
                                            row :=
                                              Row.lst
                                                [SV.raw (Value.int IntKind.i64 s),
                                                  SV.raw (Value.slice none 0 0)],
                                            total := 2, own := true : Box },
                                          { elem := 24,
                                            row :=
                                              Row.lst
                                                [SV.raw (Value.int IntKind.i64 s),
                                                  SV.raw (Value.slice none 0 0)],
                                            total := 2, own := true : Box },
                                          { elem := 24,
                                            row :=
                                              Row.vals
                                                (List.take (i * 2) vs ++
                                                  [Value.int IntKind.i64 s, Value.slice none 0 0]),
                                            total := tot', own := true : Box }],
                                      E := E : St }))
            else
              0 + l * 1 ≤ List.length (vB zs) ∧
                (∀ (x : Value), List.Mem x (vB zs) → Value.oneCell' x = true) ∧
                  0 ≤ 0 ∧
                    0 ≤ 0 ∧
                      0 ≤ 0 ∧
                        req ((0 + l) * 1 ≤ 140737488355328)
                          (∀ (cap' tot' : Nat),
                            0 + l ≤ cap' →
                              cap' * 1 ≤ tot' →
                                rc.l = rc.l ∧
                                  ∀ (base : Option Addr) (E' : Mem),
                                    Mem.le E E' →
                                      WinE E' base ([] ++ List.take (l * 1) (List.drop 0 (vB zs))) →
                                        i * 2 ≤ List.length (Row.cells (Row.vals vs)) ∧
                                          cap * 2 ≤ tot ∧
                                            i ≤ cap ∧
                                              req ((i + 1) * 32 ≤ 140737488355328)
                                                (∀ (cap'_1 tot'_1 : Nat),
                                                  i + 1 ≤ cap'_1 →
                                                    cap'_1 * 2 ≤ tot'_1 →
                                                      Sx.Alike (AlikeT.n AlikeT.l AlikeT.l)
                                                        (bif bif true then decide ((↑i : Int) < (↑m : Int)) else false then
                                                          req
                                                            ((0 : Int) ≤ IntKind.wrap IntKind.i64 ((↑a : Int) + (↑i : Int)) ∧
                                                              IntKind.wrap IntKind.i64 ((↑a : Int) + (↑i : Int)) < (↑l : Int))
                                                            (∃ (n : Int),
                                                              LoadV (FY n0 rc).P 5 (vB zs)
                                                                  (0 +
                                                                    Int.toNat
                                                                        (IntKind.wrap IntKind.i64 ((↑a : Int) + (↑i : Int))) *
                                                                      1)
                                                                  (SV.raw (Value.int IntKind.u8 n)) ∧
                                                                Sx.Alike
                                                                  (AlikeT.n (AlikeT.n AlikeT.l AlikeT.l)
                                                                    (AlikeT.n (AlikeT.n AlikeT.l AlikeT.l) AlikeT.l))
                                                                  (Mem.le E' E' ∧
                                                                    req
                                                                      ((0 : Int) ≤
                                                                          IntKind.wrap IntKind.i64 ((↑a : Int) + (↑i : Int)) ∧
                                                                        IntKind.wrap IntKind.i64 ((↑a : Int) + (↑i : Int)) <
                                                                          (↑l : Int))
                                                                      (0 +
                                                                              Int.toNat
                                                                                  (IntKind.wrap IntKind.i64
                                                                                    ((↑a : Int) + (↑i : Int))) *
                                                                                1 +
                                                                            1 ≤
                                                                          List.length (vB zs) ∧
                                                                        Lp (FY n0 rc) 6 Try.f33
                                                                          [1, 1, 1, 0]
                                                                          8
                                                                          (fun (x : SV) (bx : List Box) (E : Mem) =>
                                                                            Cn F1 6 Try.f27
                                                                              [1, 1, 0, 1,
                                                                                0]
                                                                              6 K
                                                                              { fr := fr27 n0, bx := bx, E := E : St })
                                                                          {
                                                                            fr :=
                                                                              [some
                                                                                  (SV.raw
                                                                                    (Value.func (Fn.yield rc.l)
                                                                                      { toList := [] : Array Value }
                                                                                      { toList := [] : Array Value })),
                                                                                some (SV.loc 2 0),
                                                                                some (SV.loc 4 0),
                                                                                some (SV.loc 5 0),
                                                                                some (SV.loc 3 0), none,
                                                                                some (SV.loc 9 0),
                                                                                some
                                                                                  (SV.raw
                                                                                    (Value.int IntKind.i64
                                                                                      (IntKind.wrap IntKind.i64
                                                                                        ((↑i : Int) + (1 : Int))))),
                                                                                none, none, none, none, none, none, none,
                                                                                none, none, none, none, none, none, none,
                                                                                none, none, none, none, none, none, none,
                                                                                none, none, none, none, none, none, none,
                                                                                none, none, none, none, none, none, none,
                                                                                none, none, none, none, none, none, none,
                                                                                none],
                                                                            bx :=
                                                                              [{ elem := 24,
                                                                                  row :=
                                                                                    Row.lst
                                                                                      [SV.raw (Value.int IntKind.i64 s),
                                                                                        SV.raw (Value.slice b l c)],
                                                                                  total := 2, own := true : Box },
                                                                                { elem := 24,
                                                                                  row :=
                                                                                    Row.lst
                                                                                      [SV.raw (Value.int IntKind.i64 s),
                                                                                        SV.raw (Value.slice b l c)],
                                                                                  total := 2, own := true : Box },
                                                                                { elem := 24,
                                                                                  row :=
                                                                                    Row.lst
                                                                                      [SV.raw (Value.int IntKind.i64 s),
                                                                                        SV.raw (Value.slice b l c)],
                                                                                  total := 2, own := true : Box },
                                                                                { elem := 3,
                                                                                  row :=
                                                                                    Row.lst
                                                                                      [SV.raw
                                                                                          (Value.int IntKind.i64 (↑a : Int))],
                                                                                  total := 1, own := true : Box },
                                                                                { elem := 3,
                                                                                  row :=
                                                                                    Row.lst
                                                                                      [SV.raw
                                                                                          (Value.int IntKind.i64 (↑m : Int))],
                                                                                  total := 1, own := true : Box },
                                                                                { elem := 50,
                                                                                  row := Row.lst [SV.clo 30 [] []],
                                                                                  total := 1, own := true : Box },
                                                                                { elem := 24, row := Row.lst [],
                                                                                  total := 0, own := false : Box },
                                                                                { elem := 30,
                                                                                  row :=
                                                                                    Row.lst
                                                                                      [SV.slc 15 0
                                                                                          (i + 1) cap'_1],
                                                                                  total := 1, own := true : Box },
                                                                                { elem := 5,
                                                                                  row :=
                                                                                    Row.vals
                                                                                      (layV (vB zs)
                                                                                        (0 +
                                                                                          Int.toNat
                                                                                              (IntKind.wrap IntKind.i64
                                                                                                ((↑a : Int) + (↑i : Int))) *
                                                                                            1)
                                                                                        [Value.int IntKind.u8 (255 : Int)]),
                                                                                  total := l * 1, own := true : Box },
                                                                                { elem := 24,
                                                                                  row :=
                                                                                    Row.lst
                                                                                      [SV.raw (Value.int IntKind.i64 s),
                                                                                        SV.slc 8 0 l l],
                                                                                  total := 2, own := true : Box },
                                                                                { elem := 24, row := Row.lst [],
                                                                                  total := 0, own := false : Box },
                                                                                { elem := 5, row := Row.lst [],
                                                                                  total := 0, own := false : Box },
                                                                                { elem := 5,
                                                                                  row :=
                                                                                    Row.vals
                                                                                      ([] ++
                                                                                        List.take (l * 1)
                                                                                          (List.drop 0 (vB zs))),
                                                                                  total := tot', own := false : Box },
                                                                                { elem := 24,
                                                                                  row :=
                                                                                    Row.lst
                                                                                      [SV.raw (Value.int IntKind.i64 s),
                                                                                        SV.raw
                                                                                          (Value.slice
                                                                                            (Option.map
                                                                                              (fun (x : Addr) =>
                                                                                                Addr.add x 0)
                                                                                              base)
                                                                                            (0 + l) cap')],
                                                                                  total := 2, own := true : Box },
                                                                                { elem := 24,
                                                                                  row :=
                                                                                    Row.lst
                                                                                      [SV.raw (Value.int IntKind.i64 s),
                                                                                        SV.raw
                                                                                          (Value.slice
                                                                                            (Option.map
                                                                                              (fun (x : Addr) =>
                                                                                                Addr.add x 0)
                                                                                              base)
                                                                                            (0 + l) cap')],
                                                                                  total := 2, own := true : Box },
                                                                                { elem := 24,
                                                                                  row :=
                                                                                    Row.vals
                                                                                      (List.take (i * 2) vs ++
                                                                                        [Value.int IntKind.i64 s,
                                                                                          slcAs base 0 (0 + l)
                                                                                            cap']),
                                                                                  total := tot'_1, own := true : Box }],
                                                                            E := E' : St })))
                                                        else
                                                          Cn F1 6 Try.f27
                                                            [1, 1, 0, 1, 0] 6
                                                            K
                                                            {
                                                              fr :=
                                                                [some
                                                                    (SV.clo 33 []
                                                                      [SV.loc 2 0, SV.loc 4 0,
                                                                        SV.loc 5 0,
                                                                        SV.loc 3 0]),
                                                                  some (SV.raw (Value.int IntKind.i64 n0)), none, none,
                                                                  some (SV.raw (Value.slice none 0 0)),
                                                                  some (SV.loc 7 0), none,
                                                                  some (SV.raw (Value.int IntKind.i64 n0)),
                                                                  some (SV.slc 6 0 0 (Int.toNat n0)),
                                                                  some
                                                                    (SV.clo 33 []
                                                                      [SV.loc 2 0, SV.loc 4 0,
                                                                        SV.loc 5 0,
                                                                        SV.loc 3 0]),
                                                                  none, none, none, none, none, none],
                                                              bx :=
                                                                [{ elem := 24,
                                                                    row :=
                                                                      Row.lst
                                                                        [SV.raw (Value.int IntKind.i64 s),
                                                                          SV.raw (Value.slice b l c)],
                                                                    total := 2, own := true : Box },
                                                                  { elem := 24,
                                                                    row :=
                                                                      Row.lst
                                                                        [SV.raw (Value.int IntKind.i64 s),
                                                                          SV.raw (Value.slice b l c)],
                                                                    total := 2, own := true : Box },
                                                                  { elem := 24,
                                                                    row :=
                                                                      Row.lst
                                                                        [SV.raw (Value.int IntKind.i64 s),
                                                                          SV.raw (Value.slice b l c)],
                                                                    total := 2, own := true : Box },
                                                                  { elem := 3,
                                                                    row :=
                                                                      Row.lst [SV.raw (Value.int IntKind.i64 (↑a : Int))],
                                                                    total := 1, own := true : Box },
                                                                  { elem := 3,
                                                                    row :=
                                                                      Row.lst [SV.raw (Value.int IntKind.i64 (↑m : Int))],
                                                                    total := 1, own := true : Box },
                                                                  { elem := 50,
                                                                    row := Row.lst [SV.clo 30 [] []],
                                                                    total := 1, own := true : Box },
                                                                  { elem := 24, row := Row.lst [], total := 0,
                                                                    own := false : Box },
                                                                  { elem := 30,
                                                                    row :=
                                                                      Row.lst
                                                                        [SV.slc 15 0 (i + 1) cap'_1],
                                                                    total := 1, own := true : Box },
                                                                  { elem := 5, row := Row.vals (vB zs),
                                                                    total := l * 1, own := true : Box },
                                                                  { elem := 24,
                                                                    row :=
                                                                      Row.lst
                                                                        [SV.raw (Value.int IntKind.i64 s),
                                                                          SV.slc 8 0 l l],
                                                                    total := 2, own := true : Box },
                                                                  { elem := 24, row := Row.lst [], total := 0,
                                                                    own := false : Box },
                                                                  { elem := 5, row := Row.lst [], total := 0,
                                                                    own := false : Box },
                                                                  { elem := 5,
                                                                    row :=
                                                                      Row.vals
                                                                        ([] ++
                                                                          List.take (l * 1)
                                                                            (List.drop 0 (vB zs))),
                                                                    total := tot', own := false : Box },
                                                                  { elem := 24,
                                                                    row :=
                                                                      Row.lst
                                                                        [SV.raw (Value.int IntKind.i64 s),
                                                                          SV.raw
                                                                            (Value.slice
                                                                              (Option.map
                                                                                (fun (x : Addr) => Addr.add x 0) base)
                                                                              (0 + l) cap')],
                                                                    total := 2, own := true : Box },
                                                                  { elem := 24,
                                                                    row :=
                                                                      Row.lst
                                                                        [SV.raw (Value.int IntKind.i64 s),
                                                                          SV.raw
                                                                            (Value.slice
                                                                              (Option.map
                                                                                (fun (x : Addr) => Addr.add x 0) base)
                                                                              (0 + l) cap')],
                                                                    total := 2, own := true : Box },
                                                                  { elem := 24,
                                                                    row :=
                                                                      Row.vals
                                                                        (List.take (i * 2) vs ++
                                                                          [Value.int IntKind.i64 s,
                                                                            slcAs base 0 (0 + l) cap']),
                                                                    total := tot'_1, own := true : Box }],
                                                              E := E' : St })))))
  obtain ⟨hle, ⟨l1, l2, l3⟩, hlen, hbyte, him, ⟨hc1, hc2⟩, ⟨hv1, hv2⟩, hzs, hrs⟩ := hI
  have hzl : zs.length = l := by rw [hzs, stp_len]; exact hlen
  have hzb : ∀ z ∈ zs, 0 ≤ z ∧ z ≤ 255 := by rw [hzs]; exact stp_byte hbyte (fun i x => ⟨(by decide : (0 : Int) ≤ 255), (by decide : (255 : Int) ≤ 255)⟩) i
  have him2 : i ≤ 16384 := by omega
  have eai : IntKind.wrap .i64 ((a : Int) + (i : Int)) = ((a + i : Nat) : Int) := by rw [wrap_i64 (by omega)]; simp
  have ei1 : IntKind.wrap .i64 ((i : Int) + 1) = ((i + 1 : Nat) : Int) := by rw [wrap_i64 (by omega)]; simp
  have hld : zs.length ≤ l := Nat.le_of_eq hzl
  refine alike (fun r hr => condC (fun h1 => by subst h1; exact absurd (show l = 0 from (hr rfl).1) (by omega)) (fun _ => ?_))
  refine ⟨by simp only [List.length_map, hzl]; omega, vB_one zs, Nat.le_refl _, Nat.le_refl _, Nat.le_refl _, req_intro (by omega) (fun cap1 tot1 c1 c2 => ⟨rfl, fun base E1 hE1 hW => ⟨?_, hc2, hc1, req_intro (by omega) (fun cap2 tot2 c3 c4 => ?_)⟩⟩)⟩
  · simp only [Row.cells, List.length_map]; exact hv1
  have etk : [] ++ List.take (l * 1) (List.drop 0 (vB zs)) = vB zs := by rw [List.nil_append, List.drop_zero, List.take_of_length_le (by simp only [List.length_map, hzl]; omega)]
  rw [etk] at hW
  have hBs : Bs E1 (base.map fun x => x.add 0) (0 + l) cap1 zs := Bs.win hW rfl (by omega) c1 hzb
  have hrs1 : FLr E1 (rs ++ [(s, base.map fun x => x.add 0, 0 + l, cap1)]) (mems s (gE) a zs0 (i + 1)) := by
    rw [mems_succ]; exact (hrs.mono hE1).snoc rfl (by rw [← hzs]; exact hBs)
  have hvs1 : List.take (i * 2) vs ++ [Value.int IntKind.i64 s, slcAs base 0 (0 + l) cap1] = (rs ++ [(s, base.map fun x => x.add 0, 0 + l, cap1)]).flatMap rowV := by
    rw [rows_snoc, hv2]; rfl
  have hrl : rs.length = i := by rw [hrs.1, mems_len]
  have hle1 : Mem.le E0 E1 := Mem.le_trans hle hE1
  refine alike (condC (fun hlt => ?_) (fun hge => ?_))
  · have hlt : i < m := by simpa using hlt
    have hal : a + i < l := by omega
    have hget : zs.getD (a + i) 0 = zs[a + i]'(by omega) := by rw [List.getD_eq_getElem?_getD, List.getElem?_eq_getElem (by omega)]; rfl
    refine req_intro (by rw [eai]; omega) ⟨zs.getD (a + i) 0, ?_, alike ⟨Mem.le_refl _, req_intro (by rw [eai]; omega) ⟨?_, ?_⟩⟩⟩
    · rw [eai]
      show LoadV _ _ _ (0 + ((a + i : Nat) : Int).toNat * 1) _
      rw [show 0 + ((a + i : Nat) : Int).toNat * 1 = a + i by omega]
      exact loadV_byte rfl (by omega)
    · rw [eai]; simp only [List.length_map]; omega
    · have e1 : 0 + Int.toNat (IntKind.wrap IntKind.i64 ((a : Int) + (i : Int))) * 1 = a + i := by rw [eai]; omega
      rw [e1, ei1, layV_set (by omega)]
      refine Lp_re [some 0, some 1, some 2, some 3, some 4, some 5, some 6, some 7, some 8, some 9, some 15] (ih E1 cap2 tot2 _ _ _ hlt ⟨hle1, ⟨l1, l2, l3⟩, hlen, hbyte, by omega, ⟨c3, c4⟩, ⟨?_, ?_⟩, ?_, hrs1⟩) ⟨⟨by simp, by simp, fun j h => (by have e : j = 0 ∨ j = 1 ∨ j = 2 ∨ j = 3 ∨ j = 4 ∨ j = 5 ∨ j = 6 ∨ j = 7 := (by omega); rcases e with rfl | rfl | rfl | rfl | rfl | rfl | rfl | rfl <;> rfl)⟩, rfl, (by repeat' first | exact True.intro | refine And.intro (Or.inl rfl) ?_), (by repeat' first | exact True.intro | exact rfl | exact Or.inl rfl | exact (by decide : 6 < 16) | refine And.intro ?_ ?_), (show List.Nodup [0, 1, 2, 3, 4, 5, 7, 8, 9, 15] from by decide), Mem.le_refl _⟩
      · rw [hvs1, rows_len]; simp [hrl]
      · rw [hvs1, List.take_of_length_le (by rw [rows_len]; simp [hrl])]
      · rw [hzs]; rfl
  · have hge : i = m := by simp at hge; omega
    subst hge
    subst hn
    exact Cn_intro (cn27e (hK E1 _ _ cap2 tot2 hle1 c3 c4 hvs1 hrs1))
theorem lp33e {E0 : Mem} {K : KT} {s : Int} {a : Nat} {b : Option Addr} {l c m : Nat} {rc : Rc} {zs0 : List Int} {n0 : Int} (hn : n0 = ((m + 1 : Nat) : Int))  (hrc : CxOK (FY n0 rc))
    (hK : ∀ (E' : Mem) (rs : List FRow) (vs : List Value) (cap tot : Nat), Mem.le E0 E' → m + 1 ≤ cap → cap * 2 ≤ tot → vs = rs.flatMap rowV → FLr E' rs (mems s (gE) a zs0 (m + 1)) → Ct F1 6 Try.f27 [1, 1, 1] 6 K (sh5e s a b l c m (m + 1) cap tot vs E')) 
    {i cap tot : Nat} {vs : List Value} {zs : List Int} {rs : List FRow} {E : Mem} (hI : I33 E0 E s (gE) a l m zs0 i cap tot vs zs rs) :
    Lp (FY n0 rc) 6 Try.f33 [1, 1, 1, 0] 8 (Q27 K n0) (sh33e s a b l c m rc i cap tot vs zs E) := by
  have key := Lp_ind hrc (n := 6) (fn := Try.f33) (p := [1, 1, 1, 0]) (n0 := 8) (K := Q27 K n0)
    (fun x : {x : Mem × Nat × Nat × Nat × List Value × List Int × List FRow // I33 E0 x.1 s (gE) a l m zs0 x.2.1 x.2.2.1 x.2.2.2.1 x.2.2.2.2.1 x.2.2.2.2.2.1 x.2.2.2.2.2.2} => sh33e s a b l c m rc x.1.2.1 x.1.2.2.1 x.1.2.2.2.1 x.1.2.2.2.2.1 x.1.2.2.2.2.2.1 x.1.1)
    (fun x => m - x.1.2.1) (fun x ih => rnd33e hn x.2 hK fun E' cap tot vs zs rs hlt h' => ih ⟨⟨E', x.1.2.1 + 1, cap, tot, vs, zs, rs⟩, h'⟩ (by show m - (_ + 1) < m - _; omega))
  exact key ⟨⟨E, i, cap, tot, vs, zs, rs⟩, hI⟩
theorem ent33e {K : KT} {s : Int} {a : Nat} {b : Option Addr} {l c m : Nat} {rc : Rc} {zs0 : List Int} {n0 : Int} (hn : n0 = ((m + 1 : Nat) : Int))  (hrc : CxOK (FY n0 rc))
    (hz : Bs E b l c zs0) (hl : 1 ≤ l ∧ l ≤ 16384 ∧ a + m ≤ l)
    (hK : ∀ (E' : Mem) (rs : List FRow) (vs : List Value) (cap tot : Nat), Mem.le E E' → m + 1 ≤ cap → cap * 2 ≤ tot → vs = rs.flatMap rowV → FLr E' rs (mems s (gE) a zs0 (m + 1)) → Ct F1 6 Try.f27 [1, 1, 1] 6 K (sh5e s a b l c m (m + 1) cap tot vs E')) :
    EntB (FY n0 rc) 6 Try.f33 [.raw (.func (.yield rc.l) #[] #[]), .loc 2 0, .loc 4 0, .loc 5 0, .loc 3 0]
    ([⟨24, .lst [I s, L b l c], 2, true⟩, ⟨24, .lst [I s, L b l c], 2, true⟩, ⟨24, .lst [I s, L b l c], 2, true⟩, ⟨3, .lst [I (a : Nat)], 1, true⟩, ⟨3, .lst [I (m : Nat)], 1, true⟩, ⟨50, .lst [.clo 30 [] []], 1, true⟩] ++ [⟨24, .vals (zerosV [.int .i64 0, .slice none 0 0] (Int.toNat n0)), Int.toNat n0 * 2, true⟩, ⟨30, .lst [.slc 6 0 0 (Int.toNat n0)], 1, true⟩]) E (Q27 K n0) := by
  refine same (by kernel_rfl) (?_ : 
      req ((0 : Int) ≤ (↑l : Int) ∧ (↑l : Int) ≤ (↑l : Int))
        (req ((↑l : Int) * (↑1 : Int) ≤ (140737488355328 : Int))
          (∃ (cs : List Value),
            (cs = [] ∨ E (Value.slice b l c) cs) ∧
              l * 1 ≤ List.length cs ∧
                (∀ (x : Value), List.Mem x cs → Value.oneCell' x = true) ∧
                  0 + Int.toNat (↑l : Int) * 1 ≤
                      List.length (zerosV [Value.int IntKind.u8 (0 : Int)] (Int.toNat (↑l : Int))) ∧
                    Lp (FY n0 rc) 6 Try.f33 [1, 1, 1, 0] 8 (Q27 K n0)
                      {
                        fr :=
                          [some
                              (SV.raw
                                (Value.func (Fn.yield rc.l) { toList := [] : Array Value } { toList := [] : Array Value })),
                            some (SV.loc 2 0), some (SV.loc 4 0),
                            some (SV.loc 5 0), some (SV.loc 3 0), none,
                            some (SV.loc 9 0), some (SV.raw (Value.int IntKind.i64 (0 : Int))),
                            some (SV.loc 2 0), some (SV.raw (Value.int IntKind.i64 s)),
                            some (SV.loc 2 1), some (SV.raw (Value.slice b l c)),
                            some (SV.raw (Value.int IntKind.i64 (↑l : Int))),
                            some (SV.slc 8 0 (Int.toNat (↑l : Int)) (Int.toNat (↑l : Int))),
                            some
                              (SV.agg
                                [SV.raw (Value.int IntKind.i64 s),
                                  SV.slc 8 0 (Int.toNat (↑l : Int)) (Int.toNat (↑l : Int))]),
                            some (SV.loc 9 1),
                            some (SV.slc 8 0 (Int.toNat (↑l : Int)) (Int.toNat (↑l : Int))),
                            some (SV.loc 2 1), some (SV.raw (Value.slice b l c)),
                            some (SV.raw (Value.int IntKind.i64 (↑(min l (Int.toNat (↑l : Int))) : Int))), none, none, none,
                            none, none, none, none, none, none, none, none, none, none, none, none, none, none, none, none,
                            none, none, none, none, none, none, none, none, none, none, none, none],
                        bx :=
                          [{ elem := 24,
                              row := Row.lst [SV.raw (Value.int IntKind.i64 s), SV.raw (Value.slice b l c)],
                              total := 2, own := true : Box },
                            { elem := 24,
                              row := Row.lst [SV.raw (Value.int IntKind.i64 s), SV.raw (Value.slice b l c)],
                              total := 2, own := true : Box },
                            { elem := 24,
                              row := Row.lst [SV.raw (Value.int IntKind.i64 s), SV.raw (Value.slice b l c)],
                              total := 2, own := true : Box },
                            { elem := 3, row := Row.lst [SV.raw (Value.int IntKind.i64 (↑a : Int))],
                              total := 1, own := true : Box },
                            { elem := 3, row := Row.lst [SV.raw (Value.int IntKind.i64 (↑m : Int))],
                              total := 1, own := true : Box },
                            { elem := 50, row := Row.lst [SV.clo 30 [] []], total := 1, own := true :
                              Box },
                            { elem := 24,
                              row :=
                                Row.vals
                                  (zerosV [Value.int IntKind.i64 (0 : Int), Value.slice none 0 0]
                                    (Int.toNat n0)),
                              total := Int.toNat n0 * 2, own := true : Box },
                            { elem := 30, row := Row.lst [SV.slc 6 0 0 (Int.toNat n0)],
                              total := 1, own := true : Box },
                            { elem := 5,
                              row :=
                                Row.vals
                                  (layV (zerosV [Value.int IntKind.u8 (0 : Int)] (Int.toNat (↑l : Int))) 0
                                    (List.take (min l (Int.toNat (↑l : Int)) * 1) (List.take (l * 1) cs))),
                              total := Int.toNat (↑l : Int) * 1, own := true : Box },
                            { elem := 24,
                              row :=
                                Row.lst
                                  [SV.raw (Value.int IntKind.i64 s),
                                    SV.slc 8 0 (Int.toNat (↑l : Int)) (Int.toNat (↑l : Int))],
                              total := 2, own := true : Box }],
                        E := E : St })))
  obtain ⟨l1, l2, l3⟩ := hl
  obtain ⟨t1, t2, t3⟩ := hz.src
  have hzl := hz.2.1
  refine req_intro (by omega) (req_intro (by simp; omega) ⟨_, t1, t2, t3, ?_, ?_⟩)
  · simp [zerosV]
  have hn2 : Int.toNat n0 = m + 1 := by omega
  have e1 : layV (zerosV [Value.int IntKind.u8 0] (Int.toNat (l : Int))) 0 (List.take (min l (Int.toNat (l : Int)) * 1) (List.take (l * 1) (zs0.map (Value.int .u8)))) = vB zs0 := by
    rw [Int.toNat_natCast, Nat.min_self, List.take_of_length_le (l := List.take _ _) (by simp only [List.length_take, List.length_map]; omega), List.take_of_length_le (by simp; omega)]
    unfold layV
    rw [List.take_zero, List.nil_append, List.drop_eq_nil_of_le (by simp [zerosV]; omega), List.append_nil]
  rw [e1, Int.toNat_natCast]
  exact Lp_re [some 0, some 1, some 2, some 3, some 4, some 5, some 6, some 7, some 8, some 9, some 6] (lp33e hn hrc hK (i := 0) (cap := Int.toNat n0) (tot := Int.toNat n0 * 2) (vs := zerosV [.int .i64 0, .slice none 0 0] (Int.toNat n0)) (zs := zs0) (rs := []) ⟨Mem.le_refl _, ⟨l1, l2, l3⟩, hzl, hz.2.2.2.1, Nat.zero_le _, ⟨Nat.zero_le _, Nat.le_refl _⟩, ⟨by simp, by simp⟩, rfl, FLr.nil _⟩) ⟨⟨by simp, by simp, fun j h => (by have e : j = 0 ∨ j = 1 ∨ j = 2 ∨ j = 3 ∨ j = 4 ∨ j = 5 ∨ j = 6 ∨ j = 7 := (by omega); rcases e with rfl | rfl | rfl | rfl | rfl | rfl | rfl | rfl <;> rfl)⟩, rfl, (by repeat' first | exact True.intro | refine And.intro (Or.inl rfl) ?_), (by repeat' first | exact True.intro | exact rfl | exact Or.inl rfl | exact (by decide : 6 < 10) | refine And.intro ?_ ?_), (show List.Nodup [0, 1, 2, 3, 4, 5, 7, 8, 9, 6] from by decide), Mem.le_refl _⟩
theorem leaf27e {K : KT} {s : Int} {a : Nat} {b : Option Addr} {l c m : Nat} {zs0 : List Int} {n0 : Int} (hn : n0 = ((m + 1 : Nat) : Int)) 
    (hz : Bs E b l c zs0) (hl : 1 ≤ l ∧ l ≤ 16384 ∧ a + m ≤ l)
    (hK : ∀ (E' : Mem) (rs : List FRow) (vs : List Value) (cap tot : Nat), Mem.le E E' → m + 1 ≤ cap → cap * 2 ≤ tot → vs = rs.flatMap rowV → FLr E' rs (mems s (gE) a zs0 (m + 1)) → Ct F1 6 Try.f27 [1, 1, 1] 6 K (sh5e s a b l c m (m + 1) cap tot vs E')) :
    Ct F1 6 Try.f27 [1, 1, 0, 1, 0] 6 K ⟨fr27 n0, [⟨24, .lst [I s, L b l c], 2, true⟩, ⟨24, .lst [I s, L b l c], 2, true⟩, ⟨24, .lst [I s, L b l c], 2, true⟩, ⟨3, .lst [I (a : Nat)], 1, true⟩, ⟨3, .lst [I (m : Nat)], 1, true⟩, ⟨50, .lst [.clo 30 [] []], 1, true⟩] ++ [⟨24, .vals (zerosV [.int .i64 0, .slice none 0 0] (Int.toNat n0)), Int.toNat n0 * 2, true⟩, ⟨30, .lst [.slc 6 0 0 (Int.toNat n0)], 1, true⟩], E⟩ :=
  RfY okF1 okF2 (by kernel_rfl) (by kernel_rfl) Try.func33 ⟨by kernel_rfl, by kernel_rfl⟩ (gf := 33) (gfn := Try.f33) (first := []) (caps := [.loc 2 0, .loc 4 0, .loc 5 0, .loc 3 0]) (m := 6) (fun rc hrc => ent33e hn hrc hz hl hK) rfl rfl
theorem pc5e {K : KT} {s : Int} {a : Nat} {b : Option Addr} {l c m n cap tot : Nat} {vs : List Value} (h : K (.slc 7 0 n cap) (sh5e s a b l c m n cap tot vs E).bx E) : Pc F1 6 Try.f27 [1, 1, 1] 6 K (sh5e s a b l c m n cap tot vs E) := by
  refine same (by kernel_rfl) (?_ : 
      K (SV.slc 7 0 n cap)
        [{ elem := 24, row := Row.lst [SV.raw (Value.int IntKind.i64 s), SV.raw (Value.slice b l c)],
            total := 2, own := true : Box },
          { elem := 24, row := Row.lst [SV.raw (Value.int IntKind.i64 s), SV.raw (Value.slice b l c)],
            total := 2, own := true : Box },
          { elem := 24, row := Row.lst [SV.raw (Value.int IntKind.i64 s), SV.raw (Value.slice b l c)],
            total := 2, own := true : Box },
          { elem := 3, row := Row.lst [SV.raw (Value.int IntKind.i64 (↑a : Int))], total := 1, own := true :
            Box },
          { elem := 3, row := Row.lst [SV.raw (Value.int IntKind.i64 (↑m : Int))], total := 1, own := true :
            Box },
          { elem := 50, row := Row.lst [SV.clo 30 [] []], total := 1, own := true : Box },
          { elem := 30, row := Row.lst [SV.slc 7 0 n cap], total := 1, own := true : Box },
          { elem := 24, row := Row.vals vs, total := tot, own := true : Box }]
        E)
  exact h
theorem out27e {K : KT} {s : Int} {a : Nat} {b : Option Addr} {l c m n cap tot : Nat} {rs : List FRow} {ms : List (Int × List Int)} (hr : FLr E rs ms) (hn : ms.length = n) (hc : n ≤ cap)
    (h : ∀ (fb : Option Addr) (E' : Mem), Mem.le E E' → FL E' fb n cap ms → K (L fb n cap) ([⟨24, .lst [I s, L b l c], 2, true⟩, ⟨24, .lst [I s, L b l c], 2, true⟩, ⟨24, .lst [I s, L b l c], 2, true⟩, ⟨3, .lst [I (a : Nat)], 1, true⟩, ⟨3, .lst [I (m : Nat)], 1, true⟩, ⟨50, .lst [.clo 30 [] []], 1, true⟩]) E') : pubB (cloK 6 K) (.slc 7 0 n cap) (sh5e s a b l c m n cap tot (rs.flatMap rowV) E).bx E := by
  refine same (q := ∀ (base : Option Addr) (E2 : Mem), Mem.le E E2 → WinE E2 base (rs.flatMap rowV) → cloK 6 K (.raw (slcAs base 0 n cap)) ([⟨24, .lst [I s, L b l c], 2, true⟩, ⟨24, .lst [I s, L b l c], 2, true⟩, ⟨24, .lst [I s, L b l c], 2, true⟩, ⟨3, .lst [I (a : Nat)], 1, true⟩, ⟨3, .lst [I (m : Nat)], 1, true⟩, ⟨50, .lst [.clo 30 [] []], 1, true⟩] ++ [⟨30, .lst [.raw (slcAs base 0 n cap)], 1, true⟩, ⟨24, .vals (rs.flatMap rowV), tot, false⟩]) E2) (by kernel_rfl) ?_
  intro base E2 h1 h2
  exact cloK_intro [some 0, some 1, some 2, some 3, some 4, some 5] (h _ E2 h1 (FL.win h2 rfl (hr.mono h1) hn hc)) ⟨⟨by simp, by simp, fun j h => (by have e : j = 0 ∨ j = 1 ∨ j = 2 ∨ j = 3 ∨ j = 4 ∨ j = 5 := (by omega); rcases e with rfl | rfl | rfl | rfl | rfl | rfl <;> rfl)⟩, rfl, (by repeat' first | exact True.intro | refine And.intro (Or.inl rfl) ?_), (by repeat' first | exact True.intro | exact rfl | exact Or.inl rfl | fail | refine And.intro ?_ ?_), (show List.Nodup [0, 1, 2, 3, 4, 5] from by decide), Mem.le_refl _⟩
theorem s27e {K : KT} {s : Int} {a : Nat} {b : Option Addr} {l c m : Nat} {zs0 : List Int} {n0 : Int} (hn : n0 = ((m + 1 : Nat) : Int)) 
    (hz : Bs E b l c zs0) (hl : 1 ≤ l ∧ l ≤ 16384 ∧ a + m ≤ l)
    (h : ∀ (fb : Option Addr) (cap : Nat) (E' : Mem), Mem.le E E' → FL E' fb (m + 1) cap (mems s (gE) a zs0 (m + 1)) → K (L fb (m + 1) cap) ([⟨24, .lst [I s, L b l c], 2, true⟩, ⟨24, .lst [I s, L b l c], 2, true⟩, ⟨24, .lst [I s, L b l c], 2, true⟩, ⟨3, .lst [I (a : Nat)], 1, true⟩, ⟨3, .lst [I (m : Nat)], 1, true⟩, ⟨50, .lst [.clo 30 [] []], 1, true⟩]) E') :
    EntB F1 6 Try.f27 [.clo 33 [] [.loc 2 0, .loc 4 0, .loc 5 0, .loc 3 0], I n0] ([⟨24, .lst [I s, L b l c], 2, true⟩, ⟨24, .lst [I s, L b l c], 2, true⟩, ⟨24, .lst [I s, L b l c], 2, true⟩, ⟨3, .lst [I (a : Nat)], 1, true⟩, ⟨3, .lst [I (m : Nat)], 1, true⟩, ⟨50, .lst [.clo 30 [] []], 1, true⟩]) E (pubB (cloK 6 K)) := by
  refine same (by kernel_rfl) (?_ : 
      req ((0 : Int) ≤ (0 : Int) ∧ (0 : Int) ≤ n0)
        (req (n0 * (32 : Int) ≤ (140737488355328 : Int))
          (Ct F1 6 Try.f27 [1, 1, 0, 1, 0] 6 (pubB (cloK 6 K))
            {
              fr :=
                [some
                    (SV.clo 33 []
                      [SV.loc 2 0, SV.loc 4 0, SV.loc 5 0,
                        SV.loc 3 0]),
                  some (SV.raw (Value.int IntKind.i64 n0)), none, none, some (SV.raw (Value.slice none 0 0)),
                  some (SV.loc 7 0), none, some (SV.raw (Value.int IntKind.i64 n0)),
                  some (SV.slc 6 0 0 (Int.toNat n0)),
                  some
                    (SV.clo 33 []
                      [SV.loc 2 0, SV.loc 4 0, SV.loc 5 0,
                        SV.loc 3 0]),
                  none, none, none, none, none, none],
              bx :=
                [{ elem := 24, row := Row.lst [SV.raw (Value.int IntKind.i64 s), SV.raw (Value.slice b l c)],
                    total := 2, own := true : Box },
                  { elem := 24, row := Row.lst [SV.raw (Value.int IntKind.i64 s), SV.raw (Value.slice b l c)],
                    total := 2, own := true : Box },
                  { elem := 24, row := Row.lst [SV.raw (Value.int IntKind.i64 s), SV.raw (Value.slice b l c)],
                    total := 2, own := true : Box },
                  { elem := 3, row := Row.lst [SV.raw (Value.int IntKind.i64 (↑a : Int))], total := 1,
                    own := true : Box },
                  { elem := 3, row := Row.lst [SV.raw (Value.int IntKind.i64 (↑m : Int))], total := 1,
                    own := true : Box },
                  { elem := 50, row := Row.lst [SV.clo 30 [] []], total := 1, own := true : Box },
                  { elem := 24,
                    row :=
                      Row.vals
                        (zerosV [Value.int IntKind.i64 (0 : Int), Value.slice none 0 0] (Int.toNat n0)),
                    total := Int.toNat n0 * 2, own := true : Box },
                  { elem := 30, row := Row.lst [SV.slc 6 0 0 (Int.toNat n0)],
                    total := 1, own := true : Box }],
              E := E : St })))
  refine req_intro (by omega) (req_intro (by omega) (leaf27e hn hz hl fun E' rs vs cap tot h1 h2 h3 h4 h5 => ?_))
  subst h4
  exact Ct_intro okF1 (pc5e (out27e h5 (by simp [mems_len]) h2 fun fb E2 g1 g2 => h fb cap E2 (Mem.le_trans h1 g1) g2))
theorem sem27e {K : KT} {s : Int} {a : Nat} {b : Option Addr} {l c m : Nat} {zs0 : List Int} {n0 : Int} (hn : n0 = ((m + 1 : Nat) : Int)) 
    (hz : Bs E b l c zs0) (hl : 1 ≤ l ∧ l ≤ 16384 ∧ a + m ≤ l)
    (h : ∀ (fb : Option Addr) (cap : Nat) (E' : Mem), Mem.le E E' → FL E' fb (m + 1) cap (mems s (gE) a zs0 (m + 1)) → K (L fb (m + 1) cap) ([⟨24, .lst [I s, L b l c], 2, true⟩, ⟨24, .lst [I s, L b l c], 2, true⟩, ⟨24, .lst [I s, L b l c], 2, true⟩, ⟨3, .lst [I (a : Nat)], 1, true⟩, ⟨3, .lst [I (m : Nat)], 1, true⟩, ⟨50, .lst [.clo 30 [] []], 1, true⟩]) E') :
    CallSem Try.prog 27 [.clo 33 [] [.loc 2 0, .loc 4 0, .loc 5 0, .loc 3 0], I n0] ([⟨24, .lst [I s, L b l c], 2, true⟩, ⟨24, .lst [I s, L b l c], 2, true⟩, ⟨24, .lst [I s, L b l c], 2, true⟩, ⟨3, .lst [I (a : Nat)], 1, true⟩, ⟨3, .lst [I (m : Nat)], 1, true⟩, ⟨50, .lst [.clo 30 [] []], 1, true⟩]) E K :=
  (EntB.sem okF1 Try.func27 ⟨by kernel_rfl, by kernel_rfl⟩ (s27e hn hz hl h)).pubB.clo

end Go.Proofs.Ythgdbpnddnbbdaa.FlashOwn
