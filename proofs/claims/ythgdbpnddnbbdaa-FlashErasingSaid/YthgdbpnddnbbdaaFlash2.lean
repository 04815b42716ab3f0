/- The flash package: what its functions answer. -/
import Derived.Test.YthgdbpnddnbbdaaFlash1
namespace Go.Proofs.Ythgdbpnddnbbdaa.FlashOwn
open Go Go.Sx
set_option maxRecDepth 100000
set_option maxHeartbeats 4000000
set_option linter.unusedVariables false
set_option linter.unusedSimpArgs false
variable {E : Mem} {K : SV → Mem → Prop}

def sh33 (s : Int) (a : Nat) (b db : Option Addr) (l c dl dc m : Nat) (rc : Rc) (i cap tot : Nat) (vs : List Value) (zs : List Int) (E : Mem) : St := ⟨[some (.raw (.func (.yield rc.l) #[] #[])), some (.loc 2 0), some (.loc 4 0), some (.loc 5 0), some (.loc 3 0), none, some (.loc 9 0), some (I (i : Nat))] ++ List.replicate 43 none,
  [⟨24, .lst [I s, L b l c], 2, true⟩, ⟨22, .lst [L db dl dc], 1, true⟩, ⟨24, .lst [I s, L b l c], 2, true⟩, ⟨3, .lst [I (a : Nat)], 1, true⟩, ⟨3, .lst [I (m : Nat)], 1, true⟩, ⟨50, .lst [.clo 26 [] [.loc 1 0]], 1, true⟩] ++ [⟨24, .lst [], 0, false⟩, ⟨30, .lst [.slc 10 0 i cap], 1, true⟩, ⟨5, .vals (vB zs), l * 1, true⟩, ⟨24, .lst [I s, .slc 8 0 l l], 2, true⟩, ⟨24, .vals vs, tot, true⟩], E⟩
def sh5 (s : Int) (a : Nat) (b db : Option Addr) (l c dl dc m : Nat) (n cap tot : Nat) (vs : List Value) (E : Mem) : St := ⟨[some (.clo 33 [] [.loc 2 0, .loc 4 0, .loc 5 0, .loc 3 0]), none, none, none, none, some (.loc 6 0)] ++ List.replicate 10 none,
  [⟨24, .lst [I s, L b l c], 2, true⟩, ⟨22, .lst [L db dl dc], 1, true⟩, ⟨24, .lst [I s, L b l c], 2, true⟩, ⟨3, .lst [I (a : Nat)], 1, true⟩, ⟨3, .lst [I (m : Nat)], 1, true⟩, ⟨50, .lst [.clo 26 [] [.loc 1 0]], 1, true⟩] ++ [⟨30, .lst [.slc 7 0 n cap], 1, true⟩, ⟨24, .vals vs, tot, true⟩], E⟩
structure I33 (E0 E : Mem) (s : Int) (g : Nat → Int → Int) (a l m : Nat) (zs0 : List Int) (i cap tot : Nat) (vs : List Value) (zs : List Int) (rs : List FRow) : Prop where
  le : Mem.le E0 E
  lm : 1 ≤ l ∧ l ≤ 16384 ∧ a + m ≤ l
  len : zs0.length = l
  byte : ∀ z ∈ zs0, 0 ≤ z ∧ z ≤ 255
  im : i ≤ m
  cap : i ≤ cap ∧ cap * 2 ≤ tot
  vs : i * 2 ≤ vs.length ∧ List.take (i * 2) vs = rs.flatMap rowV
  zs : zs = stp g a zs0 i
  rs : FLr E rs (mems s g a zs0 i)
def gP (ds : List Int) : Nat → Int → Int := fun i x => band8 x (ds.getD i 0)

theorem cn27 {K : KT} {s : Int} {a : Nat} {b db : Option Addr} {l c dl dc m k cap tot : Nat} {n0 : Int} {vs x8 x12 : List Value} {t8 t12 : Nat} {b3 b4 : Option Addr} {l3 c3 l4 c4 : Nat}
    (h : Ct F1 6 Try.f27 [1, 1, 1] 6 K (sh5 s a b db l c dl dc m k cap tot vs E)) :
    Pn F1 6 Try.f27 [1, 1, 0, 1, 0] 6 K ⟨fr27 n0, [⟨24, .lst [I s, L b l c], 2, true⟩, ⟨22, .lst [L db dl dc], 1, true⟩, ⟨24, .lst [I s, L b l c], 2, true⟩, ⟨3, .lst [I (a : Nat)], 1, true⟩, ⟨3, .lst [I (m : Nat)], 1, true⟩, ⟨50, .lst [.clo 26 [] [.loc 1 0]], 1, true⟩] ++ [⟨24, .lst [], 0, false⟩, ⟨30, .lst [.slc 15 0 k cap], 1, true⟩, ⟨5, .vals x8, t8, true⟩, ⟨24, .lst [I s, .slc 8 0 l l], 2, true⟩, ⟨24, .lst [], 0, false⟩, ⟨5, .lst [], 0, false⟩, ⟨5, .vals x12, t12, false⟩, ⟨24, .lst [I s, L b3 l3 c3], 2, true⟩, ⟨24, .lst [I s, L b4 l4 c4], 2, true⟩, ⟨24, .vals vs, tot, true⟩], E⟩ := by
  refine same (by kernel_rfl) (?_ : 
      Ct F1 6 Try.f27 [1, 1, 1] 6 K
        {
          fr :=
            [some
                (SV.clo 33 []
                  [SV.loc 2 0, SV.loc 4 0, SV.loc 5 0,
                    SV.loc 3 0]),
              some (SV.raw (Value.int IntKind.i64 n0)), none, none, some (SV.raw (Value.slice none 0 0)),
              some (SV.loc 7 0), none, some (SV.raw (Value.int IntKind.i64 n0)),
              some (SV.slc 6 0 0 (Int.toNat n0)),
              some
                (SV.clo 33 []
                  [SV.loc 2 0, SV.loc 4 0, SV.loc 5 0,
                    SV.loc 3 0]),
              none, none, none, none, none, none],
          bx :=
            [{ elem := 24, row := Row.lst [SV.raw (Value.int IntKind.i64 s), SV.raw (Value.slice b l c)],
                total := 2, own := true : Box },
              { elem := 22, row := Row.lst [SV.raw (Value.slice db dl dc)], total := 1, own := true : Box },
              { elem := 24, row := Row.lst [SV.raw (Value.int IntKind.i64 s), SV.raw (Value.slice b l c)],
                total := 2, own := true : Box },
              { elem := 3, row := Row.lst [SV.raw (Value.int IntKind.i64 (↑a : Int))], total := 1,
                own := true : Box },
              { elem := 3, row := Row.lst [SV.raw (Value.int IntKind.i64 (↑m : Int))], total := 1,
                own := true : Box },
              { elem := 50, row := Row.lst [SV.clo 26 [] [SV.loc 1 0]], total := 1,
                own := true : Box },
              { elem := 24, row := Row.lst [], total := 0, own := false : Box },
              { elem := 30, row := Row.lst [SV.slc 15 0 k cap], total := 1, own := true :
                Box },
              { elem := 5, row := Row.vals x8, total := t8, own := true : Box },
              { elem := 24, row := Row.lst [SV.raw (Value.int IntKind.i64 s), SV.slc 8 0 l l],
                total := 2, own := true : Box },
              { elem := 24, row := Row.lst [], total := 0, own := false : Box },
              { elem := 5, row := Row.lst [], total := 0, own := false : Box },
              { elem := 5, row := Row.vals x12, total := t12, own := false : Box },
              { elem := 24, row := Row.lst [SV.raw (Value.int IntKind.i64 s), SV.raw (Value.slice b3 l3 c3)],
                total := 2, own := true : Box },
              { elem := 24, row := Row.lst [SV.raw (Value.int IntKind.i64 s), SV.raw (Value.slice b4 l4 c4)],
                total := 2, own := true : Box },
              { elem := 24, row := Row.vals vs, total := tot, own := true : Box }],
          E := E : St })
  exact Ct_re [some 0, some 1, some 2, some 3, some 4, some 5, some 7, some 15] h ⟨⟨by simp, by simp, fun j h => (by have e : j = 0 ∨ j = 1 ∨ j = 2 ∨ j = 3 ∨ j = 4 ∨ j = 5 := (by omega); rcases e with rfl | rfl | rfl | rfl | rfl | rfl <;> rfl)⟩, rfl, (by repeat' first | exact True.intro | refine And.intro (Or.inl rfl) ?_), (by repeat' first | exact True.intro | exact rfl | exact Or.inl rfl | fail | refine And.intro ?_ ?_), (show List.Nodup [0, 1, 2, 3, 4, 5, 7, 15] from by decide), Mem.le_refl _⟩

theorem rnd33 {E0 : Mem} {K : KT} {s : Int} {a : Nat} {b db : Option Addr} {l c dl dc m : Nat} {rc : Rc} {i cap tot : Nat} {vs : List Value} {zs zs0 ds : List Int} {rs : List FRow} {n0 : Int} (hn : n0 = ((m + 1 : Nat) : Int))
    (hI : I33 E0 E s (gP ds) a l m zs0 i cap tot vs zs rs) (hd : Bs E0 db dl dc ds) (hdl : m = dl)
    (hK : ∀ (E' : Mem) (rs : List FRow) (vs : List Value) (cap tot : Nat), Mem.le E0 E' → m + 1 ≤ cap → cap * 2 ≤ tot → vs = rs.flatMap rowV → FLr E' rs (mems s (gP ds) a zs0 (m + 1)) → Ct F1 6 Try.f27 [1, 1, 1] 6 K (sh5 s a b db l c dl dc m (m + 1) cap tot vs E'))
    (ih : ∀ (E' : Mem) (cap tot : Nat) (vs : List Value) (zs : List Int) (rs : List FRow), i < m → I33 E0 E' s (gP ds) a l m zs0 (i + 1) cap tot vs zs rs →
      Lp (FY n0 rc) 6 Try.f33 [1, 1, 1, 0] 8 (fun _ bx E => Cn F1 6 Try.f27 [1, 1, 0, 1, 0] 6 K { fr := fr27 n0, bx := bx, E := E }) (sh33 s a b db l c dl dc m rc (i + 1) cap tot vs zs E')) :
    Rnd (FY n0 rc) 6 Try.f33 [1, 1, 1, 0] 8 (fun _ bx E => Cn F1 6 Try.f27 [1, 1, 0, 1, 0] 6 K { fr := fr27 n0, bx := bx, E := E }) (sh33 s a b db l c dl dc m rc i cap tot vs zs E) := by
  refine same (by kernel_rfl) (?_ : 
      Sx.Alike (AlikeT.n AlikeT.l AlikeT.l)
        (∀ (r : Bool),
          (r = true → Sx.Alike (AlikeT.n AlikeT.l AlikeT.l) (l = 0)) →
            bif r then
              rc.l = rc.l ∧
                i * 2 ≤ List.length (Row.cells (Row.vals vs)) ∧
                  cap * 2 ≤ tot ∧
                    i ≤ cap ∧
                      req ((i + 1) * 32 ≤ 140737488355328)
                        (∀ (cap' tot' : Nat),
                          i + 1 ≤ cap' →
                            cap' * 2 ≤ tot' →
                              Sx.Alike (AlikeT.n AlikeT.l AlikeT.l)
                                (bif bif true then decide ((↑i : Int) < (↑m : Int)) else false then
                                  req
                                    ((0 : Int) ≤ IntKind.wrap IntKind.i64 ((↑a : Int) + (↑i : Int)) ∧
                                      IntKind.wrap IntKind.i64 ((↑a : Int) + (↑i : Int)) < (↑l : Int))
                                    (∃ (n : Int),
                                      LoadV (FY n0 rc).P 5 (vB zs)
                                          (0 +
                                            Int.toNat (IntKind.wrap IntKind.i64 ((↑a : Int) + (↑i : Int))) * 1)
                                          (SV.raw (Value.int IntKind.u8 n)) ∧
                                        Sx.Alike
                                          (AlikeT.n (AlikeT.n AlikeT.l AlikeT.l)
                                            (AlikeT.n (AlikeT.n AlikeT.l AlikeT.l) AlikeT.l))
                                          (req ((0 : Int) ≤ (↑i : Int) ∧ (↑i : Int) < (↑dl : Int))
                                            ((∃ (cs : List Value), E (Value.slice db dl dc) cs ∧ (cs = [] → False)) ∧
                                              ∃ (n_1 : Int),
                                                LoadE (FY n0 rc).P E 5 (Value.slice db dl dc)
                                                    (Int.toNat (↑i : Int) * 1) (SV.raw (Value.int IntKind.u8 n_1)) ∧
                                                  req
                                                    ((0 : Int) ≤ IntKind.wrap IntKind.i64 ((↑a : Int) + (↑i : Int)) ∧
                                                      IntKind.wrap IntKind.i64 ((↑a : Int) + (↑i : Int)) < (↑l : Int))
                                                    (0 +
                                                            Int.toNat (IntKind.wrap IntKind.i64 ((↑a : Int) + (↑i : Int))) *
                                                              1 +
                                                          1 ≤
                                                        List.length (vB zs) ∧
                                                      Lp (FY n0 rc) 6 Try.f33
                                                        [1, 1, 1, 0] 8
                                                        (fun (x : SV) (bx : List Box) (E : Mem) =>
                                                          Cn F1 6 Try.f27
                                                            [1, 1, 0, 1, 0] 6
                                                            K { fr := fr27 n0, bx := bx, E := E : St })
                                                        {
                                                          fr :=
                                                            [some
                                                                (SV.raw
                                                                  (Value.func (Fn.yield rc.l) { toList := [] : Array Value }
                                                                    { toList := [] : Array Value })),
                                                              some (SV.loc 2 0),
                                                              some (SV.loc 4 0),
                                                              some (SV.loc 5 0),
                                                              some (SV.loc 3 0), none,
                                                              some (SV.loc 9 0),
                                                              some
                                                                (SV.raw
                                                                  (Value.int IntKind.i64
                                                                    (IntKind.wrap IntKind.i64 ((↑i : Int) + (1 : Int))))),
                                                              none, none, none, none, none, none, none, none, none, none,
                                                              none, none, none, none, none, none, none, none, none, none,
                                                              none, none, none, none, none, none, none, none, none, none,
                                                              none, none, none, none, none, none, none, none, none, none,
                                                              none, none, none],
                                                          bx :=
                                                            [{ elem := 24,
                                                                row :=
                                                                  Row.lst
                                                                    [SV.raw (Value.int IntKind.i64 s),
                                                                      SV.raw (Value.slice b l c)],
                                                                total := 2, own := true : Box },
                                                              { elem := 22,
                                                                row := Row.lst [SV.raw (Value.slice db dl dc)],
                                                                total := 1, own := true : Box },
                                                              { elem := 24,
                                                                row :=
                                                                  Row.lst
                                                                    [SV.raw (Value.int IntKind.i64 s),
                                                                      SV.raw (Value.slice b l c)],
                                                                total := 2, own := true : Box },
                                                              { elem := 3,
                                                                row := Row.lst [SV.raw (Value.int IntKind.i64 (↑a : Int))],
                                                                total := 1, own := true : Box },
                                                              { elem := 3,
                                                                row := Row.lst [SV.raw (Value.int IntKind.i64 (↑m : Int))],
                                                                total := 1, own := true : Box },
                                                              { elem := 50,
                                                                row :=
                                                                  Row.lst [SV.clo 26 [] [SV.loc 1 0]],
                                                                total := 1, own := true : Box },
                                                              { elem := 24, row := Row.lst [], total := 0,
                                                                own := false : Box },
                                                              { elem := 30,
                                                                row :=
                                                                  Row.lst [SV.slc 13 0 (i + 1) cap'],
                                                                total := 1, own := true : Box },
                                                              { elem := 5,
                                                                row :=
                                                                  Row.vals
                                                                    (layV (vB zs)
                                                                      (0 +
                                                                        Int.toNat
                                                                            (IntKind.wrap IntKind.i64
                                                                              ((↑a : Int) + (↑i : Int))) *
                                                                          1)
                                                                      [Value.int IntKind.u8
                                                                          (IntKind.wrap IntKind.u8
                                                                            (↑(BitVec.toNat
                                                                                  (BitVec.ofInt (IntKind.bits IntKind.u8)
                                                                                      n &&&
                                                                                    BitVec.ofInt (IntKind.bits IntKind.u8)
                                                                                      n_1)) :
                                                                              Int))]),
                                                                total := l * 1, own := true : Box },
                                                              { elem := 24,
                                                                row :=
                                                                  Row.lst
                                                                    [SV.raw (Value.int IntKind.i64 s),
                                                                      SV.slc 8 0 l l],
                                                                total := 2, own := true : Box },
                                                              { elem := 24, row := Row.lst [], total := 0,
                                                                own := false : Box },
                                                              { elem := 24,
                                                                row :=
                                                                  Row.lst
                                                                    [SV.raw (Value.int IntKind.i64 s),
                                                                      SV.raw (Value.slice none 0 0)],
                                                                total := 2, own := true : Box },
                                                              { elem := 24,
                                                                row :=
                                                                  Row.lst
                                                                    [SV.raw (Value.int IntKind.i64 s),
                                                                      SV.raw (Value.slice none 0 0)],
                                                                total := 2, own := true : Box },
                                                              { elem := 24,
                                                                row :=
                                                                  Row.vals
                                                                    (List.take (i * 2) vs ++
                                                                      [Value.int IntKind.i64 s,
                                                                        Value.slice none 0 0]),
                                                                total := tot', own := true : Box }],
                                                          E := E : St }))))
                                else
                                  Cn F1 6 Try.f27 [1, 1, 0, 1, 0] 6 K
                                    {
                                      fr :=
                                        [some
                                            (SV.clo 33 []
                                              [SV.loc 2 0, SV.loc 4 0,
                                                SV.loc 5 0, SV.loc 3 0]),
                                          some (SV.raw (Value.int IntKind.i64 n0)), none, none,
                                          some (SV.raw (Value.slice none 0 0)),
                                          some (SV.loc 7 0), none, some (SV.raw (Value.int IntKind.i64 n0)),
                                          some (SV.slc 6 0 0 (Int.toNat n0)),
                                          some
                                            (SV.clo 33 []
                                              [SV.loc 2 0, SV.loc 4 0,
                                                SV.loc 5 0, SV.loc 3 0]),
                                          none, none, none, none, none, none],
                                      bx :=
                                        [{ elem := 24,
                                            row := Row.lst [SV.raw (Value.int IntKind.i64 s), SV.raw (Value.slice b l c)],
                                            total := 2, own := true : Box },
                                          { elem := 22, row := Row.lst [SV.raw (Value.slice db dl dc)],
                                            total := 1, own := true : Box },
                                          { elem := 24,
                                            row := Row.lst [SV.raw (Value.int IntKind.i64 s), SV.raw (Value.slice b l c)],
                                            total := 2, own := true : Box },
                                          { elem := 3, row := Row.lst [SV.raw (Value.int IntKind.i64 (↑a : Int))],
                                            total := 1, own := true : Box },
                                          { elem := 3, row := Row.lst [SV.raw (Value.int IntKind.i64 (↑m : Int))],
                                            total := 1, own := true : Box },
                                          { elem := 50,
                                            row := Row.lst [SV.clo 26 [] [SV.loc 1 0]],
                                            total := 1, own := true : Box },
                                          { elem := 24, row := Row.lst [], total := 0, own := false : Box },
                                          { elem := 30,
                                            row := Row.lst [SV.slc 13 0 (i + 1) cap'],
                                            total := 1, own := true : Box },
                                          { elem := 5, row := Row.vals (vB zs), total := l * 1, own := true :
                                            Box },
                                          { elem := 24,
                                            row := Row.lst [SV.raw (Value.int IntKind.i64 s), SV.slc 8 0 l l],
                                            total := 2, own := true : Box },
                                          { elem := 24, row := Row.lst [], total := 0, own := false : Box },
                                          { elem := 24,
                                            row :=
                                              Row.lst
                                                [SV.raw (Value.int IntKind.i64 s),
                                                  SV.raw (Value.slice none 0 0)],
                                            total := 2, own := true : Box },
                                          { elem := 24,
                                            row :=
                                              Row.lst
                                                [SV.raw (Value.int IntKind.i64 s),
                                                  SV.raw (Value.slice none 0 0)],
                                            total := 2, own := true : Box },
                                          { elem := 24,
                                            row :=
                                              Row.vals
                                                (List.take (i * 2) vs ++
                                                  [Value.int IntKind.i64 s, Value.slice none 0 0]),
                                            total := tot', own := true : Box }],
                                      E := E : St }))
            else
              0 + l * 1 ≤ List.length (vB zs) ∧
                (∀ (x : Value), List.Mem x (vB zs) → Value.oneCell' x = true) ∧
                  0 ≤ 0 ∧
                    0 ≤ 0 ∧
                      0 ≤ 0 ∧
                        req ((0 + l) * 1 ≤ 140737488355328)
                          (∀ (cap' tot' : Nat),
                            0 + l ≤ cap' →
                              cap' * 1 ≤ tot' →
                                rc.l = rc.l ∧
                                  ∀ (base : Option Addr) (E' : Mem),
                                    Mem.le E E' →
                                      WinE E' base ([] ++ List.take (l * 1) (List.drop 0 (vB zs))) →
                                        i * 2 ≤ List.length (Row.cells (Row.vals vs)) ∧
                                          cap * 2 ≤ tot ∧
                                            i ≤ cap ∧
                                              req ((i + 1) * 32 ≤ 140737488355328)
                                                (∀ (cap'_1 tot'_1 : Nat),
                                                  i + 1 ≤ cap'_1 →
                                                    cap'_1 * 2 ≤ tot'_1 →
                                                      Sx.Alike (AlikeT.n AlikeT.l AlikeT.l)
                                                        (bif bif true then decide ((↑i : Int) < (↑m : Int)) else false then
                                                          req
                                                            ((0 : Int) ≤ IntKind.wrap IntKind.i64 ((↑a : Int) + (↑i : Int)) ∧
                                                              IntKind.wrap IntKind.i64 ((↑a : Int) + (↑i : Int)) < (↑l : Int))
                                                            (∃ (n : Int),
                                                              LoadV (FY n0 rc).P 5 (vB zs)
                                                                  (0 +
                                                                    Int.toNat
                                                                        (IntKind.wrap IntKind.i64 ((↑a : Int) + (↑i : Int))) *
                                                                      1)
                                                                  (SV.raw (Value.int IntKind.u8 n)) ∧
                                                                Sx.Alike
                                                                  (AlikeT.n (AlikeT.n AlikeT.l AlikeT.l)
                                                                    (AlikeT.n (AlikeT.n AlikeT.l AlikeT.l) AlikeT.l))
                                                                  (req ((0 : Int) ≤ (↑i : Int) ∧ (↑i : Int) < (↑dl : Int))
                                                                    ((∃ (cs : List Value),
                                                                        E' (Value.slice db dl dc) cs ∧ (cs = [] → False)) ∧
                                                                      ∃ (n_1 : Int),
                                                                        LoadE (FY n0 rc).P E' 5 (Value.slice db dl dc)
                                                                            (Int.toNat (↑i : Int) * 1)
                                                                            (SV.raw (Value.int IntKind.u8 n_1)) ∧
                                                                          req
                                                                            ((0 : Int) ≤
                                                                                IntKind.wrap IntKind.i64
                                                                                  ((↑a : Int) + (↑i : Int)) ∧
                                                                              IntKind.wrap IntKind.i64
                                                                                  ((↑a : Int) + (↑i : Int)) <
                                                                                (↑l : Int))
                                                                            (0 +
                                                                                    Int.toNat
                                                                                        (IntKind.wrap IntKind.i64
                                                                                          ((↑a : Int) + (↑i : Int))) *
                                                                                      1 +
                                                                                  1 ≤
                                                                                List.length (vB zs) ∧
                                                                              Lp (FY n0 rc) 6 Try.f33
                                                                                [1, 1, 1, 0]
                                                                                8
                                                                                (fun (x : SV) (bx : List Box) (E : Mem) =>
                                                                                  Cn F1 6 Try.f27
                                                                                    [1, 1, 0,
                                                                                      1, 0]
                                                                                    6 K
                                                                                    { fr := fr27 n0, bx := bx, E := E : St })
                                                                                {
                                                                                  fr :=
                                                                                    [some
                                                                                        (SV.raw
                                                                                          (Value.func (Fn.yield rc.l)
                                                                                            { toList := [] : Array Value }
                                                                                            { toList := [] : Array Value })),
                                                                                      some (SV.loc 2 0),
                                                                                      some (SV.loc 4 0),
                                                                                      some (SV.loc 5 0),
                                                                                      some (SV.loc 3 0), none,
                                                                                      some (SV.loc 9 0),
                                                                                      some
                                                                                        (SV.raw
                                                                                          (Value.int IntKind.i64
                                                                                            (IntKind.wrap IntKind.i64
                                                                                              ((↑i : Int) + (1 : Int))))),
                                                                                      none, none, none, none, none, none,
                                                                                      none, none, none, none, none, none,
                                                                                      none, none, none, none, none, none,
                                                                                      none, none, none, none, none, none,
                                                                                      none, none, none, none, none, none,
                                                                                      none, none, none, none, none, none,
                                                                                      none, none, none, none, none, none,
                                                                                      none],
                                                                                  bx :=
                                                                                    [{ elem := 24,
                                                                                        row :=
                                                                                          Row.lst
                                                                                            [SV.raw (Value.int IntKind.i64 s),
                                                                                              SV.raw (Value.slice b l c)],
                                                                                        total := 2, own := true :
                                                                                        Box },
                                                                                      { elem := 22,
                                                                                        row :=
                                                                                          Row.lst
                                                                                            [SV.raw (Value.slice db dl dc)],
                                                                                        total := 1, own := true :
                                                                                        Box },
                                                                                      { elem := 24,
                                                                                        row :=
                                                                                          Row.lst
                                                                                            [SV.raw (Value.int IntKind.i64 s),
                                                                                              SV.raw (Value.slice b l c)],
                                                                                        total := 2, own := true :
                                                                                        Box },
                                                                                      { elem := 3,
                                                                                        row :=
                                                                                          Row.lst
                                                                                            [SV.raw
                                                                                                (Value.int IntKind.i64
                                                                                                  (↑a : Int))],
                                                                                        total := 1, own := true :
                                                                                        Box },
                                                                                      { elem := 3,
                                                                                        row :=
                                                                                          Row.lst
                                                                                            [SV.raw
                                                                                                (Value.int IntKind.i64
                                                                                                  (↑m : Int))],
                                                                                        total := 1, own := true :
                                                                                        Box },
                                                                                      { elem := 50,
                                                                                        row :=
                                                                                          Row.lst
                                                                                            [SV.clo 26 []
                                                                                                [SV.loc 1 0]],
                                                                                        total := 1, own := true :
                                                                                        Box },
                                                                                      { elem := 24, row := Row.lst [],
                                                                                        total := 0, own := false :
                                                                                        Box },
                                                                                      { elem := 30,
                                                                                        row :=
                                                                                          Row.lst
                                                                                            [SV.slc 15 0
                                                                                                (i + 1) cap'_1],
                                                                                        total := 1, own := true :
                                                                                        Box },
                                                                                      { elem := 5,
                                                                                        row :=
                                                                                          Row.vals
                                                                                            (layV (vB zs)
                                                                                              (0 +
                                                                                                Int.toNat
                                                                                                    (IntKind.wrap IntKind.i64
                                                                                                      ((↑a : Int) +
                                                                                                        (↑i : Int))) *
                                                                                                  1)
                                                                                              [Value.int IntKind.u8
                                                                                                  (IntKind.wrap IntKind.u8
                                                                                                    (↑(BitVec.toNat
                                                                                                          (BitVec.ofInt
                                                                                                              (IntKind.bits
                                                                                                                IntKind.u8)
                                                                                                              n &&&
                                                                                                            BitVec.ofInt
                                                                                                              (IntKind.bits
                                                                                                                IntKind.u8)
                                                                                                              n_1)) :
                                                                                                      Int))]),
                                                                                        total := l * 1, own := true :
                                                                                        Box },
                                                                                      { elem := 24,
                                                                                        row :=
                                                                                          Row.lst
                                                                                            [SV.raw (Value.int IntKind.i64 s),
                                                                                              SV.slc 8 0 l l],
                                                                                        total := 2, own := true :
                                                                                        Box },
                                                                                      { elem := 24, row := Row.lst [],
                                                                                        total := 0, own := false :
                                                                                        Box },
                                                                                      { elem := 5, row := Row.lst [],
                                                                                        total := 0, own := false :
                                                                                        Box },
                                                                                      { elem := 5,
                                                                                        row :=
                                                                                          Row.vals
                                                                                            ([] ++
                                                                                              List.take (l * 1)
                                                                                                (List.drop 0
                                                                                                  (vB zs))),
                                                                                        total := tot', own := false : Box },
                                                                                      { elem := 24,
                                                                                        row :=
                                                                                          Row.lst
                                                                                            [SV.raw (Value.int IntKind.i64 s),
                                                                                              SV.raw
                                                                                                (Value.slice
                                                                                                  (Option.map
                                                                                                    (fun (x : Addr) =>
                                                                                                      Addr.add x 0)
                                                                                                    base)
                                                                                                  (0 + l) cap')],
                                                                                        total := 2, own := true :
                                                                                        Box },
                                                                                      { elem := 24,
                                                                                        row :=
                                                                                          Row.lst
                                                                                            [SV.raw (Value.int IntKind.i64 s),
                                                                                              SV.raw
                                                                                                (Value.slice
                                                                                                  (Option.map
                                                                                                    (fun (x : Addr) =>
                                                                                                      Addr.add x 0)
                                                                                                    base)
                                                                                                  (0 + l) cap')],
                                                                                        total := 2, own := true :
                                                                                        Box },
                                                                                      { elem := 24,
                                                                                        row :=
                                                                                          Row.vals
                                                                                            (List.take (i * 2) vs ++
                                                                                              [Value.int IntKind.i64 s,
                                                                                                slcAs base 0
                                                                                                  (0 + l) cap']),
                                                                                        total := tot'_1, own := true : Box }],
                                                                                  E := E' : St }))))
                                                        else
                                                          Cn F1 6 Try.f27
                                                            [1, 1, 0, 1, 0] 6
                                                            K
                                                            {
                                                              fr :=
                                                                [some
                                                                    (SV.clo 33 []
                                                                      [SV.loc 2 0, SV.loc 4 0,
                                                                        SV.loc 5 0,
                                                                        SV.loc 3 0]),
                                                                  some (SV.raw (Value.int IntKind.i64 n0)), none, none,
                                                                  some (SV.raw (Value.slice none 0 0)),
                                                                  some (SV.loc 7 0), none,
                                                                  some (SV.raw (Value.int IntKind.i64 n0)),
                                                                  some (SV.slc 6 0 0 (Int.toNat n0)),
                                                                  some
                                                                    (SV.clo 33 []
                                                                      [SV.loc 2 0, SV.loc 4 0,
                                                                        SV.loc 5 0,
                                                                        SV.loc 3 0]),
                                                                  none, none, none, none, none, none],
                                                              bx :=
                                                                [{ elem := 24,
                                                                    row :=
                                                                      Row.lst
                                                                        [SV.raw (Value.int IntKind.i64 s),
                                                                          SV.raw (Value.slice b l c)],
                                                                    total := 2, own := true : Box },
                                                                  { elem := 22,
                                                                    row := Row.lst [SV.raw (Value.slice db dl dc)],
                                                                    total := 1, own := true : Box },
                                                                  { elem := 24,
                                                                    row :=
                                                                      Row.lst
                                                                        [SV.raw (Value.int IntKind.i64 s),
                                                                          SV.raw (Value.slice b l c)],
                                                                    total := 2, own := true : Box },
                                                                  { elem := 3,
                                                                    row :=
                                                                      Row.lst [SV.raw (Value.int IntKind.i64 (↑a : Int))],
                                                                    total := 1, own := true : Box },
                                                                  { elem := 3,
                                                                    row :=
                                                                      Row.lst [SV.raw (Value.int IntKind.i64 (↑m : Int))],
                                                                    total := 1, own := true : Box },
                                                                  { elem := 50,
                                                                    row :=
                                                                      Row.lst
                                                                        [SV.clo 26 [] [SV.loc 1 0]],
                                                                    total := 1, own := true : Box },
                                                                  { elem := 24, row := Row.lst [], total := 0,
                                                                    own := false : Box },
                                                                  { elem := 30,
                                                                    row :=
                                                                      Row.lst
                                                                        [SV.slc 15 0 (i + 1) cap'_1],
                                                                    total := 1, own := true : Box },
                                                                  { elem := 5, row := Row.vals (vB zs),
                                                                    total := l * 1, own := true : Box },
                                                                  { elem := 24,
                                                                    row :=
                                                                      Row.lst
                                                                        [SV.raw (Value.int IntKind.i64 s),
                                                                          SV.slc 8 0 l l],
                                                                    total := 2, own := true : Box },
                                                                  { elem := 24, row := Row.lst [], total := 0,
                                                                    own := false : Box },
                                                                  { elem := 5, row := Row.lst [], total := 0,
                                                                    own := false : Box },
                                                                  { elem := 5,
                                                                    row :=
                                                                      Row.vals
                                                                        ([] ++
                                                                          List.take (l * 1)
                                                                            (List.drop 0 (vB zs))),
                                                                    total := tot', own := false : Box },
                                                                  { elem := 24,
                                                                    row :=
                                                                      Row.lst
                                                                        [SV.raw (Value.int IntKind.i64 s),
                                                                          SV.raw
                                                                            (Value.slice
                                                                              (Option.map
                                                                                (fun (x : Addr) => Addr.add x 0) base)
                                                                              (0 + l) cap')],
                                                                    total := 2, own := true : Box },
                                                                  { elem := 24,
                                                                    row :=
                                                                      Row.lst
                                                                        [SV.raw (Value.int IntKind.i64 s),
                                                                          SV.raw
                                                                            (Value.slice
                                                                              (Option.map
                                                                                (fun (x : Addr) => Addr.add x 0) base)
                                                                              (0 + l) cap')],
                                                                    total := 2, own := true : Box },
                                                                  { elem := 24,
                                                                    row :=
                                                                      Row.vals
                                                                        (List.take (i * 2) vs ++
                                                                          [Value.int IntKind.i64 s,
                                                                            slcAs base 0 (0 + l) cap']),
                                                                    total := tot'_1, own := true : Box }],
                                                              E := E' : St })))))
  obtain ⟨hle, ⟨l1, l2, l3⟩, hlen, hbyte, him, ⟨hc1, hc2⟩, ⟨hv1, hv2⟩, hzs, hrs⟩ := hI
  have hzl : zs.length = l := by rw [hzs, stp_len]; exact hlen
  have hzb : ∀ z ∈ zs, 0 ≤ z ∧ z ≤ 255 := by rw [hzs]; exact stp_byte hbyte (fun i x => wu8b _) i
  have him2 : i ≤ 16384 := by omega
  have eai : IntKind.wrap .i64 ((a : Int) + (i : Int)) = ((a + i : Nat) : Int) := by rw [wrap_i64 (by omega)]; simp
  have ei1 : IntKind.wrap .i64 ((i : Int) + 1) = ((i + 1 : Nat) : Int) := by rw [wrap_i64 (by omega)]; simp
  have hld : zs.length ≤ l := Nat.le_of_eq hzl
  refine alike (fun r hr => condC (fun h1 => by subst h1; exact absurd (show l = 0 from (hr rfl).1) (by omega)) (fun _ => ?_))
  refine ⟨by simp only [List.length_map, hzl]; omega, vB_one zs, Nat.le_refl _, Nat.le_refl _, Nat.le_refl _, req_intro (by omega) (fun cap1 tot1 c1 c2 => ⟨rfl, fun base E1 hE1 hW => ⟨?_, hc2, hc1, req_intro (by omega) (fun cap2 tot2 c3 c4 => ?_)⟩⟩)⟩
  · simp only [Row.cells, List.length_map]; exact hv1
  have etk : [] ++ List.take (l * 1) (List.drop 0 (vB zs)) = vB zs := by rw [List.nil_append, List.drop_zero, List.take_of_length_le (by simp only [List.length_map, hzl]; omega)]
  rw [etk] at hW
  have hBs : Bs E1 (base.map fun x => x.add 0) (0 + l) cap1 zs := Bs.win hW rfl (by omega) c1 hzb
  have hrs1 : FLr E1 (rs ++ [(s, base.map fun x => x.add 0, 0 + l, cap1)]) (mems s (gP ds) a zs0 (i + 1)) := by
    rw [mems_succ]; exact (hrs.mono hE1).snoc rfl (by rw [← hzs]; exact hBs)
  have hvs1 : List.take (i * 2) vs ++ [Value.int IntKind.i64 s, slcAs base 0 (0 + l) cap1] = (rs ++ [(s, base.map fun x => x.add 0, 0 + l, cap1)]).flatMap rowV := by
    rw [rows_snoc, hv2]; rfl
  have hrl : rs.length = i := by rw [hrs.1, mems_len]
  have hle1 : Mem.le E0 E1 := Mem.le_trans hle hE1
  refine alike (condC (fun hlt => ?_) (fun hge => ?_))
  · have hlt : i < m := by simpa using hlt
    have hal : a + i < l := by omega
    have hget : zs.getD (a + i) 0 = zs[a + i]'(by omega) := by rw [List.getD_eq_getElem?_getD, List.getElem?_eq_getElem (by omega)]; rfl
    refine req_intro (by rw [eai]; omega) ⟨zs.getD (a + i) 0, ?_, alike (req_intro (by omega) ⟨(hd.mono hle1).ne (i := i) (by omega), ds.getD i 0, ?_, req_intro (by rw [eai]; omega) ⟨?_, ?_⟩⟩)⟩
    · rw [eai]
      show LoadV _ _ _ (0 + ((a + i : Nat) : Int).toNat * 1) _
      rw [show 0 + ((a + i : Nat) : Int).toNat * 1 = a + i by omega]
      exact loadV_byte rfl (by omega)
    · exact (hd.mono hle1).load (i := i) rfl (by omega)
    · rw [eai]; simp only [List.length_map]; omega
    · have e1 : 0 + Int.toNat (IntKind.wrap IntKind.i64 ((a : Int) + (i : Int))) * 1 = a + i := by rw [eai]; omega
      rw [e1, ei1, layV_set (by omega)]
      refine Lp_re [some 0, some 1, some 2, some 3, some 4, some 5, some 6, some 7, some 8, some 9, some 15] (ih E1 cap2 tot2 _ _ _ hlt ⟨hle1, ⟨l1, l2, l3⟩, hlen, hbyte, by omega, ⟨c3, c4⟩, ⟨?_, ?_⟩, ?_, hrs1⟩) ⟨⟨by simp, by simp, fun j h => (by have e : j = 0 ∨ j = 1 ∨ j = 2 ∨ j = 3 ∨ j = 4 ∨ j = 5 ∨ j = 6 ∨ j = 7 := (by omega); rcases e with rfl | rfl | rfl | rfl | rfl | rfl | rfl | rfl <;> rfl)⟩, rfl, (by repeat' first | exact True.intro | refine And.intro (Or.inl rfl) ?_), (by repeat' first | exact True.intro | exact rfl | exact Or.inl rfl | exact (by decide : 6 < 16) | refine And.intro ?_ ?_), (show List.Nodup [0, 1, 2, 3, 4, 5, 7, 8, 9, 15] from by decide), Mem.le_refl _⟩
      · rw [hvs1, rows_len]; simp [hrl]
      · rw [hvs1, List.take_of_length_le (by rw [rows_len]; simp [hrl])]
      · rw [hzs]; rfl
  · have hge : i = m := by simp at hge; omega
    subst hge
    subst hn
    exact Cn_intro (cn27 (hK E1 _ _ cap2 tot2 hle1 c3 c4 hvs1 hrs1))

end Go.Proofs.Ythgdbpnddnbbdaa.FlashOwn
