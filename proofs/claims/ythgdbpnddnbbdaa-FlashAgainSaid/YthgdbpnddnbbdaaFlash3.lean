/- The flash package: what its functions answer. -/
import Derived.Test.YthgdbpnddnbbdaaFlash2
namespace Go.Proofs.Ythgdbpnddnbbdaa.FlashOwn
open Go Go.Sx
set_option maxRecDepth 100000
set_option maxHeartbeats 4000000
set_option linter.unusedVariables false
set_option linter.unusedSimpArgs false
variable {E : Mem} {K : SV → Mem → Prop}

abbrev Q27 (K : KT) (n0 : Int) : KT := fun _ bx E => Cn F1 6 Try.f27 [1, 1, 0, 1, 0] 6 K { fr := fr27 n0, bx := bx, E := E }
theorem okFY {n0 : Int} {rc : Rc} (h : RcOK rc (fr27 n0) (rfPs (sub (bodyOf Try.f27) [1, 1, 0, 1, 0])).toList (rfA (sub (bodyOf Try.f27) [1, 1, 0, 1, 0])) (rfB (sub (bodyOf Try.f27) [1, 1, 0, 1, 0]))) : CxOK (FY n0 rc) := CxOK.inY okF2 okF1 rfl rfl 6 h
theorem lp33 {E0 : Mem} {K : KT} {s : Int} {a : Nat} {b db : Option Addr} {l c dl dc m : Nat} {rc : Rc} {zs0 ds : List Int} {n0 : Int} (hn : n0 = ((m + 1 : Nat) : Int)) (hd : Bs E0 db dl dc ds) (hdl : m = dl) (hrc : CxOK (FY n0 rc))
    (hK : ∀ (E' : Mem) (rs : List FRow) (vs : List Value) (cap tot : Nat), Mem.le E0 E' → m + 1 ≤ cap → cap * 2 ≤ tot → vs = rs.flatMap rowV → FLr E' rs (mems s (gP ds) a zs0 (m + 1)) → Ct F1 6 Try.f27 [1, 1, 1] 6 K (sh5 s a b db l c dl dc m (m + 1) cap tot vs E')) 
    {i cap tot : Nat} {vs : List Value} {zs : List Int} {rs : List FRow} {E : Mem} (hI : I33 E0 E s (gP ds) a l m zs0 i cap tot vs zs rs) :
    Lp (FY n0 rc) 6 Try.f33 [1, 1, 1, 0] 8 (Q27 K n0) (sh33 s a b db l c dl dc m rc i cap tot vs zs E) := by
  have key := Lp_ind hrc (n := 6) (fn := Try.f33) (p := [1, 1, 1, 0]) (n0 := 8) (K := Q27 K n0)
    (fun x : {x : Mem × Nat × Nat × Nat × List Value × List Int × List FRow // I33 E0 x.1 s (gP ds) a l m zs0 x.2.1 x.2.2.1 x.2.2.2.1 x.2.2.2.2.1 x.2.2.2.2.2.1 x.2.2.2.2.2.2} => sh33 s a b db l c dl dc m rc x.1.2.1 x.1.2.2.1 x.1.2.2.2.1 x.1.2.2.2.2.1 x.1.2.2.2.2.2.1 x.1.1)
    (fun x => m - x.1.2.1) (fun x ih => rnd33 hn x.2 hd hdl hK fun E' cap tot vs zs rs hlt h' => ih ⟨⟨E', x.1.2.1 + 1, cap, tot, vs, zs, rs⟩, h'⟩ (by show m - (_ + 1) < m - _; omega))
  exact key ⟨⟨E, i, cap, tot, vs, zs, rs⟩, hI⟩
theorem ent33 {K : KT} {s : Int} {a : Nat} {b db : Option Addr} {l c dl dc m : Nat} {rc : Rc} {zs0 ds : List Int} {n0 : Int} (hn : n0 = ((m + 1 : Nat) : Int)) (hd : Bs E db dl dc ds) (hdl : m = dl) (hrc : CxOK (FY n0 rc))
    (hz : Bs E b l c zs0) (hl : 1 ≤ l ∧ l ≤ 16384 ∧ a + m ≤ l)
    (hK : ∀ (E' : Mem) (rs : List FRow) (vs : List Value) (cap tot : Nat), Mem.le E E' → m + 1 ≤ cap → cap * 2 ≤ tot → vs = rs.flatMap rowV → FLr E' rs (mems s (gP ds) a zs0 (m + 1)) → Ct F1 6 Try.f27 [1, 1, 1] 6 K (sh5 s a b db l c dl dc m (m + 1) cap tot vs E')) :
    EntB (FY n0 rc) 6 Try.f33 [.raw (.func (.yield rc.l) #[] #[]), .loc 2 0, .loc 4 0, .loc 5 0, .loc 3 0]
    ([⟨24, .lst [I s, L b l c], 2, true⟩, ⟨22, .lst [L db dl dc], 1, true⟩, ⟨24, .lst [I s, L b l c], 2, true⟩, ⟨3, .lst [I (a : Nat)], 1, true⟩, ⟨3, .lst [I (m : Nat)], 1, true⟩, ⟨50, .lst [.clo 26 [] [.loc 1 0]], 1, true⟩] ++ [⟨24, .vals (zerosV [.int .i64 0, .slice none 0 0] (Int.toNat n0)), Int.toNat n0 * 2, true⟩, ⟨30, .lst [.slc 6 0 0 (Int.toNat n0)], 1, true⟩]) E (Q27 K n0) := by
  refine same (by kernel_rfl) (?_ : 
      req ((0 : Int) ≤ (↑l : Int) ∧ (↑l : Int) ≤ (↑l : Int))
        (req ((↑l : Int) * (↑1 : Int) ≤ (140737488355328 : Int))
          (∃ (cs : List Value),
            (cs = [] ∨ E (Value.slice b l c) cs) ∧
              l * 1 ≤ List.length cs ∧
                (∀ (x : Value), List.Mem x cs → Value.oneCell' x = true) ∧
                  0 + Int.toNat (↑l : Int) * 1 ≤
                      List.length (zerosV [Value.int IntKind.u8 (0 : Int)] (Int.toNat (↑l : Int))) ∧
                    Lp (FY n0 rc) 6 Try.f33 [1, 1, 1, 0] 8 (Q27 K n0)
                      {
                        fr :=
                          [some
                              (SV.raw
                                (Value.func (Fn.yield rc.l) { toList := [] : Array Value } { toList := [] : Array Value })),
                            some (SV.loc 2 0), some (SV.loc 4 0),
                            some (SV.loc 5 0), some (SV.loc 3 0), none,
                            some (SV.loc 9 0), some (SV.raw (Value.int IntKind.i64 (0 : Int))),
                            some (SV.loc 2 0), some (SV.raw (Value.int IntKind.i64 s)),
                            some (SV.loc 2 1), some (SV.raw (Value.slice b l c)),
                            some (SV.raw (Value.int IntKind.i64 (↑l : Int))),
                            some (SV.slc 8 0 (Int.toNat (↑l : Int)) (Int.toNat (↑l : Int))),
                            some
                              (SV.agg
                                [SV.raw (Value.int IntKind.i64 s),
                                  SV.slc 8 0 (Int.toNat (↑l : Int)) (Int.toNat (↑l : Int))]),
                            some (SV.loc 9 1),
                            some (SV.slc 8 0 (Int.toNat (↑l : Int)) (Int.toNat (↑l : Int))),
                            some (SV.loc 2 1), some (SV.raw (Value.slice b l c)),
                            some (SV.raw (Value.int IntKind.i64 (↑(min l (Int.toNat (↑l : Int))) : Int))), none, none, none,
                            none, none, none, none, none, none, none, none, none, none, none, none, none, none, none, none,
                            none, none, none, none, none, none, none, none, none, none, none, none],
                        bx :=
                          [{ elem := 24,
                              row := Row.lst [SV.raw (Value.int IntKind.i64 s), SV.raw (Value.slice b l c)],
                              total := 2, own := true : Box },
                            { elem := 22, row := Row.lst [SV.raw (Value.slice db dl dc)], total := 1,
                              own := true : Box },
                            { elem := 24,
                              row := Row.lst [SV.raw (Value.int IntKind.i64 s), SV.raw (Value.slice b l c)],
                              total := 2, own := true : Box },
                            { elem := 3, row := Row.lst [SV.raw (Value.int IntKind.i64 (↑a : Int))],
                              total := 1, own := true : Box },
                            { elem := 3, row := Row.lst [SV.raw (Value.int IntKind.i64 (↑m : Int))],
                              total := 1, own := true : Box },
                            { elem := 50, row := Row.lst [SV.clo 26 [] [SV.loc 1 0]],
                              total := 1, own := true : Box },
                            { elem := 24,
                              row :=
                                Row.vals
                                  (zerosV [Value.int IntKind.i64 (0 : Int), Value.slice none 0 0]
                                    (Int.toNat n0)),
                              total := Int.toNat n0 * 2, own := true : Box },
                            { elem := 30, row := Row.lst [SV.slc 6 0 0 (Int.toNat n0)],
                              total := 1, own := true : Box },
                            { elem := 5,
                              row :=
                                Row.vals
                                  (layV (zerosV [Value.int IntKind.u8 (0 : Int)] (Int.toNat (↑l : Int))) 0
                                    (List.take (min l (Int.toNat (↑l : Int)) * 1) (List.take (l * 1) cs))),
                              total := Int.toNat (↑l : Int) * 1, own := true : Box },
                            { elem := 24,
                              row :=
                                Row.lst
                                  [SV.raw (Value.int IntKind.i64 s),
                                    SV.slc 8 0 (Int.toNat (↑l : Int)) (Int.toNat (↑l : Int))],
                              total := 2, own := true : Box }],
                        E := E : St })))
  obtain ⟨l1, l2, l3⟩ := hl
  obtain ⟨t1, t2, t3⟩ := hz.src
  have hzl := hz.2.1
  refine req_intro (by omega) (req_intro (by simp; omega) ⟨_, t1, t2, t3, ?_, ?_⟩)
  · simp [zerosV]
  have hn2 : Int.toNat n0 = m + 1 := by omega
  have e1 : layV (zerosV [Value.int IntKind.u8 0] (Int.toNat (l : Int))) 0 (List.take (min l (Int.toNat (l : Int)) * 1) (List.take (l * 1) (zs0.map (Value.int .u8)))) = vB zs0 := by
    rw [Int.toNat_natCast, Nat.min_self, List.take_of_length_le (l := List.take _ _) (by simp only [List.length_take, List.length_map]; omega), List.take_of_length_le (by simp; omega)]
    unfold layV
    rw [List.take_zero, List.nil_append, List.drop_eq_nil_of_le (by simp [zerosV]; omega), List.append_nil]
  rw [e1, Int.toNat_natCast]
  exact Lp_re [some 0, some 1, some 2, some 3, some 4, some 5, some 6, some 7, some 8, some 9, some 6] (lp33 hn hd hdl hrc hK (i := 0) (cap := Int.toNat n0) (tot := Int.toNat n0 * 2) (vs := zerosV [.int .i64 0, .slice none 0 0] (Int.toNat n0)) (zs := zs0) (rs := []) ⟨Mem.le_refl _, ⟨l1, l2, l3⟩, hzl, hz.2.2.2.1, Nat.zero_le _, ⟨Nat.zero_le _, Nat.le_refl _⟩, ⟨by simp, by simp⟩, rfl, FLr.nil _⟩) ⟨⟨by simp, by simp, fun j h => (by have e : j = 0 ∨ j = 1 ∨ j = 2 ∨ j = 3 ∨ j = 4 ∨ j = 5 ∨ j = 6 ∨ j = 7 := (by omega); rcases e with rfl | rfl | rfl | rfl | rfl | rfl | rfl | rfl <;> rfl)⟩, rfl, (by repeat' first | exact True.intro | refine And.intro (Or.inl rfl) ?_), (by repeat' first | exact True.intro | exact rfl | exact Or.inl rfl | exact (by decide : 6 < 10) | refine And.intro ?_ ?_), (show List.Nodup [0, 1, 2, 3, 4, 5, 7, 8, 9, 6] from by decide), Mem.le_refl _⟩
theorem leaf27 {K : KT} {s : Int} {a : Nat} {b db : Option Addr} {l c dl dc m : Nat} {zs0 ds : List Int} {n0 : Int} (hn : n0 = ((m + 1 : Nat) : Int)) (hd : Bs E db dl dc ds) (hdl : m = dl)
    (hz : Bs E b l c zs0) (hl : 1 ≤ l ∧ l ≤ 16384 ∧ a + m ≤ l)
    (hK : ∀ (E' : Mem) (rs : List FRow) (vs : List Value) (cap tot : Nat), Mem.le E E' → m + 1 ≤ cap → cap * 2 ≤ tot → vs = rs.flatMap rowV → FLr E' rs (mems s (gP ds) a zs0 (m + 1)) → Ct F1 6 Try.f27 [1, 1, 1] 6 K (sh5 s a b db l c dl dc m (m + 1) cap tot vs E')) :
    Ct F1 6 Try.f27 [1, 1, 0, 1, 0] 6 K ⟨fr27 n0, [⟨24, .lst [I s, L b l c], 2, true⟩, ⟨22, .lst [L db dl dc], 1, true⟩, ⟨24, .lst [I s, L b l c], 2, true⟩, ⟨3, .lst [I (a : Nat)], 1, true⟩, ⟨3, .lst [I (m : Nat)], 1, true⟩, ⟨50, .lst [.clo 26 [] [.loc 1 0]], 1, true⟩] ++ [⟨24, .vals (zerosV [.int .i64 0, .slice none 0 0] (Int.toNat n0)), Int.toNat n0 * 2, true⟩, ⟨30, .lst [.slc 6 0 0 (Int.toNat n0)], 1, true⟩], E⟩ :=
  RfY okF1 okF2 (by kernel_rfl) (by kernel_rfl) Try.func33 ⟨by kernel_rfl, by kernel_rfl⟩ (gf := 33) (gfn := Try.f33) (first := []) (caps := [.loc 2 0, .loc 4 0, .loc 5 0, .loc 3 0]) (m := 6) (fun rc hrc => ent33 hn hd hdl hrc hz hl hK) rfl rfl
theorem pc5 {K : KT} {s : Int} {a : Nat} {b db : Option Addr} {l c dl dc m n cap tot : Nat} {vs : List Value} (h : K (.slc 7 0 n cap) (sh5 s a b db l c dl dc m n cap tot vs E).bx E) : Pc F1 6 Try.f27 [1, 1, 1] 6 K (sh5 s a b db l c dl dc m n cap tot vs E) := by
  refine same (by kernel_rfl) (?_ : 
      K (SV.slc 7 0 n cap)
        [{ elem := 24, row := Row.lst [SV.raw (Value.int IntKind.i64 s), SV.raw (Value.slice b l c)],
            total := 2, own := true : Box },
          { elem := 22, row := Row.lst [SV.raw (Value.slice db dl dc)], total := 1, own := true : Box },
          { elem := 24, row := Row.lst [SV.raw (Value.int IntKind.i64 s), SV.raw (Value.slice b l c)],
            total := 2, own := true : Box },
          { elem := 3, row := Row.lst [SV.raw (Value.int IntKind.i64 (↑a : Int))], total := 1, own := true :
            Box },
          { elem := 3, row := Row.lst [SV.raw (Value.int IntKind.i64 (↑m : Int))], total := 1, own := true :
            Box },
          { elem := 50, row := Row.lst [SV.clo 26 [] [SV.loc 1 0]], total := 1,
            own := true : Box },
          { elem := 30, row := Row.lst [SV.slc 7 0 n cap], total := 1, own := true : Box },
          { elem := 24, row := Row.vals vs, total := tot, own := true : Box }]
        E)
  exact h
theorem out27 {K : KT} {s : Int} {a : Nat} {b db : Option Addr} {l c dl dc m n cap tot : Nat} {rs : List FRow} {ms : List (Int × List Int)} (hr : FLr E rs ms) (hn : ms.length = n) (hc : n ≤ cap)
    (h : ∀ (fb : Option Addr) (E' : Mem), Mem.le E E' → FL E' fb n cap ms → K (L fb n cap) ([⟨24, .lst [I s, L b l c], 2, true⟩, ⟨22, .lst [L db dl dc], 1, true⟩, ⟨24, .lst [I s, L b l c], 2, true⟩, ⟨3, .lst [I (a : Nat)], 1, true⟩, ⟨3, .lst [I (m : Nat)], 1, true⟩, ⟨50, .lst [.clo 26 [] [.loc 1 0]], 1, true⟩]) E') : pubB (cloK 6 K) (.slc 7 0 n cap) (sh5 s a b db l c dl dc m n cap tot (rs.flatMap rowV) E).bx E := by
  refine same (q := ∀ (base : Option Addr) (E2 : Mem), Mem.le E E2 → WinE E2 base (rs.flatMap rowV) → cloK 6 K (.raw (slcAs base 0 n cap)) ([⟨24, .lst [I s, L b l c], 2, true⟩, ⟨22, .lst [L db dl dc], 1, true⟩, ⟨24, .lst [I s, L b l c], 2, true⟩, ⟨3, .lst [I (a : Nat)], 1, true⟩, ⟨3, .lst [I (m : Nat)], 1, true⟩, ⟨50, .lst [.clo 26 [] [.loc 1 0]], 1, true⟩] ++ [⟨30, .lst [.raw (slcAs base 0 n cap)], 1, true⟩, ⟨24, .vals (rs.flatMap rowV), tot, false⟩]) E2) (by kernel_rfl) ?_
  intro base E2 h1 h2
  exact cloK_intro [some 0, some 1, some 2, some 3, some 4, some 5] (h _ E2 h1 (FL.win h2 rfl (hr.mono h1) hn hc)) ⟨⟨by simp, by simp, fun j h => (by have e : j = 0 ∨ j = 1 ∨ j = 2 ∨ j = 3 ∨ j = 4 ∨ j = 5 := (by omega); rcases e with rfl | rfl | rfl | rfl | rfl | rfl <;> rfl)⟩, rfl, (by repeat' first | exact True.intro | refine And.intro (Or.inl rfl) ?_), (by repeat' first | exact True.intro | exact rfl | exact Or.inl rfl | fail | refine And.intro ?_ ?_), (show List.Nodup [0, 1, 2, 3, 4, 5] from by decide), Mem.le_refl _⟩
theorem s27 {K : KT} {s : Int} {a : Nat} {b db : Option Addr} {l c dl dc m : Nat} {zs0 ds : List Int} {n0 : Int} (hn : n0 = ((m + 1 : Nat) : Int)) (hd : Bs E db dl dc ds) (hdl : m = dl)
    (hz : Bs E b l c zs0) (hl : 1 ≤ l ∧ l ≤ 16384 ∧ a + m ≤ l)
    (h : ∀ (fb : Option Addr) (cap : Nat) (E' : Mem), Mem.le E E' → FL E' fb (m + 1) cap (mems s (gP ds) a zs0 (m + 1)) → K (L fb (m + 1) cap) ([⟨24, .lst [I s, L b l c], 2, true⟩, ⟨22, .lst [L db dl dc], 1, true⟩, ⟨24, .lst [I s, L b l c], 2, true⟩, ⟨3, .lst [I (a : Nat)], 1, true⟩, ⟨3, .lst [I (m : Nat)], 1, true⟩, ⟨50, .lst [.clo 26 [] [.loc 1 0]], 1, true⟩]) E') :
    EntB F1 6 Try.f27 [.clo 33 [] [.loc 2 0, .loc 4 0, .loc 5 0, .loc 3 0], I n0] ([⟨24, .lst [I s, L b l c], 2, true⟩, ⟨22, .lst [L db dl dc], 1, true⟩, ⟨24, .lst [I s, L b l c], 2, true⟩, ⟨3, .lst [I (a : Nat)], 1, true⟩, ⟨3, .lst [I (m : Nat)], 1, true⟩, ⟨50, .lst [.clo 26 [] [.loc 1 0]], 1, true⟩]) E (pubB (cloK 6 K)) := by
  refine same (by kernel_rfl) (?_ : 
      req ((0 : Int) ≤ (0 : Int) ∧ (0 : Int) ≤ n0)
        (req (n0 * (32 : Int) ≤ (140737488355328 : Int))
          (Ct F1 6 Try.f27 [1, 1, 0, 1, 0] 6 (pubB (cloK 6 K))
            {
              fr :=
                [some
                    (SV.clo 33 []
                      [SV.loc 2 0, SV.loc 4 0, SV.loc 5 0,
                        SV.loc 3 0]),
                  some (SV.raw (Value.int IntKind.i64 n0)), none, none, some (SV.raw (Value.slice none 0 0)),
                  some (SV.loc 7 0), none, some (SV.raw (Value.int IntKind.i64 n0)),
                  some (SV.slc 6 0 0 (Int.toNat n0)),
                  some
                    (SV.clo 33 []
                      [SV.loc 2 0, SV.loc 4 0, SV.loc 5 0,
                        SV.loc 3 0]),
                  none, none, none, none, none, none],
              bx :=
                [{ elem := 24, row := Row.lst [SV.raw (Value.int IntKind.i64 s), SV.raw (Value.slice b l c)],
                    total := 2, own := true : Box },
                  { elem := 22, row := Row.lst [SV.raw (Value.slice db dl dc)], total := 1, own := true :
                    Box },
                  { elem := 24, row := Row.lst [SV.raw (Value.int IntKind.i64 s), SV.raw (Value.slice b l c)],
                    total := 2, own := true : Box },
                  { elem := 3, row := Row.lst [SV.raw (Value.int IntKind.i64 (↑a : Int))], total := 1,
                    own := true : Box },
                  { elem := 3, row := Row.lst [SV.raw (Value.int IntKind.i64 (↑m : Int))], total := 1,
                    own := true : Box },
                  { elem := 50, row := Row.lst [SV.clo 26 [] [SV.loc 1 0]],
                    total := 1, own := true : Box },
                  { elem := 24,
                    row :=
                      Row.vals
                        (zerosV [Value.int IntKind.i64 (0 : Int), Value.slice none 0 0] (Int.toNat n0)),
                    total := Int.toNat n0 * 2, own := true : Box },
                  { elem := 30, row := Row.lst [SV.slc 6 0 0 (Int.toNat n0)],
                    total := 1, own := true : Box }],
              E := E : St })))
  refine req_intro (by omega) (req_intro (by omega) (leaf27 hn hd hdl hz hl fun E' rs vs cap tot h1 h2 h3 h4 h5 => ?_))
  subst h4
  exact Ct_intro okF1 (pc5 (out27 h5 (by simp [mems_len]) h2 fun fb E2 g1 g2 => h fb cap E2 (Mem.le_trans h1 g1) g2))
theorem sem27 {K : KT} {s : Int} {a : Nat} {b db : Option Addr} {l c dl dc m : Nat} {zs0 ds : List Int} {n0 : Int} (hn : n0 = ((m + 1 : Nat) : Int)) (hd : Bs E db dl dc ds) (hdl : m = dl)
    (hz : Bs E b l c zs0) (hl : 1 ≤ l ∧ l ≤ 16384 ∧ a + m ≤ l)
    (h : ∀ (fb : Option Addr) (cap : Nat) (E' : Mem), Mem.le E E' → FL E' fb (m + 1) cap (mems s (gP ds) a zs0 (m + 1)) → K (L fb (m + 1) cap) ([⟨24, .lst [I s, L b l c], 2, true⟩, ⟨22, .lst [L db dl dc], 1, true⟩, ⟨24, .lst [I s, L b l c], 2, true⟩, ⟨3, .lst [I (a : Nat)], 1, true⟩, ⟨3, .lst [I (m : Nat)], 1, true⟩, ⟨50, .lst [.clo 26 [] [.loc 1 0]], 1, true⟩]) E') :
    CallSem Try.prog 27 [.clo 33 [] [.loc 2 0, .loc 4 0, .loc 5 0, .loc 3 0], I n0] ([⟨24, .lst [I s, L b l c], 2, true⟩, ⟨22, .lst [L db dl dc], 1, true⟩, ⟨24, .lst [I s, L b l c], 2, true⟩, ⟨3, .lst [I (a : Nat)], 1, true⟩, ⟨3, .lst [I (m : Nat)], 1, true⟩, ⟨50, .lst [.clo 26 [] [.loc 1 0]], 1, true⟩]) E K :=
  (EntB.sem okF1 Try.func27 ⟨by kernel_rfl, by kernel_rfl⟩ (s27 hn hd hdl hz hl h)).pubB.clo

end Go.Proofs.Ythgdbpnddnbbdaa.FlashOwn
