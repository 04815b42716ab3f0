/- The flash package: what its functions answer. -/
import Derived.Test.YthgdbpnddnbbdaaFlash7
namespace Go.Proofs.Ythgdbpnddnbbdaa.FlashOwn
open Go Go.Sx
set_option maxRecDepth 100000
set_option maxHeartbeats 4000000
set_option linter.unusedVariables false
set_option linter.unusedSimpArgs false
variable {E : Mem} {K : SV → Mem → Prop}
noncomputable def FA : Cx := { P := Try.prog, inl := fun f => List.contains [] f, tab := fun _ _ _ _ => False, isB := fun _ => false, tabB := fun _ _ _ _ _ => False, opt := { unroll := 0, carry := [5] }, muts := mutsD }
theorem okFA : CxOK FA := CxOK.four (fun _ _ _ _ h => h.elim) (by kernel_rfl) (okInl (by kernel_rfl)) (fun _ _ _ _ _ h => h.elim)

def sh13 (a1 a5 : Int) (b2 b6 : Option Addr) (l3 c4 l7 c8 i : Nat) (E : Mem) : St := ⟨[none, none, some (.loc 0 0), some (.loc 1 0), none, some (I (i : Nat))] ++ List.replicate 32 none, [⟨24, .lst [I a1, L b2 l3 c4], 2, true⟩, ⟨24, .lst [I a5, L b6 l7 c8], 2, true⟩], E⟩
theorem take_getD {zs : List Int} {i : Nat} (h : i < zs.length) : zs.take (i + 1) = zs.take i ++ [zs.getD i 0] := by
  rw [List.take_succ_eq_append_getElem h, List.getD_eq_getElem?_getD, List.getElem?_eq_getElem h]; rfl
theorem rnd13 {a1 a5 : Int} {b2 b6 : Option Addr} {l3 c4 l7 c8 i : Nat} {zs ys : List Int} {E0 : Mem} {K : SV → Mem → Prop} (h0 : Bs E b2 l3 c4 zs) (h1 : Bs E b6 l7 c8 ys) (h2 : l3 ≤ 100000) (hl : l3 = l7) (hi : i ≤ l3) (hp : zs.take i = ys.take i)
    (hE : Mem.le E0 E) (h : K (B (decide (zs = ys))) E) (ih : i < l3 → zs.take (i + 1) = ys.take (i + 1) → Lp FA 8 Try.f13 [1, 1, 0, 1, 0] 0 (pubK E0 K) (sh13 a1 a5 b2 b6 l3 c4 l7 c8 (i + 1) E)) :
    Rnd FA 8 Try.f13 [1, 1, 0, 1, 0] 0 (pubK E0 K) (sh13 a1 a5 b2 b6 l3 c4 l7 c8 i E) := by
  refine same (by kernel_rfl) (?_ : 
      bif decide ((↑i : Int) < (↑l3 : Int)) then
        req ((0 : Int) ≤ (↑i : Int) ∧ (↑i : Int) < (↑l3 : Int))
          ((∃ (cs : List Value), E (Value.slice b2 l3 c4) cs ∧ (cs = [] → False)) ∧
            ∃ (n : Int),
              LoadE FA.P E 5 (Value.slice b2 l3 c4) (Int.toNat (↑i : Int) * 1)
                  (SV.raw (Value.int IntKind.u8 n)) ∧
                req ((0 : Int) ≤ (↑i : Int) ∧ (↑i : Int) < (↑l7 : Int))
                  ((∃ (cs : List Value), E (Value.slice b6 l7 c8) cs ∧ (cs = [] → False)) ∧
                    ∃ (n_1 : Int),
                      LoadE FA.P E 5 (Value.slice b6 l7 c8) (Int.toNat (↑i : Int) * 1)
                          (SV.raw (Value.int IntKind.u8 n_1)) ∧
                        bif n != n_1 then Mem.le E0 E ∧ K (SV.raw (Value.bool false)) E
                        else
                          Lp FA 8 Try.f13 [1, 1, 0, 1, 0] 0
                            (pubK E0 K)
                            {
                              fr :=
                                [none, none, some (SV.loc 0 0), some (SV.loc 1 0), none,
                                  some (SV.raw (Value.int IntKind.i64 (IntKind.wrap IntKind.i64 ((↑i : Int) + (1 : Int))))),
                                  none, none, none, none, none, none, none, none, none, none, none, none, none, none, none,
                                  none, none, none, none, none, none, none, none, none, none, none, none, none, none, none,
                                  none, none],
                              bx :=
                                [{ elem := 24,
                                    row := Row.lst [SV.raw (Value.int IntKind.i64 a1), SV.raw (Value.slice b2 l3 c4)],
                                    total := 2, own := true : Box },
                                  { elem := 24,
                                    row := Row.lst [SV.raw (Value.int IntKind.i64 a5), SV.raw (Value.slice b6 l7 c8)],
                                    total := 2, own := true : Box }],
                              E := E : St }))
      else Mem.le E0 E ∧ K (SV.raw (Value.bool true)) E)
  have z0 := h0.2.1
  have z1 := h1.2.1
  refine condC (fun g => ?_) (fun g => ?_)
  · have g : i < l3 := by simpa using g
    refine req_intro (by omega) ⟨h0.ne g, zs.getD i 0, h0.load rfl g, req_intro (by omega) ⟨h1.ne (i := i) (by omega), ys.getD i 0, h1.load (i := i) rfl (by omega), condC (fun q => ?_) (fun q => ?_)⟩⟩
    · have q : ¬ zs.getD i 0 = ys.getD i 0 := by simpa using q
      rw [decide_eq_false (fun e => q (by rw [e]))] at h
      exact ⟨hE, h⟩
    · have q : zs.getD i 0 = ys.getD i 0 := by simpa using q
      rw [wrap_i64 (by omega), show (i : Int) + 1 = ((i + 1 : Nat) : Int) by simp]
      exact Lp_re [some 0, some 1] (ih g (by rw [take_getD (by omega), take_getD (by omega), hp, q])) ⟨⟨by simp, by simp, fun j h => absurd h (Nat.not_lt_zero _)⟩, rfl, (by repeat' first | exact True.intro | refine And.intro (Or.inl rfl) ?_), (by repeat' first | exact True.intro | exact rfl | exact Or.inl rfl | fail | refine And.intro ?_ ?_), (show List.Nodup [0, 1] from by decide), Mem.le_refl _⟩
  · have g : i = l3 := by simp at g; omega
    subst g
    rw [decide_eq_true (by rw [← List.take_of_length_le (l := zs) (i := i) (by omega), hp, List.take_of_length_le (by omega)])] at h
    exact ⟨hE, h⟩
theorem lp13 {a1 a5 : Int} {b2 b6 : Option Addr} {l3 c4 l7 c8 i : Nat} {zs ys : List Int} {E0 : Mem} {K : SV → Mem → Prop} (h0 : Bs E b2 l3 c4 zs) (h1 : Bs E b6 l7 c8 ys) (h2 : l3 ≤ 100000) (hl : l3 = l7) (hi : i ≤ l3) (hp : zs.take i = ys.take i)
    (hE : Mem.le E0 E) (h : K (B (decide (zs = ys))) E) : Lp FA 8 Try.f13 [1, 1, 0, 1, 0] 0 (pubK E0 K) (sh13 a1 a5 b2 b6 l3 c4 l7 c8 i E) :=
  Lp_ind okFA (fun x : {i : Nat // i ≤ l3 ∧ zs.take i = ys.take i} => sh13 a1 a5 b2 b6 l3 c4 l7 c8 x.1 E) (fun x => l3 - x.1) (fun x ih => rnd13 h0 h1 h2 hl x.2.1 x.2.2 hE h fun g e => ih ⟨x.1 + 1, by omega, e⟩ (by show l3 - (_ + 1) < l3 - _; omega)) ⟨i, hi, hp⟩
theorem s13 {a1 : Int} {b2 : Option Addr} {l3 : Nat} {c4 : Nat} {a5 : Int} {b6 : Option Addr} {l7 : Nat} {c8 : Nat} {zs : List Int} {ys : List Int} (h0 : Bs E b2 l3 c4 zs) (h1 : Bs E b6 l7 c8 ys) (h2 : l3 ≤ 100000) (h : K (B (decide (a1 = a5 ∧ zs = ys))) E) :
    Ent FA 8 Try.f13 [.agg [I a1, L b2 l3 c4], .agg [I a5, L b6 l7 c8]] E K := by
  refine same (by kernel_rfl) (?_ : 
      bif a1 != a5 then Mem.le E E ∧ K (SV.raw (Value.bool false)) E
      else
        bif bif false then true else (↑l3 : Int) != (↑l7 : Int) then Mem.le E E ∧ K (SV.raw (Value.bool false)) E
        else
          Lp FA 8 Try.f13 [1, 1, 0, 1, 0] 0 (pubK E K)
            {
              fr :=
                [some (SV.agg [SV.raw (Value.int IntKind.i64 a1), SV.raw (Value.slice b2 l3 c4)]),
                  some (SV.agg [SV.raw (Value.int IntKind.i64 a5), SV.raw (Value.slice b6 l7 c8)]),
                  some (SV.loc 0 0), some (SV.loc 1 0), none,
                  some (SV.raw (Value.int IntKind.i64 (0 : Int))), some (SV.loc 0 0),
                  some (SV.raw (Value.int IntKind.i64 a1)), some (SV.loc 1 0),
                  some (SV.raw (Value.int IntKind.i64 a5)), some (SV.raw (Value.bool (a1 != a5))),
                  some (SV.raw (Value.bool false)), some (SV.loc 0 1), some (SV.raw (Value.slice b2 l3 c4)),
                  some (SV.raw (Value.int IntKind.i64 (↑l3 : Int))), some (SV.loc 1 1),
                  some (SV.raw (Value.slice b6 l7 c8)), some (SV.raw (Value.int IntKind.i64 (↑l7 : Int))),
                  some (SV.raw (Value.bool ((↑l3 : Int) != (↑l7 : Int)))),
                  some (SV.raw (Value.bool (bif false then true else (↑l3 : Int) != (↑l7 : Int)))), none, none, none, none,
                  none, none, none, none, none, none, none, none, none, none, none, none, none, none],
              bx :=
                [{ elem := 24, row := Row.lst [SV.raw (Value.int IntKind.i64 a1), SV.raw (Value.slice b2 l3 c4)],
                    total := 2, own := true : Box },
                  { elem := 24, row := Row.lst [SV.raw (Value.int IntKind.i64 a5), SV.raw (Value.slice b6 l7 c8)],
                    total := 2, own := true : Box }],
              E := E : St })
  have z0 := h0.2.1
  have z1 := h1.2.1
  refine condC (fun g => ?_) (fun ge => condC (fun g => ?_) (fun g => ?_))
  · have g : ¬ a1 = a5 := by simpa using g
    rw [decide_eq_false (fun q => g q.1)] at h
    exact ⟨Mem.le_refl _, h⟩
  · have g : ¬ l3 = l7 := by simp at g; omega
    rw [decide_eq_false (fun q => g (by rw [← z0, ← z1, q.2]))] at h
    exact ⟨Mem.le_refl _, h⟩
  have e : a1 = a5 := by simpa using ge
  have g : l3 = l7 := by simp at g; omega
  rw [show decide (a1 = a5 ∧ zs = ys) = decide (zs = ys) by simp [e]] at h
  exact Lp_re [some 0, some 1] (lp13 (i := 0) h0 h1 h2 g (Nat.zero_le _) rfl (Mem.le_refl _) h) ⟨⟨by simp, by simp, fun j h => absurd h (Nat.not_lt_zero _)⟩, rfl, (by repeat' first | exact True.intro | refine And.intro (Or.inl rfl) ?_), (by repeat' first | exact True.intro | exact rfl | exact Or.inl rfl | fail | refine And.intro ?_ ?_), (show List.Nodup [0, 1] from by decide), Mem.le_refl _⟩
noncomputable def FB : Cx := { P := Try.prog, inl := fun f => List.contains [] f, tab := fun _ _ _ _ => False, isB := fun _ => false, tabB := fun _ _ _ _ _ => False, opt := { unroll := 0, carry := [] }, muts := (fun o => match o with | .buildSlice .. => true | .alloc _ => true | o => mutsD o) }
theorem okFB : CxOK FB := CxOK.four (fun _ _ _ _ h => h.elim) (by kernel_rfl) (okInl (by kernel_rfl)) (fun _ _ _ _ _ h => h.elim)
theorem s29 {a1 : Int} {b2 : Option Addr} {l3 : Nat} {c4 : Nat} {a5 : Int} {a6 : Int} {zs : List Int} (h0 : Bs E b2 l3 c4 zs) (h1 : l3 ≤ 100000) (h2 : (0 ≤ a5 ∧ a5 < l3)) (h3 : (0 ≤ a6 ∧ a6 ≤ 255)) (h : ∀ (b' : Option Addr) (l' c' : Nat) (ys : List Int) (E' : Mem), Mem.le E E' → Hyp (zs.set (Int.toNat a5) a6 = ys) → Bs E' b' l' c' ys → K (.agg [I a1, L b' l' c']) E') :
    Ent FB 8 Try.f29 [.agg [I a1, L b2 l3 c4], I a5, .raw (.int .u8 a6)] E K := by
  refine same (by kernel_rfl) (?_ : 
      ((((∃ (cs : List Value),
                (cs = [] ∨ E (Value.slice b2 l3 c4) cs) ∧
                  l3 * 1 ≤ List.length cs ∧
                    (∀ (x : Value), List.Mem x cs → Value.oneCell' x = true) ∧
                      0 ≤ 0 ∧
                        0 ≤ 0 ∧
                          0 ≤ 0 ∧
                            req ((0 + l3) * 1 ≤ 140737488355328)
                              (∀ (cap' tot' : Nat),
                                0 + l3 ≤ cap' →
                                  cap' * 1 ≤ tot' →
                                    Sx.Alike (AlikeT.n AlikeT.l AlikeT.l)
                                      (req ((0 : Int) ≤ a5 ∧ a5 < (↑(0 + l3) : Int))
                                        (0 + Int.toNat a5 * 1 + 1 ≤
                                            List.length ([] ++ List.take (l3 * 1) cs) ∧
                                          ∀ (base : Option Addr) (E' : Mem),
                                            Mem.le E E' →
                                              WinE E' base
                                                  (layV ([] ++ List.take (l3 * 1) cs)
                                                    (0 + Int.toNat a5 * 1) [Value.int IntKind.u8 a6]) →
                                                Mem.le E E' ∧
                                                  K
                                                    (SV.agg
                                                      [SV.raw (Value.int IntKind.i64 a1),
                                                        SV.raw
                                                          (Value.slice
                                                            (Option.map (fun (x : Addr) => Addr.add x 0) base)
                                                            (0 + l3) cap')])
                                                    E')))) ∧
              ∃ (cs : List Value),
                (cs = [] ∨ E (Value.slice b2 l3 c4) cs) ∧
                  l3 * 1 ≤ List.length cs ∧
                    (∀ (x : Value), List.Mem x cs → Value.oneCell' x = true) ∧
                      0 ≤ 0 ∧
                        0 ≤ 0 ∧
                          0 ≤ 0 ∧
                            req ((0 + l3) * 1 ≤ 140737488355328)
                              (∀ (cap' tot' : Nat),
                                0 + l3 ≤ cap' →
                                  cap' * 1 ≤ tot' →
                                    req ((0 : Int) ≤ a5 ∧ a5 < (↑(0 + l3) : Int))
                                      (0 + Int.toNat a5 * 1 + 1 ≤
                                          List.length ([] ++ List.take (l3 * 1) cs) ∧
                                        ∀ (base : Option Addr) (E' : Mem),
                                          Mem.le E E' →
                                            WinE E' base
                                                (layV ([] ++ List.take (l3 * 1) cs)
                                                  (0 + Int.toNat a5 * 1) [Value.int IntKind.u8 a6]) →
                                              Mem.le E E' ∧
                                                K
                                                  (SV.agg
                                                    [SV.raw (Value.int IntKind.i64 a1),
                                                      SV.raw
                                                        (Value.slice
                                                          (Option.map (fun (x : Addr) => Addr.add x 0) base)
                                                          (0 + l3) cap')])
                                                  E'))) ∧
            ∃ (cs : List Value),
              (cs = [] ∨ E (Value.slice b2 l3 c4) cs) ∧
                l3 * 1 ≤ List.length cs ∧
                  (∀ (x : Value), List.Mem x cs → Value.oneCell' x = true) ∧
                    0 ≤ 0 ∧
                      0 ≤ 0 ∧
                        0 ≤ 0 ∧
                          req ((0 + l3) * 1 ≤ 140737488355328)
                            (∀ (cap' tot' : Nat),
                              0 + l3 ≤ cap' →
                                cap' * 1 ≤ tot' →
                                  req ((0 : Int) ≤ a5 ∧ a5 < (↑(0 + l3) : Int))
                                    (0 + Int.toNat a5 * 1 + 1 ≤
                                        List.length ([] ++ List.take (l3 * 1) cs) ∧
                                      ∀ (base : Option Addr) (E' : Mem),
                                        Mem.le E E' →
                                          WinE E' base
                                              (layV ([] ++ List.take (l3 * 1) cs)
                                                (0 + Int.toNat a5 * 1) [Value.int IntKind.u8 a6]) →
                                            Mem.le E E' ∧
                                              K
                                                (SV.agg
                                                  [SV.raw (Value.int IntKind.i64 a1),
                                                    SV.raw
                                                      (Value.slice (Option.map (fun (x : Addr) => Addr.add x 0) base)
                                                        (0 + l3) cap')])
                                                E'))) ∧
          (((∃ (cs : List Value),
                  (cs = [] ∨ E (Value.slice b2 l3 c4) cs) ∧
                    l3 * 1 ≤ List.length cs ∧
                      (∀ (x : Value), List.Mem x cs → Value.oneCell' x = true) ∧
                        0 ≤ 0 ∧
                          0 ≤ 0 ∧
                            0 ≤ 0 ∧
                              req ((0 + l3) * 1 ≤ 140737488355328)
                                (∀ (cap' tot' : Nat),
                                  0 + l3 ≤ cap' →
                                    cap' * 1 ≤ tot' →
                                      Sx.Alike (AlikeT.n AlikeT.l AlikeT.l)
                                        (req ((0 : Int) ≤ a5 ∧ a5 < (↑(0 + l3) : Int))
                                          (0 + Int.toNat a5 * 1 + 1 ≤
                                              List.length ([] ++ List.take (l3 * 1) cs) ∧
                                            ∀ (base : Option Addr) (E' : Mem),
                                              Mem.le E E' →
                                                WinE E' base
                                                    (layV ([] ++ List.take (l3 * 1) cs)
                                                      (0 + Int.toNat a5 * 1) [Value.int IntKind.u8 a6]) →
                                                  Mem.le E E' ∧
                                                    K
                                                      (SV.agg
                                                        [SV.raw (Value.int IntKind.i64 a1),
                                                          SV.raw
                                                            (Value.slice
                                                              (Option.map (fun (x : Addr) => Addr.add x 0) base)
                                                              (0 + l3) cap')])
                                                      E')))) ∧
                ∃ (cs : List Value),
                  (cs = [] ∨ E (Value.slice b2 l3 c4) cs) ∧
                    l3 * 1 ≤ List.length cs ∧
                      (∀ (x : Value), List.Mem x cs → Value.oneCell' x = true) ∧
                        0 ≤ 0 ∧
                          0 ≤ 0 ∧
                            0 ≤ 0 ∧
                              req ((0 + l3) * 1 ≤ 140737488355328)
                                (∀ (cap' tot' : Nat),
                                  0 + l3 ≤ cap' →
                                    cap' * 1 ≤ tot' →
                                      req ((0 : Int) ≤ a5 ∧ a5 < (↑(0 + l3) : Int))
                                        (0 + Int.toNat a5 * 1 + 1 ≤
                                            List.length ([] ++ List.take (l3 * 1) cs) ∧
                                          ∀ (base : Option Addr) (E' : Mem),
                                            Mem.le E E' →
                                              WinE E' base
                                                  (layV ([] ++ List.take (l3 * 1) cs)
                                                    (0 + Int.toNat a5 * 1) [Value.int IntKind.u8 a6]) →
                                                Mem.le E E' ∧
                                                  K
                                                    (SV.agg
                                                      [SV.raw (Value.int IntKind.i64 a1),
                                                        SV.raw
                                                          (Value.slice
                                                            (Option.map (fun (x : Addr) => Addr.add x 0) base)
                                                            (0 + l3) cap')])
                                                    E'))) ∧
              ∃ (cs : List Value),
                (cs = [] ∨ E (Value.slice b2 l3 c4) cs) ∧
                  l3 * 1 ≤ List.length cs ∧
                    (∀ (x : Value), List.Mem x cs → Value.oneCell' x = true) ∧
                      0 ≤ 0 ∧
                        0 ≤ 0 ∧
                          0 ≤ 0 ∧
                            req ((0 + l3) * 1 ≤ 140737488355328)
                              (∀ (cap' tot' : Nat),
                                0 + l3 ≤ cap' →
                                  cap' * 1 ≤ tot' →
                                    req ((0 : Int) ≤ a5 ∧ a5 < (↑(0 + l3) : Int))
                                      (0 + Int.toNat a5 * 1 + 1 ≤
                                          List.length ([] ++ List.take (l3 * 1) cs) ∧
                                        ∀ (base : Option Addr) (E' : Mem),
                                          Mem.le E E' →
                                            WinE E' base
                                                (layV ([] ++ List.take (l3 * 1) cs)
                                                  (0 + Int.toNat a5 * 1) [Value.int IntKind.u8 a6]) →
                                              Mem.le E E' ∧
                                                K
                                                  (SV.agg
                                                    [SV.raw (Value.int IntKind.i64 a1),
                                                      SV.raw
                                                        (Value.slice
                                                          (Option.map (fun (x : Addr) => Addr.add x 0) base)
                                                          (0 + l3) cap')])
                                                  E'))) ∧
            Sx.Alike (AlikeT.n AlikeT.l AlikeT.l)
              (∃ (cs : List Value),
                (cs = [] ∨ E (Value.slice b2 l3 c4) cs) ∧
                  l3 * 1 ≤ List.length cs ∧
                    (∀ (x : Value), List.Mem x cs → Value.oneCell' x = true) ∧
                      0 ≤ 0 ∧
                        0 ≤ 0 ∧
                          0 ≤ 0 ∧
                            req ((0 + l3) * 1 ≤ 140737488355328)
                              (∀ (cap' tot' : Nat),
                                0 + l3 ≤ cap' →
                                  cap' * 1 ≤ tot' →
                                    req ((0 : Int) ≤ a5 ∧ a5 < (↑(0 + l3) : Int))
                                      (0 + Int.toNat a5 * 1 + 1 ≤
                                          List.length ([] ++ List.take (l3 * 1) cs) ∧
                                        ∀ (base : Option Addr) (E' : Mem),
                                          Mem.le E E' →
                                            WinE E' base
                                                (layV ([] ++ List.take (l3 * 1) cs)
                                                  (0 + Int.toNat a5 * 1) [Value.int IntKind.u8 a6]) →
                                              Mem.le E E' ∧
                                                K
                                                  (SV.agg
                                                    [SV.raw (Value.int IntKind.i64 a1),
                                                      SV.raw
                                                        (Value.slice
                                                          (Option.map (fun (x : Addr) => Addr.add x 0) base)
                                                          (0 + l3) cap')])
                                                  E')))) ∧
        ((((∃ (cs : List Value),
                  (cs = [] ∨ E (Value.slice b2 l3 c4) cs) ∧
                    l3 * 1 ≤ List.length cs ∧
                      (∀ (x : Value), List.Mem x cs → Value.oneCell' x = true) ∧
                        0 ≤ 0 ∧
                          0 ≤ 0 ∧
                            0 ≤ 0 ∧
                              req ((0 + l3) * 1 ≤ 140737488355328)
                                (∀ (cap' tot' : Nat),
                                  0 + l3 ≤ cap' →
                                    cap' * 1 ≤ tot' →
                                      Sx.Alike (AlikeT.n AlikeT.l AlikeT.l)
                                        (req ((0 : Int) ≤ a5 ∧ a5 < (↑(0 + l3) : Int))
                                          (0 + Int.toNat a5 * 1 + 1 ≤
                                              List.length ([] ++ List.take (l3 * 1) cs) ∧
                                            ∀ (base : Option Addr) (E' : Mem),
                                              Mem.le E E' →
                                                WinE E' base
                                                    (layV ([] ++ List.take (l3 * 1) cs)
                                                      (0 + Int.toNat a5 * 1) [Value.int IntKind.u8 a6]) →
                                                  Mem.le E E' ∧
                                                    K
                                                      (SV.agg
                                                        [SV.raw (Value.int IntKind.i64 a1),
                                                          SV.raw
                                                            (Value.slice
                                                              (Option.map (fun (x : Addr) => Addr.add x 0) base)
                                                              (0 + l3) cap')])
                                                      E')))) ∧
                ∃ (cs : List Value),
                  (cs = [] ∨ E (Value.slice b2 l3 c4) cs) ∧
                    l3 * 1 ≤ List.length cs ∧
                      (∀ (x : Value), List.Mem x cs → Value.oneCell' x = true) ∧
                        0 ≤ 0 ∧
                          0 ≤ 0 ∧
                            0 ≤ 0 ∧
                              req ((0 + l3) * 1 ≤ 140737488355328)
                                (∀ (cap' tot' : Nat),
                                  0 + l3 ≤ cap' →
                                    cap' * 1 ≤ tot' →
                                      req ((0 : Int) ≤ a5 ∧ a5 < (↑(0 + l3) : Int))
                                        (0 + Int.toNat a5 * 1 + 1 ≤
                                            List.length ([] ++ List.take (l3 * 1) cs) ∧
                                          ∀ (base : Option Addr) (E' : Mem),
                                            Mem.le E E' →
                                              WinE E' base
                                                  (layV ([] ++ List.take (l3 * 1) cs)
                                                    (0 + Int.toNat a5 * 1) [Value.int IntKind.u8 a6]) →
                                                Mem.le E E' ∧
                                                  K
                                                    (SV.agg
                                                      [SV.raw (Value.int IntKind.i64 a1),
                                                        SV.raw
                                                          (Value.slice
                                                            (Option.map (fun (x : Addr) => Addr.add x 0) base)
                                                            (0 + l3) cap')])
                                                    E'))) ∧
              ∃ (cs : List Value),
                (cs = [] ∨ E (Value.slice b2 l3 c4) cs) ∧
                  l3 * 1 ≤ List.length cs ∧
                    (∀ (x : Value), List.Mem x cs → Value.oneCell' x = true) ∧
                      0 ≤ 0 ∧
                        0 ≤ 0 ∧
                          0 ≤ 0 ∧
                            req ((0 + l3) * 1 ≤ 140737488355328)
                              (∀ (cap' tot' : Nat),
                                0 + l3 ≤ cap' →
                                  cap' * 1 ≤ tot' →
                                    req ((0 : Int) ≤ a5 ∧ a5 < (↑(0 + l3) : Int))
                                      (0 + Int.toNat a5 * 1 + 1 ≤
                                          List.length ([] ++ List.take (l3 * 1) cs) ∧
                                        ∀ (base : Option Addr) (E' : Mem),
                                          Mem.le E E' →
                                            WinE E' base
                                                (layV ([] ++ List.take (l3 * 1) cs)
                                                  (0 + Int.toNat a5 * 1) [Value.int IntKind.u8 a6]) →
                                              Mem.le E E' ∧
                                                K
                                                  (SV.agg
                                                    [SV.raw (Value.int IntKind.i64 a1),
                                                      SV.raw
                                                        (Value.slice
                                                          (Option.map (fun (x : Addr) => Addr.add x 0) base)
                                                          (0 + l3) cap')])
                                                  E'))) ∧
            (((∃ (cs : List Value),
                    (cs = [] ∨ E (Value.slice b2 l3 c4) cs) ∧
                      l3 * 1 ≤ List.length cs ∧
                        (∀ (x : Value), List.Mem x cs → Value.oneCell' x = true) ∧
                          0 ≤ 0 ∧
                            0 ≤ 0 ∧
                              0 ≤ 0 ∧
                                req ((0 + l3) * 1 ≤ 140737488355328)
                                  (∀ (cap' tot' : Nat),
                                    0 + l3 ≤ cap' →
                                      cap' * 1 ≤ tot' →
                                        Sx.Alike (AlikeT.n AlikeT.l AlikeT.l)
                                          (req ((0 : Int) ≤ a5 ∧ a5 < (↑(0 + l3) : Int))
                                            (0 + Int.toNat a5 * 1 + 1 ≤
                                                List.length ([] ++ List.take (l3 * 1) cs) ∧
                                              ∀ (base : Option Addr) (E' : Mem),
                                                Mem.le E E' →
                                                  WinE E' base
                                                      (layV ([] ++ List.take (l3 * 1) cs)
                                                        (0 + Int.toNat a5 * 1) [Value.int IntKind.u8 a6]) →
                                                    Mem.le E E' ∧
                                                      K
                                                        (SV.agg
                                                          [SV.raw (Value.int IntKind.i64 a1),
                                                            SV.raw
                                                              (Value.slice
                                                                (Option.map (fun (x : Addr) => Addr.add x 0) base)
                                                                (0 + l3) cap')])
                                                        E')))) ∧
                  ∃ (cs : List Value),
                    (cs = [] ∨ E (Value.slice b2 l3 c4) cs) ∧
                      l3 * 1 ≤ List.length cs ∧
                        (∀ (x : Value), List.Mem x cs → Value.oneCell' x = true) ∧
                          0 ≤ 0 ∧
                            0 ≤ 0 ∧
                              0 ≤ 0 ∧
                                req ((0 + l3) * 1 ≤ 140737488355328)
                                  (∀ (cap' tot' : Nat),
                                    0 + l3 ≤ cap' →
                                      cap' * 1 ≤ tot' →
                                        req ((0 : Int) ≤ a5 ∧ a5 < (↑(0 + l3) : Int))
                                          (0 + Int.toNat a5 * 1 + 1 ≤
                                              List.length ([] ++ List.take (l3 * 1) cs) ∧
                                            ∀ (base : Option Addr) (E' : Mem),
                                              Mem.le E E' →
                                                WinE E' base
                                                    (layV ([] ++ List.take (l3 * 1) cs)
                                                      (0 + Int.toNat a5 * 1) [Value.int IntKind.u8 a6]) →
                                                  Mem.le E E' ∧
                                                    K
                                                      (SV.agg
                                                        [SV.raw (Value.int IntKind.i64 a1),
                                                          SV.raw
                                                            (Value.slice
                                                              (Option.map (fun (x : Addr) => Addr.add x 0) base)
                                                              (0 + l3) cap')])
                                                      E'))) ∧
                (∃ (cs : List Value),
                    (cs = [] ∨ E (Value.slice b2 l3 c4) cs) ∧
                      l3 * 1 ≤ List.length cs ∧
                        (∀ (x : Value), List.Mem x cs → Value.oneCell' x = true) ∧
                          0 ≤ 0 ∧
                            0 ≤ 0 ∧
                              0 ≤ 0 ∧
                                req ((0 + l3) * 1 ≤ 140737488355328)
                                  (∀ (cap' tot' : Nat),
                                    0 + l3 ≤ cap' →
                                      cap' * 1 ≤ tot' →
                                        Sx.Alike (AlikeT.n (AlikeT.n AlikeT.l AlikeT.l) AlikeT.l)
                                          (req ((0 : Int) ≤ a5 ∧ a5 < (↑(0 + l3) : Int))
                                            (0 + Int.toNat a5 * 1 + 1 ≤
                                                List.length ([] ++ List.take (l3 * 1) cs) ∧
                                              ∀ (base : Option Addr) (E' : Mem),
                                                Mem.le E E' →
                                                  WinE E' base
                                                      (layV ([] ++ List.take (l3 * 1) cs)
                                                        (0 + Int.toNat a5 * 1) [Value.int IntKind.u8 a6]) →
                                                    Mem.le E E' ∧
                                                      K
                                                        (SV.agg
                                                          [SV.raw (Value.int IntKind.i64 a1),
                                                            SV.raw
                                                              (Value.slice
                                                                (Option.map (fun (x : Addr) => Addr.add x 0) base)
                                                                (0 + l3) cap')])
                                                        E')))) ∧
                  Sx.Alike (AlikeT.n AlikeT.l AlikeT.l)
                    (∃ (cs : List Value),
                      (cs = [] ∨ E (Value.slice b2 l3 c4) cs) ∧
                        l3 * 1 ≤ List.length cs ∧
                          (∀ (x : Value), List.Mem x cs → Value.oneCell' x = true) ∧
                            0 ≤ 0 ∧
                              0 ≤ 0 ∧
                                0 ≤ 0 ∧
                                  req ((0 + l3) * 1 ≤ 140737488355328)
                                    (∀ (cap' tot' : Nat),
                                      0 + l3 ≤ cap' →
                                        cap' * 1 ≤ tot' →
                                          req ((0 : Int) ≤ a5 ∧ a5 < (↑(0 + l3) : Int))
                                            (0 + Int.toNat a5 * 1 + 1 ≤
                                                List.length ([] ++ List.take (l3 * 1) cs) ∧
                                              ∀ (base : Option Addr) (E' : Mem),
                                                Mem.le E E' →
                                                  WinE E' base
                                                      (layV ([] ++ List.take (l3 * 1) cs)
                                                        (0 + Int.toNat a5 * 1) [Value.int IntKind.u8 a6]) →
                                                    Mem.le E E' ∧
                                                      K
                                                        (SV.agg
                                                          [SV.raw (Value.int IntKind.i64 a1),
                                                            SV.raw
                                                              (Value.slice
                                                                (Option.map (fun (x : Addr) => Addr.add x 0) base)
                                                                (0 + l3) cap')])
                                                        E')))) ∧
              Sx.Alike (AlikeT.n AlikeT.l AlikeT.l)
                (∃ (cs : List Value),
                  (cs = [] ∨ E (Value.slice b2 l3 c4) cs) ∧
                    l3 * 1 ≤ List.length cs ∧
                      (∀ (x : Value), List.Mem x cs → Value.oneCell' x = true) ∧
                        0 ≤ 0 ∧
                          0 ≤ 0 ∧
                            0 ≤ 0 ∧
                              req ((0 + l3) * 1 ≤ 140737488355328)
                                (∀ (cap' tot' : Nat),
                                  0 + l3 ≤ cap' →
                                    cap' * 1 ≤ tot' →
                                      req ((0 : Int) ≤ a5 ∧ a5 < (↑(0 + l3) : Int))
                                        (0 + Int.toNat a5 * 1 + 1 ≤
                                            List.length ([] ++ List.take (l3 * 1) cs) ∧
                                          ∀ (base : Option Addr) (E' : Mem),
                                            Mem.le E E' →
                                              WinE E' base
                                                  (layV ([] ++ List.take (l3 * 1) cs)
                                                    (0 + Int.toNat a5 * 1) [Value.int IntKind.u8 a6]) →
                                                Mem.le E E' ∧
                                                  K
                                                    (SV.agg
                                                      [SV.raw (Value.int IntKind.i64 a1),
                                                        SV.raw
                                                          (Value.slice
                                                            (Option.map (fun (x : Addr) => Addr.add x 0) base)
                                                            (0 + l3) cap')])
                                                    E')))) ∧
          ((((∃ (cs : List Value),
                    (cs = [] ∨ E (Value.slice b2 l3 c4) cs) ∧
                      l3 * 1 ≤ List.length cs ∧
                        (∀ (x : Value), List.Mem x cs → Value.oneCell' x = true) ∧
                          0 ≤ 0 ∧
                            0 ≤ 0 ∧
                              0 ≤ 0 ∧
                                req ((0 + l3) * 1 ≤ 140737488355328)
                                  (∀ (cap' tot' : Nat),
                                    0 + l3 ≤ cap' →
                                      cap' * 1 ≤ tot' →
                                        Sx.Alike (AlikeT.n AlikeT.l AlikeT.l)
                                          (req ((0 : Int) ≤ a5 ∧ a5 < (↑(0 + l3) : Int))
                                            (0 + Int.toNat a5 * 1 + 1 ≤
                                                List.length ([] ++ List.take (l3 * 1) cs) ∧
                                              ∀ (base : Option Addr) (E' : Mem),
                                                Mem.le E E' →
                                                  WinE E' base
                                                      (layV ([] ++ List.take (l3 * 1) cs)
                                                        (0 + Int.toNat a5 * 1) [Value.int IntKind.u8 a6]) →
                                                    Mem.le E E' ∧
                                                      K
                                                        (SV.agg
                                                          [SV.raw (Value.int IntKind.i64 a1),
                                                            SV.raw
                                                              (Value.slice
                                                                (Option.map (fun (x : Addr) => Addr.add x 0) base)
                                                                (0 + l3) cap')])
                                                        E')))) ∧
                  ∃ (cs : List Value),
                    (cs = [] ∨ E (Value.slice b2 l3 c4) cs) ∧
                      l3 * 1 ≤ List.length cs ∧
                        (∀ (x : Value), List.Mem x cs → Value.oneCell' x = true) ∧
                          0 ≤ 0 ∧
                            0 ≤ 0 ∧
                              0 ≤ 0 ∧
                                req ((0 + l3) * 1 ≤ 140737488355328)
                                  (∀ (cap' tot' : Nat),
                                    0 + l3 ≤ cap' →
                                      cap' * 1 ≤ tot' →
                                        req ((0 : Int) ≤ a5 ∧ a5 < (↑(0 + l3) : Int))
                                          (0 + Int.toNat a5 * 1 + 1 ≤
                                              List.length ([] ++ List.take (l3 * 1) cs) ∧
                                            ∀ (base : Option Addr) (E' : Mem),
                                              Mem.le E E' →
                                                WinE E' base
                                                    (layV ([] ++ List.take (l3 * 1) cs)
                                                      (0 + Int.toNat a5 * 1) [Value.int IntKind.u8 a6]) →
                                                  Mem.le E E' ∧
                                                    K
                                                      (SV.agg
                                                        [SV.raw (Value.int IntKind.i64 a1),
                                                          SV.raw
                                                            (Value.slice
                                                              (Option.map (fun (x : Addr) => Addr.add x 0) base)
                                                              (0 + l3) cap')])
                                                      E'))) ∧
                ∃ (cs : List Value),
                  (cs = [] ∨ E (Value.slice b2 l3 c4) cs) ∧
                    l3 * 1 ≤ List.length cs ∧
                      (∀ (x : Value), List.Mem x cs → Value.oneCell' x = true) ∧
                        0 ≤ 0 ∧
                          0 ≤ 0 ∧
                            0 ≤ 0 ∧
                              req ((0 + l3) * 1 ≤ 140737488355328)
                                (∀ (cap' tot' : Nat),
                                  0 + l3 ≤ cap' →
                                    cap' * 1 ≤ tot' →
                                      req ((0 : Int) ≤ a5 ∧ a5 < (↑(0 + l3) : Int))
                                        (0 + Int.toNat a5 * 1 + 1 ≤
                                            List.length ([] ++ List.take (l3 * 1) cs) ∧
                                          ∀ (base : Option Addr) (E' : Mem),
                                            Mem.le E E' →
                                              WinE E' base
                                                  (layV ([] ++ List.take (l3 * 1) cs)
                                                    (0 + Int.toNat a5 * 1) [Value.int IntKind.u8 a6]) →
                                                Mem.le E E' ∧
                                                  K
                                                    (SV.agg
                                                      [SV.raw (Value.int IntKind.i64 a1),
                                                        SV.raw
                                                          (Value.slice
                                                            (Option.map (fun (x : Addr) => Addr.add x 0) base)
                                                            (0 + l3) cap')])
                                                    E'))) ∧
              (((∃ (cs : List Value),
                      (cs = [] ∨ E (Value.slice b2 l3 c4) cs) ∧
                        l3 * 1 ≤ List.length cs ∧
                          (∀ (x : Value), List.Mem x cs → Value.oneCell' x = true) ∧
                            0 ≤ 0 ∧
                              0 ≤ 0 ∧
                                0 ≤ 0 ∧
                                  req ((0 + l3) * 1 ≤ 140737488355328)
                                    (∀ (cap' tot' : Nat),
                                      0 + l3 ≤ cap' →
                                        cap' * 1 ≤ tot' →
                                          Sx.Alike (AlikeT.n AlikeT.l AlikeT.l)
                                            (req ((0 : Int) ≤ a5 ∧ a5 < (↑(0 + l3) : Int))
                                              (0 + Int.toNat a5 * 1 + 1 ≤
                                                  List.length ([] ++ List.take (l3 * 1) cs) ∧
                                                ∀ (base : Option Addr) (E' : Mem),
                                                  Mem.le E E' →
                                                    WinE E' base
                                                        (layV ([] ++ List.take (l3 * 1) cs)
                                                          (0 + Int.toNat a5 * 1) [Value.int IntKind.u8 a6]) →
                                                      Mem.le E E' ∧
                                                        K
                                                          (SV.agg
                                                            [SV.raw (Value.int IntKind.i64 a1),
                                                              SV.raw
                                                                (Value.slice
                                                                  (Option.map (fun (x : Addr) => Addr.add x 0) base)
                                                                  (0 + l3) cap')])
                                                          E')))) ∧
                    ∃ (cs : List Value),
                      (cs = [] ∨ E (Value.slice b2 l3 c4) cs) ∧
                        l3 * 1 ≤ List.length cs ∧
                          (∀ (x : Value), List.Mem x cs → Value.oneCell' x = true) ∧
                            0 ≤ 0 ∧
                              0 ≤ 0 ∧
                                0 ≤ 0 ∧
                                  req ((0 + l3) * 1 ≤ 140737488355328)
                                    (∀ (cap' tot' : Nat),
                                      0 + l3 ≤ cap' →
                                        cap' * 1 ≤ tot' →
                                          req ((0 : Int) ≤ a5 ∧ a5 < (↑(0 + l3) : Int))
                                            (0 + Int.toNat a5 * 1 + 1 ≤
                                                List.length ([] ++ List.take (l3 * 1) cs) ∧
                                              ∀ (base : Option Addr) (E' : Mem),
                                                Mem.le E E' →
                                                  WinE E' base
                                                      (layV ([] ++ List.take (l3 * 1) cs)
                                                        (0 + Int.toNat a5 * 1) [Value.int IntKind.u8 a6]) →
                                                    Mem.le E E' ∧
                                                      K
                                                        (SV.agg
                                                          [SV.raw (Value.int IntKind.i64 a1),
                                                            SV.raw
                                                              (Value.slice
                                                                (Option.map (fun (x : Addr) => Addr.add x 0) base)
                                                                (0 + l3) cap')])
                                                        E'))) ∧
                  (∃ (cs : List Value),
                      (cs = [] ∨ E (Value.slice b2 l3 c4) cs) ∧
                        l3 * 1 ≤ List.length cs ∧
                          (∀ (x : Value), List.Mem x cs → Value.oneCell' x = true) ∧
                            0 ≤ 0 ∧
                              0 ≤ 0 ∧
                                0 ≤ 0 ∧
                                  req ((0 + l3) * 1 ≤ 140737488355328)
                                    (∀ (cap' tot' : Nat),
                                      0 + l3 ≤ cap' →
                                        cap' * 1 ≤ tot' →
                                          Sx.Alike (AlikeT.n (AlikeT.n AlikeT.l AlikeT.l) AlikeT.l)
                                            (req ((0 : Int) ≤ a5 ∧ a5 < (↑(0 + l3) : Int))
                                              (0 + Int.toNat a5 * 1 + 1 ≤
                                                  List.length ([] ++ List.take (l3 * 1) cs) ∧
                                                ∀ (base : Option Addr) (E' : Mem),
                                                  Mem.le E E' →
                                                    WinE E' base
                                                        (layV ([] ++ List.take (l3 * 1) cs)
                                                          (0 + Int.toNat a5 * 1) [Value.int IntKind.u8 a6]) →
                                                      Mem.le E E' ∧
                                                        K
                                                          (SV.agg
                                                            [SV.raw (Value.int IntKind.i64 a1),
                                                              SV.raw
                                                                (Value.slice
                                                                  (Option.map (fun (x : Addr) => Addr.add x 0) base)
                                                                  (0 + l3) cap')])
                                                          E')))) ∧
                    Sx.Alike (AlikeT.n AlikeT.l AlikeT.l)
                      (∃ (cs : List Value),
                        (cs = [] ∨ E (Value.slice b2 l3 c4) cs) ∧
                          l3 * 1 ≤ List.length cs ∧
                            (∀ (x : Value), List.Mem x cs → Value.oneCell' x = true) ∧
                              0 ≤ 0 ∧
                                0 ≤ 0 ∧
                                  0 ≤ 0 ∧
                                    req ((0 + l3) * 1 ≤ 140737488355328)
                                      (∀ (cap' tot' : Nat),
                                        0 + l3 ≤ cap' →
                                          cap' * 1 ≤ tot' →
                                            req ((0 : Int) ≤ a5 ∧ a5 < (↑(0 + l3) : Int))
                                              (0 + Int.toNat a5 * 1 + 1 ≤
                                                  List.length ([] ++ List.take (l3 * 1) cs) ∧
                                                ∀ (base : Option Addr) (E' : Mem),
                                                  Mem.le E E' →
                                                    WinE E' base
                                                        (layV ([] ++ List.take (l3 * 1) cs)
                                                          (0 + Int.toNat a5 * 1) [Value.int IntKind.u8 a6]) →
                                                      Mem.le E E' ∧
                                                        K
                                                          (SV.agg
                                                            [SV.raw (Value.int IntKind.i64 a1),
                                                              SV.raw
                                                                (Value.slice
                                                                  (Option.map (fun (x : Addr) => Addr.add x 0) base)
                                                                  (0 + l3) cap')])
                                                          E')))) ∧
                Sx.Alike (AlikeT.n AlikeT.l (AlikeT.n AlikeT.l AlikeT.l))
                  (∃ (cs : List Value),
                    (cs = [] ∨ E (Value.slice b2 l3 c4) cs) ∧
                      l3 * 1 ≤ List.length cs ∧
                        (∀ (x : Value), List.Mem x cs → Value.oneCell' x = true) ∧
                          0 ≤ 0 ∧
                            0 ≤ 0 ∧
                              0 ≤ 0 ∧
                                req ((0 + l3) * 1 ≤ 140737488355328)
                                  (∀ (cap' tot' : Nat),
                                    0 + l3 ≤ cap' →
                                      cap' * 1 ≤ tot' →
                                        req ((0 : Int) ≤ a5 ∧ a5 < (↑(0 + l3) : Int))
                                          (0 + Int.toNat a5 * 1 + 1 ≤
                                              List.length ([] ++ List.take (l3 * 1) cs) ∧
                                            ∀ (base : Option Addr) (E' : Mem),
                                              Mem.le E E' →
                                                WinE E' base
                                                    (layV ([] ++ List.take (l3 * 1) cs)
                                                      (0 + Int.toNat a5 * 1) [Value.int IntKind.u8 a6]) →
                                                  Mem.le E E' ∧
                                                    K
                                                      (SV.agg
                                                        [SV.raw (Value.int IntKind.i64 a1),
                                                          SV.raw
                                                            (Value.slice
                                                              (Option.map (fun (x : Addr) => Addr.add x 0) base)
                                                              (0 + l3) cap')])
                                                      E')))) ∧
            Sx.Alike
              (AlikeT.n (AlikeT.n AlikeT.l AlikeT.l)
                (AlikeT.n (AlikeT.n AlikeT.l AlikeT.l) (AlikeT.n AlikeT.l (AlikeT.n AlikeT.l AlikeT.l))))
              (∃ (cs : List Value),
                (cs = [] ∨ E (Value.slice b2 l3 c4) cs) ∧
                  l3 * 1 ≤ List.length cs ∧
                    (∀ (x : Value), List.Mem x cs → Value.oneCell' x = true) ∧
                      0 ≤ 0 ∧
                        0 ≤ 0 ∧
                          0 ≤ 0 ∧
                            req ((0 + l3) * 1 ≤ 140737488355328)
                              (∀ (cap' tot' : Nat),
                                0 + l3 ≤ cap' →
                                  cap' * 1 ≤ tot' →
                                    req ((0 : Int) ≤ a5 ∧ a5 < (↑(0 + l3) : Int))
                                      (0 + Int.toNat a5 * 1 + 1 ≤
                                          List.length ([] ++ List.take (l3 * 1) cs) ∧
                                        ∀ (base : Option Addr) (E' : Mem),
                                          Mem.le E E' →
                                            WinE E' base
                                                (layV ([] ++ List.take (l3 * 1) cs)
                                                  (0 + Int.toNat a5 * 1) [Value.int IntKind.u8 a6]) →
                                              Mem.le E E' ∧
                                                K
                                                  (SV.agg
                                                    [SV.raw (Value.int IntKind.i64 a1),
                                                      SV.raw
                                                        (Value.slice
                                                          (Option.map (fun (x : Addr) => Addr.add x 0) base)
                                                          (0 + l3) cap')])
                                                  E'))))
  have hz := h0.2.1
  obtain ⟨t1, t2, t3⟩ := h0.src
  have e1 : [] ++ List.take (l3 * 1) (zs.map (Value.int .u8)) = vB zs := by rw [List.nil_append, List.take_of_length_le (by simp; omega)]
  have e2 : layV (vB zs) (0 + Int.toNat a5 * 1) [Value.int IntKind.u8 a6] = vB (zs.set (Int.toNat a5) a6) := by
    rw [show 0 + Int.toNat a5 * 1 = Int.toNat a5 by omega, layV_set (by omega)]
  have fin : ∀ (cap' tot' : Nat), 0 + l3 ≤ cap' → req (0 ≤ a5 ∧ a5 < ((0 + l3 : Nat) : Int)) (0 + Int.toNat a5 * 1 + 1 ≤ List.length ([] ++ List.take (l3 * 1) (zs.map (Value.int .u8))) ∧ ∀ (base : Option Addr) (E' : Mem), Mem.le E E' → WinE E' base (layV ([] ++ List.take (l3 * 1) (zs.map (Value.int .u8))) (0 + Int.toNat a5 * 1) [Value.int IntKind.u8 a6]) → Mem.le E E' ∧ K (SV.agg [SV.raw (Value.int IntKind.i64 a1), SV.raw (Value.slice (Option.map (fun (x : Addr) => Addr.add x 0) base) (0 + l3) cap')]) E') := by
    intro cap' tot' c1
    rw [e1, e2]
    refine req_intro (by omega) ⟨by simp; omega, fun base E' hE hW => ⟨hE, h _ _ _ _ E' hE rfl (Bs.win hW rfl (by simp; omega) c1 fun z hz' => ?_)⟩⟩
    rcases List.mem_or_eq_of_mem_set hz' with q | rfl
    · exact h0.2.2.2.1 z q
    · exact h3
  repeat' apply And.intro
  all_goals exact ⟨_, t1, t2, t3, Nat.le_refl _, Nat.le_refl _, Nat.le_refl _, req_intro (by omega) (fun cap' tot' c1 _ => by first | exact fin cap' tot' c1 | exact alike (fin cap' tot' c1))⟩

end Go.Proofs.Ythgdbpnddnbbdaa.FlashOwn
