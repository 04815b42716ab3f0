/- The join package: what its functions answer. -/
import Derived.Test.YthbfpaemiccjcaaJoin9
namespace Go.Proofs.Ythbfpaemiccjcaa.JoinOwn
open Go Go.Sx
set_option maxRecDepth 100000
set_option maxHeartbeats 4000000
set_option linter.unusedVariables false
set_option linter.unusedSimpArgs false
variable {E : Mem} {K : SV → Mem → Prop}
noncomputable def JX : Cx := { P := Try.prog, inl := fun f => List.contains [20] f, tab := tab8, isB := fun _ => false, tabB := fun _ _ _ _ _ => False, opt := { unroll := 0, carry := [], cuts := [3] }, muts := mutsD }
theorem okJX : CxOK JX := CxOK.four tab8_ok (by kernel_rfl) (okInl (by kernel_rfl)) (fun _ _ _ _ _ h => h.elim)
def shX (a1 a2 a3 a4 a5 a6 a7 a8 a9 a10 a11 a12 a13 a14 a15 : Int) (E : Mem) : St := ⟨[none, some (I a6), none, none, some (.loc 0 0), none, some (.loc 1 0), none, some (.loc 2 0), some (.loc 3 0), some (B false), none, none, none, none, none, none, none, none, none, none, none, none, none, none, none, none, none, none, none, none, none, none, none, none, none, none, none, none, none, none, none, none, none, none, none, none, none, none, none, none, none, none, none, none, none, none, none, none, none, none, none, none, none, none, none, none, none, none, none, none, none, none, none, none, none, none, none, none, none, none, none, none, none, none, none, none, none, none, none, none, none, none, none], [⟨23, .lst [I a1, I a2, I a3, I a4, I a5], 5, true⟩, ⟨27, .lst [I a7, I a8, I a9, I a10, I a11, I a12, I a13, I a14], 8, true⟩, ⟨23, .lst [I 0, I 0, I 0, I 0, I 0], 5, true⟩, ⟨27, .lst [I 0, I 0, I 0, I 0, I 0, I 0, I 0, I 0], 8, true⟩], E⟩
theorem pcX {a1 a2 a3 a4 a5 a6 a7 a8 a9 a10 a11 a12 a13 a14 a15 : Int} (hm : Meant a1 a2 a3 a4 a5 a6 a7 a8 a9 a10 a11 a15) (h : ∀ (p' : Int) (s' : Int) (n' : Int) (t' : Int) (r' : Int) (k : Int) (x : Int) (y : Int) (m : Int) (c : Int) (q : Int) (f : Int) (g : Int) (v : Bool), Hyp (hear ⟨a1, a2, a3, a4, a5⟩ a6 ⟨a7, a8, a9, a10, a11, a12, a13, a14⟩ a15 = (⟨p', s', n', t', r'⟩, ⟨k, x, y, m, c, q, f, g⟩, v)) → K (.tup [.agg [I p', I s', I n', I t', I r'], .agg [I k, I x, I y, I m, I c, I q, I f, I g], B v]) E) : Pc JX 6 Try.f14 [1, 1] 0 (pubK E K) (shX a1 a2 a3 a4 a5 a6 a7 a8 a9 a10 a11 a12 a13 a14 a15 E) := by
  refine same (by kernel_rfl) (?_ : 
      let Z0 : SV := (SV.tup [SV.agg [SV.raw (Value.int IntKind.i64 (2 : Int)), SV.raw (Value.int IntKind.i64 a2), SV.raw (Value.int IntKind.i64 a3), SV.raw (Value.int IntKind.i64 a4), SV.raw (Value.int IntKind.i64 a5)], SV.agg [SV.raw (Value.int IntKind.i64 (3 : Int)), SV.raw (Value.int IntKind.i64 a6), SV.raw (Value.int IntKind.i64 a9), SV.raw (Value.int IntKind.i64 a10), SV.raw (Value.int IntKind.i64 a11), SV.raw (Value.int IntKind.i64 (IntKind.wrap IntKind.i64 ((1000000 : Int) + a6))), SV.raw (Value.int IntKind.i64 (0 : Int)), SV.raw (Value.int IntKind.i64 (0 : Int))], SV.raw (Value.bool true)])
      let Z1 : SV := (SV.tup [SV.agg [SV.raw (Value.int IntKind.i64 a1), SV.raw (Value.int IntKind.i64 a2), SV.raw (Value.int IntKind.i64 a3), SV.raw (Value.int IntKind.i64 a4), SV.raw (Value.int IntKind.i64 a5)], SV.agg [SV.raw (Value.int IntKind.i64 (0 : Int)), SV.raw (Value.int IntKind.i64 (0 : Int)), SV.raw (Value.int IntKind.i64 (0 : Int)), SV.raw (Value.int IntKind.i64 (0 : Int)), SV.raw (Value.int IntKind.i64 (0 : Int)), SV.raw (Value.int IntKind.i64 (0 : Int)), SV.raw (Value.int IntKind.i64 (0 : Int)), SV.raw (Value.int IntKind.i64 (0 : Int))], SV.raw (Value.bool false)])
      bif a7 == (2 : Int) then
        bif a1 == (1 : Int) then
          (((Mem.le E E ∧
                  Mem.le E E ∧
                  K Z0 E) ∧
                Mem.le E E ∧
                  Sx.Alike (AlikeT.n AlikeT.l AlikeT.l)
                  (Mem.le E E ∧
                  K Z0 E)) ∧
              ((Mem.le E E ∧
                  Mem.le E E ∧
                  K Z0 E) ∧
                  Mem.le E E ∧
                  Sx.Alike (AlikeT.n AlikeT.l AlikeT.l)
                  (Mem.le E E ∧
                  K Z0 E)) ∧
                Mem.le E E ∧
                  Sx.Alike (AlikeT.n (AlikeT.n AlikeT.l AlikeT.l) (AlikeT.n (AlikeT.n AlikeT.l AlikeT.l) AlikeT.l))
                  (Mem.le E E ∧
                  K Z0 E)) ∧
            (((Mem.le E E ∧
                  Mem.le E E ∧
                  K Z0 E) ∧
                  Mem.le E E ∧
                  Sx.Alike (AlikeT.n AlikeT.l AlikeT.l)
                  (Mem.le E E ∧
                  K Z0 E)) ∧
                ((Mem.le E E ∧
                  Mem.le E E ∧
                  K Z0 E) ∧
                  Mem.le E E ∧
                  Sx.Alike (AlikeT.n AlikeT.l AlikeT.l)
                  (Mem.le E E ∧
                  K Z0 E)) ∧
                  Mem.le E E ∧
                  Sx.Alike (AlikeT.n (AlikeT.n AlikeT.l AlikeT.l) (AlikeT.n (AlikeT.n AlikeT.l AlikeT.l) AlikeT.l))
                  (Mem.le E E ∧
                  K Z0 E)) ∧
              (((Mem.le E E ∧
                  Mem.le E E ∧
                  K Z0 E) ∧
                  Mem.le E E ∧
                  Sx.Alike (AlikeT.n AlikeT.l AlikeT.l)
                  (Mem.le E E ∧
                  K Z0 E)) ∧
                  ((Mem.le E E ∧
                  Mem.le E E ∧
                  K Z0 E) ∧
                  Mem.le E E ∧
                  Sx.Alike (AlikeT.n AlikeT.l AlikeT.l)
                  (Mem.le E E ∧
                  K Z0 E)) ∧
                  Mem.le E E ∧
                  Sx.Alike (AlikeT.n (AlikeT.n AlikeT.l AlikeT.l) (AlikeT.n (AlikeT.n AlikeT.l AlikeT.l) AlikeT.l))
                  (Mem.le E E ∧
                  K Z0 E)) ∧
                Mem.le E E ∧
                  Sx.Alike
                  (AlikeT.n (AlikeT.n (AlikeT.n AlikeT.l AlikeT.l) (AlikeT.n (AlikeT.n AlikeT.l AlikeT.l) AlikeT.l))
                  (AlikeT.n (AlikeT.n (AlikeT.n AlikeT.l AlikeT.l) (AlikeT.n (AlikeT.n AlikeT.l AlikeT.l) AlikeT.l))
                  (AlikeT.n (AlikeT.n (AlikeT.n AlikeT.l AlikeT.l) (AlikeT.n (AlikeT.n AlikeT.l AlikeT.l) AlikeT.l))
                  AlikeT.l)))
                  (Mem.le E E ∧
                  K Z0 E)
        else
          bif bif true then bif false then true else a1 == (2 : Int) else false then
            (((Mem.le E E ∧
                  Mem.le E E ∧
                  K Z0 E) ∧
                  Mem.le E E ∧
                  Sx.Alike (AlikeT.n AlikeT.l AlikeT.l)
                  (Mem.le E E ∧
                  K Z0 E)) ∧
                ((Mem.le E E ∧
                  Mem.le E E ∧
                  K Z0 E) ∧
                  Mem.le E E ∧
                  Sx.Alike (AlikeT.n AlikeT.l AlikeT.l)
                  (Mem.le E E ∧
                  K Z0 E)) ∧
                  Mem.le E E ∧
                  Sx.Alike (AlikeT.n (AlikeT.n AlikeT.l AlikeT.l) (AlikeT.n (AlikeT.n AlikeT.l AlikeT.l) AlikeT.l))
                  (Mem.le E E ∧
                  K Z0 E)) ∧
              (((Mem.le E E ∧
                  Mem.le E E ∧
                  K Z0 E) ∧
                  Mem.le E E ∧
                  Sx.Alike (AlikeT.n AlikeT.l AlikeT.l)
                  (Mem.le E E ∧
                  K Z0 E)) ∧
                  ((Mem.le E E ∧
                  Mem.le E E ∧
                  K Z0 E) ∧
                  Mem.le E E ∧
                  Sx.Alike (AlikeT.n AlikeT.l AlikeT.l)
                  (Mem.le E E ∧
                  K Z0 E)) ∧
                  Mem.le E E ∧
                  Sx.Alike (AlikeT.n (AlikeT.n AlikeT.l AlikeT.l) (AlikeT.n (AlikeT.n AlikeT.l AlikeT.l) AlikeT.l))
                  (Mem.le E E ∧
                  K Z0 E)) ∧
                (((Mem.le E E ∧
                  Mem.le E E ∧
                  K Z0 E) ∧
                  Mem.le E E ∧
                  Sx.Alike (AlikeT.n AlikeT.l AlikeT.l)
                  (Mem.le E E ∧
                  K Z0 E)) ∧
                  ((Mem.le E E ∧
                  Mem.le E E ∧
                  K Z0 E) ∧
                  Mem.le E E ∧
                  Sx.Alike (AlikeT.n AlikeT.l AlikeT.l)
                  (Mem.le E E ∧
                  K Z0 E)) ∧
                  Mem.le E E ∧
                  Sx.Alike (AlikeT.n (AlikeT.n AlikeT.l AlikeT.l) (AlikeT.n (AlikeT.n AlikeT.l AlikeT.l) AlikeT.l))
                  (Mem.le E E ∧
                  K Z0 E)) ∧
                  Mem.le E E ∧
                  Sx.Alike
                  (AlikeT.n (AlikeT.n (AlikeT.n AlikeT.l AlikeT.l) (AlikeT.n (AlikeT.n AlikeT.l AlikeT.l) AlikeT.l))
                  (AlikeT.n (AlikeT.n (AlikeT.n AlikeT.l AlikeT.l) (AlikeT.n (AlikeT.n AlikeT.l AlikeT.l) AlikeT.l))
                  (AlikeT.n (AlikeT.n (AlikeT.n AlikeT.l AlikeT.l) (AlikeT.n (AlikeT.n AlikeT.l AlikeT.l) AlikeT.l))
                  AlikeT.l)))
                  (Mem.le E E ∧
                  K Z0 E)
          else
            bif a7 == (4 : Int) then
              bif bif true then a1 == (2 : Int) else false then
                Mem.le E E ∧
                  bif bif true then a12 == IntKind.wrap IntKind.i64 ((1000000 : Int) + a6) else false then
                  Mem.le E E ∧
                  K
                  (SV.tup
                  [SV.agg
                  [SV.raw (Value.int IntKind.i64 (3 : Int)), SV.raw (Value.int IntKind.i64 a2),
                  SV.raw (Value.int IntKind.i64 a3), SV.raw (Value.int IntKind.i64 a4),
                  SV.raw (Value.int IntKind.i64 a5)],
                  SV.agg
                  [SV.raw (Value.int IntKind.i64 (0 : Int)), SV.raw (Value.int IntKind.i64 (0 : Int)),
                  SV.raw (Value.int IntKind.i64 (0 : Int)), SV.raw (Value.int IntKind.i64 (0 : Int)),
                  SV.raw (Value.int IntKind.i64 (0 : Int)), SV.raw (Value.int IntKind.i64 (0 : Int)),
                  SV.raw (Value.int IntKind.i64 (0 : Int)), SV.raw (Value.int IntKind.i64 (0 : Int))],
                  SV.raw (Value.bool true)])
                  E
                  else
                  Mem.le E E ∧
                  K Z1 E
              else
                Mem.le E E ∧
                  K Z1 E
            else
              Mem.le E E ∧
                K Z1 E
      else
        bif a7 == (4 : Int) then
          bif bif true then a1 == (2 : Int) else false then
            Mem.le E E ∧
              bif bif true then a12 == IntKind.wrap IntKind.i64 ((1000000 : Int) + a6) else false then
                Mem.le E E ∧
                  K
                  (SV.tup
                  [SV.agg
                  [SV.raw (Value.int IntKind.i64 (3 : Int)), SV.raw (Value.int IntKind.i64 a2),
                  SV.raw (Value.int IntKind.i64 a3), SV.raw (Value.int IntKind.i64 a4),
                  SV.raw (Value.int IntKind.i64 a5)],
                  SV.agg
                  [SV.raw (Value.int IntKind.i64 (0 : Int)), SV.raw (Value.int IntKind.i64 (0 : Int)),
                  SV.raw (Value.int IntKind.i64 (0 : Int)), SV.raw (Value.int IntKind.i64 (0 : Int)),
                  SV.raw (Value.int IntKind.i64 (0 : Int)), SV.raw (Value.int IntKind.i64 (0 : Int)),
                  SV.raw (Value.int IntKind.i64 (0 : Int)), SV.raw (Value.int IntKind.i64 (0 : Int))],
                  SV.raw (Value.bool true)])
                  E
              else
                Mem.le E E ∧
                  K Z1 E
          else
            Mem.le E E ∧
              K Z1 E
        else
          Mem.le E E ∧
            K Z1 E)
  intro Z0 Z1
  obtain ⟨hv, hf, h1, h2, rfl, rfl, rfl⟩ := hm
  have hm : Meant a1 a9 a10 a4 a5 a8 a7 a8 a9 a10 a11 a15 := ⟨hv, hf, h1, h2, rfl, rfl, rfl⟩
  have w := ownW (x := a8) ⟨hf.1, hf.2.1⟩
  have k2 : a7 = 2 → (a1 = 1 ∨ a1 = 2) → K (SV.tup [SV.agg [I 2, I a9, I a10, I a4, I a5], SV.agg [I 3, I a8, I a9, I a10, I a11, I (IntKind.wrap .i64 (1000000 + a8)), I 0, I 0], B true]) E := fun q1 q2 => by
    rw [w]
    exact h _ _ _ _ _ _ _ _ _ _ _ _ _ _ (show hear ⟨a1, a9, a10, a4, a5⟩ a8 ⟨a7, a8, a9, a10, a11, a12, a13, a14⟩ a15 = (⟨2, a9, a10, a4, a5⟩, ⟨3, a8, a9, a10, a11, a8 + 1000000, 0, 0⟩, true) by unfold hear; rw [if_pos hm, if_pos ⟨q1, q2⟩])
  have k4 : ¬ (a7 = 2 ∧ (a1 = 1 ∨ a1 = 2)) → a7 = 4 → a1 = 2 → a12 = a8 + 1000000 → K (SV.tup [SV.agg [I 3, I a9, I a10, I a4, I a5], SV.agg [I 0, I 0, I 0, I 0, I 0, I 0, I 0, I 0], B true]) E := fun q0 q1 q2 q3 =>
    h _ _ _ _ _ _ _ _ _ _ _ _ _ _ (show hear ⟨a1, a9, a10, a4, a5⟩ a8 ⟨a7, a8, a9, a10, a11, a12, a13, a14⟩ a15 = (⟨3, a9, a10, a4, a5⟩, ⟨0, 0, 0, 0, 0, 0, 0, 0⟩, true) by unfold hear; rw [if_pos hm, if_neg q0, if_pos ⟨q1, q2, q3⟩]; rfl)
  have kN : ¬ (a7 = 2 ∧ (a1 = 1 ∨ a1 = 2)) → ¬ (a7 = 4 ∧ a1 = 2 ∧ a12 = a8 + 1000000) → K (SV.tup [SV.agg [I a1, I a9, I a10, I a4, I a5], SV.agg [I 0, I 0, I 0, I 0, I 0, I 0, I 0, I 0], B false]) E := fun q0 q1 =>
    h _ _ _ _ _ _ _ _ _ _ _ _ _ _ (show hear ⟨a1, a9, a10, a4, a5⟩ a8 ⟨a7, a8, a9, a10, a11, a12, a13, a14⟩ a15 = (⟨a1, a9, a10, a4, a5⟩, ⟨0, 0, 0, 0, 0, 0, 0, 0⟩, false) by unfold hear; rw [if_pos hm, if_neg q0, if_neg q1]; rfl)
  refine condC (fun g => ?_) (fun g => ?_)
  · have g : a7 = 2 := by simpa using g
    refine condC (fun g1 => ?_) (fun g1 => condC (fun g2 => ?_) (fun g2 => ?_))
    · have k := k2 g (.inl (by simpa using g1))
      repeat' first | exact Mem.le_refl _ | exact k | exact alike ⟨Mem.le_refl _, k⟩ | refine And.intro ?_ ?_
    · have k := k2 g (.inr (by simpa using g2))
      repeat' first | exact Mem.le_refl _ | exact k | exact alike ⟨Mem.le_refl _, k⟩ | refine And.intro ?_ ?_
    · have k := kN (by simp at g1 g2; omega) (by omega)
      exact condC (fun q => by simp at q; omega) (fun q => ⟨Mem.le_refl _, k⟩)
  · have g : ¬ a7 = 2 := by simpa using g
    refine condC (fun g1 => condC (fun g2 => ⟨Mem.le_refl _, condC (fun g3 => ⟨Mem.le_refl _, ?_⟩) (fun g3 => ⟨Mem.le_refl _, ?_⟩)⟩) (fun g2 => ⟨Mem.le_refl _, ?_⟩)) (fun g1 => ⟨Mem.le_refl _, ?_⟩)
    · have g3 : a12 = IntKind.wrap .i64 (1000000 + a8) := by simpa using g3
      exact k4 (by omega) (by simpa using g1) (by simpa using g2) (by rw [g3, w])
    · have g3 : ¬ a12 = IntKind.wrap .i64 (1000000 + a8) := by simpa using g3
      rw [w] at g3
      exact kN (by omega) (by omega)
    · exact kN (by omega) (by simp at g2; omega)
    · exact kN (by omega) (by simp at g1; omega)
theorem v14 {a1 : Int} {a2 : Int} {a3 : Int} {a4 : Int} {a5 : Int} {a6 : Int} {a7 : Int} {a8 : Int} {a9 : Int} {a10 : Int} {a11 : Int} {a12 : Int} {a13 : Int} {a14 : Int} {a15 : Int} (h : ∀ (p' : Int) (s' : Int) (n' : Int) (t' : Int) (r' : Int) (k : Int) (x : Int) (y : Int) (m : Int) (c : Int) (q : Int) (f : Int) (g : Int) (v : Bool), Hyp (hear ⟨a1, a2, a3, a4, a5⟩ a6 ⟨a7, a8, a9, a10, a11, a12, a13, a14⟩ a15 = (⟨p', s', n', t', r'⟩, ⟨k, x, y, m, c, q, f, g⟩, v)) → K (.tup [.agg [I p', I s', I n', I t', I r'], .agg [I k, I x, I y, I m, I c, I q, I f, I g], B v]) E) :
    Ent JX 6 Try.f14 [.agg [I a1, I a2, I a3, I a4, I a5], I a6, .agg [I a7, I a8, I a9, I a10, I a11, I a12, I a13, I a14], I a15] E K := by
  refine same (by kernel_rfl) (?_ : 
      Mem.le E E ∧
        bif !decide (VJ a1 a2 a3 a4 a5) then
          Mem.le E E ∧
            K
              (SV.tup
                [SV.agg
                    [SV.raw (Value.int IntKind.i64 a1), SV.raw (Value.int IntKind.i64 a2), SV.raw (Value.int IntKind.i64 a3),
                      SV.raw (Value.int IntKind.i64 a4), SV.raw (Value.int IntKind.i64 a5)],
                  SV.agg
                    [SV.raw (Value.int IntKind.i64 (0 : Int)), SV.raw (Value.int IntKind.i64 (0 : Int)),
                      SV.raw (Value.int IntKind.i64 (0 : Int)), SV.raw (Value.int IntKind.i64 (0 : Int)),
                      SV.raw (Value.int IntKind.i64 (0 : Int)), SV.raw (Value.int IntKind.i64 (0 : Int)),
                      SV.raw (Value.int IntKind.i64 (0 : Int)), SV.raw (Value.int IntKind.i64 (0 : Int))],
                  SV.raw (Value.bool false)])
              E
        else
          Mem.le E E ∧
            bif bif false then true else !decide (FW a7 a8 a9 a10 a11) then
              Mem.le E E ∧
                K
                  (SV.tup
                    [SV.agg
                        [SV.raw (Value.int IntKind.i64 a1), SV.raw (Value.int IntKind.i64 a2),
                          SV.raw (Value.int IntKind.i64 a3), SV.raw (Value.int IntKind.i64 a4),
                          SV.raw (Value.int IntKind.i64 a5)],
                      SV.agg
                        [SV.raw (Value.int IntKind.i64 (0 : Int)), SV.raw (Value.int IntKind.i64 (0 : Int)),
                          SV.raw (Value.int IntKind.i64 (0 : Int)), SV.raw (Value.int IntKind.i64 (0 : Int)),
                          SV.raw (Value.int IntKind.i64 (0 : Int)), SV.raw (Value.int IntKind.i64 (0 : Int)),
                          SV.raw (Value.int IntKind.i64 (0 : Int)), SV.raw (Value.int IntKind.i64 (0 : Int))],
                      SV.raw (Value.bool false)])
                  E
            else
              bif bif false then true else decide (a15 < (0 : Int)) then
                Mem.le E E ∧
                  K
                    (SV.tup
                      [SV.agg
                          [SV.raw (Value.int IntKind.i64 a1), SV.raw (Value.int IntKind.i64 a2),
                            SV.raw (Value.int IntKind.i64 a3), SV.raw (Value.int IntKind.i64 a4),
                            SV.raw (Value.int IntKind.i64 a5)],
                        SV.agg
                          [SV.raw (Value.int IntKind.i64 (0 : Int)), SV.raw (Value.int IntKind.i64 (0 : Int)),
                            SV.raw (Value.int IntKind.i64 (0 : Int)), SV.raw (Value.int IntKind.i64 (0 : Int)),
                            SV.raw (Value.int IntKind.i64 (0 : Int)), SV.raw (Value.int IntKind.i64 (0 : Int)),
                            SV.raw (Value.int IntKind.i64 (0 : Int)), SV.raw (Value.int IntKind.i64 (0 : Int))],
                        SV.raw (Value.bool false)])
                    E
              else
                bif bif false then true else decide (a15 > (1000000000 : Int)) then
                  Mem.le E E ∧
                    K
                      (SV.tup
                        [SV.agg
                            [SV.raw (Value.int IntKind.i64 a1), SV.raw (Value.int IntKind.i64 a2),
                              SV.raw (Value.int IntKind.i64 a3), SV.raw (Value.int IntKind.i64 a4),
                              SV.raw (Value.int IntKind.i64 a5)],
                          SV.agg
                            [SV.raw (Value.int IntKind.i64 (0 : Int)), SV.raw (Value.int IntKind.i64 (0 : Int)),
                              SV.raw (Value.int IntKind.i64 (0 : Int)), SV.raw (Value.int IntKind.i64 (0 : Int)),
                              SV.raw (Value.int IntKind.i64 (0 : Int)), SV.raw (Value.int IntKind.i64 (0 : Int)),
                              SV.raw (Value.int IntKind.i64 (0 : Int)), SV.raw (Value.int IntKind.i64 (0 : Int))],
                          SV.raw (Value.bool false)])
                      E
                else
                  bif bif false then true else a8 != a6 then
                    Mem.le E E ∧
                      K
                        (SV.tup
                          [SV.agg
                              [SV.raw (Value.int IntKind.i64 a1), SV.raw (Value.int IntKind.i64 a2),
                                SV.raw (Value.int IntKind.i64 a3), SV.raw (Value.int IntKind.i64 a4),
                                SV.raw (Value.int IntKind.i64 a5)],
                            SV.agg
                              [SV.raw (Value.int IntKind.i64 (0 : Int)), SV.raw (Value.int IntKind.i64 (0 : Int)),
                                SV.raw (Value.int IntKind.i64 (0 : Int)), SV.raw (Value.int IntKind.i64 (0 : Int)),
                                SV.raw (Value.int IntKind.i64 (0 : Int)), SV.raw (Value.int IntKind.i64 (0 : Int)),
                                SV.raw (Value.int IntKind.i64 (0 : Int)), SV.raw (Value.int IntKind.i64 (0 : Int))],
                            SV.raw (Value.bool false)])
                        E
                  else
                    bif bif false then true else a9 != a2 then
                      Mem.le E E ∧
                        K
                          (SV.tup
                            [SV.agg
                                [SV.raw (Value.int IntKind.i64 a1), SV.raw (Value.int IntKind.i64 a2),
                                  SV.raw (Value.int IntKind.i64 a3), SV.raw (Value.int IntKind.i64 a4),
                                  SV.raw (Value.int IntKind.i64 a5)],
                              SV.agg
                                [SV.raw (Value.int IntKind.i64 (0 : Int)), SV.raw (Value.int IntKind.i64 (0 : Int)),
                                  SV.raw (Value.int IntKind.i64 (0 : Int)), SV.raw (Value.int IntKind.i64 (0 : Int)),
                                  SV.raw (Value.int IntKind.i64 (0 : Int)), SV.raw (Value.int IntKind.i64 (0 : Int)),
                                  SV.raw (Value.int IntKind.i64 (0 : Int)), SV.raw (Value.int IntKind.i64 (0 : Int))],
                              SV.raw (Value.bool false)])
                          E
                    else
                      bif bif false then true else a10 != a3 then
                        Mem.le E E ∧
                          K
                            (SV.tup
                              [SV.agg
                                  [SV.raw (Value.int IntKind.i64 a1), SV.raw (Value.int IntKind.i64 a2),
                                    SV.raw (Value.int IntKind.i64 a3), SV.raw (Value.int IntKind.i64 a4),
                                    SV.raw (Value.int IntKind.i64 a5)],
                                SV.agg
                                  [SV.raw (Value.int IntKind.i64 (0 : Int)), SV.raw (Value.int IntKind.i64 (0 : Int)),
                                    SV.raw (Value.int IntKind.i64 (0 : Int)), SV.raw (Value.int IntKind.i64 (0 : Int)),
                                    SV.raw (Value.int IntKind.i64 (0 : Int)), SV.raw (Value.int IntKind.i64 (0 : Int)),
                                    SV.raw (Value.int IntKind.i64 (0 : Int)), SV.raw (Value.int IntKind.i64 (0 : Int))],
                                SV.raw (Value.bool false)])
                            E
                      else
                        Ct JX 6 Try.f14 [1, 1] 0 (pubK E K)
                          {
                            fr :=
                              [some
                                  (SV.agg
                                    [SV.raw (Value.int IntKind.i64 a1), SV.raw (Value.int IntKind.i64 a2),
                                      SV.raw (Value.int IntKind.i64 a3), SV.raw (Value.int IntKind.i64 a4),
                                      SV.raw (Value.int IntKind.i64 a5)]),
                                some (SV.raw (Value.int IntKind.i64 a6)),
                                some
                                  (SV.agg
                                    [SV.raw (Value.int IntKind.i64 a7), SV.raw (Value.int IntKind.i64 a8),
                                      SV.raw (Value.int IntKind.i64 a9), SV.raw (Value.int IntKind.i64 a10),
                                      SV.raw (Value.int IntKind.i64 a11), SV.raw (Value.int IntKind.i64 a12),
                                      SV.raw (Value.int IntKind.i64 a13), SV.raw (Value.int IntKind.i64 a14)]),
                                some (SV.raw (Value.int IntKind.i64 a15)), some (SV.loc 0 0), none,
                                some (SV.loc 1 0), none, some (SV.loc 2 0),
                                some (SV.loc 3 0), some (SV.raw (Value.bool false)),
                                some
                                  (SV.agg
                                    [SV.raw (Value.int IntKind.i64 a1), SV.raw (Value.int IntKind.i64 a2),
                                      SV.raw (Value.int IntKind.i64 a3), SV.raw (Value.int IntKind.i64 a4),
                                      SV.raw (Value.int IntKind.i64 a5)]),
                                some (SV.raw (Value.bool (decide (VJ a1 a2 a3 a4 a5)))),
                                some (SV.raw (Value.bool !decide (VJ a1 a2 a3 a4 a5))), some (SV.raw (Value.bool false)),
                                some
                                  (SV.agg
                                    [SV.raw (Value.int IntKind.i64 a7), SV.raw (Value.int IntKind.i64 a8),
                                      SV.raw (Value.int IntKind.i64 a9), SV.raw (Value.int IntKind.i64 a10),
                                      SV.raw (Value.int IntKind.i64 a11), SV.raw (Value.int IntKind.i64 a12),
                                      SV.raw (Value.int IntKind.i64 a13), SV.raw (Value.int IntKind.i64 a14)]),
                                some (SV.raw (Value.bool (decide (FW a7 a8 a9 a10 a11)))),
                                some (SV.raw (Value.bool !decide (FW a7 a8 a9 a10 a11))),
                                some (SV.raw (Value.bool (bif false then true else !decide (FW a7 a8 a9 a10 a11)))),
                                some (SV.raw (Value.bool false)), some (SV.raw (Value.int IntKind.i64 a15)),
                                some (SV.raw (Value.bool (decide (a15 < (0 : Int))))),
                                some (SV.raw (Value.bool (bif false then true else decide (a15 < (0 : Int))))),
                                some (SV.raw (Value.bool false)), some (SV.raw (Value.int IntKind.i64 a15)),
                                some (SV.raw (Value.bool (decide (a15 > (1000000000 : Int))))),
                                some (SV.raw (Value.bool (bif false then true else decide (a15 > (1000000000 : Int))))),
                                some (SV.raw (Value.bool false)), some (SV.loc 1 1),
                                some (SV.raw (Value.int IntKind.i64 a8)), some (SV.raw (Value.int IntKind.i64 a6)),
                                some (SV.raw (Value.bool (a8 != a6))),
                                some (SV.raw (Value.bool (bif false then true else a8 != a6))),
                                some (SV.raw (Value.bool false)), some (SV.loc 1 2),
                                some (SV.raw (Value.int IntKind.i64 a9)), some (SV.loc 0 1),
                                some (SV.raw (Value.int IntKind.i64 a2)), some (SV.raw (Value.bool (a9 != a2))),
                                some (SV.raw (Value.bool (bif false then true else a9 != a2))),
                                some (SV.raw (Value.bool false)), some (SV.loc 1 3),
                                some (SV.raw (Value.int IntKind.i64 a10)), some (SV.loc 0 2),
                                some (SV.raw (Value.int IntKind.i64 a3)), some (SV.raw (Value.bool (a10 != a3))),
                                some (SV.raw (Value.bool (bif false then true else a10 != a3))), none, none, none, none, none,
                                none, none, none, none, none, none, none, none, none, none, none, none, none, none, none,
                                none, none, none, none, none, none, none, none, none, none, none, none, none, none, none,
                                none, none, none, none, none, none, none, none, none, none, none, none],
                            bx :=
                              [{ elem := 23,
                                  row :=
                                    Row.lst
                                      [SV.raw (Value.int IntKind.i64 a1), SV.raw (Value.int IntKind.i64 a2),
                                        SV.raw (Value.int IntKind.i64 a3), SV.raw (Value.int IntKind.i64 a4),
                                        SV.raw (Value.int IntKind.i64 a5)],
                                  total := 5, own := true : Box },
                                { elem := 27,
                                  row :=
                                    Row.lst
                                      [SV.raw (Value.int IntKind.i64 a7), SV.raw (Value.int IntKind.i64 a8),
                                        SV.raw (Value.int IntKind.i64 a9), SV.raw (Value.int IntKind.i64 a10),
                                        SV.raw (Value.int IntKind.i64 a11), SV.raw (Value.int IntKind.i64 a12),
                                        SV.raw (Value.int IntKind.i64 a13), SV.raw (Value.int IntKind.i64 a14)],
                                  total := 8, own := true : Box },
                                { elem := 23,
                                  row :=
                                    Row.lst
                                      [SV.raw (Value.int IntKind.i64 (0 : Int)), SV.raw (Value.int IntKind.i64 (0 : Int)),
                                        SV.raw (Value.int IntKind.i64 (0 : Int)), SV.raw (Value.int IntKind.i64 (0 : Int)),
                                        SV.raw (Value.int IntKind.i64 (0 : Int))],
                                  total := 5, own := true : Box },
                                { elem := 27,
                                  row :=
                                    Row.lst
                                      [SV.raw (Value.int IntKind.i64 (0 : Int)), SV.raw (Value.int IntKind.i64 (0 : Int)),
                                        SV.raw (Value.int IntKind.i64 (0 : Int)), SV.raw (Value.int IntKind.i64 (0 : Int)),
                                        SV.raw (Value.int IntKind.i64 (0 : Int)), SV.raw (Value.int IntKind.i64 (0 : Int)),
                                        SV.raw (Value.int IntKind.i64 (0 : Int)), SV.raw (Value.int IntKind.i64 (0 : Int))],
                                  total := 8, own := true : Box }],
                            E := E : St })
  have no : ¬ Meant a1 a2 a3 a4 a5 a6 a7 a8 a9 a10 a11 a15 → K (SV.tup [SV.agg [I a1, I a2, I a3, I a4, I a5], SV.agg [I 0, I 0, I 0, I 0, I 0, I 0, I 0, I 0], B false]) E := fun q =>
    h _ _ _ _ _ _ _ _ _ _ _ _ _ _ (show hear ⟨a1, a2, a3, a4, a5⟩ a6 ⟨a7, a8, a9, a10, a11, a12, a13, a14⟩ a15 = (⟨a1, a2, a3, a4, a5⟩, ⟨0, 0, 0, 0, 0, 0, 0, 0⟩, false) by unfold hear; rw [if_neg q]; rfl)
  refine ⟨Mem.le_refl _, condC (fun g => ⟨Mem.le_refl _, no (fun q => ?_)⟩) (fun g1 => ⟨Mem.le_refl _, condC (fun g => ⟨Mem.le_refl _, no (fun q => ?_)⟩) (fun g2 => condC (fun g => ⟨Mem.le_refl _, no (fun q => ?_)⟩) (fun g3 => condC (fun g => ⟨Mem.le_refl _, no (fun q => ?_)⟩) (fun g4 => condC (fun g => ⟨Mem.le_refl _, no (fun q => ?_)⟩) (fun g5 => condC (fun g => ⟨Mem.le_refl _, no (fun q => ?_)⟩) (fun g6 => condC (fun g => ⟨Mem.le_refl _, no (fun q => ?_)⟩) (fun g7 => ?_))))))⟩)⟩
  · simp [q.1] at g
  · simp [q.2.1] at g
  · have := q.2.2.1; simp at g; omega
  · have := q.2.2.2.1; simp at g; omega
  · have := q.2.2.2.2.1; simp at g; omega
  · have := q.2.2.2.2.2.1; simp at g; omega
  · have := q.2.2.2.2.2.2; simp at g; omega
  have hm : Meant a1 a2 a3 a4 a5 a6 a7 a8 a9 a10 a11 a15 := ⟨by simpa using g1, by simpa using g2, by simp at g3; omega, by simp at g4; omega, by simp at g5; omega, by simp at g6; omega, by simp at g7; omega⟩
  exact Ct_from (by repeat' first | exact True.intro | refine And.intro rfl ?_) (Ct_intro okJX (pcX hm h))

end Go.Proofs.Ythbfpaemiccjcaa.JoinOwn
