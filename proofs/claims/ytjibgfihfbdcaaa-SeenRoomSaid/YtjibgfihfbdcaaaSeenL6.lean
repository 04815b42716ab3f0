/- The law SeenRoom. -/
import Derived.Test.YtjibgfihfbdcaaaSeen16
import Derived.OpenShut
import Derived.Test.YtjibgfihfbdcaaaRows
namespace Go.Proofs.Ytjibgfihfbdcaaa.SeenOwn
open Go Go.Sx Go.Proofs.Ytjibgfihfbdcaaa
set_option maxRecDepth 100000
set_option maxHeartbeats 4000000
set_option linter.unusedVariables false
set_option linter.unusedSimpArgs false
variable {E : Mem} {K : SV → Mem → Prop}
noncomputable def tabL6 : FuncId → List SV → Mem → (SV → Mem → Prop) → Prop := fun f args E K => match f with
  | 9 => d0 args ((∀ (E' : Mem), Mem.le E E' → K (B true) E'))
  | 10 => d1 args fun x0 => dS x0 fun b1 l2 c3 => ∃ (xs : List Sn), SS E b1 l2 c3 xs ∧ (∀ x ∈ xs, x.2.length ≤ 9223372036854775807) ∧ (K (B (decide (fewS xs))) E)
  | 14 => d1 args fun x0 => dS x0 fun b1 l2 c3 => ∃ (xs : List Sn), SS E b1 l2 c3 xs ∧ Sm xs ∧ (K (B (decide (validS xs))) E)
  | 11 => d3 args fun x0 x1 x2 => dS x0 fun b1 l2 c3 => dI x1 fun a4 => dI x2 fun a5 => ∃ (xs : List Sn), SS E b1 l2 c3 xs ∧ Sm xs ∧ (∀ (ys : List Sn) (t : Bool) (e : Int), addF xs a4 a5 = (ys, t, e) → ∀ (b' : Option Addr) (l' c' : Nat) (E' : Mem), Mem.le E E' → SS E' b' l' c' ys → K (.tup [L b' l' c', B t, I e]) E')
  | 15 => d3 args fun x0 x1 x2 => dS x0 fun b1 l2 c3 => dI x1 fun a4 => dI x2 fun a5 => ∃ (xs : List Sn), SS E b1 l2 c3 xs ∧ Sm xs ∧ (-9223372036854775808 ≤ a4 ∧ a4 ≤ 9223372036854775807) ∧ (K (B (decide (hasP xs a4 a5))) E)
  | 22 => d1 args fun x0 => dS x0 fun b1 l2 c3 => ∃ (xs : List Sn), SS E b1 l2 c3 xs ∧ Sm xs ∧ (K (I (manyI xs)) E)
  | _ => False
theorem tabL6_ok : TabOK Try.prog tabL6 := by
  intro f args E K h
  unfold tabL6 at h
  split at h
  · obtain ⟨rfl, h⟩ := d0_elim h
    exact TabSem.congr rfl (Ent.sem okN3 Try.func9 ⟨by kernel_rfl, by kernel_rfl⟩ rfl (s9 h))
  · replace h := d1_elim h
    obtain ⟨x0, rfl, h⟩ := h
    replace h := dS_elim h
    obtain ⟨b1, l2, c3, rfl, h⟩ := h
    obtain ⟨xs, g0, g1, h⟩ := h
    exact TabSem.congr (valL_cons rfl rfl) (Ent.sem okN2 Try.func10 ⟨by kernel_rfl, by kernel_rfl⟩ rfl (s10 g0 g1 h))
  · replace h := d1_elim h
    obtain ⟨x0, rfl, h⟩ := h
    replace h := dS_elim h
    obtain ⟨b1, l2, c3, rfl, h⟩ := h
    obtain ⟨xs, g0, g1, h⟩ := h
    exact TabSem.congr (valL_cons rfl rfl) (Ent.sem okC7 Try.func14 ⟨by kernel_rfl, by kernel_rfl⟩ rfl (s14 g0 g1 h))
  · replace h := d3_elim h
    obtain ⟨x0, x1, x2, rfl, h⟩ := h
    replace h := dS_elim h
    obtain ⟨b1, l2, c3, rfl, h⟩ := h
    replace h := dI_elim h
    obtain ⟨a4, rfl, h⟩ := h
    replace h := dI_elim h
    obtain ⟨a5, rfl, h⟩ := h
    obtain ⟨xs, g0, g1, h⟩ := h
    exact TabSem.congr (valL_cons rfl (valL_cons rfl (valL_cons rfl rfl))) (Ent.sem okA1 Try.func11 ⟨by kernel_rfl, by kernel_rfl⟩ rfl (s11 g0 g1 h))
  · replace h := d3_elim h
    obtain ⟨x0, x1, x2, rfl, h⟩ := h
    replace h := dS_elim h
    obtain ⟨b1, l2, c3, rfl, h⟩ := h
    replace h := dI_elim h
    obtain ⟨a4, rfl, h⟩ := h
    replace h := dI_elim h
    obtain ⟨a5, rfl, h⟩ := h
    obtain ⟨xs, g0, g1, g2, h⟩ := h
    exact TabSem.congr (valL_cons rfl (valL_cons rfl (valL_cons rfl rfl))) (Ent.sem okD8 Try.func15 ⟨by kernel_rfl, by kernel_rfl⟩ rfl (s15 g0 g1 g2 h))
  · replace h := d1_elim h
    obtain ⟨x0, rfl, h⟩ := h
    replace h := dS_elim h
    obtain ⟨b1, l2, c3, rfl, h⟩ := h
    obtain ⟨xs, g0, g1, h⟩ := h
    exact TabSem.congr (valL_cons rfl rfl) (Ent.sem okC1 Try.func22 ⟨by kernel_rfl, by kernel_rfl⟩ rfl (s22 g0 g1 h))
  · exact h.elim
noncomputable def WL6 : Cx := { P := Try.prog, inl := fun f => List.contains [] f, tab := tabL6, isB := fun _ => false, tabB := fun _ _ _ _ _ => False, opt := { unroll := 4, carry := [], cuts := [5, 13, 19] }, muts := mutsD }
theorem okWL6 : CxOK WL6 := CxOK.four tabL6_ok (by kernel_rfl) (okInl (by kernel_rfl)) (fun _ _ _ _ _ h => h.elim)
def shR19 (b : Option Addr) (l c : Nat) (b2 : Option Addr) (l2 c2 : Nat) (e more : Int) (E : Mem) : St := ⟨[some (L b l c), none, none, none, none, none, none, some (B true), none, none, some (L b2 l2 c2), none, some (I e), none, none, none, none, some (I more), none, none, none, none, none, none, none, none, none, none, none, none, none, none, none, none, none, none, none, none, none, none, none, none, none, none, none, none, none, none, none, none, none, none, none, none, none, none, none, none, none, none, none, none, none, none, none, none, none, none, none, none, none, none, none, none, none, none, none, none, none, none, none, none, none, none, none, none, none, none, none, none, none, none, none, none, none, none, none], [], E⟩
theorem pcR19 {b b2 : Option Addr} {l c l2 c2 : Nat} {e more : Int} {xs ys : List Sn} {E0 : Mem} (hx : SS E b l c xs) (hy : SS E b2 l2 c2 ys) (sx : Sm xs) (sy : Sm ys) (hE : Mem.le E0 E) (he : e = 0) (hm : manyI ys = IntKind.wrap .i64 (manyI xs + more)) (h : K (B true) E) : Pc WL6 8 Try.f6 [1, 1, 1, 1, 1, 1, 1, 1, 1, 1, 1] 0 (pubK E0 K) (shR19 b l c b2 l2 c2 e more E) := by
  refine same (by kernel_rfl) (?_ : 
      bif bif true then e == (0 : Int) else false then
        ∃ (xs : List Sn),
          SS E b2 l2 c2 xs ∧
            Sm xs ∧
              Mem.le E E ∧
                ∃ (xs_1 : List Sn),
                  SS E b l c xs_1 ∧
                    Sm xs_1 ∧
                      Mem.le E E ∧
                        Mem.le E0 E ∧
                          K
                            (SV.raw
                              (Value.bool
                                (bif true then manyI xs == IntKind.wrap IntKind.i64 (manyI xs_1 + more) else false)))
                            E
      else Mem.le E0 E ∧ K (SV.raw (Value.bool false)) E)
  subst he
  refine condC (fun _ => ⟨ys, hy, sy, Mem.le_refl _, xs, hx, sx, Mem.le_refl _, hE, ?_⟩) (fun w => by simp at w)
  rw [hm]
  simpa using h
def shR13 (b : Option Addr) (l c : Nat) (o n : Int) (b2 : Option Addr) (l2 c2 : Nat) (e near : Int) (E : Mem) : St := ⟨[some (L b l c), none, none, none, none, none, none, some (B true), some (I o), some (I n), some (L b2 l2 c2), none, some (I e), some (I near), none, none, none, none, none, none, none, none, none, none, none, none, none, none, none, none, none, none, none, none, none, none, none, none, none, none, none, none, none, none, none, none, none, none, none, none, none, none, none, none, none, none, none, none, none, none, none, none, none, none, none, none, none, none, none, none, none, none, none, none, none, none, none, none, none, none, none, none, none, none, none, none, none, none, none, none, none, none, none, none, none, none, none], [], E⟩
theorem pcR13 {b b2 : Option Addr} {l c l2 c2 : Nat} {o n e near : Int} {xs ys : List Sn} {t : Bool} {E0 : Mem} (hx : SS E b l c xs) (hy : SS E b2 l2 c2 ys) (sx : Sm xs) (hE : Mem.le E0 E) (gA : okA xs o n) (r : addF xs o n = (ys, t, e)) (hn : near = (if holdsP (ofF xs o) (n - 1) then 1 else 0) + (if holdsP (ofF xs o) (n + 1) then 1 else 0)) (h : K (B true) E) : Pc WL6 8 Try.f6 [1, 1, 1, 1, 1, 1, 1] 0 (pubK E0 K) (shR13 b l c o n b2 l2 c2 e near E) := by
  refine same (by kernel_rfl) (?_ : 
      ∃ (xs : List Sn),
        SS E b l c xs ∧
          Sm xs ∧
            ((-9223372036854775808 : Int) ≤ o ∧ o ≤ (9223372036854775807 : Int)) ∧
              Mem.le E E ∧
                ∃ (xs_1 : List Sn),
                  SS E b l c xs_1 ∧
                    Sm xs_1 ∧
                      Mem.le E E ∧
                        bif manyI xs_1 == (64 : Int) then
                          bif bif true then !decide (hasP xs o n) else false then
                            bif bif true then near == (0 : Int) else false then
                              Mem.le E0 E ∧ K (SV.raw (Value.bool (bif true then e == (10 : Int) else false))) E
                            else
                              bif decide (hasP xs o n) then
                                Ct WL6 8 Try.f6
                                  [1, 1, 1, 1, 1, 1, 1, 1,
                                    1, 1, 1]
                                  0 (pubK E0 K)
                                  {
                                    fr :=
                                      [some (SV.raw (Value.slice b l c)), none, none, none, none, none, none, some (SV.raw (Value.bool true)), some (SV.raw (Value.int IntKind.i64 o)), some (SV.raw (Value.int IntKind.i64 n)), some (SV.raw (Value.slice b2 l2 c2)), none, some (SV.raw (Value.int IntKind.i64 e)), some (SV.raw (Value.int IntKind.i64 near)), none, none, some (SV.raw (Value.bool (decide (hasP xs o n)))), some (SV.raw (Value.int IntKind.i64 (0 : Int))), none, none, none, none, none, none, none, none, none, none, none, none, none, none, none, none, none, none, none, none, none, none, none, none, none, none, none, none, none, none, none, none, none, none, none, none, none, none, none, none, none, none, some (SV.raw (Value.slice b l c)), some (SV.raw (Value.int IntKind.i64 o)), some (SV.raw (Value.int IntKind.i64 n)), some (SV.raw (Value.bool (decide (hasP xs o n)))), some (SV.raw (Value.slice b l c)), some (SV.raw (Value.int IntKind.i64 (manyI xs_1))), some (SV.raw (Value.bool (manyI xs_1 == (64 : Int)))), some (SV.raw (Value.bool true)), some (SV.raw (Value.bool (decide (hasP xs o n)))), some (SV.raw (Value.bool !decide (hasP xs o n))), some (SV.raw (Value.bool (bif true then !decide (hasP xs o n) else false))), some (SV.raw (Value.bool true)), some (SV.raw (Value.int IntKind.i64 near)), some (SV.raw (Value.bool (near == (0 : Int)))), some (SV.raw (Value.bool (bif true then near == (0 : Int) else false))), none, none, none, none, none, some (SV.raw (Value.int IntKind.i64 near)), some (SV.raw (Value.int IntKind.i64 (IntKind.wrap IntKind.i64 ((1 : Int) - near)))), some (SV.raw (Value.bool (decide (hasP xs o n)))), none, none, none, none, none, none, none, none, none, none, none, none, none, none],
                                    bx := [], E := E : St }
                              else
                                Ct WL6 8 Try.f6
                                  [1, 1, 1, 1, 1, 1, 1, 1,
                                    1, 1, 1]
                                  0 (pubK E0 K)
                                  {
                                    fr :=
                                      [some (SV.raw (Value.slice b l c)), none, none, none, none, none, none, some (SV.raw (Value.bool true)), some (SV.raw (Value.int IntKind.i64 o)), some (SV.raw (Value.int IntKind.i64 n)), some (SV.raw (Value.slice b2 l2 c2)), none, some (SV.raw (Value.int IntKind.i64 e)), some (SV.raw (Value.int IntKind.i64 near)), none, none, some (SV.raw (Value.bool (decide (hasP xs o n)))), some (SV.raw (Value.int IntKind.i64 (IntKind.wrap IntKind.i64 ((1 : Int) - near)))), none, none, none, none, none, none, none, none, none, none, none, none, none, none, none, none, none, none, none, none, none, none, none, none, none, none, none, none, none, none, none, none, none, none, none, none, none, none, none, none, none, none, some (SV.raw (Value.slice b l c)), some (SV.raw (Value.int IntKind.i64 o)), some (SV.raw (Value.int IntKind.i64 n)), some (SV.raw (Value.bool (decide (hasP xs o n)))), some (SV.raw (Value.slice b l c)), some (SV.raw (Value.int IntKind.i64 (manyI xs_1))), some (SV.raw (Value.bool (manyI xs_1 == (64 : Int)))), some (SV.raw (Value.bool true)), some (SV.raw (Value.bool (decide (hasP xs o n)))), some (SV.raw (Value.bool !decide (hasP xs o n))), some (SV.raw (Value.bool (bif true then !decide (hasP xs o n) else false))), some (SV.raw (Value.bool true)), some (SV.raw (Value.int IntKind.i64 near)), some (SV.raw (Value.bool (near == (0 : Int)))), some (SV.raw (Value.bool (bif true then near == (0 : Int) else false))), none, none, none, none, none, some (SV.raw (Value.int IntKind.i64 near)), some (SV.raw (Value.int IntKind.i64 (IntKind.wrap IntKind.i64 ((1 : Int) - near)))), some (SV.raw (Value.bool (decide (hasP xs o n)))), none, none, none, none, none, none, none, none, none, none, none, none, none, none],
                                    bx := [], E := E : St }
                          else
                            bif decide (hasP xs o n) then
                              Ct WL6 8 Try.f6
                                [1, 1, 1, 1, 1, 1, 1, 1,
                                  1, 1, 1]
                                0 (pubK E0 K)
                                {
                                  fr :=
                                    [some (SV.raw (Value.slice b l c)), none, none, none, none, none, none, some (SV.raw (Value.bool true)), some (SV.raw (Value.int IntKind.i64 o)), some (SV.raw (Value.int IntKind.i64 n)), some (SV.raw (Value.slice b2 l2 c2)), none, some (SV.raw (Value.int IntKind.i64 e)), some (SV.raw (Value.int IntKind.i64 near)), none, none, some (SV.raw (Value.bool (decide (hasP xs o n)))), some (SV.raw (Value.int IntKind.i64 (0 : Int))), none, none, none, none, none, none, none, none, none, none, none, none, none, none, none, none, none, none, none, none, none, none, none, none, none, none, none, none, none, none, none, none, none, none, none, none, none, none, none, none, none, none, some (SV.raw (Value.slice b l c)), some (SV.raw (Value.int IntKind.i64 o)), some (SV.raw (Value.int IntKind.i64 n)), some (SV.raw (Value.bool (decide (hasP xs o n)))), some (SV.raw (Value.slice b l c)), some (SV.raw (Value.int IntKind.i64 (manyI xs_1))), some (SV.raw (Value.bool (manyI xs_1 == (64 : Int)))), some (SV.raw (Value.bool true)), some (SV.raw (Value.bool (decide (hasP xs o n)))), some (SV.raw (Value.bool !decide (hasP xs o n))), some (SV.raw (Value.bool (bif true then !decide (hasP xs o n) else false))), some (SV.raw (Value.bool false)), some (SV.raw (Value.tuple { toList := [] : Array Value })), some (SV.raw (Value.tuple { toList := [] : Array Value })), some (SV.raw (Value.bool false)), none, none, none, none, none, some (SV.raw (Value.int IntKind.i64 near)), some (SV.raw (Value.int IntKind.i64 (IntKind.wrap IntKind.i64 ((1 : Int) - near)))), some (SV.raw (Value.bool (decide (hasP xs o n)))), none, none, none, none, none, none, none, none, none, none, none, none, none, none],
                                  bx := [], E := E : St }
                            else
                              Ct WL6 8 Try.f6
                                [1, 1, 1, 1, 1, 1, 1, 1,
                                  1, 1, 1]
                                0 (pubK E0 K)
                                {
                                  fr :=
                                    [some (SV.raw (Value.slice b l c)), none, none, none, none, none, none, some (SV.raw (Value.bool true)), some (SV.raw (Value.int IntKind.i64 o)), some (SV.raw (Value.int IntKind.i64 n)), some (SV.raw (Value.slice b2 l2 c2)), none, some (SV.raw (Value.int IntKind.i64 e)), some (SV.raw (Value.int IntKind.i64 near)), none, none, some (SV.raw (Value.bool (decide (hasP xs o n)))), some (SV.raw (Value.int IntKind.i64 (IntKind.wrap IntKind.i64 ((1 : Int) - near)))), none, none, none, none, none, none, none, none, none, none, none, none, none, none, none, none, none, none, none, none, none, none, none, none, none, none, none, none, none, none, none, none, none, none, none, none, none, none, none, none, none, none, some (SV.raw (Value.slice b l c)), some (SV.raw (Value.int IntKind.i64 o)), some (SV.raw (Value.int IntKind.i64 n)), some (SV.raw (Value.bool (decide (hasP xs o n)))), some (SV.raw (Value.slice b l c)), some (SV.raw (Value.int IntKind.i64 (manyI xs_1))), some (SV.raw (Value.bool (manyI xs_1 == (64 : Int)))), some (SV.raw (Value.bool true)), some (SV.raw (Value.bool (decide (hasP xs o n)))), some (SV.raw (Value.bool !decide (hasP xs o n))), some (SV.raw (Value.bool (bif true then !decide (hasP xs o n) else false))), some (SV.raw (Value.bool false)), some (SV.raw (Value.tuple { toList := [] : Array Value })), some (SV.raw (Value.tuple { toList := [] : Array Value })), some (SV.raw (Value.bool false)), none, none, none, none, none, some (SV.raw (Value.int IntKind.i64 near)), some (SV.raw (Value.int IntKind.i64 (IntKind.wrap IntKind.i64 ((1 : Int) - near)))), some (SV.raw (Value.bool (decide (hasP xs o n)))), none, none, none, none, none, none, none, none, none, none, none, none, none, none],
                                  bx := [], E := E : St }
                        else
                          bif decide (hasP xs o n) then
                            Ct WL6 8 Try.f6
                              [1, 1, 1, 1, 1, 1, 1, 1,
                                1, 1, 1]
                              0 (pubK E0 K)
                              {
                                fr :=
                                  [some (SV.raw (Value.slice b l c)), none, none, none, none, none, none, some (SV.raw (Value.bool true)), some (SV.raw (Value.int IntKind.i64 o)), some (SV.raw (Value.int IntKind.i64 n)), some (SV.raw (Value.slice b2 l2 c2)), none, some (SV.raw (Value.int IntKind.i64 e)), some (SV.raw (Value.int IntKind.i64 near)), none, none, some (SV.raw (Value.bool (decide (hasP xs o n)))), some (SV.raw (Value.int IntKind.i64 (0 : Int))), none, none, none, none, none, none, none, none, none, none, none, none, none, none, none, none, none, none, none, none, none, none, none, none, none, none, none, none, none, none, none, none, none, none, none, none, none, none, none, none, none, none, some (SV.raw (Value.slice b l c)), some (SV.raw (Value.int IntKind.i64 o)), some (SV.raw (Value.int IntKind.i64 n)), some (SV.raw (Value.bool (decide (hasP xs o n)))), some (SV.raw (Value.slice b l c)), some (SV.raw (Value.int IntKind.i64 (manyI xs_1))), some (SV.raw (Value.bool (manyI xs_1 == (64 : Int)))), some (SV.raw (Value.bool false)), some (SV.raw (Value.tuple { toList := [] : Array Value })), some (SV.raw (Value.tuple { toList := [] : Array Value })), some (SV.raw (Value.bool false)), some (SV.raw (Value.bool false)), some (SV.raw (Value.tuple { toList := [] : Array Value })), some (SV.raw (Value.tuple { toList := [] : Array Value })), some (SV.raw (Value.bool false)), none, none, none, none, none, some (SV.raw (Value.int IntKind.i64 near)), some (SV.raw (Value.int IntKind.i64 (IntKind.wrap IntKind.i64 ((1 : Int) - near)))), some (SV.raw (Value.bool (decide (hasP xs o n)))), none, none, none, none, none, none, none, none, none, none, none, none, none, none],
                                bx := [], E := E : St }
                          else
                            Ct WL6 8 Try.f6
                              [1, 1, 1, 1, 1, 1, 1, 1,
                                1, 1, 1]
                              0 (pubK E0 K)
                              {
                                fr :=
                                  [some (SV.raw (Value.slice b l c)), none, none, none, none, none, none, some (SV.raw (Value.bool true)), some (SV.raw (Value.int IntKind.i64 o)), some (SV.raw (Value.int IntKind.i64 n)), some (SV.raw (Value.slice b2 l2 c2)), none, some (SV.raw (Value.int IntKind.i64 e)), some (SV.raw (Value.int IntKind.i64 near)), none, none, some (SV.raw (Value.bool (decide (hasP xs o n)))), some (SV.raw (Value.int IntKind.i64 (IntKind.wrap IntKind.i64 ((1 : Int) - near)))), none, none, none, none, none, none, none, none, none, none, none, none, none, none, none, none, none, none, none, none, none, none, none, none, none, none, none, none, none, none, none, none, none, none, none, none, none, none, none, none, none, none, some (SV.raw (Value.slice b l c)), some (SV.raw (Value.int IntKind.i64 o)), some (SV.raw (Value.int IntKind.i64 n)), some (SV.raw (Value.bool (decide (hasP xs o n)))), some (SV.raw (Value.slice b l c)), some (SV.raw (Value.int IntKind.i64 (manyI xs_1))), some (SV.raw (Value.bool (manyI xs_1 == (64 : Int)))), some (SV.raw (Value.bool false)), some (SV.raw (Value.tuple { toList := [] : Array Value })), some (SV.raw (Value.tuple { toList := [] : Array Value })), some (SV.raw (Value.bool false)), some (SV.raw (Value.bool false)), some (SV.raw (Value.tuple { toList := [] : Array Value })), some (SV.raw (Value.tuple { toList := [] : Array Value })), some (SV.raw (Value.bool false)), none, none, none, none, none, some (SV.raw (Value.int IntKind.i64 near)), some (SV.raw (Value.int IntKind.i64 (IntKind.wrap IntKind.i64 ((1 : Int) - near)))), some (SV.raw (Value.bool (decide (hasP xs o n)))), none, none, none, none, none, none, none, none, none, none, none, none, none, none],
                                bx := [], E := E : St })
  have h64 := gA.1.1
  have hI := manyI_eq (xs := xs) (by omega)
  have hnn : 0 ≤ near ∧ near ≤ 2 := by rw [hn]; split <;> split <;> omega
  have sy := addF_sm r sx
  have hr := room gA r hn
  have T : hasP xs o n → Pc WL6 8 Try.f6 [1, 1, 1, 1, 1, 1, 1, 1, 1, 1, 1] 0 (pubK E0 K) (shR19 b l c b2 l2 c2 e 0 E) := fun q => by
    rcases hr with ⟨_, rfl, rfl⟩ | ⟨w, _⟩ | ⟨w, _⟩
    · exact pcR19 hx hy sx sy hE rfl (by rw [hI, wrap_i64 (by omega)]; omega) h
    · exact absurd q w
    · exact absurd q w
  have N : ¬ hasP xs o n → ¬ (manyF xs = 64 ∧ near = 0) → Pc WL6 8 Try.f6 [1, 1, 1, 1, 1, 1, 1, 1, 1, 1, 1] 0 (pubK E0 K) (shR19 b l c b2 l2 c2 e (IntKind.wrap .i64 (1 - near)) E) := fun q q2 => by
    rcases hr with ⟨w, _⟩ | ⟨_, w1, w2, _⟩ | ⟨_, _, rfl, w1, w2⟩
    · exact absurd w q
    · exact absurd ⟨w1, w2⟩ q2
    · have hI2 := manyI_eq (xs := ys) (by omega)
      exact pcR19 hx hy sx sy hE rfl (by rw [hI, hI2, wrap_i64 (x := 1 - near) (by omega), wrap_i64 (by omega)]; omega) h
  have d : ∀ {p : Prop} [Decidable p], decide p = true → p := fun w => by simpa using w
  have d' : ∀ {p : Prop} [Decidable p], decide p = false → ¬ p := fun w => by simpa using w
  refine ⟨xs, hx, sx, by have := gA.2.1; omega, Mem.le_refl _, xs, hx, sx, Mem.le_refl _, condC (fun g1 => condC (fun g2 => condC (fun g3 => ⟨hE, ?_⟩) (fun g3 => condC (fun g4 => ?_) (fun g4 => ?_))) (fun g2 => condC (fun g4 => ?_) (fun g4 => ?_))) (fun g1 => condC (fun g4 => ?_) (fun g4 => ?_))⟩
  · have g2 : ¬ hasP xs o n := by simpa using g2
    have g3 : near = 0 := by simpa using g3
    have g1 : manyF xs = 64 := by rw [hI] at g1; simp at g1; omega
    have e10 : e = 10 := by
      rcases hr with ⟨w, _⟩ | ⟨_, w1, w2, w3⟩ | ⟨_, w, _⟩
      · exact absurd w g2
      · exact w3
      · exact absurd ⟨g1, g3⟩ w
    subst e10
    simpa using h
  · exact Ct_re [] (Ct_intro okWL6 (T (d g4))) ⟨⟨by simp, by simp, fun j h => absurd h (Nat.not_lt_zero _)⟩, rfl, (by repeat' first | exact True.intro | refine And.intro (Or.inl rfl) ?_ | refine And.intro (Or.inr ⟨rfl, rfl⟩) ?_), (by repeat' first | exact True.intro | exact rfl | exact Or.inl rfl | fail | refine And.intro ?_ ?_), (show List.Nodup [] from by decide), Mem.le_refl _⟩
  · exact Ct_re [] (Ct_intro okWL6 (N (d' g4) (fun w => by rw [w.2] at g3; simp at g3))) ⟨⟨by simp, by simp, fun j h => absurd h (Nat.not_lt_zero _)⟩, rfl, (by repeat' first | exact True.intro | refine And.intro (Or.inl rfl) ?_ | refine And.intro (Or.inr ⟨rfl, rfl⟩) ?_), (by repeat' first | exact True.intro | exact rfl | exact Or.inl rfl | fail | refine And.intro ?_ ?_), (show List.Nodup [] from by decide), Mem.le_refl _⟩
  · exact Ct_re [] (Ct_intro okWL6 (T (d g4))) ⟨⟨by simp, by simp, fun j h => absurd h (Nat.not_lt_zero _)⟩, rfl, (by repeat' first | exact True.intro | refine And.intro (Or.inl rfl) ?_ | refine And.intro (Or.inr ⟨rfl, rfl⟩) ?_), (by repeat' first | exact True.intro | exact rfl | exact Or.inl rfl | fail | refine And.intro ?_ ?_), (show List.Nodup [] from by decide), Mem.le_refl _⟩
  · exact absurd (by simpa using g2) (d' g4)
  · exact Ct_re [] (Ct_intro okWL6 (T (d g4))) ⟨⟨by simp, by simp, fun j h => absurd h (Nat.not_lt_zero _)⟩, rfl, (by repeat' first | exact True.intro | refine And.intro (Or.inl rfl) ?_ | refine And.intro (Or.inr ⟨rfl, rfl⟩) ?_), (by repeat' first | exact True.intro | exact rfl | exact Or.inl rfl | fail | refine And.intro ?_ ?_), (show List.Nodup [] from by decide), Mem.le_refl _⟩
  · exact Ct_re [] (Ct_intro okWL6 (N (d' g4) (fun w => by rw [hI, w.1] at g1; simp at g1))) ⟨⟨by simp, by simp, fun j h => absurd h (Nat.not_lt_zero _)⟩, rfl, (by repeat' first | exact True.intro | refine And.intro (Or.inl rfl) ?_ | refine And.intro (Or.inr ⟨rfl, rfl⟩) ?_), (by repeat' first | exact True.intro | exact rfl | exact Or.inl rfl | fail | refine And.intro ?_ ?_), (show List.Nodup [] from by decide), Mem.le_refl _⟩
def shR5 (b : Option Addr) (l c : Nat) (o n : Int) (E : Mem) : St := ⟨[some (L b l c), none, none, none, none, none, none, some (B true), some (I o), some (I n), none, none, none, none, none, none, none, none, none, none, none, none, none, none, none, none, none, none, none, none, none, none, none, none, none, none, none, none, none, none, none, none, none, none, none, none, none, none, none, none, none, none, none, none, none, none, none, none, none, none, none, none, none, none, none, none, none, none, none, none, none, none, none, none, none, none, none, none, none, none, none, none, none, none, none, none, none, none, none, none, none, none, none, none, none, none, none], [], E⟩
theorem pcR5 {b : Option Addr} {l c : Nat} {o n : Int} {xs : List Sn} {E0 : Mem} (hx : SS E b l c xs) (sx : Sm xs) (hE : Mem.le E0 E) (gA : okA xs o n) (h : ∀ E' : Mem, Mem.le E0 E' → K (B true) E') : Pc WL6 8 Try.f6 [1, 1, 1, 1] 0 (pubK E0 K) (shR5 b l c o n E) := by
  refine same (by kernel_rfl) (?_ : 
      ∃ (xs : List Sn),
        SS E b l c xs ∧
          Sm xs ∧
            ∀ (ys : List Sn) (t : Bool) (e : Int),
              addF xs o n = (ys, t, e) →
                ∀ (b' : Option Addr) (l' c' : Nat) (E' : Mem),
                  Mem.le E E' →
                    SS E' b' l' c' ys →
                      Mem.le E E' ∧
                        ∃ (xs : List Sn),
                          SS E' b l c xs ∧
                            Sm xs ∧
                              ((-9223372036854775808 : Int) ≤ o ∧ o ≤ (9223372036854775807 : Int)) ∧
                                Mem.le E' E' ∧
                                  bif decide (hasP xs o (IntKind.wrap IntKind.i64 (n - (1 : Int)))) then
                                    ∃ (xs : List Sn),
                                      SS E' b l c xs ∧
                                        Sm xs ∧
                                          ((-9223372036854775808 : Int) ≤ o ∧ o ≤ (9223372036854775807 : Int)) ∧
                                            Mem.le E' E' ∧
                                              bif decide (hasP xs o (IntKind.wrap IntKind.i64 (n + (1 : Int)))) then
                                                Ct WL6 8 Try.f6
                                                  [1, 1, 1, 1, 1, 1,
                                                    1]
                                                  0 (pubK E0 K)
                                                  {
                                                    fr :=
                                                      [some (SV.raw (Value.slice b l c)), none, none, none, none, none, none, some (SV.raw (Value.bool true)), some (SV.raw (Value.int IntKind.i64 o)), some (SV.raw (Value.int IntKind.i64 n)), some (SV.raw (Value.slice b' l' c')), some (SV.raw (Value.bool t)), some (SV.raw (Value.int IntKind.i64 e)), some (SV.raw (Value.int IntKind.i64 (2 : Int))), none, some (SV.raw (Value.int IntKind.i64 (IntKind.wrap IntKind.i64 (n + (1 : Int))))), none, none, none, none, none, none, none, none, none, none, none, none, none, none, none, none, none, none, none, some (SV.tup [SV.raw (Value.slice b' l' c'), SV.raw (Value.bool t), SV.raw (Value.int IntKind.i64 e)]), some (SV.raw (Value.slice b l c)), some (SV.raw (Value.int IntKind.i64 o)), some (SV.raw (Value.int IntKind.i64 n)), some (SV.tup [SV.raw (Value.slice b' l' c'), SV.raw (Value.bool t), SV.raw (Value.int IntKind.i64 e)]), some (SV.raw (Value.slice b' l' c')), some (SV.raw (Value.bool t)), some (SV.raw (Value.int IntKind.i64 e)), some (SV.raw (Value.int IntKind.i64 n)), some (SV.raw (Value.int IntKind.i64 (IntKind.wrap IntKind.i64 (n - (1 : Int))))), some (SV.raw (Value.int IntKind.i64 n)), some (SV.raw (Value.int IntKind.i64 (IntKind.wrap IntKind.i64 (n + (1 : Int))))), some (SV.slc 0 0 2 2), some (SV.raw (Value.int IntKind.i64 (2 : Int))), some (SV.raw (Value.int IntKind.i64 (2 : Int))), some (SV.raw (Value.bool false)), some (SV.loc 0 1), some (SV.raw (Value.int IntKind.i64 (IntKind.wrap IntKind.i64 (n + (1 : Int))))), some (SV.raw (Value.slice b l c)), some (SV.raw (Value.int IntKind.i64 o)), some (SV.raw (Value.int IntKind.i64 (IntKind.wrap IntKind.i64 (n + (1 : Int))))), some (SV.raw (Value.bool (decide (hasP xs o (IntKind.wrap IntKind.i64 (n + (1 : Int))))))), some (SV.raw (Value.int IntKind.i64 (1 : Int))), some (SV.raw (Value.int IntKind.i64 (2 : Int))), some (SV.raw (Value.int IntKind.i64 (2 : Int))), none, none, none, none, none, none, none, none, none, none, none, none, none, none, none, none, none, none, none, none, none, none, none, none, none, none, none, none, none, none, none, none, none, none, none, none, none],
                                                    bx :=
                                                      [{ elem := 3,
                                                          row :=
                                                            Row.lst
                                                              [SV.raw
                                                                  (Value.int IntKind.i64
                                                                    (IntKind.wrap IntKind.i64 (n - (1 : Int)))),
                                                                SV.raw
                                                                  (Value.int IntKind.i64
                                                                    (IntKind.wrap IntKind.i64 (n + (1 : Int))))],
                                                          total := 2, own := true : Box }],
                                                    E := E' : St }
                                              else
                                                Ct WL6 8 Try.f6
                                                  [1, 1, 1, 1, 1, 1,
                                                    1]
                                                  0 (pubK E0 K)
                                                  {
                                                    fr :=
                                                      [some (SV.raw (Value.slice b l c)), none, none, none, none, none, none, some (SV.raw (Value.bool true)), some (SV.raw (Value.int IntKind.i64 o)), some (SV.raw (Value.int IntKind.i64 n)), some (SV.raw (Value.slice b' l' c')), some (SV.raw (Value.bool t)), some (SV.raw (Value.int IntKind.i64 e)), some (SV.raw (Value.int IntKind.i64 (1 : Int))), none, some (SV.raw (Value.int IntKind.i64 (IntKind.wrap IntKind.i64 (n + (1 : Int))))), none, none, none, none, none, none, none, none, none, none, none, none, none, none, none, none, none, none, none, some (SV.tup [SV.raw (Value.slice b' l' c'), SV.raw (Value.bool t), SV.raw (Value.int IntKind.i64 e)]), some (SV.raw (Value.slice b l c)), some (SV.raw (Value.int IntKind.i64 o)), some (SV.raw (Value.int IntKind.i64 n)), some (SV.tup [SV.raw (Value.slice b' l' c'), SV.raw (Value.bool t), SV.raw (Value.int IntKind.i64 e)]), some (SV.raw (Value.slice b' l' c')), some (SV.raw (Value.bool t)), some (SV.raw (Value.int IntKind.i64 e)), some (SV.raw (Value.int IntKind.i64 n)), some (SV.raw (Value.int IntKind.i64 (IntKind.wrap IntKind.i64 (n - (1 : Int))))), some (SV.raw (Value.int IntKind.i64 n)), some (SV.raw (Value.int IntKind.i64 (IntKind.wrap IntKind.i64 (n + (1 : Int))))), some (SV.slc 0 0 2 2), some (SV.raw (Value.int IntKind.i64 (2 : Int))), some (SV.raw (Value.int IntKind.i64 (2 : Int))), some (SV.raw (Value.bool false)), some (SV.loc 0 1), some (SV.raw (Value.int IntKind.i64 (IntKind.wrap IntKind.i64 (n + (1 : Int))))), some (SV.raw (Value.slice b l c)), some (SV.raw (Value.int IntKind.i64 o)), some (SV.raw (Value.int IntKind.i64 (IntKind.wrap IntKind.i64 (n + (1 : Int))))), some (SV.raw (Value.bool (decide (hasP xs o (IntKind.wrap IntKind.i64 (n + (1 : Int))))))), some (SV.raw (Value.int IntKind.i64 (0 : Int))), some (SV.raw (Value.int IntKind.i64 (1 : Int))), some (SV.raw (Value.int IntKind.i64 (2 : Int))), none, none, none, none, none, none, none, none, none, none, none, none, none, none, none, none, none, none, none, none, none, none, none, none, none, none, none, none, none, none, none, none, none, none, none, none, none],
                                                    bx :=
                                                      [{ elem := 3,
                                                          row :=
                                                            Row.lst
                                                              [SV.raw
                                                                  (Value.int IntKind.i64
                                                                    (IntKind.wrap IntKind.i64 (n - (1 : Int)))),
                                                                SV.raw
                                                                  (Value.int IntKind.i64
                                                                    (IntKind.wrap IntKind.i64 (n + (1 : Int))))],
                                                          total := 2, own := true : Box }],
                                                    E := E' : St }
                                  else
                                    ∃ (xs : List Sn),
                                      SS E' b l c xs ∧
                                        Sm xs ∧
                                          ((-9223372036854775808 : Int) ≤ o ∧ o ≤ (9223372036854775807 : Int)) ∧
                                            Mem.le E' E' ∧
                                              bif decide (hasP xs o (IntKind.wrap IntKind.i64 (n + (1 : Int)))) then
                                                Ct WL6 8 Try.f6
                                                  [1, 1, 1, 1, 1, 1,
                                                    1]
                                                  0 (pubK E0 K)
                                                  {
                                                    fr :=
                                                      [some (SV.raw (Value.slice b l c)), none, none, none, none, none, none, some (SV.raw (Value.bool true)), some (SV.raw (Value.int IntKind.i64 o)), some (SV.raw (Value.int IntKind.i64 n)), some (SV.raw (Value.slice b' l' c')), some (SV.raw (Value.bool t)), some (SV.raw (Value.int IntKind.i64 e)), some (SV.raw (Value.int IntKind.i64 (1 : Int))), none, some (SV.raw (Value.int IntKind.i64 (IntKind.wrap IntKind.i64 (n + (1 : Int))))), none, none, none, none, none, none, none, none, none, none, none, none, none, none, none, none, none, none, none, some (SV.tup [SV.raw (Value.slice b' l' c'), SV.raw (Value.bool t), SV.raw (Value.int IntKind.i64 e)]), some (SV.raw (Value.slice b l c)), some (SV.raw (Value.int IntKind.i64 o)), some (SV.raw (Value.int IntKind.i64 n)), some (SV.tup [SV.raw (Value.slice b' l' c'), SV.raw (Value.bool t), SV.raw (Value.int IntKind.i64 e)]), some (SV.raw (Value.slice b' l' c')), some (SV.raw (Value.bool t)), some (SV.raw (Value.int IntKind.i64 e)), some (SV.raw (Value.int IntKind.i64 n)), some (SV.raw (Value.int IntKind.i64 (IntKind.wrap IntKind.i64 (n - (1 : Int))))), some (SV.raw (Value.int IntKind.i64 n)), some (SV.raw (Value.int IntKind.i64 (IntKind.wrap IntKind.i64 (n + (1 : Int))))), some (SV.slc 0 0 2 2), some (SV.raw (Value.int IntKind.i64 (2 : Int))), some (SV.raw (Value.int IntKind.i64 (2 : Int))), some (SV.raw (Value.bool false)), some (SV.loc 0 1), some (SV.raw (Value.int IntKind.i64 (IntKind.wrap IntKind.i64 (n + (1 : Int))))), some (SV.raw (Value.slice b l c)), some (SV.raw (Value.int IntKind.i64 o)), some (SV.raw (Value.int IntKind.i64 (IntKind.wrap IntKind.i64 (n + (1 : Int))))), some (SV.raw (Value.bool (decide (hasP xs o (IntKind.wrap IntKind.i64 (n + (1 : Int))))))), some (SV.raw (Value.int IntKind.i64 (0 : Int))), some (SV.raw (Value.int IntKind.i64 (1 : Int))), some (SV.raw (Value.int IntKind.i64 (2 : Int))), none, none, none, none, none, none, none, none, none, none, none, none, none, none, none, none, none, none, none, none, none, none, none, none, none, none, none, none, none, none, none, none, none, none, none, none, none],
                                                    bx :=
                                                      [{ elem := 3,
                                                          row :=
                                                            Row.lst
                                                              [SV.raw
                                                                  (Value.int IntKind.i64
                                                                    (IntKind.wrap IntKind.i64 (n - (1 : Int)))),
                                                                SV.raw
                                                                  (Value.int IntKind.i64
                                                                    (IntKind.wrap IntKind.i64 (n + (1 : Int))))],
                                                          total := 2, own := true : Box }],
                                                    E := E' : St }
                                              else
                                                Ct WL6 8 Try.f6
                                                  [1, 1, 1, 1, 1, 1,
                                                    1]
                                                  0 (pubK E0 K)
                                                  {
                                                    fr :=
                                                      [some (SV.raw (Value.slice b l c)), none, none, none, none, none, none, some (SV.raw (Value.bool true)), some (SV.raw (Value.int IntKind.i64 o)), some (SV.raw (Value.int IntKind.i64 n)), some (SV.raw (Value.slice b' l' c')), some (SV.raw (Value.bool t)), some (SV.raw (Value.int IntKind.i64 e)), some (SV.raw (Value.int IntKind.i64 (0 : Int))), none, some (SV.raw (Value.int IntKind.i64 (IntKind.wrap IntKind.i64 (n + (1 : Int))))), none, none, none, none, none, none, none, none, none, none, none, none, none, none, none, none, none, none, none, some (SV.tup [SV.raw (Value.slice b' l' c'), SV.raw (Value.bool t), SV.raw (Value.int IntKind.i64 e)]), some (SV.raw (Value.slice b l c)), some (SV.raw (Value.int IntKind.i64 o)), some (SV.raw (Value.int IntKind.i64 n)), some (SV.tup [SV.raw (Value.slice b' l' c'), SV.raw (Value.bool t), SV.raw (Value.int IntKind.i64 e)]), some (SV.raw (Value.slice b' l' c')), some (SV.raw (Value.bool t)), some (SV.raw (Value.int IntKind.i64 e)), some (SV.raw (Value.int IntKind.i64 n)), some (SV.raw (Value.int IntKind.i64 (IntKind.wrap IntKind.i64 (n - (1 : Int))))), some (SV.raw (Value.int IntKind.i64 n)), some (SV.raw (Value.int IntKind.i64 (IntKind.wrap IntKind.i64 (n + (1 : Int))))), some (SV.slc 0 0 2 2), some (SV.raw (Value.int IntKind.i64 (2 : Int))), some (SV.raw (Value.int IntKind.i64 (2 : Int))), some (SV.raw (Value.bool false)), some (SV.loc 0 1), some (SV.raw (Value.int IntKind.i64 (IntKind.wrap IntKind.i64 (n + (1 : Int))))), some (SV.raw (Value.slice b l c)), some (SV.raw (Value.int IntKind.i64 o)), some (SV.raw (Value.int IntKind.i64 (IntKind.wrap IntKind.i64 (n + (1 : Int))))), some (SV.raw (Value.bool (decide (hasP xs o (IntKind.wrap IntKind.i64 (n + (1 : Int))))))), none, none, some (SV.raw (Value.int IntKind.i64 (2 : Int))), none, none, none, none, none, none, none, none, none, none, none, none, none, none, none, none, none, none, none, none, none, none, none, none, none, none, none, none, none, none, none, none, none, none, none, none, none],
                                                    bx :=
                                                      [{ elem := 3,
                                                          row :=
                                                            Row.lst
                                                              [SV.raw
                                                                  (Value.int IntKind.i64
                                                                    (IntKind.wrap IntKind.i64 (n - (1 : Int)))),
                                                                SV.raw
                                                                  (Value.int IntKind.i64
                                                                    (IntKind.wrap IntKind.i64 (n + (1 : Int))))],
                                                          total := 2, own := true : Box }],
                                                    E := E' : St })
  have hob : -9223372036854775808 ≤ o ∧ o ≤ 9223372036854775807 := by have := gA.2.1; omega
  have hn1 := gA.2.2
  have w1 : IntKind.wrap .i64 (n - 1) = n - 1 := wrap_i64 (by omega)
  have w2 : IntKind.wrap .i64 (n + 1) = n + 1 := wrap_i64 (by omega)
  have hh : ∀ m, hasP xs o m ↔ holdsP (ofF xs o) m := fun m => ⟨fun q => q.2, fun q => ⟨gA.1, q⟩⟩
  refine ⟨xs, hx, sx, fun ys t e r b2 l2 c2 E2 q2 s2 => ⟨q2, xs, hx.mono SR_ok q2, sx, hob, Mem.le_refl _, ?_⟩⟩
  have r : addF xs o n = (ys, t, e) := r
  have p2 := hx.mono SR_ok q2
  have k2 := Mem.le_trans hE q2
  rw [w1, w2]
  have go : ∀ near : Int, near = (if holdsP (ofF xs o) (n - 1) then 1 else 0) + (if holdsP (ofF xs o) (n + 1) then 1 else 0) → Pc WL6 8 Try.f6 [1, 1, 1, 1, 1, 1, 1] 0 (pubK E0 K) (shR13 b l c o n b2 l2 c2 e near E2) := fun near hn => pcR13 p2 s2 sx k2 gA r hn (h E2 k2)
  refine condC (fun g1 => ⟨xs, p2, sx, hob, Mem.le_refl _, condC (fun g2 => ?_) (fun g2 => ?_)⟩) (fun g1 => ⟨xs, p2, sx, hob, Mem.le_refl _, condC (fun g2 => ?_) (fun g2 => ?_)⟩)
  · have g1 : hasP xs o (n - 1) := by simpa using g1
    have g2 : hasP xs o (n + 1) := by simpa using g2
    exact Ct_re [] (Ct_intro okWL6 (go 2 (by rw [if_pos ((hh _).1 g1), if_pos ((hh _).1 g2)]; rfl))) ⟨⟨by simp, by simp, fun j h => absurd h (Nat.not_lt_zero _)⟩, rfl, (by repeat' first | exact True.intro | refine And.intro (Or.inl rfl) ?_ | refine And.intro (Or.inr ⟨rfl, rfl⟩) ?_), (by repeat' first | exact True.intro | exact rfl | exact Or.inl rfl | fail | refine And.intro ?_ ?_), (show List.Nodup [] from by decide), Mem.le_refl _⟩
  · have g1 : hasP xs o (n - 1) := by simpa using g1
    have g2 : ¬ hasP xs o (n + 1) := by simpa using g2
    exact Ct_re [] (Ct_intro okWL6 (go 1 (by rw [if_pos ((hh _).1 g1), if_neg (fun w => g2 ((hh _).2 w))]; rfl))) ⟨⟨by simp, by simp, fun j h => absurd h (Nat.not_lt_zero _)⟩, rfl, (by repeat' first | exact True.intro | refine And.intro (Or.inl rfl) ?_ | refine And.intro (Or.inr ⟨rfl, rfl⟩) ?_), (by repeat' first | exact True.intro | exact rfl | exact Or.inl rfl | fail | refine And.intro ?_ ?_), (show List.Nodup [] from by decide), Mem.le_refl _⟩
  · have g1 : ¬ hasP xs o (n - 1) := by simpa using g1
    have g2 : hasP xs o (n + 1) := by simpa using g2
    exact Ct_re [] (Ct_intro okWL6 (go 1 (by rw [if_neg (fun w => g1 ((hh _).2 w)), if_pos ((hh _).1 g2)]; rfl))) ⟨⟨by simp, by simp, fun j h => absurd h (Nat.not_lt_zero _)⟩, rfl, (by repeat' first | exact True.intro | refine And.intro (Or.inl rfl) ?_ | refine And.intro (Or.inr ⟨rfl, rfl⟩) ?_), (by repeat' first | exact True.intro | exact rfl | exact Or.inl rfl | fail | refine And.intro ?_ ?_), (show List.Nodup [] from by decide), Mem.le_refl _⟩
  · have g1 : ¬ hasP xs o (n - 1) := by simpa using g1
    have g2 : ¬ hasP xs o (n + 1) := by simpa using g2
    exact Ct_re [] (Ct_intro okWL6 (go 0 (by rw [if_neg (fun w => g1 ((hh _).2 w)), if_neg (fun w => g2 ((hh _).2 w))]; rfl))) ⟨⟨by simp, by simp, fun j h => absurd h (Nat.not_lt_zero _)⟩, rfl, (by repeat' first | exact True.intro | refine And.intro (Or.inl rfl) ?_ | refine And.intro (Or.inr ⟨rfl, rfl⟩) ?_), (by repeat' first | exact True.intro | exact rfl | exact Or.inl rfl | fail | refine And.intro ?_ ?_), (show List.Nodup [] from by decide), Mem.le_refl _⟩
theorem e6 {b1 : Option Addr} {l1 : Nat} {c1 : Nat} {x1 : List Sn} {a1 : Int} {a2 : Int} (hc1 : l1 ≤ maxLen) (hS10 : SS E b1 l1 c1 x1) (hS11 : ∀ x ∈ x1, x.2.length ≤ 9223372036854775807) (ha1 : (Lit.int .u8 a1).wf = true) (ha2 : (Lit.int .u32 a2).wf = true) (h : ∀ E' : Mem, Mem.le E E' → K (B true) E') :
    Ent WL6 8 Try.f6 [L b1 l1 c1, .raw (.int .u8 a1), .raw (.int .u32 a2)] E K := by
  refine same (by kernel_rfl) (?_ : 
      ∀ (E' : Mem),
        Mem.le E E' →
          Mem.le E E' ∧
            ∃ (xs : List Sn),
              SS E' b1 l1 c1 xs ∧
                (∀ (x : Sn), List.Mem x xs → List.length x.snd ≤ 9223372036854775807) ∧
                  Mem.le E' E' ∧
                    bif !decide (fewS xs) then Mem.le E E' ∧ K (SV.raw (Value.bool true)) E'
                    else
                      ∃ (xs_1 : List Sn),
                        SS E' b1 l1 c1 xs_1 ∧
                          Sm xs_1 ∧
                            Mem.le E' E' ∧
                              bif bif false then true else !decide (validS xs_1) then
                                Mem.le E E' ∧ K (SV.raw (Value.bool true)) E'
                              else
                                ((60 : Int) = (0 : Int) → False) ∧
                                  ((1000000000 : Int) = (0 : Int) → False) ∧
                                    Ct WL6 8 Try.f6 [1, 1, 1, 1] 0 (pubK E K)
                                      {
                                        fr :=
                                          [some (SV.raw (Value.slice b1 l1 c1)), some (SV.raw (Value.int IntKind.u8 a1)), some (SV.raw (Value.int IntKind.u32 a2)), none, none, none, some (SV.raw (Value.bool false)), some (SV.raw (Value.bool true)), some (SV.raw (Value.int IntKind.i64 (Int.tmod (IntKind.wrap IntKind.i64 a1) (60 : Int)))), some (SV.raw (Value.int IntKind.i64 (IntKind.wrap IntKind.i64 ((1 : Int) + Int.tmod (IntKind.wrap IntKind.i64 a2) (1000000000 : Int))))), none, none, none, none, none, none, none, none, some (SV.raw (Value.bool true)), some (SV.raw (Value.slice b1 l1 c1)), some (SV.raw (Value.bool (decide (fewS xs)))), some (SV.raw (Value.bool !decide (fewS xs))), some (SV.raw (Value.bool false)), some (SV.raw (Value.slice b1 l1 c1)), some (SV.raw (Value.bool (decide (validS xs_1)))), some (SV.raw (Value.bool !decide (validS xs_1))), some (SV.raw (Value.bool (bif false then true else !decide (validS xs_1)))), none, some (SV.raw (Value.int IntKind.u8 a1)), some (SV.raw (Value.int IntKind.i64 (IntKind.wrap IntKind.i64 a1))), some (SV.raw (Value.int IntKind.i64 (Int.tmod (IntKind.wrap IntKind.i64 a1) (60 : Int)))), some (SV.raw (Value.int IntKind.u32 a2)), some (SV.raw (Value.int IntKind.i64 (IntKind.wrap IntKind.i64 a2))), some (SV.raw (Value.int IntKind.i64 (Int.tmod (IntKind.wrap IntKind.i64 a2) (1000000000 : Int)))), some (SV.raw (Value.int IntKind.i64 (IntKind.wrap IntKind.i64 ((1 : Int) + Int.tmod (IntKind.wrap IntKind.i64 a2) (1000000000 : Int))))), none, none, none, none, none, none, none, none, none, none, none, none, none, none, none, none, none, none, none, none, none, none, none, none, none, none, none, none, none, none, none, none, none, none, none, none, none, none, none, none, none, none, none, none, none, none, none, none, none, none, none, none, none, none, none, none, none, none, none, none, none, none],
                                        bx := [], E := E' : St })
  have b1' : 0 ≤ a1 ∧ a1 ≤ 255 := by simpa [Lit.wf, IntKind.min, IntKind.max, IntKind.signed, IntKind.bits] using ha1
  have b2' : 0 ≤ a2 ∧ a2 ≤ 4294967295 := by simpa [Lit.wf, IntKind.min, IntKind.max, IntKind.signed, IntKind.bits] using ha2
  have t1 : Int.tmod a1 60 = a1 % 60 := Int.tmod_eq_emod_of_nonneg b1'.1
  have t2 : Int.tmod a2 1000000000 = a2 % 1000000000 := Int.tmod_eq_emod_of_nonneg b2'.1
  intro E1 q1
  refine ⟨q1, x1, hS10.mono SR_ok q1, hS11, Mem.le_refl _, condC (fun g => ⟨q1, h E1 q1⟩) (fun g => ?_)⟩
  have g : fewS x1 := by simpa using g
  have hs : Sm x1 := ⟨by have := g.1; omega, hS11⟩
  have p1 := hS10.mono SR_ok q1
  refine ⟨x1, p1, hs, Mem.le_refl _, condC (fun g2 => ⟨q1, h E1 q1⟩) (fun g2 => ⟨(by intro w; cases w), (by intro w; cases w), ?_⟩)⟩
  have g2 : validS x1 := by simpa using g2
  rw [wrap_i64 (x := a1) (by omega), wrap_i64 (x := a2) (by omega), t1, t2, wrap_i64 (x := 1 + a2 % 1000000000) (by omega)]
  have K1 := pcR5 (o := a1 % 60) (n := 1 + a2 % 1000000000) p1 hs q1 ⟨g2, ⟨by omega, by omega⟩, by omega, by omega⟩ h
  exact Ct_re [] (Ct_intro okWL6 K1) ⟨⟨by simp, by simp, fun j h => absurd h (Nat.not_lt_zero _)⟩, rfl, (by repeat' first | exact True.intro | refine And.intro (Or.inl rfl) ?_ | refine And.intro (Or.inr ⟨rfl, rfl⟩) ?_), (by repeat' first | exact True.intro | exact rfl | exact Or.inl rfl | fail | refine And.intro ?_ ?_), (show List.Nodup [] from by decide), Mem.le_refl _⟩


theorem opn6 (W : World) (K : List SV → Prop) (h : ∀ (b1 : Option Addr) (l1 c1 : Nat) (z1 : List (List Value)), (l1 ≤ c1) → (c1 ≤ maxLen) → (b1 = none → c1 = 0) → (z1.length = c1) → RowAt W (.slice b1 l1 c1) z1.flatten → (∀ r ∈ z1, r.length = 2 ∧ Shp Try.prog W 12 45 r) → ∀ a1 : Int, (Lit.int .u8 a1).wf = true → ∀ a2 : Int, (Lit.int .u32 a2).wf = true → K [L b1 l1 c1, .raw (.int .u8 a1), .raw (.int .u32 a2)]) : opnAll Try.prog W Try.f6.params.toList K :=
  same (by kernel_rfl) h

theorem sem6 (W : World) : opnAll Try.prog W Try.f6.params.toList fun ss => TabSem Try.prog 6 ss (fun v cs => RowAt W v cs) fun r _ => r = .raw (.bool true) := by
  refine opn6 W _ ?_
  intro b1 l1 c1 z1 hl1 hc1 hb1 hz1 hE1 hr1 a1 ha1 a2 ha2
  exact Ent.sem okWL6 Try.func6 ⟨by kernel_rfl, by kernel_rfl⟩ rfl (e6 (Nat.le_trans hl1 hc1) (SSof hl1 hb1 hz1 hE1 hr1).choose_spec.1 (SSof hl1 hb1 hz1 hE1 hr1).choose_spec.2 ha1 ha2 (fun _ _ => rfl))

theorem lifted6 (os : Os) (started : os.Started) (H : Type) (enc : TypeId × Value → H) :
    ReturnsInHanded {} Try.checked os 6 .any (Rows.seenRoomSpec.pre6 enc Try.prog Try.f6 Rows.seenRoomRow.domain false) (Rows.seenRoomSpec.post enc Try.prog Try.f6 false true false false) :=
  lift_true (C := Try.checked) (by kernel_rfl) (by kernel_rfl) started (by kernel_rfl) Try.func6
    (ChangeSpec.witness6 (enc := enc) (C := Try.checked) false ⟨#[], #[.slice none 0 0, .int .u8 0, .int .u32 0], []⟩ 8 (by kernel_rfl) (by kernel_rfl) (by kernel_rfl) (by kernel_rfl))
    (Tb := 4) (by kernel_rfl) (by kernel_rfl) (by kernel_rfl) rfl
    (fun ds hl => by
      match ds, hl with
      | [d0, d1, d2], _ => exact ⟨rfl, rfl, rfl⟩)
    sem6

theorem over6 : Rows.seenRoomRow.holds Try.pinned (OpenSpec.ofChange Rows.seenRoomSpec) :=
  OpenClaim.holds_of_wide 6 Try.f6 rfl rfl rfl rfl rfl rfl rfl ⟨rfl, rfl, rfl, rfl, rfl⟩ rfl rfl rfl rfl rfl (by kernel_rfl) Try.func6 (by kernel_rfl)
    (of_decide_eq_true (by kernel_rfl)) (by unfold Func.isWrapper; first | (rw [if_pos (by decide +kernel)]; kernel_rfl) | (rw [if_neg (by decide +kernel)]; exact ⟨rfl, rfl⟩))
    (fun os started H enc _ => lifted6 os started H enc)

theorem proved6 : Rows.SeenRoomSaid := over6
end Go.Proofs.Ytjibgfihfbdcaaa.SeenOwn
