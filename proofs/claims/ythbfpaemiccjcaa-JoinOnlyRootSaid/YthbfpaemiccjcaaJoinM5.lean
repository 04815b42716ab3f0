/- The law JoinOnlyRoot. -/
import Derived.Test.YthbfpaemiccjcaaJoin9
import Derived.Test.YthbfpaemiccjcaaSyV
import Derived.Test.YthbfpaemiccjcaaRows
namespace Go.Proofs.Ythbfpaemiccjcaa.JoinOwn
open Go Go.Sx Go.Proofs.Ythbfpaemiccjcaa
set_option maxRecDepth 100000
set_option maxHeartbeats 4000000
set_option linter.unusedVariables false
set_option linter.unusedSimpArgs false
variable {E : Mem} {K : SV → Mem → Prop}
theorem word_row {W : World} {r : List Value} (h1 : r.length = 8) (h2 : Shp Try.prog W 12 27 r) : ∃ k x y m c q f g : Int, r = [.int .i64 k, .int .i64 x, .int .i64 y, .int .i64 m, .int .i64 c, .int .i64 q, .int .i64 f, .int .i64 g] := by
  have h := flatT_sound 12 27 [3, 3, 3, 3, 3, 3, 3, 3] r (by kernel_rfl) (h1.trans (by kernel_rfl)) h2
  obtain ⟨z0, r1, rfl, _, h⟩ := h.int (k := .i64) (by kernel_rfl)
  obtain ⟨z1, r2, rfl, _, h⟩ := h.int (k := .i64) (by kernel_rfl)
  obtain ⟨z2, r3, rfl, _, h⟩ := h.int (k := .i64) (by kernel_rfl)
  obtain ⟨z3, r4, rfl, _, h⟩ := h.int (k := .i64) (by kernel_rfl)
  obtain ⟨z4, r5, rfl, _, h⟩ := h.int (k := .i64) (by kernel_rfl)
  obtain ⟨z5, r6, rfl, _, h⟩ := h.int (k := .i64) (by kernel_rfl)
  obtain ⟨z6, r7, rfl, _, h⟩ := h.int (k := .i64) (by kernel_rfl)
  obtain ⟨z7, r8, rfl, _, h⟩ := h.int (k := .i64) (by kernel_rfl)
  obtain rfl := h.nil
  exact ⟨_, _, _, _, _, _, _, _, rfl⟩

noncomputable def tabO : FuncId → List SV → Mem → (SV → Mem → Prop) → Prop := fun f args E K => match f with
  | 13 => d4 args fun x0 x1 x2 x3 => dC x0 fun l1 => d5 l1 fun x0_0 x0_1 x0_2 x0_3 x0_4 => dI x0_0 fun a1 => dI x0_1 fun a2 => dI x0_2 fun a3 => dI x0_3 fun a4 => dI x0_4 fun a5 => dI x1 fun a6 => dC x2 fun l2 => d8 l2 fun x2_0 x2_1 x2_2 x2_3 x2_4 x2_5 x2_6 x2_7 => dI x2_0 fun a7 => dI x2_1 fun a8 => dI x2_2 fun a9 => dI x2_3 fun a10 => dI x2_4 fun a11 => dI x2_5 fun a12 => dI x2_6 fun a13 => dI x2_7 fun a14 => dI x3 fun a15 => (∀ (p' : Int) (s' : Int) (n' : Int) (t' : Int) (r' : Int) (k : Int) (x : Int) (y : Int) (m : Int) (c : Int) (q : Int) (f : Int) (g : Int) (v : Bool), Hyp (hear ⟨a1, a2, a3, a4, a5⟩ a6 ⟨a7, a8, a9, a10, a11, a12, a13, a14⟩ a15 = (⟨p', s', n', t', r'⟩, ⟨k, x, y, m, c, q, f, g⟩, v)) → K (.tup [.agg [I p', I s', I n', I t', I r'], .agg [I k, I x, I y, I m, I c, I q, I f, I g], B v]) E)
  | 10 => d0 args ((K (B true) E))
  | 19 => d1 args fun x0 => dC x0 fun l1 => d5 l1 fun x0_0 x0_1 x0_2 x0_3 x0_4 => dI x0_0 fun a1 => dI x0_1 fun a2 => dI x0_2 fun a3 => dI x0_3 fun a4 => dI x0_4 fun a5 => (K (B (decide (VJ a1 a2 a3 a4 a5))) E)
  | _ => False
theorem tabO_ok : TabOK Try.prog tabO := by
  intro f args E K h
  unfold tabO at h
  split at h
  · obtain ⟨x0, x1, x2, x3, rfl, h⟩ := d4_elim h
    obtain ⟨l1, hl1, h⟩ := dC_elim h
    obtain ⟨x0_0, x0_1, x0_2, x0_3, x0_4, rfl, h⟩ := d5_elim h
    obtain ⟨a1, rfl, h⟩ := dI_elim h
    obtain ⟨a2, rfl, h⟩ := dI_elim h
    obtain ⟨a3, rfl, h⟩ := dI_elim h
    obtain ⟨a4, rfl, h⟩ := dI_elim h
    obtain ⟨a5, rfl, h⟩ := dI_elim h
    obtain ⟨a6, rfl, h⟩ := dI_elim h
    obtain ⟨l2, hl2, h⟩ := dC_elim h
    obtain ⟨x2_0, x2_1, x2_2, x2_3, x2_4, x2_5, x2_6, x2_7, rfl, h⟩ := d8_elim h
    obtain ⟨a7, rfl, h⟩ := dI_elim h
    obtain ⟨a8, rfl, h⟩ := dI_elim h
    obtain ⟨a9, rfl, h⟩ := dI_elim h
    obtain ⟨a10, rfl, h⟩ := dI_elim h
    obtain ⟨a11, rfl, h⟩ := dI_elim h
    obtain ⟨a12, rfl, h⟩ := dI_elim h
    obtain ⟨a13, rfl, h⟩ := dI_elim h
    obtain ⟨a14, rfl, h⟩ := dI_elim h
    obtain ⟨a15, rfl, h⟩ := dI_elim h
    exact TabSem.congr (valL_cons (asCells_val hl1) (valL_cons rfl (valL_cons (asCells_val hl2) (valL_cons rfl rfl)))) (Ent.sem okJ0 Try.func13 ⟨by kernel_rfl, by kernel_rfl⟩ rfl (v13 h))
  · obtain ⟨rfl, h⟩ := d0_elim h
    exact TabSem.congr rfl (Ent.sem okJQ Try.func10 ⟨by kernel_rfl, by kernel_rfl⟩ rfl (t10 h))
  · obtain ⟨x0, rfl, h⟩ := d1_elim h
    obtain ⟨l1, hl1, h⟩ := dC_elim h
    obtain ⟨x0_0, x0_1, x0_2, x0_3, x0_4, rfl, h⟩ := d5_elim h
    obtain ⟨a1, rfl, h⟩ := dI_elim h
    obtain ⟨a2, rfl, h⟩ := dI_elim h
    obtain ⟨a3, rfl, h⟩ := dI_elim h
    obtain ⟨a4, rfl, h⟩ := dI_elim h
    obtain ⟨a5, rfl, h⟩ := dI_elim h
    exact TabSem.congr (valL_cons (asCells_val hl1) rfl) (Ent.sem okJ9 Try.func19 ⟨by kernel_rfl, by kernel_rfl⟩ rfl (t19 h))
  · exact h.elim
noncomputable def JO : Cx := { P := Try.prog, inl := fun f => List.contains [20] f, tab := tabO, isB := fun _ => false, tabB := fun _ _ _ _ _ => False, opt := { unroll := 0, carry := [10, 11, 37], cuts := [10, 11, 12] }, muts := mutsD }
theorem okJO : CxOK JO := ⟨tabO_ok, by kernel_rfl, okInl (by kernel_rfl), fun _ _ _ _ _ h => h.elim⟩

def shR (a1 a2 a3 a4 a5 a6 a7 : Int) (b : Option Addr) (l c : Nat) (E : Mem) (k : Nat) (pr wl : Bool) (p : Int) : St := { fr := [none, some (I a6), some (I a7), none, some (.loc 0 0), none, none, none, none, some (B true), some (B pr), some (B wl), some (.loc 1 0), none, none, none, none, none, none, none, none, none, none, none, none, none, none, none, none, none, none, none, none, none, none, some (L b l c), some (I l), some (I k), none, none, none, none, none, none, none, none, none, none, none, none, none, none, none, none, none, none, none, none, none, none, none, none, none, none, none, none, none, none, none, none, none, none, none, none, none, none, none, none, none, none, none, none, none, none, none, none, none, none, none, none, none, none, none, none, none, none, none, none, none, none, none, none, none, none, none, none, none, none, none, none, none, none, none, none, none, none, none, none, none, none, none, none, none, none, none, none, none, none, none, none, none], bx := [⟨23, .lst [I a1, I a2, I a3, I a4, I a5], 5, true⟩, ⟨23, .lst [I p, I a2, I a3, I a4, I a5], 5, true⟩], E := E }
def shC (a1 a2 a3 a4 a5 a6 a7 : Int) (b : Option Addr) (l c : Nat) (E : Mem) (k : Nat) (pr wl : Bool) (p : Int) (wk wx wy wm wc wq wf wg : Int) (mine : Bool) : St := { fr := [none, some (I a6), some (I a7), none, some (.loc 0 0), none, none, none, none, some (B true), some (B pr), some (B wl), some (.loc 1 0), none, some (.loc 2 0), some (B mine), none, none, none, none, none, none, none, none, none, none, none, none, none, none, none, none, none, none, none, some (L b l c), some (I l), some (I k), none, none, none, none, none, none, none, none, none, none, none, none, none, none, none, none, none, none, none, none, none, none, none, none, none, none, none, none, none, none, none, none, none, none, none, none, none, none, none, none, none, none, none, none, none, none, none, none, none, none, none, none, none, none, none, none, none, none, none, none, none, none, none, none, none, none, none, none, none, none, none, none, none, none, none, none, none, none, none, none, none, none, none, none, none, none, none, none, none, none, none, none, none], bx := [⟨23, .lst [I a1, I a2, I a3, I a4, I a5], 5, true⟩, ⟨23, .lst [I p, I a2, I a3, I a4, I a5], 5, true⟩, ⟨27, .lst [I wk, I wx, I wy, I wm, I wc, I wq, I wf, I wg], 8, true⟩], E := E }
/-- What is known at the head of a round. -/
def Inv (a1 p : Int) (pr wl : Bool) : Prop := a1 ≠ 3 ∧ (a1 = 2 → pr = true) ∧ (p = a1 ∨ (a1 = 1 ∧ p = 2 ∧ pr = true) ∨ (p = 3 ∧ wl = true))
theorem pcD {a1 a2 a3 a4 a5 a6 a7 : Int} {b : Option Addr} {l c k : Nat} {pr wl : Bool} {p : Int} {wk wx wy wm wc wq wf wg : Int} {mine : Bool} (ha : a1 ≠ 3) (hpr : a1 = 2 → pr = true) (hD : p = a1 ∨ (a1 = 1 ∧ p = 2 ∧ pr = true) ∨ (p = 3 ∧ wl = true))
    (hC : Meant p a2 a3 a4 a5 a6 wk wx wy wm wc a7 → wk = 2 → a1 = 1 → pr = true) (hW : Meant p a2 a3 a4 a5 a6 wk wx wy wm wc a7 → wk = 4 → wq = a6 + 1000000 → pr = true → wl = true)
    (ih : ∀ p, Inv a1 p pr wl → Lp JO 10 Try.f5 [1, 1, 1, 1, 1, 0, 1, 0] 0 (pubK E K) (shR a1 a2 a3 a4 a5 a6 a7 b l c E (k + 1) pr wl p)) (hk : k < l) (hl : l ≤ maxLen) : Pc JO 10 Try.f5 [1, 1, 1, 1, 1, 0, 1, 0, 0, 1, 1, 0, 0, 1, 1, 1, 1] 0 (pubK E K) (shC a1 a2 a3 a4 a5 a6 a7 b l c E k pr wl p wk wx wy wm wc wq wf wg mine) := by
  refine same (by kernel_rfl) (?_ : 
      ∀ (p' s' n' t' r' k_1 x y m c_1 q f g : Int) (v : Bool),
        Hyp
            (hear { p := p, s := a2, n := a3, t := a4, r := a5 } a6
                { k := wk, x := wx, y := wy, m := wm, c := wc, q := wq, f := wf, g := wg } a7 =
              ({ p := p', s := s', n := n', t := t', r := r' },
                { k := k_1, x := x, y := y, m := m, c := c_1, q := q, f := f, g := g }, v)) →
          Mem.le E E ∧
            bif p' == 3 then
              bif bif true then !wl else false then Mem.le E E ∧ K (SV.raw (Value.bool false)) E
              else
                bif bif false then true else s' != a2 then Mem.le E E ∧ K (SV.raw (Value.bool false)) E
                else
                  bif bif false then true else n' != a3 then Mem.le E E ∧ K (SV.raw (Value.bool false)) E
                  else
                    bif bif false then true else r' != a5 then Mem.le E E ∧ K (SV.raw (Value.bool false)) E
                    else
                      Lp JO 10 Try.f5 [1, 1, 1, 1, 1, 0, 1, 0] 0 (pubK E K)
                        {
                          fr :=
                            [none, some (SV.raw (Value.int IntKind.i64 a6)), some (SV.raw (Value.int IntKind.i64 a7)), none,
                              some (SV.loc 0 0), none, none, none, none, some (SV.raw (Value.bool true)),
                              some (SV.raw (Value.bool pr)), some (SV.raw (Value.bool wl)), some (SV.loc 1 0), none, none,
                              none, none, none, none, none, none, none, none, none, none, none, none, none, none, none, none,
                              none, none, none, none, some (SV.raw (Value.slice b l c)),
                              some (SV.raw (Value.int IntKind.i64 (↑l : Int))),
                              some (SV.raw (Value.int IntKind.i64 (IntKind.wrap IntKind.i64 ((↑k : Int) + 1)))), none, none,
                              none, none, none, none, none, none, none, none, none, none, none, none, none, none, none, none,
                              none, none, none, none, none, none, none, none, none, none, none, none, none, none, none, none,
                              none, none, none, none, none, none, none, none, none, none, none, none, none, none, none, none,
                              none, none, none, none, none, none, none, none, none, none, none, none, none, none, none, none,
                              none, none, none, none, none, none, none, none, none, none, none, none, none, none, none, none,
                              none, none, none, none, none, none, none, none, none, none, none],
                          bx :=
                            [{ elem := 23,
                                row :=
                                  Row.lst
                                    [SV.raw (Value.int IntKind.i64 a1), SV.raw (Value.int IntKind.i64 a2),
                                      SV.raw (Value.int IntKind.i64 a3), SV.raw (Value.int IntKind.i64 a4),
                                      SV.raw (Value.int IntKind.i64 a5)],
                                total := 5, own := true },
                              { elem := 23,
                                row :=
                                  Row.lst
                                    [SV.raw (Value.int IntKind.i64 p'), SV.raw (Value.int IntKind.i64 s'),
                                      SV.raw (Value.int IntKind.i64 n'), SV.raw (Value.int IntKind.i64 t'),
                                      SV.raw (Value.int IntKind.i64 r')],
                                total := 5, own := true },
                              { elem := 27,
                                row :=
                                  Row.lst
                                    [SV.raw (Value.int IntKind.i64 wk), SV.raw (Value.int IntKind.i64 wx),
                                      SV.raw (Value.int IntKind.i64 wy), SV.raw (Value.int IntKind.i64 wm),
                                      SV.raw (Value.int IntKind.i64 wc), SV.raw (Value.int IntKind.i64 wq),
                                      SV.raw (Value.int IntKind.i64 wf), SV.raw (Value.int IntKind.i64 wg)],
                                total := 8, own := true }],
                          E := E }
            else
              bif bif false then true else s' != a2 then Mem.le E E ∧ K (SV.raw (Value.bool false)) E
              else
                bif bif false then true else n' != a3 then Mem.le E E ∧ K (SV.raw (Value.bool false)) E
                else
                  bif bif false then true else r' != a5 then Mem.le E E ∧ K (SV.raw (Value.bool false)) E
                  else
                    Lp JO 10 Try.f5 [1, 1, 1, 1, 1, 0, 1, 0] 0 (pubK E K)
                      {
                        fr :=
                          [none, some (SV.raw (Value.int IntKind.i64 a6)), some (SV.raw (Value.int IntKind.i64 a7)), none,
                            some (SV.loc 0 0), none, none, none, none, some (SV.raw (Value.bool true)),
                            some (SV.raw (Value.bool pr)), some (SV.raw (Value.bool wl)), some (SV.loc 1 0), none, none, none,
                            none, none, none, none, none, none, none, none, none, none, none, none, none, none, none, none,
                            none, none, none, some (SV.raw (Value.slice b l c)),
                            some (SV.raw (Value.int IntKind.i64 (↑l : Int))),
                            some (SV.raw (Value.int IntKind.i64 (IntKind.wrap IntKind.i64 ((↑k : Int) + 1)))), none, none,
                            none, none, none, none, none, none, none, none, none, none, none, none, none, none, none, none,
                            none, none, none, none, none, none, none, none, none, none, none, none, none, none, none, none,
                            none, none, none, none, none, none, none, none, none, none, none, none, none, none, none, none,
                            none, none, none, none, none, none, none, none, none, none, none, none, none, none, none, none,
                            none, none, none, none, none, none, none, none, none, none, none, none, none, none, none, none,
                            none, none, none, none, none, none, none, none, none, none, none],
                        bx :=
                          [{ elem := 23,
                              row :=
                                Row.lst
                                  [SV.raw (Value.int IntKind.i64 a1), SV.raw (Value.int IntKind.i64 a2),
                                    SV.raw (Value.int IntKind.i64 a3), SV.raw (Value.int IntKind.i64 a4),
                                    SV.raw (Value.int IntKind.i64 a5)],
                              total := 5, own := true },
                            { elem := 23,
                              row :=
                                Row.lst
                                  [SV.raw (Value.int IntKind.i64 p'), SV.raw (Value.int IntKind.i64 s'),
                                    SV.raw (Value.int IntKind.i64 n'), SV.raw (Value.int IntKind.i64 t'),
                                    SV.raw (Value.int IntKind.i64 r')],
                              total := 5, own := true },
                            { elem := 27,
                              row :=
                                Row.lst
                                  [SV.raw (Value.int IntKind.i64 wk), SV.raw (Value.int IntKind.i64 wx),
                                    SV.raw (Value.int IntKind.i64 wy), SV.raw (Value.int IntKind.i64 wm),
                                    SV.raw (Value.int IntKind.i64 wc), SV.raw (Value.int IntKind.i64 wq),
                                    SV.raw (Value.int IntKind.i64 wf), SV.raw (Value.int IntKind.i64 wg)],
                              total := 8, own := true }],
                        E := E })
  intro p' s' n' t' r' k1 x y m c1 q f g v hh
  refine ⟨Mem.le_refl _, ?_⟩
  have key : a2 = s' ∧ a3 = n' ∧ a4 = t' ∧ a5 = r' ∧ (p' = a1 ∨ (a1 = 1 ∧ p' = 2 ∧ pr = true) ∨ (p' = 3 ∧ wl = true)) := by
    by_cases hM : Meant p a2 a3 a4 a5 a6 wk wx wy wm wc a7
    · by_cases h2 : wk = 2 ∧ (p = 1 ∨ p = 2)
      · obtain ⟨rfl, rfl, rfl, rfl, rfl, _⟩ := hear_two' hh hM h2
        refine ⟨rfl, rfl, rfl, rfl, ?_⟩
        have hC' := hC hM h2.1
        rcases hD with hD | hD | hD
        · rcases h2.2 with e | e
          · exact .inr (.inl ⟨by omega, rfl, hC' (by omega)⟩)
          · exact .inl (by omega)
        · exact .inr (.inl ⟨hD.1, rfl, hD.2.2⟩)
        · omega
      · by_cases h4 : wk = 4 ∧ p = 2 ∧ wq = a6 + 1000000
        · obtain ⟨rfl, rfl, rfl, rfl, rfl, _⟩ := hear_four' hh hM h4
          refine ⟨rfl, rfl, rfl, rfl, .inr (.inr ⟨rfl, hW hM h4.1 h4.2.2 ?_⟩)⟩
          rcases hD with hD | hD | hD
          · exact hpr (by omega)
          · exact hD.2.2
          · omega
        · obtain ⟨rfl, rfl, rfl, rfl, rfl, _⟩ := hear_no' hh (by rintro ⟨_, h | h⟩; exact h2 h; exact h4 h)
          exact ⟨rfl, rfl, rfl, rfl, hD⟩
    · obtain ⟨rfl, rfl, rfl, rfl, rfl, _⟩ := hear_no' hh (fun h => hM h.1)
      exact ⟨rfl, rfl, rfl, rfl, hD⟩
  obtain ⟨rfl, rfl, rfl, rfl, hk'⟩ := key
  have hm : maxLen = 9223372036854775807 := rfl
  have hw : IntKind.wrap .i64 ((k : Int) + 1) = ((k + 1 : Nat) : Int) := by rw [wrap_i64 (by omega)]; rfl
  simp only [hw, bne_self_eq_false, cond_false]
  have hI := ih p' ⟨ha, hpr, hk'⟩
  refine condC (fun h3 => ?_) (fun h3 => ?_)
  · have e3 : p' = 3 := by simpa using h3
    have ew : wl = true := by
      rcases hk' with e | e | e
      · omega
      · omega
      · exact e.2
    subst ew
    refine condC (fun hx => absurd hx (by simp)) (fun _ => ?_)
    exact Lp_re [some 0, some 1] hI ⟨⟨Nat.zero_le _, Nat.zero_le _, fun j h => absurd h (Nat.not_lt_zero _)⟩, rfl, (by repeat' first | exact True.intro | refine And.intro (Or.inl rfl) ?_), (by repeat' first | exact True.intro | exact rfl | exact Or.inl rfl | refine And.intro ?_ ?_), (by show List.Nodup [0, 1]; decide), Mem.le_refl _⟩
  · exact Lp_re [some 0, some 1] hI ⟨⟨Nat.zero_le _, Nat.zero_le _, fun j h => absurd h (Nat.not_lt_zero _)⟩, rfl, (by repeat' first | exact True.intro | refine And.intro (Or.inl rfl) ?_), (by repeat' first | exact True.intro | exact rfl | exact Or.inl rfl | refine And.intro ?_ ?_), (by show List.Nodup [0, 1]; decide), Mem.le_refl _⟩
theorem pcC {a1 a2 a3 a4 a5 a6 a7 : Int} {b : Option Addr} {l c k : Nat} {pr wl : Bool} {p : Int} {wk wx wy wm wc wq wf wg : Int} {mine : Bool} (ha : a1 ≠ 3) (hpr : a1 = 2 → pr = true) (hD : p = a1 ∨ (a1 = 1 ∧ p = 2 ∧ pr = true) ∨ (p = 3 ∧ wl = true)) (hmine : mine = true ↔ wx = a6 ∧ wy = a2 ∧ wm = a3)
    (hC : Meant p a2 a3 a4 a5 a6 wk wx wy wm wc a7 → wk = 2 → a1 = 1 → pr = true)
    (ih : ∀ wl p, Inv a1 p pr wl → Lp JO 10 Try.f5 [1, 1, 1, 1, 1, 0, 1, 0] 0 (pubK E K) (shR a1 a2 a3 a4 a5 a6 a7 b l c E (k + 1) pr wl p)) (hk : k < l) (hl : l ≤ maxLen) : Pc JO 10 Try.f5 [1, 1, 1, 1, 1, 0, 1, 0, 0, 1, 1, 0, 0, 1, 1, 1] 0 (pubK E K) (shC a1 a2 a3 a4 a5 a6 a7 b l c E k pr wl p wk wx wy wm wc wq wf wg mine) := by
  refine same (by kernel_rfl) (?_ : 
      bif wl then
        Ct JO 10 Try.f5 [1, 1, 1, 1, 1, 0, 1, 0, 0, 1, 1, 0, 0, 1, 1, 1, 1] 0 (pubK E K)
          {
            fr :=
              [none, some (SV.raw (Value.int IntKind.i64 a6)), some (SV.raw (Value.int IntKind.i64 a7)), none,
                some (SV.loc 0 0), none, none, none, none, some (SV.raw (Value.bool true)), some (SV.raw (Value.bool pr)),
                some (SV.raw (Value.bool true)), some (SV.loc 1 0), none, some (SV.loc 2 0), some (SV.raw (Value.bool mine)),
                none, none, none, none, none, none, none, none, none, none, none, none, none, none, none, none, none, none,
                none, some (SV.raw (Value.slice b l c)), some (SV.raw (Value.int IntKind.i64 (↑l : Int))),
                some (SV.raw (Value.int IntKind.i64 (↑k : Int))), none, none, none, none, none, none, none, none, none, none,
                none, none, none, none, none, none, none, none, none, none, none, none, none, none, none, none, none, none,
                none, none, none, none, none, none, none, some (SV.raw (Value.bool wl)), some (SV.raw (Value.bool true)),
                some (SV.raw (Value.tuple { toList := [] })), some (SV.raw (Value.tuple { toList := [] })),
                some (SV.raw (Value.tuple { toList := [] })), some (SV.raw (Value.tuple { toList := [] })),
                some (SV.raw (Value.tuple { toList := [] })), some (SV.raw (Value.tuple { toList := [] })),
                some (SV.raw (Value.tuple { toList := [] })), some (SV.raw (Value.tuple { toList := [] })),
                some (SV.raw (Value.tuple { toList := [] })), some (SV.raw (Value.tuple { toList := [] })),
                some (SV.raw (Value.tuple { toList := [] })), some (SV.raw (Value.tuple { toList := [] })),
                some (SV.raw (Value.tuple { toList := [] })), some (SV.raw (Value.tuple { toList := [] })),
                some (SV.raw (Value.tuple { toList := [] })), some (SV.raw (Value.tuple { toList := [] })),
                some (SV.raw (Value.bool true)), none, none, none, none, none, none, none, none, none, none, none, none, none,
                none, none, none, none, none, none, none, none, none, none, none, none, none, none, none, none, none, none,
                none, none, none, none, none, none, none, none],
            bx :=
              [{ elem := 23,
                  row :=
                    Row.lst
                      [SV.raw (Value.int IntKind.i64 a1), SV.raw (Value.int IntKind.i64 a2),
                        SV.raw (Value.int IntKind.i64 a3), SV.raw (Value.int IntKind.i64 a4),
                        SV.raw (Value.int IntKind.i64 a5)],
                  total := 5, own := true },
                { elem := 23,
                  row :=
                    Row.lst
                      [SV.raw (Value.int IntKind.i64 p), SV.raw (Value.int IntKind.i64 a2), SV.raw (Value.int IntKind.i64 a3),
                        SV.raw (Value.int IntKind.i64 a4), SV.raw (Value.int IntKind.i64 a5)],
                  total := 5, own := true },
                { elem := 27,
                  row :=
                    Row.lst
                      [SV.raw (Value.int IntKind.i64 wk), SV.raw (Value.int IntKind.i64 wx),
                        SV.raw (Value.int IntKind.i64 wy), SV.raw (Value.int IntKind.i64 wm),
                        SV.raw (Value.int IntKind.i64 wc), SV.raw (Value.int IntKind.i64 wq),
                        SV.raw (Value.int IntKind.i64 wf), SV.raw (Value.int IntKind.i64 wg)],
                  total := 8, own := true }],
            E := E }
      else
        bif mine then
          bif bif true then wk == 4 else false then
            Mem.le E E ∧
              bif bif true then wq == IntKind.wrap IntKind.i64 (1000000 + a6) else false then
                Ct JO 10 Try.f5 [1, 1, 1, 1, 1, 0, 1, 0, 0, 1, 1, 0, 0, 1, 1, 1, 1] 0 (pubK E K)
                  {
                    fr :=
                      [none, some (SV.raw (Value.int IntKind.i64 a6)), some (SV.raw (Value.int IntKind.i64 a7)), none,
                        some (SV.loc 0 0), none, none, none, none, some (SV.raw (Value.bool true)),
                        some (SV.raw (Value.bool pr)),
                        some (SV.raw (Value.bool (bif false then true else bif true then pr else false))), some (SV.loc 1 0),
                        none, some (SV.loc 2 0), some (SV.raw (Value.bool mine)), none, none, none, none, none, none, none,
                        none, none, none, none, none, none, none, none, none, none, none, none,
                        some (SV.raw (Value.slice b l c)), some (SV.raw (Value.int IntKind.i64 (↑l : Int))),
                        some (SV.raw (Value.int IntKind.i64 (↑k : Int))), none, none, none, none, none, none, none, none,
                        none, none, none, none, none, none, none, none, none, none, none, none, none, none, none, none, none,
                        none, none, none, none, none, none, none, none, none, none, some (SV.raw (Value.bool wl)),
                        some (SV.raw (Value.bool false)), some (SV.raw (Value.bool mine)), some (SV.raw (Value.bool true)),
                        some (SV.loc 2 0), some (SV.raw (Value.int IntKind.i64 wk)), some (SV.raw (Value.bool (wk == 4))),
                        some (SV.raw (Value.bool (bif true then wk == 4 else false))), some (SV.raw (Value.bool true)),
                        some (SV.loc 2 5), some (SV.raw (Value.int IntKind.i64 wq)), some (SV.raw (Value.int IntKind.i64 a6)),
                        some (SV.raw (Value.int IntKind.i64 (IntKind.wrap IntKind.i64 (1000000 + a6)))),
                        some (SV.raw (Value.bool (wq == IntKind.wrap IntKind.i64 (1000000 + a6)))),
                        some (SV.raw (Value.bool (bif true then wq == IntKind.wrap IntKind.i64 (1000000 + a6) else false))),
                        some (SV.raw (Value.bool true)), some (SV.raw (Value.bool pr)),
                        some (SV.raw (Value.bool (bif true then pr else false))),
                        some (SV.raw (Value.bool (bif false then true else bif true then pr else false))), none, none, none,
                        none, none, none, none, none, none, none, none, none, none, none, none, none, none, none, none, none,
                        none, none, none, none, none, none, none, none, none, none, none, none, none, none, none, none, none,
                        none, none],
                    bx :=
                      [{ elem := 23,
                          row :=
                            Row.lst
                              [SV.raw (Value.int IntKind.i64 a1), SV.raw (Value.int IntKind.i64 a2),
                                SV.raw (Value.int IntKind.i64 a3), SV.raw (Value.int IntKind.i64 a4),
                                SV.raw (Value.int IntKind.i64 a5)],
                          total := 5, own := true },
                        { elem := 23,
                          row :=
                            Row.lst
                              [SV.raw (Value.int IntKind.i64 p), SV.raw (Value.int IntKind.i64 a2),
                                SV.raw (Value.int IntKind.i64 a3), SV.raw (Value.int IntKind.i64 a4),
                                SV.raw (Value.int IntKind.i64 a5)],
                          total := 5, own := true },
                        { elem := 27,
                          row :=
                            Row.lst
                              [SV.raw (Value.int IntKind.i64 wk), SV.raw (Value.int IntKind.i64 wx),
                                SV.raw (Value.int IntKind.i64 wy), SV.raw (Value.int IntKind.i64 wm),
                                SV.raw (Value.int IntKind.i64 wc), SV.raw (Value.int IntKind.i64 wq),
                                SV.raw (Value.int IntKind.i64 wf), SV.raw (Value.int IntKind.i64 wg)],
                          total := 8, own := true }],
                    E := E }
              else
                Ct JO 10 Try.f5 [1, 1, 1, 1, 1, 0, 1, 0, 0, 1, 1, 0, 0, 1, 1, 1, 1] 0 (pubK E K)
                  {
                    fr :=
                      [none, some (SV.raw (Value.int IntKind.i64 a6)), some (SV.raw (Value.int IntKind.i64 a7)), none,
                        some (SV.loc 0 0), none, none, none, none, some (SV.raw (Value.bool true)),
                        some (SV.raw (Value.bool pr)), some (SV.raw (Value.bool false)), some (SV.loc 1 0), none,
                        some (SV.loc 2 0), some (SV.raw (Value.bool mine)), none, none, none, none, none, none, none, none,
                        none, none, none, none, none, none, none, none, none, none, none, some (SV.raw (Value.slice b l c)),
                        some (SV.raw (Value.int IntKind.i64 (↑l : Int))), some (SV.raw (Value.int IntKind.i64 (↑k : Int))),
                        none, none, none, none, none, none, none, none, none, none, none, none, none, none, none, none, none,
                        none, none, none, none, none, none, none, none, none, none, none, none, none, none, none, none, none,
                        none, some (SV.raw (Value.bool wl)), some (SV.raw (Value.bool false)),
                        some (SV.raw (Value.bool mine)), some (SV.raw (Value.bool true)), some (SV.loc 2 0),
                        some (SV.raw (Value.int IntKind.i64 wk)), some (SV.raw (Value.bool (wk == 4))),
                        some (SV.raw (Value.bool (bif true then wk == 4 else false))), some (SV.raw (Value.bool true)),
                        some (SV.loc 2 5), some (SV.raw (Value.int IntKind.i64 wq)), some (SV.raw (Value.int IntKind.i64 a6)),
                        some (SV.raw (Value.int IntKind.i64 (IntKind.wrap IntKind.i64 (1000000 + a6)))),
                        some (SV.raw (Value.bool (wq == IntKind.wrap IntKind.i64 (1000000 + a6)))),
                        some (SV.raw (Value.bool (bif true then wq == IntKind.wrap IntKind.i64 (1000000 + a6) else false))),
                        some (SV.raw (Value.bool false)), some (SV.raw (Value.tuple { toList := [] })),
                        some (SV.raw (Value.bool false)), some (SV.raw (Value.bool false)), none, none, none, none, none,
                        none, none, none, none, none, none, none, none, none, none, none, none, none, none, none, none, none,
                        none, none, none, none, none, none, none, none, none, none, none, none, none, none, none, none, none],
                    bx :=
                      [{ elem := 23,
                          row :=
                            Row.lst
                              [SV.raw (Value.int IntKind.i64 a1), SV.raw (Value.int IntKind.i64 a2),
                                SV.raw (Value.int IntKind.i64 a3), SV.raw (Value.int IntKind.i64 a4),
                                SV.raw (Value.int IntKind.i64 a5)],
                          total := 5, own := true },
                        { elem := 23,
                          row :=
                            Row.lst
                              [SV.raw (Value.int IntKind.i64 p), SV.raw (Value.int IntKind.i64 a2),
                                SV.raw (Value.int IntKind.i64 a3), SV.raw (Value.int IntKind.i64 a4),
                                SV.raw (Value.int IntKind.i64 a5)],
                          total := 5, own := true },
                        { elem := 27,
                          row :=
                            Row.lst
                              [SV.raw (Value.int IntKind.i64 wk), SV.raw (Value.int IntKind.i64 wx),
                                SV.raw (Value.int IntKind.i64 wy), SV.raw (Value.int IntKind.i64 wm),
                                SV.raw (Value.int IntKind.i64 wc), SV.raw (Value.int IntKind.i64 wq),
                                SV.raw (Value.int IntKind.i64 wf), SV.raw (Value.int IntKind.i64 wg)],
                          total := 8, own := true }],
                    E := E }
          else
            Ct JO 10 Try.f5 [1, 1, 1, 1, 1, 0, 1, 0, 0, 1, 1, 0, 0, 1, 1, 1, 1] 0 (pubK E K)
              {
                fr :=
                  [none, some (SV.raw (Value.int IntKind.i64 a6)), some (SV.raw (Value.int IntKind.i64 a7)), none,
                    some (SV.loc 0 0), none, none, none, none, some (SV.raw (Value.bool true)), some (SV.raw (Value.bool pr)),
                    some (SV.raw (Value.bool false)), some (SV.loc 1 0), none, some (SV.loc 2 0),
                    some (SV.raw (Value.bool mine)), none, none, none, none, none, none, none, none, none, none, none, none,
                    none, none, none, none, none, none, none, some (SV.raw (Value.slice b l c)),
                    some (SV.raw (Value.int IntKind.i64 (↑l : Int))), some (SV.raw (Value.int IntKind.i64 (↑k : Int))), none,
                    none, none, none, none, none, none, none, none, none, none, none, none, none, none, none, none, none,
                    none, none, none, none, none, none, none, none, none, none, none, none, none, none, none, none, none,
                    some (SV.raw (Value.bool wl)), some (SV.raw (Value.bool false)), some (SV.raw (Value.bool mine)),
                    some (SV.raw (Value.bool true)), some (SV.loc 2 0), some (SV.raw (Value.int IntKind.i64 wk)),
                    some (SV.raw (Value.bool (wk == 4))), some (SV.raw (Value.bool (bif true then wk == 4 else false))),
                    some (SV.raw (Value.bool false)), some (SV.raw (Value.tuple { toList := [] })),
                    some (SV.raw (Value.tuple { toList := [] })), some (SV.raw (Value.tuple { toList := [] })),
                    some (SV.raw (Value.tuple { toList := [] })), some (SV.raw (Value.tuple { toList := [] })),
                    some (SV.raw (Value.bool false)), some (SV.raw (Value.bool false)),
                    some (SV.raw (Value.tuple { toList := [] })), some (SV.raw (Value.bool false)),
                    some (SV.raw (Value.bool false)), none, none, none, none, none, none, none, none, none, none, none, none,
                    none, none, none, none, none, none, none, none, none, none, none, none, none, none, none, none, none,
                    none, none, none, none, none, none, none, none, none, none],
                bx :=
                  [{ elem := 23,
                      row :=
                        Row.lst
                          [SV.raw (Value.int IntKind.i64 a1), SV.raw (Value.int IntKind.i64 a2),
                            SV.raw (Value.int IntKind.i64 a3), SV.raw (Value.int IntKind.i64 a4),
                            SV.raw (Value.int IntKind.i64 a5)],
                      total := 5, own := true },
                    { elem := 23,
                      row :=
                        Row.lst
                          [SV.raw (Value.int IntKind.i64 p), SV.raw (Value.int IntKind.i64 a2),
                            SV.raw (Value.int IntKind.i64 a3), SV.raw (Value.int IntKind.i64 a4),
                            SV.raw (Value.int IntKind.i64 a5)],
                      total := 5, own := true },
                    { elem := 27,
                      row :=
                        Row.lst
                          [SV.raw (Value.int IntKind.i64 wk), SV.raw (Value.int IntKind.i64 wx),
                            SV.raw (Value.int IntKind.i64 wy), SV.raw (Value.int IntKind.i64 wm),
                            SV.raw (Value.int IntKind.i64 wc), SV.raw (Value.int IntKind.i64 wq),
                            SV.raw (Value.int IntKind.i64 wf), SV.raw (Value.int IntKind.i64 wg)],
                      total := 8, own := true }],
                E := E }
        else
          Ct JO 10 Try.f5 [1, 1, 1, 1, 1, 0, 1, 0, 0, 1, 1, 0, 0, 1, 1, 1, 1] 0 (pubK E K)
            {
              fr :=
                [none, some (SV.raw (Value.int IntKind.i64 a6)), some (SV.raw (Value.int IntKind.i64 a7)), none,
                  some (SV.loc 0 0), none, none, none, none, some (SV.raw (Value.bool true)), some (SV.raw (Value.bool pr)),
                  some (SV.raw (Value.bool false)), some (SV.loc 1 0), none, some (SV.loc 2 0),
                  some (SV.raw (Value.bool mine)), none, none, none, none, none, none, none, none, none, none, none, none,
                  none, none, none, none, none, none, none, some (SV.raw (Value.slice b l c)),
                  some (SV.raw (Value.int IntKind.i64 (↑l : Int))), some (SV.raw (Value.int IntKind.i64 (↑k : Int))), none,
                  none, none, none, none, none, none, none, none, none, none, none, none, none, none, none, none, none, none,
                  none, none, none, none, none, none, none, none, none, none, none, none, none, none, none, none,
                  some (SV.raw (Value.bool wl)), some (SV.raw (Value.bool false)), some (SV.raw (Value.bool mine)),
                  some (SV.raw (Value.bool false)), some (SV.raw (Value.tuple { toList := [] })),
                  some (SV.raw (Value.tuple { toList := [] })), some (SV.raw (Value.tuple { toList := [] })),
                  some (SV.raw (Value.bool false)), some (SV.raw (Value.bool false)),
                  some (SV.raw (Value.tuple { toList := [] })), some (SV.raw (Value.tuple { toList := [] })),
                  some (SV.raw (Value.tuple { toList := [] })), some (SV.raw (Value.tuple { toList := [] })),
                  some (SV.raw (Value.tuple { toList := [] })), some (SV.raw (Value.bool false)),
                  some (SV.raw (Value.bool false)), some (SV.raw (Value.tuple { toList := [] })),
                  some (SV.raw (Value.bool false)), some (SV.raw (Value.bool false)), none, none, none, none, none, none,
                  none, none, none, none, none, none, none, none, none, none, none, none, none, none, none, none, none, none,
                  none, none, none, none, none, none, none, none, none, none, none, none, none, none, none],
              bx :=
                [{ elem := 23,
                    row :=
                      Row.lst
                        [SV.raw (Value.int IntKind.i64 a1), SV.raw (Value.int IntKind.i64 a2),
                          SV.raw (Value.int IntKind.i64 a3), SV.raw (Value.int IntKind.i64 a4),
                          SV.raw (Value.int IntKind.i64 a5)],
                    total := 5, own := true },
                  { elem := 23,
                    row :=
                      Row.lst
                        [SV.raw (Value.int IntKind.i64 p), SV.raw (Value.int IntKind.i64 a2),
                          SV.raw (Value.int IntKind.i64 a3), SV.raw (Value.int IntKind.i64 a4),
                          SV.raw (Value.int IntKind.i64 a5)],
                    total := 5, own := true },
                  { elem := 27,
                    row :=
                      Row.lst
                        [SV.raw (Value.int IntKind.i64 wk), SV.raw (Value.int IntKind.i64 wx),
                          SV.raw (Value.int IntKind.i64 wy), SV.raw (Value.int IntKind.i64 wm),
                          SV.raw (Value.int IntKind.i64 wc), SV.raw (Value.int IntKind.i64 wq),
                          SV.raw (Value.int IntKind.i64 wf), SV.raw (Value.int IntKind.i64 wg)],
                    total := 8, own := true }],
              E := E })
  have hb : Meant p a2 a3 a4 a5 a6 wk wx wy wm wc a7 → mine = true ∧ IntKind.wrap .i64 (1000000 + a6) = a6 + 1000000 := by
    intro hM
    unfold Meant FW at hM
    exact ⟨hmine.2 ⟨by omega, by omega, by omega⟩, by rw [wrap_i64 (by omega)]; omega⟩
  have go : ∀ wl' : Bool, (wl = true → wl' = true) → (Meant p a2 a3 a4 a5 a6 wk wx wy wm wc a7 → wk = 4 → wq = a6 + 1000000 → pr = true → wl' = true) →
      Ct JO 10 Try.f5 [1, 1, 1, 1, 1, 0, 1, 0, 0, 1, 1, 0, 0, 1, 1, 1, 1] 0 (pubK E K) (shC a1 a2 a3 a4 a5 a6 a7 b l c E k pr wl' p wk wx wy wm wc wq wf wg mine) := fun wl' h1 h2 =>
    Ct_intro okJO (pcD ha hpr (hD.imp_right (Or.imp_right fun e => ⟨e.1, h1 e.2⟩)) hC h2 (ih wl') hk hl)
  refine condC (fun h1 => ?_) (fun h1 => ?_)
  · exact Ct_from (by repeat' first | exact True.intro | refine And.intro rfl ?_) (go true (fun _ => rfl) (fun _ _ _ _ => rfl))
  · refine condC (fun h2 => ?_) (fun h2 => ?_)
    · refine condC (fun h3 => ?_) (fun h3 => ?_)
      · refine ⟨Mem.le_refl _, ?_⟩
        refine condC (fun h4 => ?_) (fun h4 => ?_)
        · exact Ct_from (by repeat' first | exact True.intro | refine And.intro rfl ?_) (go pr (fun e => by rw [e] at h1; cases h1) (fun _ _ _ e => e))
        · exact Ct_from (by repeat' first | exact True.intro | refine And.intro rfl ?_) (go false (fun e => by rw [e] at h1; cases h1) (fun hM _ e _ => by rw [(hb hM).2] at h4; simp [e] at h4))
      · exact Ct_from (by repeat' first | exact True.intro | refine And.intro rfl ?_) (go false (fun e => by rw [e] at h1; cases h1) (fun hM e _ _ => by simp [e] at h3))
    · exact Ct_from (by repeat' first | exact True.intro | refine And.intro rfl ?_) (go false (fun e => by rw [e] at h1; cases h1) (fun hM _ _ _ => by rw [(hb hM).1] at h2; cases h2))
theorem pcB {a1 a2 a3 a4 a5 a6 a7 : Int} {b : Option Addr} {l c k : Nat} {pr wl : Bool} {p : Int} {wk wx wy wm wc wq wf wg : Int} {mine : Bool} (ha : a1 ≠ 3) (hpr : a1 = 2 → pr = true) (hD : p = a1 ∨ (a1 = 1 ∧ p = 2 ∧ pr = true) ∨ (p = 3 ∧ wl = true)) (hmine : mine = true ↔ wx = a6 ∧ wy = a2 ∧ wm = a3)
    (ih : ∀ pr wl p, Inv a1 p pr wl → Lp JO 10 Try.f5 [1, 1, 1, 1, 1, 0, 1, 0] 0 (pubK E K) (shR a1 a2 a3 a4 a5 a6 a7 b l c E (k + 1) pr wl p)) (hk : k < l) (hl : l ≤ maxLen) : Pc JO 10 Try.f5 [1, 1, 1, 1, 1, 0, 1, 0, 0, 1, 1, 0, 0, 1, 1] 0 (pubK E K) (shC a1 a2 a3 a4 a5 a6 a7 b l c E k pr wl p wk wx wy wm wc wq wf wg mine) := by
  refine same (by kernel_rfl) (?_ : 
      bif pr then
        Ct JO 10 Try.f5 [1, 1, 1, 1, 1, 0, 1, 0, 0, 1, 1, 0, 0, 1, 1, 1] 0 (pubK E K)
          {
            fr :=
              [none, some (SV.raw (Value.int IntKind.i64 a6)), some (SV.raw (Value.int IntKind.i64 a7)), none,
                some (SV.loc 0 0), none, none, none, none, some (SV.raw (Value.bool true)), some (SV.raw (Value.bool true)),
                some (SV.raw (Value.bool wl)), some (SV.loc 1 0), none, some (SV.loc 2 0), some (SV.raw (Value.bool mine)),
                none, none, none, none, none, none, none, none, none, none, none, none, none, none, none, none, none, none,
                none, some (SV.raw (Value.slice b l c)), some (SV.raw (Value.int IntKind.i64 (↑l : Int))),
                some (SV.raw (Value.int IntKind.i64 (↑k : Int))), none, none, none, none, none, none, none, none, none, none,
                none, none, none, none, none, none, none, none, none, none, none, some (SV.raw (Value.bool pr)),
                some (SV.raw (Value.bool true)), some (SV.raw (Value.tuple { toList := [] })),
                some (SV.raw (Value.tuple { toList := [] })), some (SV.raw (Value.tuple { toList := [] })),
                some (SV.raw (Value.tuple { toList := [] })), some (SV.raw (Value.tuple { toList := [] })),
                some (SV.raw (Value.tuple { toList := [] })), some (SV.raw (Value.tuple { toList := [] })),
                some (SV.raw (Value.tuple { toList := [] })), some (SV.raw (Value.tuple { toList := [] })),
                some (SV.raw (Value.tuple { toList := [] })), some (SV.raw (Value.tuple { toList := [] })),
                some (SV.raw (Value.bool true)), none, none, none, none, none, none, none, none, none, none, none, none, none,
                none, none, none, none, none, none, none, none, none, none, none, none, none, none, none, none, none, none,
                none, none, none, none, none, none, none, none, none, none, none, none, none, none, none, none, none, none,
                none, none, none, none, none, none, none, none, none],
            bx :=
              [{ elem := 23,
                  row :=
                    Row.lst
                      [SV.raw (Value.int IntKind.i64 a1), SV.raw (Value.int IntKind.i64 a2),
                        SV.raw (Value.int IntKind.i64 a3), SV.raw (Value.int IntKind.i64 a4),
                        SV.raw (Value.int IntKind.i64 a5)],
                  total := 5, own := true },
                { elem := 23,
                  row :=
                    Row.lst
                      [SV.raw (Value.int IntKind.i64 p), SV.raw (Value.int IntKind.i64 a2), SV.raw (Value.int IntKind.i64 a3),
                        SV.raw (Value.int IntKind.i64 a4), SV.raw (Value.int IntKind.i64 a5)],
                  total := 5, own := true },
                { elem := 27,
                  row :=
                    Row.lst
                      [SV.raw (Value.int IntKind.i64 wk), SV.raw (Value.int IntKind.i64 wx),
                        SV.raw (Value.int IntKind.i64 wy), SV.raw (Value.int IntKind.i64 wm),
                        SV.raw (Value.int IntKind.i64 wc), SV.raw (Value.int IntKind.i64 wq),
                        SV.raw (Value.int IntKind.i64 wf), SV.raw (Value.int IntKind.i64 wg)],
                  total := 8, own := true }],
            E := E }
      else
        bif mine then
          bif bif true then wk == 2 else false then
            Ct JO 10 Try.f5 [1, 1, 1, 1, 1, 0, 1, 0, 0, 1, 1, 0, 0, 1, 1, 1] 0 (pubK E K)
              {
                fr :=
                  [none, some (SV.raw (Value.int IntKind.i64 a6)), some (SV.raw (Value.int IntKind.i64 a7)), none,
                    some (SV.loc 0 0), none, none, none, none, some (SV.raw (Value.bool true)),
                    some (SV.raw (Value.bool (bif false then true else bif true then a1 == 1 else false))),
                    some (SV.raw (Value.bool wl)), some (SV.loc 1 0), none, some (SV.loc 2 0),
                    some (SV.raw (Value.bool mine)), none, none, none, none, none, none, none, none, none, none, none, none,
                    none, none, none, none, none, none, none, some (SV.raw (Value.slice b l c)),
                    some (SV.raw (Value.int IntKind.i64 (↑l : Int))), some (SV.raw (Value.int IntKind.i64 (↑k : Int))), none,
                    none, none, none, none, none, none, none, none, none, none, none, none, none, none, none, none, none,
                    none, none, none, some (SV.raw (Value.bool pr)), some (SV.raw (Value.bool false)),
                    some (SV.raw (Value.bool mine)), some (SV.raw (Value.bool true)), some (SV.loc 2 0),
                    some (SV.raw (Value.int IntKind.i64 wk)), some (SV.raw (Value.bool (wk == 2))),
                    some (SV.raw (Value.bool (bif true then wk == 2 else false))), some (SV.raw (Value.bool true)),
                    some (SV.loc 0 0), some (SV.raw (Value.int IntKind.i64 a1)), some (SV.raw (Value.bool (a1 == 1))),
                    some (SV.raw (Value.bool (bif true then a1 == 1 else false))),
                    some (SV.raw (Value.bool (bif false then true else bif true then a1 == 1 else false))), none, none, none,
                    none, none, none, none, none, none, none, none, none, none, none, none, none, none, none, none, none,
                    none, none, none, none, none, none, none, none, none, none, none, none, none, none, none, none, none,
                    none, none, none, none, none, none, none, none, none, none, none, none, none, none, none, none, none,
                    none, none, none, none],
                bx :=
                  [{ elem := 23,
                      row :=
                        Row.lst
                          [SV.raw (Value.int IntKind.i64 a1), SV.raw (Value.int IntKind.i64 a2),
                            SV.raw (Value.int IntKind.i64 a3), SV.raw (Value.int IntKind.i64 a4),
                            SV.raw (Value.int IntKind.i64 a5)],
                      total := 5, own := true },
                    { elem := 23,
                      row :=
                        Row.lst
                          [SV.raw (Value.int IntKind.i64 p), SV.raw (Value.int IntKind.i64 a2),
                            SV.raw (Value.int IntKind.i64 a3), SV.raw (Value.int IntKind.i64 a4),
                            SV.raw (Value.int IntKind.i64 a5)],
                      total := 5, own := true },
                    { elem := 27,
                      row :=
                        Row.lst
                          [SV.raw (Value.int IntKind.i64 wk), SV.raw (Value.int IntKind.i64 wx),
                            SV.raw (Value.int IntKind.i64 wy), SV.raw (Value.int IntKind.i64 wm),
                            SV.raw (Value.int IntKind.i64 wc), SV.raw (Value.int IntKind.i64 wq),
                            SV.raw (Value.int IntKind.i64 wf), SV.raw (Value.int IntKind.i64 wg)],
                      total := 8, own := true }],
                E := E }
          else
            Ct JO 10 Try.f5 [1, 1, 1, 1, 1, 0, 1, 0, 0, 1, 1, 0, 0, 1, 1, 1] 0 (pubK E K)
              {
                fr :=
                  [none, some (SV.raw (Value.int IntKind.i64 a6)), some (SV.raw (Value.int IntKind.i64 a7)), none,
                    some (SV.loc 0 0), none, none, none, none, some (SV.raw (Value.bool true)),
                    some (SV.raw (Value.bool false)), some (SV.raw (Value.bool wl)), some (SV.loc 1 0), none,
                    some (SV.loc 2 0), some (SV.raw (Value.bool mine)), none, none, none, none, none, none, none, none, none,
                    none, none, none, none, none, none, none, none, none, none, some (SV.raw (Value.slice b l c)),
                    some (SV.raw (Value.int IntKind.i64 (↑l : Int))), some (SV.raw (Value.int IntKind.i64 (↑k : Int))), none,
                    none, none, none, none, none, none, none, none, none, none, none, none, none, none, none, none, none,
                    none, none, none, some (SV.raw (Value.bool pr)), some (SV.raw (Value.bool false)),
                    some (SV.raw (Value.bool mine)), some (SV.raw (Value.bool true)), some (SV.loc 2 0),
                    some (SV.raw (Value.int IntKind.i64 wk)), some (SV.raw (Value.bool (wk == 2))),
                    some (SV.raw (Value.bool (bif true then wk == 2 else false))), some (SV.raw (Value.bool false)),
                    some (SV.raw (Value.tuple { toList := [] })), some (SV.raw (Value.tuple { toList := [] })),
                    some (SV.raw (Value.tuple { toList := [] })), some (SV.raw (Value.bool false)),
                    some (SV.raw (Value.bool false)), none, none, none, none, none, none, none, none, none, none, none, none,
                    none, none, none, none, none, none, none, none, none, none, none, none, none, none, none, none, none,
                    none, none, none, none, none, none, none, none, none, none, none, none, none, none, none, none, none,
                    none, none, none, none, none, none, none, none, none, none, none, none],
                bx :=
                  [{ elem := 23,
                      row :=
                        Row.lst
                          [SV.raw (Value.int IntKind.i64 a1), SV.raw (Value.int IntKind.i64 a2),
                            SV.raw (Value.int IntKind.i64 a3), SV.raw (Value.int IntKind.i64 a4),
                            SV.raw (Value.int IntKind.i64 a5)],
                      total := 5, own := true },
                    { elem := 23,
                      row :=
                        Row.lst
                          [SV.raw (Value.int IntKind.i64 p), SV.raw (Value.int IntKind.i64 a2),
                            SV.raw (Value.int IntKind.i64 a3), SV.raw (Value.int IntKind.i64 a4),
                            SV.raw (Value.int IntKind.i64 a5)],
                      total := 5, own := true },
                    { elem := 27,
                      row :=
                        Row.lst
                          [SV.raw (Value.int IntKind.i64 wk), SV.raw (Value.int IntKind.i64 wx),
                            SV.raw (Value.int IntKind.i64 wy), SV.raw (Value.int IntKind.i64 wm),
                            SV.raw (Value.int IntKind.i64 wc), SV.raw (Value.int IntKind.i64 wq),
                            SV.raw (Value.int IntKind.i64 wf), SV.raw (Value.int IntKind.i64 wg)],
                      total := 8, own := true }],
                E := E }
        else
          Ct JO 10 Try.f5 [1, 1, 1, 1, 1, 0, 1, 0, 0, 1, 1, 0, 0, 1, 1, 1] 0 (pubK E K)
            {
              fr :=
                [none, some (SV.raw (Value.int IntKind.i64 a6)), some (SV.raw (Value.int IntKind.i64 a7)), none,
                  some (SV.loc 0 0), none, none, none, none, some (SV.raw (Value.bool true)),
                  some (SV.raw (Value.bool false)), some (SV.raw (Value.bool wl)), some (SV.loc 1 0), none, some (SV.loc 2 0),
                  some (SV.raw (Value.bool mine)), none, none, none, none, none, none, none, none, none, none, none, none,
                  none, none, none, none, none, none, none, some (SV.raw (Value.slice b l c)),
                  some (SV.raw (Value.int IntKind.i64 (↑l : Int))), some (SV.raw (Value.int IntKind.i64 (↑k : Int))), none,
                  none, none, none, none, none, none, none, none, none, none, none, none, none, none, none, none, none, none,
                  none, none, some (SV.raw (Value.bool pr)), some (SV.raw (Value.bool false)),
                  some (SV.raw (Value.bool mine)), some (SV.raw (Value.bool false)),
                  some (SV.raw (Value.tuple { toList := [] })), some (SV.raw (Value.tuple { toList := [] })),
                  some (SV.raw (Value.tuple { toList := [] })), some (SV.raw (Value.bool false)),
                  some (SV.raw (Value.bool false)), some (SV.raw (Value.tuple { toList := [] })),
                  some (SV.raw (Value.tuple { toList := [] })), some (SV.raw (Value.tuple { toList := [] })),
                  some (SV.raw (Value.bool false)), some (SV.raw (Value.bool false)), none, none, none, none, none, none,
                  none, none, none, none, none, none, none, none, none, none, none, none, none, none, none, none, none, none,
                  none, none, none, none, none, none, none, none, none, none, none, none, none, none, none, none, none, none,
                  none, none, none, none, none, none, none, none, none, none, none, none, none, none, none, none],
              bx :=
                [{ elem := 23,
                    row :=
                      Row.lst
                        [SV.raw (Value.int IntKind.i64 a1), SV.raw (Value.int IntKind.i64 a2),
                          SV.raw (Value.int IntKind.i64 a3), SV.raw (Value.int IntKind.i64 a4),
                          SV.raw (Value.int IntKind.i64 a5)],
                    total := 5, own := true },
                  { elem := 23,
                    row :=
                      Row.lst
                        [SV.raw (Value.int IntKind.i64 p), SV.raw (Value.int IntKind.i64 a2),
                          SV.raw (Value.int IntKind.i64 a3), SV.raw (Value.int IntKind.i64 a4),
                          SV.raw (Value.int IntKind.i64 a5)],
                    total := 5, own := true },
                  { elem := 27,
                    row :=
                      Row.lst
                        [SV.raw (Value.int IntKind.i64 wk), SV.raw (Value.int IntKind.i64 wx),
                          SV.raw (Value.int IntKind.i64 wy), SV.raw (Value.int IntKind.i64 wm),
                          SV.raw (Value.int IntKind.i64 wc), SV.raw (Value.int IntKind.i64 wq),
                          SV.raw (Value.int IntKind.i64 wf), SV.raw (Value.int IntKind.i64 wg)],
                    total := 8, own := true }],
              E := E })
  have hb : Meant p a2 a3 a4 a5 a6 wk wx wy wm wc a7 → mine = true := by
    intro hM
    unfold Meant FW at hM
    exact hmine.2 ⟨by omega, by omega, by omega⟩
  have go : ∀ pr' : Bool, (pr = true → pr' = true) → (Meant p a2 a3 a4 a5 a6 wk wx wy wm wc a7 → wk = 2 → a1 = 1 → pr' = true) →
      Ct JO 10 Try.f5 [1, 1, 1, 1, 1, 0, 1, 0, 0, 1, 1, 0, 0, 1, 1, 1] 0 (pubK E K) (shC a1 a2 a3 a4 a5 a6 a7 b l c E k pr' wl p wk wx wy wm wc wq wf wg mine) := fun pr' h1 h2 =>
    Ct_intro okJO (pcC ha (fun e => h1 (hpr e)) (hD.imp_right (Or.imp_left fun e => ⟨e.1, e.2.1, h1 e.2.2⟩)) hmine h2 (ih pr') hk hl)
  refine condC (fun h1 => ?_) (fun h1 => ?_)
  · exact Ct_from (by repeat' first | exact True.intro | refine And.intro rfl ?_) (go true (fun _ => rfl) (fun _ _ _ => rfl))
  · refine condC (fun h2 => ?_) (fun h2 => ?_)
    · refine condC (fun h3 => ?_) (fun h3 => ?_)
      · exact Ct_from (by repeat' first | exact True.intro | refine And.intro rfl ?_) (go (a1 == 1) (fun e => by rw [e] at h1; cases h1) (fun _ _ e => by simp [e]))
      · exact Ct_from (by repeat' first | exact True.intro | refine And.intro rfl ?_) (go false (fun e => by rw [e] at h1; cases h1) (fun hM e _ => by simp [e] at h3))
    · exact Ct_from (by repeat' first | exact True.intro | refine And.intro rfl ?_) (go false (fun e => by rw [e] at h1; cases h1) (fun hM _ _ => by rw [hb hM] at h2; cases h2))
theorem flat8 : ∀ {z : List (List Value)} (_ : ∀ r ∈ z, r.length = 8) {k : Nat} (_ : k < z.length), (z.flatten.drop (k * 8)).take 8 = z.getD k []
  | [], _, k, h => absurd h (Nat.not_lt_zero _)
  | r :: z, hr, 0, _ => by
    have := hr r (by simp)
    simp only [List.flatten_cons, Nat.zero_mul, List.drop_zero, List.getD_cons_zero]
    rw [List.take_append_of_le_length (by omega), List.take_of_length_le (by omega)]
  | r :: z, hr, k + 1, h => by
    have h8 := hr r (by simp)
    simp only [List.flatten_cons, List.getD_cons_succ]
    rw [show (k + 1) * 8 = r.length + k * 8 by omega, List.drop_length_add_append]
    exact flat8 (fun r hm => hr r (by simp [hm])) (by simpa using h)
theorem rnd5 {a1 a2 a3 a4 a5 a6 a7 : Int} {b : Option Addr} {l c k : Nat} {pr wl : Bool} {p : Int} {z : List (List Value)} (hE : E (.slice b l c) z.flatten) (hz : l ≤ z.length) (hr : ∀ r ∈ z, ∃ k x y m c q f g : Int, r = [.int .i64 k, .int .i64 x, .int .i64 y, .int .i64 m, .int .i64 c, .int .i64 q, .int .i64 f, .int .i64 g])
    (hI : Inv a1 p pr wl) (hkl : k ≤ l) (hl : l ≤ maxLen) (h : K (B true) E)
    (ih : ∀ pr wl p, k < l → Inv a1 p pr wl → Lp JO 10 Try.f5 [1, 1, 1, 1, 1, 0, 1, 0] 0 (pubK E K) (shR a1 a2 a3 a4 a5 a6 a7 b l c E (k + 1) pr wl p)) : Rnd JO 10 Try.f5 [1, 1, 1, 1, 1, 0, 1, 0] 0 (pubK E K) (shR a1 a2 a3 a4 a5 a6 a7 b l c E k pr wl p) := by
  refine same (by kernel_rfl) (?_ : 
      bif decide ((↑k : Int) < (↑l : Int)) then
        req (0 ≤ (↑k : Int) ∧ (↑k : Int) < (↑l : Int))
          ((∃ (cs : List Value), E (Value.slice b l c) cs ∧ (cs = [] → False)) ∧
            ∃ (n : Int),
              ∃ (n_1 : Int),
                ∃ (n_2 : Int),
                  ∃ (n_3 : Int),
                    ∃ (n_4 : Int),
                      ∃ (n_5 : Int),
                        ∃ (n_6 : Int),
                          ∃ (n_7 : Int),
                            LoadE JO.P E 27 (Value.slice b l c) (Int.toNat (↑k : Int) * 8)
                                (SV.agg
                                  [SV.raw (Value.int IntKind.i64 n), SV.raw (Value.int IntKind.i64 n_1),
                                    SV.raw (Value.int IntKind.i64 n_2), SV.raw (Value.int IntKind.i64 n_3),
                                    SV.raw (Value.int IntKind.i64 n_4), SV.raw (Value.int IntKind.i64 n_5),
                                    SV.raw (Value.int IntKind.i64 n_6), SV.raw (Value.int IntKind.i64 n_7)]) ∧
                              bif n_1 == a6 then
                                bif bif true then n_2 == a2 else false then
                                  Ct JO 10 Try.f5 [1, 1, 1, 1, 1, 0, 1, 0, 0, 1, 1, 0, 0, 1, 1] 0 (pubK E K)
                                    {
                                      fr :=
                                        [none, some (SV.raw (Value.int IntKind.i64 a6)),
                                          some (SV.raw (Value.int IntKind.i64 a7)), none, some (SV.loc 0 0), none, none, none,
                                          none, some (SV.raw (Value.bool true)), some (SV.raw (Value.bool pr)),
                                          some (SV.raw (Value.bool wl)), some (SV.loc 1 0), none, some (SV.loc 2 0),
                                          some (SV.raw (Value.bool (bif true then n_3 == a3 else false))), none, none, none,
                                          none, none, none, none, none, none, none, none, none, none, none, none, none, none,
                                          none, none, some (SV.raw (Value.slice b l c)),
                                          some (SV.raw (Value.int IntKind.i64 (↑l : Int))),
                                          some (SV.raw (Value.int IntKind.i64 (↑k : Int))),
                                          some (SV.raw (Value.bool (decide ((↑k : Int) < (↑l : Int))))),
                                          some (SV.rp (Value.slice b l c) (Int.toNat (↑k : Int) * 8)),
                                          some
                                            (SV.agg
                                              [SV.raw (Value.int IntKind.i64 n), SV.raw (Value.int IntKind.i64 n_1),
                                                SV.raw (Value.int IntKind.i64 n_2), SV.raw (Value.int IntKind.i64 n_3),
                                                SV.raw (Value.int IntKind.i64 n_4), SV.raw (Value.int IntKind.i64 n_5),
                                                SV.raw (Value.int IntKind.i64 n_6), SV.raw (Value.int IntKind.i64 n_7)]),
                                          some (SV.loc 2 1), some (SV.raw (Value.int IntKind.i64 n_1)),
                                          some (SV.raw (Value.int IntKind.i64 a6)), some (SV.raw (Value.bool (n_1 == a6))),
                                          some (SV.raw (Value.bool true)), some (SV.loc 2 2),
                                          some (SV.raw (Value.int IntKind.i64 n_2)), some (SV.loc 0 1),
                                          some (SV.raw (Value.int IntKind.i64 a2)), some (SV.raw (Value.bool (n_2 == a2))),
                                          some (SV.raw (Value.bool (bif true then n_2 == a2 else false))),
                                          some (SV.raw (Value.bool true)), some (SV.loc 2 3),
                                          some (SV.raw (Value.int IntKind.i64 n_3)), some (SV.loc 0 2),
                                          some (SV.raw (Value.int IntKind.i64 a3)), some (SV.raw (Value.bool (n_3 == a3))),
                                          some (SV.raw (Value.bool (bif true then n_3 == a3 else false))), none, none, none,
                                          none, none, none, none, none, none, none, none, none, none, none, none, none, none,
                                          none, none, none, none, none, none, none, none, none, none, none, none, none, none,
                                          none, none, none, none, none, none, none, none, none, none, none, none, none, none,
                                          none, none, none, none, none, none, none, none, none, none, none, none, none, none,
                                          none, none, none, none, none, none, none, none, none, none, none, none, none],
                                      bx :=
                                        [{ elem := 23,
                                            row :=
                                              Row.lst
                                                [SV.raw (Value.int IntKind.i64 a1), SV.raw (Value.int IntKind.i64 a2),
                                                  SV.raw (Value.int IntKind.i64 a3), SV.raw (Value.int IntKind.i64 a4),
                                                  SV.raw (Value.int IntKind.i64 a5)],
                                            total := 5, own := true },
                                          { elem := 23,
                                            row :=
                                              Row.lst
                                                [SV.raw (Value.int IntKind.i64 p), SV.raw (Value.int IntKind.i64 a2),
                                                  SV.raw (Value.int IntKind.i64 a3), SV.raw (Value.int IntKind.i64 a4),
                                                  SV.raw (Value.int IntKind.i64 a5)],
                                            total := 5, own := true },
                                          { elem := 27,
                                            row :=
                                              Row.lst
                                                [SV.raw (Value.int IntKind.i64 n), SV.raw (Value.int IntKind.i64 n_1),
                                                  SV.raw (Value.int IntKind.i64 n_2), SV.raw (Value.int IntKind.i64 n_3),
                                                  SV.raw (Value.int IntKind.i64 n_4), SV.raw (Value.int IntKind.i64 n_5),
                                                  SV.raw (Value.int IntKind.i64 n_6), SV.raw (Value.int IntKind.i64 n_7)],
                                            total := 8, own := true }],
                                      E := E }
                                else
                                  Ct JO 10 Try.f5 [1, 1, 1, 1, 1, 0, 1, 0, 0, 1, 1, 0, 0, 1, 1] 0 (pubK E K)
                                    {
                                      fr :=
                                        [none, some (SV.raw (Value.int IntKind.i64 a6)),
                                          some (SV.raw (Value.int IntKind.i64 a7)), none, some (SV.loc 0 0), none, none, none,
                                          none, some (SV.raw (Value.bool true)), some (SV.raw (Value.bool pr)),
                                          some (SV.raw (Value.bool wl)), some (SV.loc 1 0), none, some (SV.loc 2 0),
                                          some (SV.raw (Value.bool false)), none, none, none, none, none, none, none, none,
                                          none, none, none, none, none, none, none, none, none, none, none,
                                          some (SV.raw (Value.slice b l c)), some (SV.raw (Value.int IntKind.i64 (↑l : Int))),
                                          some (SV.raw (Value.int IntKind.i64 (↑k : Int))),
                                          some (SV.raw (Value.bool (decide ((↑k : Int) < (↑l : Int))))),
                                          some (SV.rp (Value.slice b l c) (Int.toNat (↑k : Int) * 8)),
                                          some
                                            (SV.agg
                                              [SV.raw (Value.int IntKind.i64 n), SV.raw (Value.int IntKind.i64 n_1),
                                                SV.raw (Value.int IntKind.i64 n_2), SV.raw (Value.int IntKind.i64 n_3),
                                                SV.raw (Value.int IntKind.i64 n_4), SV.raw (Value.int IntKind.i64 n_5),
                                                SV.raw (Value.int IntKind.i64 n_6), SV.raw (Value.int IntKind.i64 n_7)]),
                                          some (SV.loc 2 1), some (SV.raw (Value.int IntKind.i64 n_1)),
                                          some (SV.raw (Value.int IntKind.i64 a6)), some (SV.raw (Value.bool (n_1 == a6))),
                                          some (SV.raw (Value.bool true)), some (SV.loc 2 2),
                                          some (SV.raw (Value.int IntKind.i64 n_2)), some (SV.loc 0 1),
                                          some (SV.raw (Value.int IntKind.i64 a2)), some (SV.raw (Value.bool (n_2 == a2))),
                                          some (SV.raw (Value.bool (bif true then n_2 == a2 else false))),
                                          some (SV.raw (Value.bool false)), some (SV.raw (Value.tuple { toList := [] })),
                                          some (SV.raw (Value.tuple { toList := [] })),
                                          some (SV.raw (Value.tuple { toList := [] })),
                                          some (SV.raw (Value.tuple { toList := [] })),
                                          some (SV.raw (Value.tuple { toList := [] })), some (SV.raw (Value.bool false)),
                                          none, none, none, none, none, none, none, none, none, none, none, none, none, none,
                                          none, none, none, none, none, none, none, none, none, none, none, none, none, none,
                                          none, none, none, none, none, none, none, none, none, none, none, none, none, none,
                                          none, none, none, none, none, none, none, none, none, none, none, none, none, none,
                                          none, none, none, none, none, none, none, none, none, none, none, none, none, none,
                                          none, none],
                                      bx :=
                                        [{ elem := 23,
                                            row :=
                                              Row.lst
                                                [SV.raw (Value.int IntKind.i64 a1), SV.raw (Value.int IntKind.i64 a2),
                                                  SV.raw (Value.int IntKind.i64 a3), SV.raw (Value.int IntKind.i64 a4),
                                                  SV.raw (Value.int IntKind.i64 a5)],
                                            total := 5, own := true },
                                          { elem := 23,
                                            row :=
                                              Row.lst
                                                [SV.raw (Value.int IntKind.i64 p), SV.raw (Value.int IntKind.i64 a2),
                                                  SV.raw (Value.int IntKind.i64 a3), SV.raw (Value.int IntKind.i64 a4),
                                                  SV.raw (Value.int IntKind.i64 a5)],
                                            total := 5, own := true },
                                          { elem := 27,
                                            row :=
                                              Row.lst
                                                [SV.raw (Value.int IntKind.i64 n), SV.raw (Value.int IntKind.i64 n_1),
                                                  SV.raw (Value.int IntKind.i64 n_2), SV.raw (Value.int IntKind.i64 n_3),
                                                  SV.raw (Value.int IntKind.i64 n_4), SV.raw (Value.int IntKind.i64 n_5),
                                                  SV.raw (Value.int IntKind.i64 n_6), SV.raw (Value.int IntKind.i64 n_7)],
                                            total := 8, own := true }],
                                      E := E }
                              else
                                Ct JO 10 Try.f5 [1, 1, 1, 1, 1, 0, 1, 0, 0, 1, 1, 0, 0, 1, 1] 0 (pubK E K)
                                  {
                                    fr :=
                                      [none, some (SV.raw (Value.int IntKind.i64 a6)),
                                        some (SV.raw (Value.int IntKind.i64 a7)), none, some (SV.loc 0 0), none, none, none,
                                        none, some (SV.raw (Value.bool true)), some (SV.raw (Value.bool pr)),
                                        some (SV.raw (Value.bool wl)), some (SV.loc 1 0), none, some (SV.loc 2 0),
                                        some (SV.raw (Value.bool false)), none, none, none, none, none, none, none, none,
                                        none, none, none, none, none, none, none, none, none, none, none,
                                        some (SV.raw (Value.slice b l c)), some (SV.raw (Value.int IntKind.i64 (↑l : Int))),
                                        some (SV.raw (Value.int IntKind.i64 (↑k : Int))),
                                        some (SV.raw (Value.bool (decide ((↑k : Int) < (↑l : Int))))),
                                        some (SV.rp (Value.slice b l c) (Int.toNat (↑k : Int) * 8)),
                                        some
                                          (SV.agg
                                            [SV.raw (Value.int IntKind.i64 n), SV.raw (Value.int IntKind.i64 n_1),
                                              SV.raw (Value.int IntKind.i64 n_2), SV.raw (Value.int IntKind.i64 n_3),
                                              SV.raw (Value.int IntKind.i64 n_4), SV.raw (Value.int IntKind.i64 n_5),
                                              SV.raw (Value.int IntKind.i64 n_6), SV.raw (Value.int IntKind.i64 n_7)]),
                                        some (SV.loc 2 1), some (SV.raw (Value.int IntKind.i64 n_1)),
                                        some (SV.raw (Value.int IntKind.i64 a6)), some (SV.raw (Value.bool (n_1 == a6))),
                                        some (SV.raw (Value.bool false)), some (SV.raw (Value.tuple { toList := [] })),
                                        some (SV.raw (Value.tuple { toList := [] })),
                                        some (SV.raw (Value.tuple { toList := [] })),
                                        some (SV.raw (Value.tuple { toList := [] })),
                                        some (SV.raw (Value.tuple { toList := [] })), some (SV.raw (Value.bool false)),
                                        some (SV.raw (Value.bool false)), some (SV.raw (Value.tuple { toList := [] })),
                                        some (SV.raw (Value.tuple { toList := [] })),
                                        some (SV.raw (Value.tuple { toList := [] })),
                                        some (SV.raw (Value.tuple { toList := [] })),
                                        some (SV.raw (Value.tuple { toList := [] })), some (SV.raw (Value.bool false)), none,
                                        none, none, none, none, none, none, none, none, none, none, none, none, none, none,
                                        none, none, none, none, none, none, none, none, none, none, none, none, none, none,
                                        none, none, none, none, none, none, none, none, none, none, none, none, none, none,
                                        none, none, none, none, none, none, none, none, none, none, none, none, none, none,
                                        none, none, none, none, none, none, none, none, none, none, none, none, none, none,
                                        none],
                                    bx :=
                                      [{ elem := 23,
                                          row :=
                                            Row.lst
                                              [SV.raw (Value.int IntKind.i64 a1), SV.raw (Value.int IntKind.i64 a2),
                                                SV.raw (Value.int IntKind.i64 a3), SV.raw (Value.int IntKind.i64 a4),
                                                SV.raw (Value.int IntKind.i64 a5)],
                                          total := 5, own := true },
                                        { elem := 23,
                                          row :=
                                            Row.lst
                                              [SV.raw (Value.int IntKind.i64 p), SV.raw (Value.int IntKind.i64 a2),
                                                SV.raw (Value.int IntKind.i64 a3), SV.raw (Value.int IntKind.i64 a4),
                                                SV.raw (Value.int IntKind.i64 a5)],
                                          total := 5, own := true },
                                        { elem := 27,
                                          row :=
                                            Row.lst
                                              [SV.raw (Value.int IntKind.i64 n), SV.raw (Value.int IntKind.i64 n_1),
                                                SV.raw (Value.int IntKind.i64 n_2), SV.raw (Value.int IntKind.i64 n_3),
                                                SV.raw (Value.int IntKind.i64 n_4), SV.raw (Value.int IntKind.i64 n_5),
                                                SV.raw (Value.int IntKind.i64 n_6), SV.raw (Value.int IntKind.i64 n_7)],
                                          total := 8, own := true }],
                                    E := E })
      else Mem.le E E ∧ K (SV.raw (Value.bool true)) E)
  obtain ⟨ha, hpr, hD⟩ := hI
  refine condC (fun hlt => ?_) (fun hlt => ?_)
  · have hlt : k < l := by simpa using hlt
    have h8 : ∀ r ∈ z, r.length = 8 := fun r hm => by obtain ⟨_, _, _, _, _, _, _, _, rfl⟩ := hr r hm; rfl
    have hf := flat8 h8 (show k < z.length by omega)
    obtain ⟨wk, wx, wy, wm, wc, wq, wf, wg, hrow⟩ := hr (z.getD k []) (by rw [List.getD_eq_getElem?_getD, List.getElem?_eq_getElem (by omega)]; exact List.getElem_mem _)
    rw [hrow] at hf
    refine req_intro ⟨by omega, by omega⟩ ⟨⟨_, hE, fun e => by rw [e] at hf; simp at hf⟩, wk, wx, wy, wm, wc, wq, wf, wg, ⟨_, hE, ?_⟩, ?_⟩
    · rw [Int.toNat_natCast]
      refine same (by kernel_rfl) (?_ : (if (((z.flatten.map SV.raw).drop (k * 8)).take 8).length = 8 then some (SV.agg (((z.flatten.map SV.raw).drop (k * 8)).take 8)) else none) = some (SV.agg [I wk, I wx, I wy, I wm, I wc, I wq, I wf, I wg]))
      rw [← List.map_drop, ← List.map_take, hf]
      rfl
    · have go : ∀ mine : Bool, (mine = true ↔ wx = a6 ∧ wy = a2 ∧ wm = a3) → Ct JO 10 Try.f5 [1, 1, 1, 1, 1, 0, 1, 0, 0, 1, 1, 0, 0, 1, 1] 0 (pubK E K) (shC a1 a2 a3 a4 a5 a6 a7 b l c E k pr wl p wk wx wy wm wc wq wf wg mine) := fun mine hm =>
        Ct_intro okJO (pcB ha hpr hD hm (fun pr wl p => ih pr wl p hlt) hlt hl)
      refine condC (fun h1 => ?_) (fun h1 => ?_)
      · refine condC (fun h2 => ?_) (fun h2 => ?_)
        · exact Ct_from (by repeat' first | exact True.intro | refine And.intro rfl ?_) (go (wm == a3) (by simp at h1 h2 ⊢; simp [h1, h2]))
        · exact Ct_from (by repeat' first | exact True.intro | refine And.intro rfl ?_) (go false (by simp at h1 h2 ⊢; simp [h1, h2]))
      · exact Ct_from (by repeat' first | exact True.intro | refine And.intro rfl ?_) (go false (by simp at h1 ⊢; simp [h1]))
  · simp only [Mem.le_refl, true_and]; exact h
theorem e5 {a1 : Int} {a2 : Int} {a3 : Int} {a4 : Int} {a5 : Int} {a6 : Int} {a7 : Int} {b1 : Option Addr} {l1 : Nat} {c1 : Nat} {z1 : List (List Value)} (ha1 : (Lit.int .i64 a1).wf = true) (ha2 : (Lit.int .i64 a2).wf = true) (ha3 : (Lit.int .i64 a3).wf = true) (ha4 : (Lit.int .i64 a4).wf = true) (ha5 : (Lit.int .i64 a5).wf = true) (ha6 : (Lit.int .i64 a6).wf = true) (ha7 : (Lit.int .i64 a7).wf = true) (hl1 : l1 ≤ c1) (hc1 : c1 ≤ maxLen) (hb1 : b1 = none → c1 = 0) (hz1 : z1.length = c1) (hE1 : E (.slice b1 l1 c1) z1.flatten) (hr1 : ∀ r ∈ z1, ∃ k x y m c q f g : Int, r = [.int .i64 k, .int .i64 x, .int .i64 y, .int .i64 m, .int .i64 c, .int .i64 q, .int .i64 f, .int .i64 g]) (h : K (B true) E) :
    Ent JO 10 Try.f5 [.agg [I a1, I a2, I a3, I a4, I a5], I a6, I a7, L b1 l1 c1] E K := by
  refine same (by kernel_rfl) (?_ : 
      Mem.le E E ∧
        Mem.le E E ∧
          bif !decide (VJ a1 a2 a3 a4 a5) then Mem.le E E ∧ K (SV.raw (Value.bool true)) E
          else
            bif bif false then true else a1 == 3 then Mem.le E E ∧ K (SV.raw (Value.bool true)) E
            else
              bif bif false then true else decide ((↑l1 : Int) > 40) then Mem.le E E ∧ K (SV.raw (Value.bool true)) E
              else
                Lp JO 10 Try.f5 [1, 1, 1, 1, 1, 0, 1, 0] 0 (pubK E K)
                  {
                    fr :=
                      [some
                          (SV.agg
                            [SV.raw (Value.int IntKind.i64 a1), SV.raw (Value.int IntKind.i64 a2),
                              SV.raw (Value.int IntKind.i64 a3), SV.raw (Value.int IntKind.i64 a4),
                              SV.raw (Value.int IntKind.i64 a5)]),
                        some (SV.raw (Value.int IntKind.i64 a6)), some (SV.raw (Value.int IntKind.i64 a7)),
                        some (SV.raw (Value.slice b1 l1 c1)), some (SV.loc 0 0), none, none, none, none,
                        some (SV.raw (Value.bool true)), some (SV.raw (Value.bool (a1 == 2))),
                        some (SV.raw (Value.bool false)), some (SV.loc 1 0), none, none, none,
                        some (SV.raw (Value.bool true)),
                        some
                          (SV.agg
                            [SV.raw (Value.int IntKind.i64 a1), SV.raw (Value.int IntKind.i64 a2),
                              SV.raw (Value.int IntKind.i64 a3), SV.raw (Value.int IntKind.i64 a4),
                              SV.raw (Value.int IntKind.i64 a5)]),
                        some (SV.raw (Value.bool (decide (VJ a1 a2 a3 a4 a5)))),
                        some (SV.raw (Value.bool !decide (VJ a1 a2 a3 a4 a5))), some (SV.raw (Value.bool false)),
                        some (SV.loc 0 0), some (SV.raw (Value.int IntKind.i64 a1)), some (SV.raw (Value.bool (a1 == 3))),
                        some (SV.raw (Value.bool (bif false then true else a1 == 3))), some (SV.raw (Value.bool false)),
                        some (SV.raw (Value.slice b1 l1 c1)), some (SV.raw (Value.int IntKind.i64 (↑l1 : Int))),
                        some (SV.raw (Value.bool (decide ((↑l1 : Int) > 40)))),
                        some (SV.raw (Value.bool (bif false then true else decide ((↑l1 : Int) > 40)))), none,
                        some (SV.loc 0 0), some (SV.raw (Value.int IntKind.i64 a1)), some (SV.raw (Value.bool (a1 == 2))),
                        some
                          (SV.agg
                            [SV.raw (Value.int IntKind.i64 a1), SV.raw (Value.int IntKind.i64 a2),
                              SV.raw (Value.int IntKind.i64 a3), SV.raw (Value.int IntKind.i64 a4),
                              SV.raw (Value.int IntKind.i64 a5)]),
                        some (SV.raw (Value.slice b1 l1 c1)), some (SV.raw (Value.int IntKind.i64 (↑l1 : Int))),
                        some (SV.raw (Value.int IntKind.i64 0)), none, none, none, none, none, none, none, none, none, none,
                        none, none, none, none, none, none, none, none, none, none, none, none, none, none, none, none, none,
                        none, none, none, none, none, none, none, none, none, none, none, none, none, none, none, none, none,
                        none, none, none, none, none, none, none, none, none, none, none, none, none, none, none, none, none,
                        none, none, none, none, none, none, none, none, none, none, none, none, none, none, none, none, none,
                        none, none, none, none, none, none, none, none, none, none, none, none, none, none, none],
                    bx :=
                      [{ elem := 23,
                          row :=
                            Row.lst
                              [SV.raw (Value.int IntKind.i64 a1), SV.raw (Value.int IntKind.i64 a2),
                                SV.raw (Value.int IntKind.i64 a3), SV.raw (Value.int IntKind.i64 a4),
                                SV.raw (Value.int IntKind.i64 a5)],
                          total := 5, own := true },
                        { elem := 23,
                          row :=
                            Row.lst
                              [SV.raw (Value.int IntKind.i64 a1), SV.raw (Value.int IntKind.i64 a2),
                                SV.raw (Value.int IntKind.i64 a3), SV.raw (Value.int IntKind.i64 a4),
                                SV.raw (Value.int IntKind.i64 a5)],
                          total := 5, own := true }],
                    E := E })
  refine ⟨Mem.le_refl _, Mem.le_refl _, ?_⟩
  refine condC (fun _ => ⟨Mem.le_refl _, h⟩) (fun _ => ?_)
  refine condC (fun _ => ⟨Mem.le_refl _, h⟩) (fun h3 => ?_)
  have h3 : a1 ≠ 3 := by simpa using h3
  refine condC (fun _ => ⟨Mem.le_refl _, h⟩) (fun _ => ?_)
  have key := Lp_ind okJO (n := 10) (fn := Try.f5) (p := [1, 1, 1, 1, 1, 0, 1, 0]) (n0 := 0) (K := pubK E K) (fun x : {x : Nat × Bool × Bool × Int // x.1 ≤ l1 ∧ Inv a1 x.2.2.2 x.2.1 x.2.2.1} => shR a1 a2 a3 a4 a5 a6 a7 b1 l1 c1 E x.1.1 x.1.2.1 x.1.2.2.1 x.1.2.2.2) (fun x => l1 - x.1.1) (by
    rintro ⟨⟨k, pr, wl, p⟩, hk, hI⟩ ih
    exact rnd5 hE1 (by omega) hr1 hI hk (by omega) h (fun pr wl p hlt hI => ih ⟨⟨k + 1, pr, wl, p⟩, hlt, hI⟩ (Nat.sub_lt_sub_left hlt (Nat.lt_succ_self k))))
  exact Lp_re [some 0, some 1] (key ⟨⟨0, a1 == 2, false, a1⟩, Nat.zero_le _, h3, by simp, .inl rfl⟩) ⟨⟨Nat.zero_le _, Nat.zero_le _, fun j h => absurd h (Nat.not_lt_zero _)⟩, rfl, (by repeat' first | exact True.intro | refine And.intro (Or.inl rfl) ?_), (by repeat' first | exact True.intro | exact rfl | exact Or.inl rfl | refine And.intro ?_ ?_), (by show List.Nodup [0, 1]; decide), Mem.le_refl _⟩


theorem opn5 (W : World) (K : List SV → Prop) (h : ∀ a1 : Int, (Lit.int .i64 a1).wf = true → ∀ a2 : Int, (Lit.int .i64 a2).wf = true → ∀ a3 : Int, (Lit.int .i64 a3).wf = true → ∀ a4 : Int, (Lit.int .i64 a4).wf = true → ∀ a5 : Int, (Lit.int .i64 a5).wf = true → ∀ a6 : Int, (Lit.int .i64 a6).wf = true → ∀ a7 : Int, (Lit.int .i64 a7).wf = true → ∀ (b1 : Option Addr) (l1 c1 : Nat) (z1 : List (List Value)), (l1 ≤ c1) → (c1 ≤ maxLen) → (b1 = none → c1 = 0) → (z1.length = c1) → RowAt W (.slice b1 l1 c1) z1.flatten → (∀ r ∈ z1, r.length = 8 ∧ Shp Try.prog W 12 27 r) → K [.agg [I a1, I a2, I a3, I a4, I a5], I a6, I a7, L b1 l1 c1]) : opnAll Try.prog W Try.f5.params.toList K :=
  same (by kernel_rfl) h

theorem sem5 (W : World) : opnAll Try.prog W Try.f5.params.toList fun ss => TabSem Try.prog 5 ss (fun v cs => RowAt W v cs) fun r _ => r = .raw (.bool true) := by
  refine opn5 W _ ?_
  intro a1 ha1 a2 ha2 a3 ha3 a4 ha4 a5 ha5 a6 ha6 a7 ha7 b1 l1 c1 z1 hl1 hc1 hb1 hz1 hE1 hr1
  exact Ent.sem okJO Try.func5 ⟨by kernel_rfl, by kernel_rfl⟩ rfl (e5 ha1 ha2 ha3 ha4 ha5 ha6 ha7 hl1 hc1 hb1 hz1 hE1 (fun r hr => word_row (hr1 r hr).1 (hr1 r hr).2) rfl)

theorem lifted5 (os : Os) (started : os.Started) (H : Type) (enc : TypeId × Value → H) :
    ReturnsInHanded {} Try.checked os 5 .any (Rows.joinOnlyRootSpec.pre6 enc Try.prog Try.f5 Rows.joinOnlyRootRow.domain false) (Rows.joinOnlyRootSpec.post enc Try.prog Try.f5 false true false false) :=
  lift_true (C := Try.checked) (by kernel_rfl) (by kernel_rfl) started (by kernel_rfl) Try.func5
    (ChangeSpec.witness6 (enc := enc) (C := Try.checked) false ⟨#[], #[.agg #[.int .i64 0, .int .i64 0, .int .i64 0, .int .i64 0, .int .i64 0], .int .i64 0, .int .i64 0, .slice none 0 0], []⟩ 8 (by kernel_rfl) (by kernel_rfl) (by kernel_rfl) (by kernel_rfl))
    (Tb := 4) (by kernel_rfl) (by kernel_rfl) (by kernel_rfl) rfl
    (fun ds hl => by
      match ds, hl with
      | [d0, d1, d2, d3], _ => exact ⟨rfl, rfl, rfl⟩)
    sem5

theorem over5 : Rows.joinOnlyRootRow.holds Try.pinned (OpenSpec.ofChange Rows.joinOnlyRootSpec) :=
  OpenClaim.holds_of_wide 5 Try.f5 rfl rfl rfl rfl rfl rfl rfl ⟨rfl, rfl, rfl, rfl, rfl⟩ rfl rfl rfl rfl rfl (by kernel_rfl) Try.func5 (by kernel_rfl)
    (of_decide_eq_true (by kernel_rfl)) (by unfold Func.isWrapper; first | (rw [if_pos (by decide +kernel)]; kernel_rfl) | (rw [if_neg (by decide +kernel)]; exact ⟨rfl, rfl⟩))
    (fun os started H enc _ => lifted5 os started H enc)

theorem proved5 : Rows.JoinOnlyRootSaid := over5
end Go.Proofs.Ythbfpaemiccjcaa.JoinOwn
