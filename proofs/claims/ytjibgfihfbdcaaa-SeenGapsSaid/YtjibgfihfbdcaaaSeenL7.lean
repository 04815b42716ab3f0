/- The law SeenGaps. -/
import Derived.Test.YtjibgfihfbdcaaaSeen19
import Derived.OpenShut
import Derived.Test.YtjibgfihfbdcaaaRows
namespace Go.Proofs.Ytjibgfihfbdcaaa.SeenOwn
open Go Go.Sx Go.Proofs.Ytjibgfihfbdcaaa
set_option maxRecDepth 100000
set_option maxHeartbeats 4000000
set_option linter.unusedVariables false
set_option linter.unusedSimpArgs false
variable {E : Mem} {K : SV → Mem → Prop}
noncomputable def tabL7 : FuncId → List SV → Mem → (SV → Mem → Prop) → Prop := fun f args E K => match f with
  | 9 => d0 args ((∀ (E' : Mem), Mem.le E E' → K (B true) E'))
  | 10 => d1 args fun x0 => dS x0 fun b1 l2 c3 => ∃ (xs : List Sn), SS E b1 l2 c3 xs ∧ (∀ x ∈ xs, x.2.length ≤ 9223372036854775807) ∧ (K (B (decide (fewS xs))) E)
  | 14 => d1 args fun x0 => dS x0 fun b1 l2 c3 => ∃ (xs : List Sn), SS E b1 l2 c3 xs ∧ Sm xs ∧ (K (B (decide (validS xs))) E)
  | 19 => d3 args fun x0 x1 x2 => dS x0 fun b1 l2 c3 => dI x1 fun a4 => dI x2 fun a5 => ∃ (xs : List Sn), SS E b1 l2 c3 xs ∧ Sm xs ∧ (-9223372036854775808 ≤ a4 ∧ a4 ≤ 9223372036854775807) ∧ a5 ≤ 1000 ∧ (∀ (b' : Option Addr) (l' c' : Nat) (E' : Mem), Mem.le E E' → NL E' b' l' c' (missF xs a4 a5) → K (L b' l' c') E')
  | 15 => d3 args fun x0 x1 x2 => dS x0 fun b1 l2 c3 => dI x1 fun a4 => dI x2 fun a5 => ∃ (xs : List Sn), SS E b1 l2 c3 xs ∧ Sm xs ∧ (-9223372036854775808 ≤ a4 ∧ a4 ≤ 9223372036854775807) ∧ (K (B (decide (hasP xs a4 a5))) E)
  | 11 => d3 args fun x0 x1 x2 => dS x0 fun b1 l2 c3 => dI x1 fun a4 => dI x2 fun a5 => ∃ (xs : List Sn), SS E b1 l2 c3 xs ∧ Sm xs ∧ (∀ (ys : List Sn) (t : Bool) (e : Int), addF xs a4 a5 = (ys, t, e) → ∀ (b' : Option Addr) (l' c' : Nat) (E' : Mem), Mem.le E E' → SS E' b' l' c' ys → K (.tup [L b' l' c', B t, I e]) E')
  | _ => False
theorem tabL7_ok : TabOK Try.prog tabL7 := by
  intro f args E K h
  unfold tabL7 at h
  split at h
  · obtain ⟨rfl, h⟩ := d0_elim h
    exact TabSem.congr rfl (Ent.sem okN3 Try.func9 ⟨by kernel_rfl, by kernel_rfl⟩ rfl (s9 h))
  · replace h := d1_elim h
    obtain ⟨x0, rfl, h⟩ := h
    replace h := dS_elim h
    obtain ⟨b1, l2, c3, rfl, h⟩ := h
    obtain ⟨xs, g0, g1, h⟩ := h
    exact TabSem.congr (valL_cons rfl rfl) (Ent.sem okN2 Try.func10 ⟨by kernel_rfl, by kernel_rfl⟩ rfl (s10 g0 g1 h))
  · replace h := d1_elim h
    obtain ⟨x0, rfl, h⟩ := h
    replace h := dS_elim h
    obtain ⟨b1, l2, c3, rfl, h⟩ := h
    obtain ⟨xs, g0, g1, h⟩ := h
    exact TabSem.congr (valL_cons rfl rfl) (Ent.sem okC7 Try.func14 ⟨by kernel_rfl, by kernel_rfl⟩ rfl (s14 g0 g1 h))
  · replace h := d3_elim h
    obtain ⟨x0, x1, x2, rfl, h⟩ := h
    replace h := dS_elim h
    obtain ⟨b1, l2, c3, rfl, h⟩ := h
    replace h := dI_elim h
    obtain ⟨a4, rfl, h⟩ := h
    replace h := dI_elim h
    obtain ⟨a5, rfl, h⟩ := h
    obtain ⟨xs, g0, g1, g2, g3, h⟩ := h
    exact TabSem.congr (valL_cons rfl (valL_cons rfl (valL_cons rfl rfl))) (Ent.sem okM1 Try.func19 ⟨by kernel_rfl, by kernel_rfl⟩ rfl (s19 g0 g1 g2 g3 h))
  · replace h := d3_elim h
    obtain ⟨x0, x1, x2, rfl, h⟩ := h
    replace h := dS_elim h
    obtain ⟨b1, l2, c3, rfl, h⟩ := h
    replace h := dI_elim h
    obtain ⟨a4, rfl, h⟩ := h
    replace h := dI_elim h
    obtain ⟨a5, rfl, h⟩ := h
    obtain ⟨xs, g0, g1, g2, h⟩ := h
    exact TabSem.congr (valL_cons rfl (valL_cons rfl (valL_cons rfl rfl))) (Ent.sem okD8 Try.func15 ⟨by kernel_rfl, by kernel_rfl⟩ rfl (s15 g0 g1 g2 h))
  · replace h := d3_elim h
    obtain ⟨x0, x1, x2, rfl, h⟩ := h
    replace h := dS_elim h
    obtain ⟨b1, l2, c3, rfl, h⟩ := h
    replace h := dI_elim h
    obtain ⟨a4, rfl, h⟩ := h
    replace h := dI_elim h
    obtain ⟨a5, rfl, h⟩ := h
    obtain ⟨xs, g0, g1, h⟩ := h
    exact TabSem.congr (valL_cons rfl (valL_cons rfl (valL_cons rfl rfl))) (Ent.sem okA1 Try.func11 ⟨by kernel_rfl, by kernel_rfl⟩ rfl (s11 g0 g1 h))
  · exact h.elim
noncomputable def WL7 : Cx := { P := Try.prog, inl := fun f => List.contains [] f, tab := tabL7, isB := fun _ => false, tabB := fun _ _ _ _ _ => False, opt := { unroll := 0, carry := [7, 8, 11, 35, 56, 117], cuts := [12, 18, 22, 26, 35] }, muts := mutsD }
theorem okWL7 : CxOK WL7 := CxOK.four tabL7_ok (by kernel_rfl) (okInl (by kernel_rfl)) (fun _ _ _ _ _ h => h.elim)
def shG35 (b6 : Option Addr) (l6 c6 : Nat) (b17 : Option Addr) (l17 c17 : Nat) (E : Mem) : St := ⟨[none, none, none, none, none, some (B true), some (L b6 l6 c6), none, none, none, none, none, none, none, none, none, none, some (L b17 l17 c17), none, none, none, none, none, none, none, none, none, none, none, none, none, none, none, none, none, none, none, none, none, none, none, none, none, none, none, none, none, none, none, none, none, none, none, none, none, none, none, none, none, none, none, none, none, none, none, none, none, none, none, none, none, none, none, none, none, none, none, none, none, none, none, none, none, none, none, none, none, none, none, none, none, none, none, none, none, none, none, none, none, none, none, none, none, none, none, none, none, none, none, none, none, none, none, none, none, none, none, none, none, none, none, none, none, none, none, none, none, none, none, none, none, none, none, none, none, none, none, none, none, none, none, none, none, none, none, none, none, none, none, none, none, none], [], E⟩
theorem pcG35 {b6 b17 : Option Addr} {l6 c6 l17 c17 : Nat} {E0 : Mem} (h6 : l6 < 200) (h17 : l17 = 0) (hE : Mem.le E0 E) (h : K (B true) E) : Pc WL7 8 Try.f7 [1, 1, 1, 1, 1, 1, 1, 1, 1, 1, 1] 0 (pubK E0 K) (shG35 b6 l6 c6 b17 l17 c17 E) := by
  refine same (by kernel_rfl) (?_ : 
      bif bif true then (↑l17 : Int) == (0 : Int) else false then
        Mem.le E0 E ∧ K (SV.raw (Value.bool (bif true then decide ((↑l6 : Int) < (200 : Int)) else false))) E
      else Mem.le E0 E ∧ K (SV.raw (Value.bool false)) E)
  subst h17
  refine condC (fun _ => ⟨hE, ?_⟩) (fun w => by simp at w)
  have e : decide ((l6 : Int) < 200) = true := by simp; omega
  rw [e]; exact h
def shG30 (o top : Int) (b6 : Option Addr) (l6 c6 : Nat) (b17 : Option Addr) (l17 c17 : Nat) (b : Option Addr) (l c : Nat) (i : Nat) (E : Mem) : St := ⟨[none, some (I o), none, none, none, some (B true), some (L b6 l6 c6), none, some (I top), none, none, none, none, none, none, none, none, some (L b17 l17 c17), none, none, none, none, none, none, none, none, none, none, none, none, none, none, none, none, none, none, none, none, none, none, none, none, none, none, none, none, none, none, none, none, none, none, none, none, none, none, none, none, none, none, none, none, none, none, none, none, none, none, none, none, none, none, none, none, none, none, none, none, none, none, none, none, none, none, none, none, none, none, none, none, none, none, none, none, none, none, none, none, none, none, none, none, none, none, none, none, none, none, none, none, none, none, none, none, none, some (L b l c), some (I (l : Nat)), some (I (i : Nat)), none, none, none, none, none, none, none, none, none, none, none, none, none, none, none, none, none, none, none, none, none, none, none, none, none, none, none, none, none, none, none, none, none, none], [], E⟩
theorem rndG30 {o top : Int} {b b6 b17 : Option Addr} {l c l6 c6 l17 c17 i : Nat} {zs : List Sn} {E0 : Mem} (hx : SS E b l c zs) (sz : Sm zs) (hz : ∀ x ∈ zs, x.1 = o → x.2 = [(1, top)]) (h6 : l6 < 200) (h17 : l17 = 0) (hE : Mem.le E0 E) (hi : i ≤ l) (h : K (B true) E) (ih : i < l → Lp WL7 8 Try.f7 [1, 1, 1, 1, 1, 1, 1, 1, 1, 1, 0, 1, 0] 0 (pubK E0 K) (shG30 o top b6 l6 c6 b17 l17 c17 b l c (i + 1) E)) : Rnd WL7 8 Try.f7 [1, 1, 1, 1, 1, 1, 1, 1, 1, 1, 0, 1, 0] 0 (pubK E0 K) (shG30 o top b6 l6 c6 b17 l17 c17 b l c i E) := by
  refine same (by kernel_rfl) (?_ : 
      bif decide ((↑i : Int) < (↑l : Int)) then
        req ((0 : Int) ≤ (↑i : Int) ∧ (↑i : Int) < (↑l : Int))
          ((∃ (cs : List Value), E (Value.slice b l c) cs ∧ (cs = [] → False)) ∧
            ∃ (n : Int),
              ∃ (base : Option Addr),
                ∃ (len : Nat),
                  ∃ (cap : Nat),
                    LoadE WL7.P E 45 (Value.slice b l c) (Int.toNat (↑i : Int) * 2)
                        (SV.agg [SV.raw (Value.int IntKind.i64 n), SV.raw (Value.slice base len cap)]) ∧
                      bif n == o then
                        bif (↑len : Int) != (1 : Int) then Mem.le E0 E ∧ K (SV.raw (Value.bool false)) E
                        else
                          req ((0 : Int) ≤ (0 : Int) ∧ (0 : Int) < (↑len : Int))
                            ((∃ (cs : List Value), E (Value.slice base len cap) cs ∧ (cs = [] → False)) ∧
                              ∃ (n_1 : Int),
                                ∃ (n_2 : Int),
                                  LoadE WL7.P E 47 (Value.slice base len cap) 0
                                      (SV.agg [SV.raw (Value.int IntKind.i64 n_1), SV.raw (Value.int IntKind.i64 n_2)]) ∧
                                    bif
                                        bif true then bif false then true else !(n_1 == (1 : Int) && (n_2 == top && true))
                                        else false then
                                      Mem.le E0 E ∧ K (SV.raw (Value.bool false)) E
                                    else
                                      Lp WL7 8 Try.f7
                                        [1, 1, 1, 1, 1, 1, 1,
                                          1, 1, 1, 0, 1, 0]
                                        0 (pubK E0 K)
                                        {
                                          fr :=
                                            [none, some (SV.raw (Value.int IntKind.i64 o)), none, none, none, some (SV.raw (Value.bool true)), some (SV.raw (Value.slice b6 l6 c6)), none, some (SV.raw (Value.int IntKind.i64 top)), none, none, none, none, none, none, none, none, some (SV.raw (Value.slice b17 l17 c17)), none, none, none, none, none, none, none, none, none, none, none, none, none, none, none, none, none, none, none, none, none, none, none, none, none, none, none, none, none, none, none, none, none, none, none, none, none, none, none, none, none, none, none, none, none, none, none, none, none, none, none, none, none, none, none, none, none, none, none, none, none, none, none, none, none, none, none, none, none, none, none, none, none, none, none, none, none, none, none, none, none, none, none, none, none, none, none, none, none, none, none, none, none, none, none, none, none, some (SV.raw (Value.slice b l c)), some (SV.raw (Value.int IntKind.i64 (↑l : Int))), some (SV.raw (Value.int IntKind.i64 (IntKind.wrap IntKind.i64 ((↑i : Int) + (1 : Int))))), none, none, none, none, none, none, none, none, none, none, none, none, none, none, none, none, none, none, none, none, none, none, none, none, none, none, none, none, none, none, none, none, none, none],
                                          bx :=
                                            [{ elem := 45,
                                                row :=
                                                  Row.lst
                                                    [SV.raw (Value.int IntKind.i64 n), SV.raw (Value.slice base len cap)],
                                                total := 2, own := true : Box }],
                                          E := E : St })
                      else
                        Lp WL7 8 Try.f7
                          [1, 1, 1, 1, 1, 1, 1, 1, 1,
                            1, 0, 1, 0]
                          0 (pubK E0 K)
                          {
                            fr :=
                              [none, some (SV.raw (Value.int IntKind.i64 o)), none, none, none, some (SV.raw (Value.bool true)), some (SV.raw (Value.slice b6 l6 c6)), none, some (SV.raw (Value.int IntKind.i64 top)), none, none, none, none, none, none, none, none, some (SV.raw (Value.slice b17 l17 c17)), none, none, none, none, none, none, none, none, none, none, none, none, none, none, none, none, none, none, none, none, none, none, none, none, none, none, none, none, none, none, none, none, none, none, none, none, none, none, none, none, none, none, none, none, none, none, none, none, none, none, none, none, none, none, none, none, none, none, none, none, none, none, none, none, none, none, none, none, none, none, none, none, none, none, none, none, none, none, none, none, none, none, none, none, none, none, none, none, none, none, none, none, none, none, none, none, none, some (SV.raw (Value.slice b l c)), some (SV.raw (Value.int IntKind.i64 (↑l : Int))), some (SV.raw (Value.int IntKind.i64 (IntKind.wrap IntKind.i64 ((↑i : Int) + (1 : Int))))), none, none, none, none, none, none, none, none, none, none, none, none, none, none, none, none, none, none, none, none, none, none, none, none, none, none, none, none, none, none, none, none, none, none],
                            bx :=
                              [{ elem := 45,
                                  row := Row.lst [SV.raw (Value.int IntKind.i64 n), SV.raw (Value.slice base len cap)],
                                  total := 2, own := true : Box }],
                            E := E : St })
      else
        Ct WL7 8 Try.f7
          [1, 1, 1, 1, 1, 1, 1, 1, 1, 1,
            1]
          0 (pubK E0 K)
          {
            fr :=
              [none, some (SV.raw (Value.int IntKind.i64 o)), none, none, none, some (SV.raw (Value.bool true)), some (SV.raw (Value.slice b6 l6 c6)), none, some (SV.raw (Value.int IntKind.i64 top)), none, none, none, none, none, none, none, none, some (SV.raw (Value.slice b17 l17 c17)), none, none, none, none, none, none, none, none, none, none, none, none, none, none, none, none, none, none, none, none, none, none, none, none, none, none, none, none, none, none, none, none, none, none, none, none, none, none, none, none, none, none, none, none, none, none, none, none, none, none, none, none, none, none, none, none, none, none, none, none, none, none, none, none, none, none, none, none, none, none, none, none, none, none, none, none, none, none, none, none, none, none, none, none, none, none, none, none, none, none, none, none, none, none, none, none, none, some (SV.raw (Value.slice b l c)), some (SV.raw (Value.int IntKind.i64 (↑l : Int))), some (SV.raw (Value.int IntKind.i64 (↑i : Int))), some (SV.raw (Value.bool (decide ((↑i : Int) < (↑l : Int))))), none, none, none, none, none, none, none, none, none, none, none, none, none, none, none, none, none, none, none, none, none, none, none, none, none, none, none, none, none, none, none, none, none],
            bx := [], E := E : St })
  have hn := hx.len
  have hb := sz.1
  refine condC (fun g => ?_) (fun g => ?_)
  · have g : i < l := by simpa using g
    obtain ⟨x, ex⟩ : ∃ x, zs[i]? = some x := ⟨_, List.getElem?_eq_getElem (by omega)⟩
    obtain ⟨q1, b', l', c', e2, e3⟩ := hx.load ex
    have w1 : IntKind.wrap .i64 ((i : Int) + 1) = ((i + 1 : Nat) : Int) := by rw [wrap_i64 (by omega)]; simp
    rw [w1]
    refine req_intro (by omega) ⟨SL.nex SR_ok hx ex, x.1, b', l', c', e2, condC (fun g2 => ?_) (fun g2 => Lp_re [] (ih g) ⟨⟨by simp, by simp, fun j h => absurd h (Nat.not_lt_zero _)⟩, rfl, (by repeat' first | exact True.intro | refine And.intro (Or.inl rfl) ?_ | refine And.intro (Or.inr ⟨rfl, rfl⟩) ?_), (by repeat' first | exact True.intro | exact rfl | exact Or.inl rfl | fail | refine And.intro ?_ ?_), (show List.Nodup [] from by decide), Mem.le_refl _⟩)⟩
    have g2 : x.1 = o := by simpa using g2
    rw [hz x (List.mem_of_getElem? ex) g2] at e3
    have n3 : 1 = l' := e3.len
    subst n3
    exact condC (fun w => by simp at w) (fun _ => req_intro (by omega) ⟨SL.nex RR_ok e3 (i := 0) rfl, 1, top, e3.load (i := 0) rfl, condC (fun w => by simp at w) (fun _ => Lp_re [] (ih g) ⟨⟨by simp, by simp, fun j h => absurd h (Nat.not_lt_zero _)⟩, rfl, (by repeat' first | exact True.intro | refine And.intro (Or.inl rfl) ?_ | refine And.intro (Or.inr ⟨rfl, rfl⟩) ?_), (by repeat' first | exact True.intro | exact rfl | exact Or.inl rfl | fail | refine And.intro ?_ ?_), (show List.Nodup [] from by decide), Mem.le_refl _⟩)⟩)
  · exact Ct_re [] (Ct_intro okWL7 (pcG35 h6 h17 hE h)) ⟨⟨by simp, by simp, fun j h => absurd h (Nat.not_lt_zero _)⟩, rfl, (by repeat' first | exact True.intro | refine And.intro (Or.inl rfl) ?_ | refine And.intro (Or.inr ⟨rfl, rfl⟩) ?_), (by repeat' first | exact True.intro | exact rfl | exact Or.inl rfl | fail | refine And.intro ?_ ?_), (show List.Nodup [] from by decide), Mem.le_refl _⟩
theorem lpG30 {o top : Int} {b b6 b17 : Option Addr} {l c l6 c6 l17 c17 i : Nat} {zs : List Sn} {E0 : Mem} (hx : SS E b l c zs) (sz : Sm zs) (hz : ∀ x ∈ zs, x.1 = o → x.2 = [(1, top)]) (h6 : l6 < 200) (h17 : l17 = 0) (hE : Mem.le E0 E) (hi : i ≤ l) (h : K (B true) E) : Lp WL7 8 Try.f7 [1, 1, 1, 1, 1, 1, 1, 1, 1, 1, 0, 1, 0] 0 (pubK E0 K) (shG30 o top b6 l6 c6 b17 l17 c17 b l c i E) :=
  Lp_ind okWL7 (fun y : {y : Nat // y ≤ l} => shG30 o top b6 l6 c6 b17 l17 c17 b l c y.1 E) (fun y => l - y.1) (fun y ih => rndG30 hx sz hz h6 h17 hE y.2 h fun g => ih ⟨y.1 + 1, by omega⟩ (by show l - (_ + 1) < l - _; omega)) ⟨i, hi⟩
def shG26 (o top : Int) (b6 : Option Addr) (l6 c6 : Nat) (b : Option Addr) (l c : Nat) (E : Mem) : St := ⟨[none, some (I o), none, none, none, some (B true), some (L b6 l6 c6), none, some (I top), none, none, some (L b l c), none, none, none, none, none, none, none, none, none, none, none, none, none, none, none, none, none, none, none, none, none, none, none, none, none, none, none, none, none, none, none, none, none, none, none, none, none, none, none, none, none, none, none, none, none, none, none, none, none, none, none, none, none, none, none, none, none, none, none, none, none, none, none, none, none, none, none, none, none, none, none, none, none, none, none, none, none, none, none, none, none, none, none, none, none, none, none, none, none, none, none, none, none, none, none, none, none, none, none, none, none, none, none, none, none, none, none, none, none, none, none, none, none, none, none, none, none, none, none, none, none, none, none, none, none, none, none, none, none, none, none, none, none, none, none, none, none, none, none, none], [], E⟩
theorem pcG26 {o top : Int} {b b6 : Option Addr} {l c l6 c6 : Nat} {zs : List Sn} {E0 : Mem} (hx : SS E b l c zs) (sz : Sm zs) (hob : -9223372036854775808 ≤ o ∧ o ≤ 9223372036854775807) (hz : l6 < 200 → (∀ x ∈ zs, x.1 = o → x.2 = [(1, top)]) ∧ missF zs o 5 = []) (h6 : l6 ≤ 200) (hE : Mem.le E0 E) (h : ∀ E' : Mem, Mem.le E0 E' → K (B true) E') : Pc WL7 8 Try.f7 [1, 1, 1, 1, 1, 1, 1, 1] 0 (pubK E0 K) (shG26 o top b6 l6 c6 b l c E) := by
  refine same (by kernel_rfl) (?_ : 
      bif (↑l6 : Int) == (200 : Int) then Mem.le E0 E ∧ K (SV.raw (Value.bool true)) E
      else
        ∃ (xs : List Sn),
          SS E b l c xs ∧
            Sm xs ∧
              ((-9223372036854775808 : Int) ≤ o ∧ o ≤ (9223372036854775807 : Int)) ∧
                (5 : Int) ≤ (1000 : Int) ∧
                  ∀ (b' : Option Addr) (l' c' : Nat) (E' : Mem),
                    Mem.le E E' →
                      NL E' b' l' c' (missF xs o (5 : Int)) →
                        Mem.le E E' ∧
                          Lp WL7 8 Try.f7
                            [1, 1, 1, 1, 1, 1, 1, 1,
                              1, 1, 0, 1, 0]
                            0 (pubK E0 K)
                            {
                              fr :=
                                [none, some (SV.raw (Value.int IntKind.i64 o)), none, none, none, some (SV.raw (Value.bool true)), some (SV.raw (Value.slice b6 l6 c6)), none, some (SV.raw (Value.int IntKind.i64 top)), none, none, some (SV.raw (Value.slice b l c)), none, none, none, none, none, some (SV.raw (Value.slice b' l' c')), none, none, none, none, none, none, none, none, none, none, none, none, none, none, none, none, none, none, none, none, none, none, none, none, none, none, none, none, none, none, none, none, none, none, none, none, none, none, none, none, none, none, none, none, none, none, none, none, none, none, none, none, none, none, none, none, none, none, none, none, none, none, none, none, none, none, none, none, none, none, none, none, none, none, none, none, none, none, none, none, none, none, none, none, none, none, none, none, none, none, some (SV.raw (Value.slice b6 l6 c6)), some (SV.raw (Value.int IntKind.i64 (↑l6 : Int))), some (SV.raw (Value.bool ((↑l6 : Int) == (200 : Int)))), none, some (SV.raw (Value.slice b l c)), some (SV.raw (Value.int IntKind.i64 o)), some (SV.raw (Value.slice b' l' c')), some (SV.raw (Value.slice b l c)), some (SV.raw (Value.int IntKind.i64 (↑l : Int))), some (SV.raw (Value.int IntKind.i64 (0 : Int))), none, none, none, none, none, none, none, none, none, none, none, none, none, none, none, none, none, none, none, none, none, none, none, none, none, none, none, none, none, none, none, none, none, none],
                              bx := [], E := E' : St })
  refine condC (fun g => ⟨hE, h E hE⟩) (fun g => ⟨zs, hx, sz, hob, by decide, fun b' l' c' E' q s => ⟨q, ?_⟩⟩)
  have g : l6 < 200 := by simp at g; omega
  have hl := s.len
  rw [(hz g).2] at hl
  have k := Mem.le_trans hE q
  exact Lp_re [] (lpG30 (i := 0) (hx.mono SR_ok q) sz (hz g).1 g hl.symm k (Nat.zero_le _) (h E' k)) ⟨⟨by simp, by simp, fun j h => absurd h (Nat.not_lt_zero _)⟩, rfl, (by repeat' first | exact True.intro | refine And.intro (Or.inl rfl) ?_ | refine And.intro (Or.inr ⟨rfl, rfl⟩) ?_), (by repeat' first | exact True.intro | exact rfl | exact Or.inl rfl | fail | refine And.intro ?_ ?_), (show List.Nodup [] from by decide), Mem.le_refl _⟩
def shG14 (b : Option Addr) (l c : Nat) (o : Int) (xs : List Sn) (b6 : Option Addr) (l6 c6 : Nat) (b11 : Option Addr) (l11 c11 : Nat) (i : Nat) (E : Mem) : St := ⟨[some (L b l c), some (I o), none, none, none, some (B true), some (L b6 l6 c6), some (I (nextF xs o i)), some (I (topF 0 (ofF xs o))), none, none, some (L b11 l11 c11), none, none, none, none, none, none, none, none, none, none, none, none, none, none, none, none, none, none, none, none, none, none, none, none, none, none, none, none, none, none, none, none, none, none, none, none, none, none, none, none, none, none, some (L b6 l6 c6), some (I (l6 : Nat)), some (I (i : Nat)), none, none, none, none, none, none, none, none, none, none, none, none, none, none, none, none, none, none, none, none, none, none, none, none, none, none, none, none, none, none, none, none, none, none, none, none, none, none, none, none, none, none, none, none, none, none, none, none, none, none, none, none, none, none, none, none, none, none, none, none, none, none, none, none, none, none, none, none, none, none, none, none, none, none, none, none, none, none, none, none, none, none, none, none, none, none, none, none, none, none, none, none, none, none, none], [], E⟩
def shG22 (b : Option Addr) (l c : Nat) (o : Int) (xs : List Sn) (b6 : Option Addr) (l6 c6 : Nat) (i : Nat) (b14 : Option Addr) (l14 c14 : Nat) (t : Bool) (e : Int) (E : Mem) : St := ⟨[some (L b l c), some (I o), none, none, none, some (B true), some (L b6 l6 c6), some (I (nextF xs o (i + 1))), some (I (topF 0 (ofF xs o))), none, none, none, none, none, some (L b14 l14 c14), some (B t), some (.raw (.int .i64 e)), none, none, none, none, none, none, none, none, none, none, none, none, none, none, none, none, none, none, none, none, none, none, none, none, none, none, none, none, none, none, none, none, none, none, none, none, none, some (L b6 l6 c6), some (I (l6 : Nat)), some (I (i : Nat)), none, none, none, none, none, none, none, none, none, none, none, none, none, none, none, none, none, none, none, none, none, none, none, none, none, none, none, none, none, none, none, none, none, none, none, none, none, none, none, none, none, none, none, none, none, none, none, none, none, none, none, none, none, none, none, none, none, none, none, none, none, none, none, none, none, none, none, none, none, none, none, none, none, none, none, none, none, none, none, none, none, none, none, none, none, none, none, none, none, none, none, none, none, none, none], [], E⟩
theorem pcG22 {b b6 b14 : Option Addr} {l c l6 c6 l14 c14 i : Nat} {o e : Int} {t : Bool} {xs : List Sn} {E0 : Mem} (he : e = 0 ∧ t = true) (hi : i < 200) (ih : Lp WL7 8 Try.f7 [1, 1, 1, 1, 1, 1, 1, 0, 1, 0] 0 (pubK E0 K) (shG14 b l c o xs b6 l6 c6 b14 l14 c14 (i + 1) E)) : Pc WL7 8 Try.f7 [1, 1, 1, 1, 1, 1, 1, 0, 1, 0, 0, 1, 1, 0, 0, 1, 1, 1, 1, 1] 0 (pubK E0 K) (shG22 b l c o xs b6 l6 c6 i b14 l14 c14 t e E) := by
  refine same (by kernel_rfl) (?_ : 
      bif e != (0 : Int) then Mem.le E0 E ∧ K (SV.raw (Value.bool false)) E
      else
        bif bif false then true else !t then Mem.le E0 E ∧ K (SV.raw (Value.bool false)) E
        else
          Lp WL7 8 Try.f7
            [1, 1, 1, 1, 1, 1, 1, 0, 1, 0]
            0 (pubK E0 K)
            {
              fr :=
                [some (SV.raw (Value.slice b l c)), some (SV.raw (Value.int IntKind.i64 o)), none, none, none, some (SV.raw (Value.bool true)), some (SV.raw (Value.slice b6 l6 c6)), some (SV.raw (Value.int IntKind.i64 (nextF xs o (i + 1)))), some (SV.raw (Value.int IntKind.i64 (topF (0 : Int) (ofF xs o)))), none, none, some (SV.raw (Value.slice b14 l14 c14)), none, none, none, none, none, none, none, none, none, none, none, none, none, none, none, none, none, none, none, none, none, none, none, none, none, none, none, none, none, none, none, none, none, none, none, none, none, none, none, none, none, none, some (SV.raw (Value.slice b6 l6 c6)), some (SV.raw (Value.int IntKind.i64 (↑l6 : Int))), some (SV.raw (Value.int IntKind.i64 (IntKind.wrap IntKind.i64 ((↑i : Int) + (1 : Int))))), none, none, none, none, none, none, none, none, none, none, none, none, none, none, none, none, none, none, none, none, none, none, none, none, none, none, none, none, none, none, none, none, none, none, none, none, none, none, none, none, none, none, none, none, none, none, none, none, none, none, none, none, none, none, none, none, none, none, none, none, none, none, none, none, none, none, none, none, none, none, none, none, none, none, none, none, none, none, none, none, none, none, none, none, none, none, none, none, none, none, none, none, none, none, none],
              bx := [], E := E : St })
  obtain ⟨rfl, rfl⟩ := he
  rw [wrap_i64 (x := (i : Int) + 1) (by omega), show (i : Int) + 1 = ((i + 1 : Nat) : Int) by simp]
  refine condC (fun w => by simp at w) (fun _ => condC (fun w => by simp at w) (fun _ => Lp_re [] (ih) ⟨⟨by simp, by simp, fun j h => absurd h (Nat.not_lt_zero _)⟩, rfl, (by repeat' first | exact True.intro | refine And.intro (Or.inl rfl) ?_ | refine And.intro (Or.inr ⟨rfl, rfl⟩) ?_), (by repeat' first | exact True.intro | exact rfl | exact Or.inl rfl | fail | refine And.intro ?_ ?_), (show List.Nodup [] from by decide), Mem.le_refl _⟩))
def shG18 (b : Option Addr) (l c : Nat) (o : Int) (xs : List Sn) (b6 : Option Addr) (l6 c6 : Nat) (b11 : Option Addr) (l11 c11 : Nat) (i : Nat) (g : Int) (E : Mem) : St := ⟨[some (L b l c), some (I o), none, none, none, some (B true), some (L b6 l6 c6), none, some (I (topF 0 (ofF xs o))), none, none, some (L b11 l11 c11), none, some (I g), none, none, none, none, none, none, none, none, none, none, none, none, none, none, none, none, none, none, none, none, none, none, none, none, none, none, none, none, none, none, none, none, none, none, none, none, none, none, none, none, some (L b6 l6 c6), some (I (l6 : Nat)), some (I (i : Nat)), none, none, none, none, none, none, none, none, none, none, none, none, none, none, none, none, none, none, none, none, none, none, none, none, none, none, none, none, none, none, none, none, none, none, none, none, none, none, none, none, none, none, none, none, none, none, none, none, none, none, none, none, none, none, none, none, none, none, none, none, none, none, none, none, none, none, none, none, none, none, none, none, none, none, none, none, none, none, none, none, none, none, none, none, none, none, none, none, none, none, none, none, none, none, none], [], E⟩
theorem pcG18 {b b6 b11 : Option Addr} {l c l6 c6 l11 c11 i : Nat} {o : Int} {xs : List Sn} {E0 : Mem} {g : Int} {zs : List Sn} (hz : SS E b11 l11 c11 zs) (hI : GapI xs o i zs) (hv : validS xs) (hg : (gapsF xs o)[i]? = some g) (hi : i < 200) (hE : Mem.le E0 E) (h : ∀ E' : Mem, Mem.le E0 E' → K (B true) E') (ih : ∀ (b' : Option Addr) (l' c' : Nat) (ys : List Sn) (E' : Mem), Mem.le E E' → SS E' b' l' c' ys → GapI xs o (i + 1) ys → Lp WL7 8 Try.f7 [1, 1, 1, 1, 1, 1, 1, 0, 1, 0] 0 (pubK E0 K) (shG14 b l c o xs b6 l6 c6 b' l' c' (i + 1) E')) : Pc WL7 8 Try.f7 [1, 1, 1, 1, 1, 1, 1, 0, 1, 0, 0, 1, 1, 0, 0, 1, 1] 0 (pubK E0 K) (shG18 b l c o xs b6 l6 c6 b11 l11 c11 i g E) := by
  refine same (by kernel_rfl) (?_ : 
      ∃ (xs_1 : List Sn),
        SS E b11 l11 c11 xs_1 ∧
          Sm xs_1 ∧
            ∀ (ys : List Sn) (t : Bool) (e : Int),
              addF xs_1 o g = (ys, t, e) →
                ∀ (b' : Option Addr) (l' c' : Nat) (E' : Mem),
                  Mem.le E E' →
                    SS E' b' l' c' ys →
                      Mem.le E E' ∧
                        bif e == (10 : Int) then Mem.le E0 E' ∧ K (SV.raw (Value.bool true)) E'
                        else
                          Ct WL7 8 Try.f7
                            [1, 1, 1, 1, 1, 1, 1, 0,
                              1, 0, 0, 1, 1, 0, 0, 1,
                              1, 1, 1, 1]
                            0 (pubK E0 K)
                            {
                              fr :=
                                [some (SV.raw (Value.slice b l c)), some (SV.raw (Value.int IntKind.i64 o)), none, none, none, some (SV.raw (Value.bool true)), some (SV.raw (Value.slice b6 l6 c6)), some (SV.raw (Value.int IntKind.i64 (IntKind.wrap IntKind.i64 (g + (1 : Int))))), some (SV.raw (Value.int IntKind.i64 (topF (0 : Int) (ofF xs o)))), none, none, some (SV.raw (Value.slice b11 l11 c11)), none, some (SV.raw (Value.int IntKind.i64 g)), some (SV.raw (Value.slice b' l' c')), some (SV.raw (Value.bool t)), some (SV.raw (Value.int IntKind.i64 e)), none, none, none, none, none, none, none, none, none, none, none, none, none, none, none, none, none, none, none, none, none, none, none, none, none, none, none, none, none, none, none, none, none, none, none, none, none, some (SV.raw (Value.slice b6 l6 c6)), some (SV.raw (Value.int IntKind.i64 (↑l6 : Int))), some (SV.raw (Value.int IntKind.i64 (↑i : Int))), none, none, none, none, none, none, none, none, none, none, none, none, none, none, none, none, none, none, none, none, none, none, none, none, none, none, none, none, none, none, some (SV.raw (Value.int IntKind.i64 g)), some (SV.raw (Value.int IntKind.i64 (IntKind.wrap IntKind.i64 (g + (1 : Int))))), some (SV.tup [SV.raw (Value.slice b' l' c'), SV.raw (Value.bool t), SV.raw (Value.int IntKind.i64 e)]), some (SV.raw (Value.slice b11 l11 c11)), some (SV.raw (Value.int IntKind.i64 o)), some (SV.raw (Value.int IntKind.i64 g)), some (SV.tup [SV.raw (Value.slice b' l' c'), SV.raw (Value.bool t), SV.raw (Value.int IntKind.i64 e)]), some (SV.raw (Value.slice b' l' c')), some (SV.raw (Value.bool t)), some (SV.raw (Value.int IntKind.i64 e)), some (SV.raw (Value.int IntKind.i64 e)), some (SV.raw (Value.bool (e == (10 : Int)))), none, none, none, none, none, none, none, none, none, none, none, none, none, none, none, none, none, none, none, none, none, none, none, none, none, none, none, none, none, none, none, none, none, none, none, none, none, none, none, none, none, none, none, none, none, none, none, none, none, none, none, none, none],
                              bx := [], E := E' : St })
  have a := gap_at hv hg
  have tl := topF_le (o := o) hv
  refine ⟨zs, hz, hI.s, fun ys t e r b' l' c' E' q s => ⟨q, condC (fun _ => ⟨Mem.le_trans hE q, h E' (Mem.le_trans hE q)⟩) (fun w => ?_)⟩⟩
  have w : ¬ e = 10 := by simpa using w
  obtain ⟨e1, e2, e3⟩ := hI.succ hv hg r w
  rw [wrap_i64 (x := g + 1) (by omega), ← nextF_succ hg]
  exact Ct_re [] (Ct_intro okWL7 (pcG22 (E0 := E0) ⟨e1, e2⟩ hi (ih b' l' c' ys E' q s e3))) ⟨⟨by simp, by simp, fun j h => absurd h (Nat.not_lt_zero _)⟩, rfl, (by repeat' first | exact True.intro | refine And.intro (Or.inl rfl) ?_ | refine And.intro (Or.inr ⟨rfl, rfl⟩) ?_), (by repeat' first | exact True.intro | exact rfl | exact Or.inl rfl | fail | refine And.intro ?_ ?_), (show List.Nodup [] from by decide), Mem.le_refl _⟩
theorem rndG14 {b b6 b11 : Option Addr} {l c l6 c6 l11 c11 i : Nat} {o : Int} {xs : List Sn} {E0 : Mem} {zs : List Sn} (hx : SS E b l c xs) (sx : Sm xs) (hv : validS xs) (hob : -9223372036854775808 ≤ o ∧ o ≤ 9223372036854775807) (h6 : NL E b6 l6 c6 (gapsF xs o)) (hz : SS E b11 l11 c11 zs) (hI : GapI xs o i zs) (hi : i ≤ l6) (hE : Mem.le E0 E) (h : ∀ E' : Mem, Mem.le E0 E' → K (B true) E') (ih : i < l6 → ∀ (b' : Option Addr) (l' c' : Nat) (ys : List Sn) (E' : Mem), Mem.le E E' → SS E' b' l' c' ys → GapI xs o (i + 1) ys → Lp WL7 8 Try.f7 [1, 1, 1, 1, 1, 1, 1, 0, 1, 0] 0 (pubK E0 K) (shG14 b l c o xs b6 l6 c6 b' l' c' (i + 1) E')) : Rnd WL7 8 Try.f7 [1, 1, 1, 1, 1, 1, 1, 0, 1, 0] 0 (pubK E0 K) (shG14 b l c o xs b6 l6 c6 b11 l11 c11 i E) := by
  refine same (by kernel_rfl) (?_ : 
      bif decide ((↑i : Int) < (↑l6 : Int)) then
        req ((0 : Int) ≤ (↑i : Int) ∧ (↑i : Int) < (↑l6 : Int))
          ((∃ (cs : List Value), E (Value.slice b6 l6 c6) cs ∧ (cs = [] → False)) ∧
            ∃ (n : Int),
              LoadE WL7.P E 3 (Value.slice b6 l6 c6) (Int.toNat (↑i : Int) * 1)
                  (SV.raw (Value.int IntKind.i64 n)) ∧
                bif decide (n < nextF xs o i) then Mem.le E0 E ∧ K (SV.raw (Value.bool false)) E
                else
                  bif bif false then true else decide (n ≥ topF (0 : Int) (ofF xs o)) then
                    Mem.le E0 E ∧ K (SV.raw (Value.bool false)) E
                  else
                    ∃ (xs_1 : List Sn),
                      SS E b l c xs_1 ∧
                        Sm xs_1 ∧
                          ((-9223372036854775808 : Int) ≤ o ∧ o ≤ (9223372036854775807 : Int)) ∧
                            Mem.le E E ∧
                              bif bif false then true else decide (hasP xs_1 o n) then
                                Mem.le E0 E ∧ K (SV.raw (Value.bool false)) E
                              else
                                bif decide (n > nextF xs o i) then
                                  ∃ (xs_2 : List Sn),
                                    SS E b l c xs_2 ∧
                                      Sm xs_2 ∧
                                        ((-9223372036854775808 : Int) ≤ o ∧ o ≤ (9223372036854775807 : Int)) ∧
                                          Mem.le E E ∧
                                            bif
                                                bif false then true
                                                else
                                                  bif true then
                                                    !decide (hasP xs_2 o (IntKind.wrap IntKind.i64 (n - (1 : Int))))
                                                  else false then
                                              Mem.le E0 E ∧ K (SV.raw (Value.bool false)) E
                                            else
                                              Ct WL7 8 Try.f7
                                                [1, 1, 1, 1, 1, 1, 1,
                                                  0, 1, 0, 0, 1, 1, 0,
                                                  0, 1, 1]
                                                0 (pubK E0 K)
                                                {
                                                  fr :=
                                                    [some (SV.raw (Value.slice b l c)), some (SV.raw (Value.int IntKind.i64 o)), none, none, none, some (SV.raw (Value.bool true)), some (SV.raw (Value.slice b6 l6 c6)), some (SV.raw (Value.int IntKind.i64 (nextF xs o i))), some (SV.raw (Value.int IntKind.i64 (topF (0 : Int) (ofF xs o)))), none, none, some (SV.raw (Value.slice b11 l11 c11)), none, some (SV.raw (Value.int IntKind.i64 n)), none, none, none, none, none, none, none, none, none, none, none, none, none, none, none, none, none, none, none, none, none, none, none, none, none, none, none, none, none, none, none, none, none, none, none, none, none, none, none, none, some (SV.raw (Value.slice b6 l6 c6)), some (SV.raw (Value.int IntKind.i64 (↑l6 : Int))), some (SV.raw (Value.int IntKind.i64 (↑i : Int))), some (SV.raw (Value.bool (decide ((↑i : Int) < (↑l6 : Int))))), some (SV.rp (Value.slice b6 l6 c6) (Int.toNat (↑i : Int) * 1)), some (SV.raw (Value.int IntKind.i64 n)), some (SV.raw (Value.int IntKind.i64 n)), some (SV.raw (Value.int IntKind.i64 (nextF xs o i))), some (SV.raw (Value.bool (decide (n < nextF xs o i)))), some (SV.raw (Value.bool false)), some (SV.raw (Value.int IntKind.i64 n)), some (SV.raw (Value.int IntKind.i64 (topF (0 : Int) (ofF xs o)))), some (SV.raw (Value.bool (decide (n ≥ topF (0 : Int) (ofF xs o))))), some (SV.raw (Value.bool (bif false then true else decide (n ≥ topF (0 : Int) (ofF xs o))))), some (SV.raw (Value.bool false)), some (SV.raw (Value.slice b l c)), some (SV.raw (Value.int IntKind.i64 o)), some (SV.raw (Value.int IntKind.i64 n)), some (SV.raw (Value.bool (decide (hasP xs_1 o n)))), some (SV.raw (Value.bool (bif false then true else decide (hasP xs_1 o n)))), some (SV.raw (Value.bool false)), some (SV.raw (Value.int IntKind.i64 n)), some (SV.raw (Value.int IntKind.i64 (nextF xs o i))), some (SV.raw (Value.bool (decide (n > nextF xs o i)))), some (SV.raw (Value.bool true)), some (SV.raw (Value.slice b l c)), some (SV.raw (Value.int IntKind.i64 o)), some (SV.raw (Value.int IntKind.i64 n)), some (SV.raw (Value.int IntKind.i64 (IntKind.wrap IntKind.i64 (n - (1 : Int))))), some (SV.raw (Value.bool (decide (hasP xs_2 o (IntKind.wrap IntKind.i64 (n - (1 : Int))))))), some (SV.raw (Value.bool !decide (hasP xs_2 o (IntKind.wrap IntKind.i64 (n - (1 : Int)))))), some (SV.raw (Value.bool (bif true then !decide (hasP xs_2 o (IntKind.wrap IntKind.i64 (n - (1 : Int)))) else false))), some (SV.raw (Value.bool (bif false then true else bif true then !decide (hasP xs_2 o (IntKind.wrap IntKind.i64 (n - (1 : Int)))) else false))), none, none, none, none, none, none, none, none, none, none, none, none, none, none, none, none, none, none, none, none, none, none, none, none, none, none, none, none, none, none, none, none, none, none, none, none, none, none, none, none, none, none, none, none, none, none, none, none, none, none, none, none, none, none, none, none, none, none, none, none, none, none, none, none, none],
                                                  bx := [], E := E : St }
                                else
                                  Ct WL7 8 Try.f7
                                    [1, 1, 1, 1, 1, 1, 1, 0,
                                      1, 0, 0, 1, 1, 0, 0, 1,
                                      1]
                                    0 (pubK E0 K)
                                    {
                                      fr :=
                                        [some (SV.raw (Value.slice b l c)), some (SV.raw (Value.int IntKind.i64 o)), none, none, none, some (SV.raw (Value.bool true)), some (SV.raw (Value.slice b6 l6 c6)), some (SV.raw (Value.int IntKind.i64 (nextF xs o i))), some (SV.raw (Value.int IntKind.i64 (topF (0 : Int) (ofF xs o)))), none, none, some (SV.raw (Value.slice b11 l11 c11)), none, some (SV.raw (Value.int IntKind.i64 n)), none, none, none, none, none, none, none, none, none, none, none, none, none, none, none, none, none, none, none, none, none, none, none, none, none, none, none, none, none, none, none, none, none, none, none, none, none, none, none, none, some (SV.raw (Value.slice b6 l6 c6)), some (SV.raw (Value.int IntKind.i64 (↑l6 : Int))), some (SV.raw (Value.int IntKind.i64 (↑i : Int))), some (SV.raw (Value.bool (decide ((↑i : Int) < (↑l6 : Int))))), some (SV.rp (Value.slice b6 l6 c6) (Int.toNat (↑i : Int) * 1)), some (SV.raw (Value.int IntKind.i64 n)), some (SV.raw (Value.int IntKind.i64 n)), some (SV.raw (Value.int IntKind.i64 (nextF xs o i))), some (SV.raw (Value.bool (decide (n < nextF xs o i)))), some (SV.raw (Value.bool false)), some (SV.raw (Value.int IntKind.i64 n)), some (SV.raw (Value.int IntKind.i64 (topF (0 : Int) (ofF xs o)))), some (SV.raw (Value.bool (decide (n ≥ topF (0 : Int) (ofF xs o))))), some (SV.raw (Value.bool (bif false then true else decide (n ≥ topF (0 : Int) (ofF xs o))))), some (SV.raw (Value.bool false)), some (SV.raw (Value.slice b l c)), some (SV.raw (Value.int IntKind.i64 o)), some (SV.raw (Value.int IntKind.i64 n)), some (SV.raw (Value.bool (decide (hasP xs_1 o n)))), some (SV.raw (Value.bool (bif false then true else decide (hasP xs_1 o n)))), some (SV.raw (Value.bool false)), some (SV.raw (Value.int IntKind.i64 n)), some (SV.raw (Value.int IntKind.i64 (nextF xs o i))), some (SV.raw (Value.bool (decide (n > nextF xs o i)))), some (SV.raw (Value.bool false)), some (SV.raw (Value.tuple { toList := [] : Array Value })), some (SV.raw (Value.tuple { toList := [] : Array Value })), some (SV.raw (Value.tuple { toList := [] : Array Value })), some (SV.raw (Value.tuple { toList := [] : Array Value })), some (SV.raw (Value.tuple { toList := [] : Array Value })), some (SV.raw (Value.tuple { toList := [] : Array Value })), some (SV.raw (Value.bool false)), some (SV.raw (Value.bool false)), none, none, none, none, none, none, none, none, none, none, none, none, none, none, none, none, none, none, none, none, none, none, none, none, none, none, none, none, none, none, none, none, none, none, none, none, none, none, none, none, none, none, none, none, none, none, none, none, none, none, none, none, none, none, none, none, none, none, none, none, none, none, none, none, none],
                                      bx := [], E := E : St })
      else
        Ct WL7 8 Try.f7 [1, 1, 1, 1, 1, 1, 1, 1]
          0 (pubK E0 K)
          {
            fr :=
              [some (SV.raw (Value.slice b l c)), some (SV.raw (Value.int IntKind.i64 o)), none, none, none, some (SV.raw (Value.bool true)), some (SV.raw (Value.slice b6 l6 c6)), some (SV.raw (Value.int IntKind.i64 (nextF xs o i))), some (SV.raw (Value.int IntKind.i64 (topF (0 : Int) (ofF xs o)))), none, none, some (SV.raw (Value.slice b11 l11 c11)), none, none, none, none, none, none, none, none, none, none, none, none, none, none, none, none, none, none, none, none, none, none, none, none, none, none, none, none, none, none, none, none, none, none, none, none, none, none, none, none, none, none, some (SV.raw (Value.slice b6 l6 c6)), some (SV.raw (Value.int IntKind.i64 (↑l6 : Int))), some (SV.raw (Value.int IntKind.i64 (↑i : Int))), some (SV.raw (Value.bool (decide ((↑i : Int) < (↑l6 : Int))))), none, none, none, none, none, none, none, none, none, none, none, none, none, none, none, none, none, none, none, none, none, none, none, none, none, none, none, none, none, none, none, none, none, none, none, none, none, none, none, none, none, none, none, none, none, none, none, none, none, none, none, none, none, none, none, none, none, none, none, none, none, none, none, none, none, none, none, none, none, none, none, none, none, none, none, none, none, none, none, none, none, none, none, none, none, none, none, none, none, none, none, none, none, none],
            bx := [], E := E : St })
  have hn := h6.len
  have h200 : (gapsF xs o).length ≤ 200 := by rw [gaps_eq hv, List.length_take]; omega
  refine condC (fun g => ?_) (fun g => ?_)
  · have g : i < l6 := by simpa using g
    obtain ⟨x, ex⟩ : ∃ x, (gapsF xs o)[i]? = some x := ⟨_, List.getElem?_eq_getElem (by omega)⟩
    obtain ⟨a1, a2, a3, a4, a5⟩ := gap_at hv ex
    have tl := topF_le (o := o) hv
    have go : Ct WL7 8 Try.f7 [1, 1, 1, 1, 1, 1, 1, 0, 1, 0, 0, 1, 1, 0, 0, 1, 1] 0 (pubK E0 K) (shG18 b l c o xs b6 l6 c6 b11 l11 c11 i x E) := Ct_intro okWL7 (pcG18 hz hI hv ex (by omega) hE h (ih g))
    refine req_intro (by omega) ⟨SL.nex NR_ok h6 ex, x, h6.load ex, condC (fun w => by simp at w; omega) (fun _ => condC (fun w => by simp at w; omega) (fun _ => ⟨xs, hx, sx, hob, Mem.le_refl _, condC (fun w => by simp [a3] at w) (fun _ => condC (fun w => ?_) (fun _ => Ct_re [] (go) ⟨⟨by simp, by simp, fun j h => absurd h (Nat.not_lt_zero _)⟩, rfl, (by repeat' first | exact True.intro | refine And.intro (Or.inl rfl) ?_ | refine And.intro (Or.inr ⟨rfl, rfl⟩) ?_), (by repeat' first | exact True.intro | exact rfl | exact Or.inl rfl | fail | refine And.intro ?_ ?_), (show List.Nodup [] from by decide), Mem.le_refl _⟩))⟩))⟩
    have w : nextF xs o i < x := by simpa using w
    have a4 := a4 w
    refine ⟨xs, hx, sx, hob, Mem.le_refl _, condC (fun v => ?_) (fun _ => Ct_re [] (go) ⟨⟨by simp, by simp, fun j h => absurd h (Nat.not_lt_zero _)⟩, rfl, (by repeat' first | exact True.intro | refine And.intro (Or.inl rfl) ?_ | refine And.intro (Or.inr ⟨rfl, rfl⟩) ?_), (by repeat' first | exact True.intro | exact rfl | exact Or.inl rfl | fail | refine And.intro ?_ ?_), (show List.Nodup [] from by decide), Mem.le_refl _⟩)⟩
    rw [wrap_i64 (x := x - 1) (by omega)] at v
    simp [a4] at v
  · have g : i = (gapsF xs o).length := by simp at g; omega
    subst g
    exact Ct_re [] (Ct_intro okWL7 (pcG26 (b6 := b6) (l6 := l6) (c6 := c6) hz hI.s hob (fun w => hI.done hv (by omega)) (by omega) hE h)) ⟨⟨by simp, by simp, fun j h => absurd h (Nat.not_lt_zero _)⟩, rfl, (by repeat' first | exact True.intro | refine And.intro (Or.inl rfl) ?_ | refine And.intro (Or.inr ⟨rfl, rfl⟩) ?_), (by repeat' first | exact True.intro | exact rfl | exact Or.inl rfl | fail | refine And.intro ?_ ?_), (show List.Nodup [] from by decide), Mem.le_refl _⟩
theorem lpG14 {b b6 b11 : Option Addr} {l c l6 c6 l11 c11 i : Nat} {o : Int} {xs : List Sn} {E0 : Mem} {zs : List Sn} (hx : SS E b l c xs) (sx : Sm xs) (hv : validS xs) (hob : -9223372036854775808 ≤ o ∧ o ≤ 9223372036854775807) (h6 : NL E b6 l6 c6 (gapsF xs o)) (hz : SS E b11 l11 c11 zs) (hI : GapI xs o i zs) (hi : i ≤ l6) (hE : Mem.le E0 E) (h : ∀ E' : Mem, Mem.le E0 E' → K (B true) E') : Lp WL7 8 Try.f7 [1, 1, 1, 1, 1, 1, 1, 0, 1, 0] 0 (pubK E0 K) (shG14 b l c o xs b6 l6 c6 b11 l11 c11 i E) :=
  Lp_ind okWL7 (fun y : {y : (Option Addr × Nat × Nat) × Nat × List Sn × Mem // y.2.1 ≤ l6 ∧ SS y.2.2.2 y.1.1 y.1.2.1 y.1.2.2 y.2.2.1 ∧ GapI xs o y.2.1 y.2.2.1 ∧ Mem.le E y.2.2.2 ∧ Mem.le E0 y.2.2.2} => shG14 b l c o xs b6 l6 c6 y.1.1.1 y.1.1.2.1 y.1.1.2.2 y.1.2.1 y.1.2.2.2) (fun y => l6 - y.1.2.1)
    (fun y ih => rndG14 (hx.mono SR_ok y.2.2.2.2.1) sx hv hob (h6.mono NR_ok y.2.2.2.2.1) y.2.2.1 y.2.2.2.1 y.2.1 y.2.2.2.2.2 h fun g b' l' c' ys E' q s j => ih ⟨((b', l', c'), y.1.2.1 + 1, ys, E'), (by show y.1.2.1 + 1 ≤ l6; omega), s, j, Mem.le_trans y.2.2.2.2.1 q, Mem.le_trans y.2.2.2.2.2 q⟩ (by show l6 - (_ + 1) < l6 - _; omega)) ⟨((b11, l11, c11), i, zs, E), hi, hz, hI, Mem.le_refl _, hE⟩
def shG12 (b : Option Addr) (l c : Nat) (o : Int) (xs : List Sn) (b6 : Option Addr) (l6 c6 : Nat) (g : Int) (E : Mem) : St := ⟨[some (L b l c), some (I o), none, none, none, some (B true), some (L b6 l6 c6), some (I 1), some (I g), none, none, none, none, none, none, none, none, none, none, none, none, none, none, none, none, none, none, none, none, none, none, none, none, none, none, none, none, none, none, none, none, none, none, none, none, none, none, none, none, none, none, none, none, none, none, none, none, none, none, none, none, none, none, none, none, none, none, none, none, none, none, none, none, none, none, none, none, none, none, none, none, none, none, none, none, none, none, none, none, none, none, none, none, none, none, none, none, none, none, none, none, none, none, none, none, none, none, none, none, none, none, none, none, none, none, none, none, none, none, none, none, none, none, none, none, none, none, none, none, none, none, none, none, none, none, none, none, none, none, none, none, none, none, none, none, none, none, none, none, none, none, none], [], E⟩
theorem pcG12 {b b6 : Option Addr} {l c l6 c6 : Nat} {o g : Int} {xs : List Sn} {E0 : Mem} (hx : SS E b l c xs) (sx : Sm xs) (hv : validS xs) (hob : -9223372036854775808 ≤ o ∧ o ≤ 9223372036854775807) (h6 : NL E b6 l6 c6 (gapsF xs o)) (hg : g = topF 0 (ofF xs o)) (hE : Mem.le E0 E) (h : ∀ E' : Mem, Mem.le E0 E' → K (B true) E') : Pc WL7 8 Try.f7 [1, 1, 1, 1, 1, 1] 0 (pubK E0 K) (shG12 b l c o xs b6 l6 c6 g E) := by
  refine same (by kernel_rfl) (?_ : 
      Lp WL7 8 Try.f7
        [1, 1, 1, 1, 1, 1, 1, 0, 1, 0]
        0 (pubK E0 K)
        {
          fr :=
            [some (SV.raw (Value.slice b l c)), some (SV.raw (Value.int IntKind.i64 o)), none, none, none, some (SV.raw (Value.bool true)), some (SV.raw (Value.slice b6 l6 c6)), some (SV.raw (Value.int IntKind.i64 (1 : Int))), some (SV.raw (Value.int IntKind.i64 g)), none, none, some (SV.raw (Value.slice b l c)), none, none, none, none, none, none, none, none, none, none, none, none, none, none, none, none, none, none, none, none, none, none, none, none, none, none, none, none, none, none, none, none, none, none, none, none, none, none, none, none, none, some (SV.raw (Value.slice b l c)), some (SV.raw (Value.slice b6 l6 c6)), some (SV.raw (Value.int IntKind.i64 (↑l6 : Int))), some (SV.raw (Value.int IntKind.i64 (0 : Int))), none, none, none, none, none, none, none, none, none, none, none, none, none, none, none, none, none, none, none, none, none, none, none, none, none, none, none, none, none, none, none, none, none, none, none, none, none, none, none, none, none, none, none, none, none, none, none, none, none, none, none, none, none, none, none, none, none, none, none, none, none, none, none, none, none, none, none, none, none, none, none, none, none, none, none, none, none, none, none, none, none, none, none, none, none, none, none, none, none, none, none, none, none, none, none],
          bx := [], E := E : St })
  subst hg
  exact Lp_re [] (lpG14 (i := 0) hx sx hv hob h6 hx (GapI.zero hv sx) (Nat.zero_le _) hE h) ⟨⟨by simp, by simp, fun j h => absurd h (Nat.not_lt_zero _)⟩, rfl, (by repeat' first | exact True.intro | refine And.intro (Or.inl rfl) ?_ | refine And.intro (Or.inr ⟨rfl, rfl⟩) ?_), (by repeat' first | exact True.intro | exact rfl | exact Or.inl rfl | fail | refine And.intro ?_ ?_), (show List.Nodup [] from by decide), Mem.le_refl _⟩
def shG7 (b : Option Addr) (l c : Nat) (o : Int) (xs : List Sn) (b6 : Option Addr) (l6 c6 : Nat) (g : Int) (i : Nat) (E : Mem) : St := ⟨[some (L b l c), some (I o), none, none, none, some (B true), some (L b6 l6 c6), some (I 1), some (I g), none, none, none, none, none, none, none, none, none, none, none, none, none, none, none, none, none, none, none, none, none, none, none, none, some (L b l c), some (I (l : Nat)), some (I (i : Nat)), none, none, none, none, none, none, none, none, none, none, none, none, none, none, none, none, none, none, none, none, none, none, none, none, none, none, none, none, none, none, none, none, none, none, none, none, none, none, none, none, none, none, none, none, none, none, none, none, none, none, none, none, none, none, none, none, none, none, none, none, none, none, none, none, none, none, none, none, none, none, none, none, none, none, none, none, none, none, none, none, none, none, none, none, none, none, none, none, none, none, none, none, none, none, none, none, none, none, none, none, none, none, none, none, none, none, none, none, none, none, none, none, none, none, none, none], [], E⟩
theorem rndG7 {b b6 : Option Addr} {l c l6 c6 i : Nat} {o g : Int} {xs : List Sn} {E0 : Mem} (hx : SS E b l c xs) (sx : Sm xs) (hv : validS xs) (hob : -9223372036854775808 ≤ o ∧ o ≤ 9223372036854775807) (h6 : NL E b6 l6 c6 (gapsF xs o)) (hi : i ≤ l) (hg : topI xs o i g) (hE : Mem.le E0 E) (h : ∀ E' : Mem, Mem.le E0 E' → K (B true) E') (ih : i < l → ∀ g', topI xs o (i + 1) g' → Lp WL7 8 Try.f7 [1, 1, 1, 1, 1, 0, 1, 0] 0 (pubK E0 K) (shG7 b l c o xs b6 l6 c6 g' (i + 1) E)) : Rnd WL7 8 Try.f7 [1, 1, 1, 1, 1, 0, 1, 0] 0 (pubK E0 K) (shG7 b l c o xs b6 l6 c6 g i E) := by
  refine same (by kernel_rfl) (?_ : 
      bif decide ((↑i : Int) < (↑l : Int)) then
        req ((0 : Int) ≤ (↑i : Int) ∧ (↑i : Int) < (↑l : Int))
          ((∃ (cs : List Value), E (Value.slice b l c) cs ∧ (cs = [] → False)) ∧
            ∃ (n : Int),
              ∃ (base : Option Addr),
                ∃ (len : Nat),
                  ∃ (cap : Nat),
                    LoadE WL7.P E 45 (Value.slice b l c) (Int.toNat (↑i : Int) * 2)
                        (SV.agg [SV.raw (Value.int IntKind.i64 n), SV.raw (Value.slice base len cap)]) ∧
                      bif n == o then
                        req
                          ((0 : Int) ≤ IntKind.wrap IntKind.i64 ((↑len : Int) - (1 : Int)) ∧
                            IntKind.wrap IntKind.i64 ((↑len : Int) - (1 : Int)) < (↑len : Int))
                          ((∃ (cs : List Value), E (Value.slice base len cap) cs ∧ (cs = [] → False)) ∧
                            ∃ (n_1 : Int),
                              LoadE WL7.P E 3 (Value.slice base len cap)
                                  (Int.toNat (IntKind.wrap IntKind.i64 ((↑len : Int) - (1 : Int))) * 2 + 1)
                                  (SV.raw (Value.int IntKind.i64 n_1)) ∧
                                Lp WL7 8 Try.f7
                                  [1, 1, 1, 1, 1, 0, 1, 0]
                                  0 (pubK E0 K)
                                  {
                                    fr :=
                                      [some (SV.raw (Value.slice b l c)), some (SV.raw (Value.int IntKind.i64 o)), none, none, none, some (SV.raw (Value.bool true)), some (SV.raw (Value.slice b6 l6 c6)), some (SV.raw (Value.int IntKind.i64 (1 : Int))), some (SV.raw (Value.int IntKind.i64 n_1)), none, none, none, none, none, none, none, none, none, none, none, none, none, none, none, none, none, none, none, none, none, none, none, none, some (SV.raw (Value.slice b l c)), some (SV.raw (Value.int IntKind.i64 (↑l : Int))), some (SV.raw (Value.int IntKind.i64 (IntKind.wrap IntKind.i64 ((↑i : Int) + (1 : Int))))), none, none, none, none, none, none, none, none, none, none, none, none, none, none, none, none, none, none, none, none, none, none, none, none, none, none, none, none, none, none, none, none, none, none, none, none, none, none, none, none, none, none, none, none, none, none, none, none, none, none, none, none, none, none, none, none, none, none, none, none, none, none, none, none, none, none, none, none, none, none, none, none, none, none, none, none, none, none, none, none, none, none, none, none, none, none, none, none, none, none, none, none, none, none, none, none, none, none, none, none, none, none, none, none, none, none, none, none, none, none, none, none, none, none, none, none],
                                    bx :=
                                      [{ elem := 45,
                                          row :=
                                            Row.lst [SV.raw (Value.int IntKind.i64 n), SV.raw (Value.slice base len cap)],
                                          total := 2, own := true : Box }],
                                    E := E : St })
                      else
                        Lp WL7 8 Try.f7
                          [1, 1, 1, 1, 1, 0, 1, 0] 0
                          (pubK E0 K)
                          {
                            fr :=
                              [some (SV.raw (Value.slice b l c)), some (SV.raw (Value.int IntKind.i64 o)), none, none, none, some (SV.raw (Value.bool true)), some (SV.raw (Value.slice b6 l6 c6)), some (SV.raw (Value.int IntKind.i64 (1 : Int))), some (SV.raw (Value.int IntKind.i64 g)), none, none, none, none, none, none, none, none, none, none, none, none, none, none, none, none, none, none, none, none, none, none, none, none, some (SV.raw (Value.slice b l c)), some (SV.raw (Value.int IntKind.i64 (↑l : Int))), some (SV.raw (Value.int IntKind.i64 (IntKind.wrap IntKind.i64 ((↑i : Int) + (1 : Int))))), none, none, none, none, none, none, none, none, none, none, none, none, none, none, none, none, none, none, none, none, none, none, none, none, none, none, none, none, none, none, none, none, none, none, none, none, none, none, none, none, none, none, none, none, none, none, none, none, none, none, none, none, none, none, none, none, none, none, none, none, none, none, none, none, none, none, none, none, none, none, none, none, none, none, none, none, none, none, none, none, none, none, none, none, none, none, none, none, none, none, none, none, none, none, none, none, none, none, none, none, none, none, none, none, none, none, none, none, none, none, none, none, none, none, none, none],
                            bx :=
                              [{ elem := 45,
                                  row := Row.lst [SV.raw (Value.int IntKind.i64 n), SV.raw (Value.slice base len cap)],
                                  total := 2, own := true : Box }],
                            E := E : St })
      else
        Ct WL7 8 Try.f7 [1, 1, 1, 1, 1, 1] 0 (pubK E0 K)
          {
            fr :=
              [some (SV.raw (Value.slice b l c)), some (SV.raw (Value.int IntKind.i64 o)), none, none, none, some (SV.raw (Value.bool true)), some (SV.raw (Value.slice b6 l6 c6)), some (SV.raw (Value.int IntKind.i64 (1 : Int))), some (SV.raw (Value.int IntKind.i64 g)), none, none, none, none, none, none, none, none, none, none, none, none, none, none, none, none, none, none, none, none, none, none, none, none, some (SV.raw (Value.slice b l c)), some (SV.raw (Value.int IntKind.i64 (↑l : Int))), some (SV.raw (Value.int IntKind.i64 (↑i : Int))), some (SV.raw (Value.bool (decide ((↑i : Int) < (↑l : Int))))), none, none, none, none, none, none, none, none, none, none, none, none, none, none, none, none, none, none, none, none, none, none, none, none, none, none, none, none, none, none, none, none, none, none, none, none, none, none, none, none, none, none, none, none, none, none, none, none, none, none, none, none, none, none, none, none, none, none, none, none, none, none, none, none, none, none, none, none, none, none, none, none, none, none, none, none, none, none, none, none, none, none, none, none, none, none, none, none, none, none, none, none, none, none, none, none, none, none, none, none, none, none, none, none, none, none, none, none, none, none, none, none, none, none, none],
            bx := [], E := E : St })
  have hn := hx.len
  have hb := sx.1
  refine condC (fun w => ?_) (fun w => ?_)
  · have w : i < l := by simpa using w
    obtain ⟨x, ex⟩ : ∃ x, xs[i]? = some x := ⟨_, List.getElem?_eq_getElem (by omega)⟩
    obtain ⟨q1, b', l', c', e2, e3⟩ := hx.load ex
    refine req_intro (by omega) ⟨SL.nex SR_ok hx ex, x.1, b', l', c', e2, condC (fun g2 => ?_) (fun g2 => ?_)⟩
    · have g2 : x.1 = o := by simpa using g2
      have n3 := e3.len
      have h0 := (chk_split hv.2 ex).1.1
      have hl := sx.2 x (List.mem_of_getElem? ex)
      obtain ⟨k, hk⟩ : ∃ k, x.2.length = k + 1 := ⟨x.2.length - 1, by
        have : x.2.length ≠ 0 := fun e => h0 (List.length_eq_zero_iff.1 e)
        omega⟩
      have ew : IntKind.wrap IntKind.i64 ((l' : Int) - 1) = (k : Int) := by rw [wrap_i64 (by omega)]; omega
      obtain ⟨z, ez⟩ : ∃ z, x.2[k]? = some z := ⟨_, List.getElem?_eq_getElem (by omega)⟩
      rw [ew]
      refine req_intro (by omega) ⟨SL.nex RR_ok e3 ez, z.2, e3.loadB ez, ?_⟩
      have ht := topI_yes hv ex g2
      rw [topF_last ez hk] at ht
      rw [wrap_i64 (x := (i : Int) + 1) (by omega), show (i : Int) + 1 = ((i + 1 : Nat) : Int) by simp]
      exact Lp_re [] (ih w _ ht) ⟨⟨by simp, by simp, fun j h => absurd h (Nat.not_lt_zero _)⟩, rfl, (by repeat' first | exact True.intro | refine And.intro (Or.inl rfl) ?_ | refine And.intro (Or.inr ⟨rfl, rfl⟩) ?_), (by repeat' first | exact True.intro | exact rfl | exact Or.inl rfl | fail | refine And.intro ?_ ?_), (show List.Nodup [] from by decide), Mem.le_refl _⟩
    · have g2 : ¬ x.1 = o := by simpa using g2
      rw [wrap_i64 (x := (i : Int) + 1) (by omega), show (i : Int) + 1 = ((i + 1 : Nat) : Int) by simp]
      exact Lp_re [] (ih w _ (topI_no hg ex g2)) ⟨⟨by simp, by simp, fun j h => absurd h (Nat.not_lt_zero _)⟩, rfl, (by repeat' first | exact True.intro | refine And.intro (Or.inl rfl) ?_ | refine And.intro (Or.inr ⟨rfl, rfl⟩) ?_), (by repeat' first | exact True.intro | exact rfl | exact Or.inl rfl | fail | refine And.intro ?_ ?_), (show List.Nodup [] from by decide), Mem.le_refl _⟩
  · have w : i = xs.length := by simp at w; omega
    subst w
    exact Ct_re [] (Ct_intro okWL7 (pcG12 hx sx hv hob h6 (topI_end hv hg) hE h)) ⟨⟨by simp, by simp, fun j h => absurd h (Nat.not_lt_zero _)⟩, rfl, (by repeat' first | exact True.intro | refine And.intro (Or.inl rfl) ?_ | refine And.intro (Or.inr ⟨rfl, rfl⟩) ?_), (by repeat' first | exact True.intro | exact rfl | exact Or.inl rfl | fail | refine And.intro ?_ ?_), (show List.Nodup [] from by decide), Mem.le_refl _⟩
theorem lpG7 {b b6 : Option Addr} {l c l6 c6 i : Nat} {o g : Int} {xs : List Sn} {E0 : Mem} (hx : SS E b l c xs) (sx : Sm xs) (hv : validS xs) (hob : -9223372036854775808 ≤ o ∧ o ≤ 9223372036854775807) (h6 : NL E b6 l6 c6 (gapsF xs o)) (hi : i ≤ l) (hg : topI xs o i g) (hE : Mem.le E0 E) (h : ∀ E' : Mem, Mem.le E0 E' → K (B true) E') : Lp WL7 8 Try.f7 [1, 1, 1, 1, 1, 0, 1, 0] 0 (pubK E0 K) (shG7 b l c o xs b6 l6 c6 g i E) :=
  Lp_ind okWL7 (fun y : {y : Nat × Int // y.1 ≤ l ∧ topI xs o y.1 y.2} => shG7 b l c o xs b6 l6 c6 y.1.2 y.1.1 E) (fun y => l - y.1.1) (fun y ih => rndG7 hx sx hv hob h6 y.2.1 y.2.2 hE h fun w g' hg' => ih ⟨(y.1.1 + 1, g'), (by show y.1.1 + 1 ≤ l; omega), hg'⟩ (by show l - (_ + 1) < l - _; omega)) ⟨(i, g), hi, hg⟩
theorem e7 {b1 : Option Addr} {l1 : Nat} {c1 : Nat} {x1 : List Sn} {a1 : Int} (hc1 : l1 ≤ maxLen) (hS10 : SS E b1 l1 c1 x1) (hS11 : ∀ x ∈ x1, x.2.length ≤ 9223372036854775807) (ha1 : (Lit.int .i64 a1).wf = true) (h : ∀ E' : Mem, Mem.le E E' → K (B true) E') :
    Ent WL7 8 Try.f7 [L b1 l1 c1, I a1] E K := by
  refine same (by kernel_rfl) (?_ : 
      ∀ (E' : Mem),
        Mem.le E E' →
          Mem.le E E' ∧
            ∃ (xs : List Sn),
              SS E' b1 l1 c1 xs ∧
                (∀ (x : Sn), List.Mem x xs → List.length x.snd ≤ 9223372036854775807) ∧
                  Mem.le E' E' ∧
                    bif !decide (fewS xs) then Mem.le E E' ∧ K (SV.raw (Value.bool true)) E'
                    else
                      ∃ (xs_1 : List Sn),
                        SS E' b1 l1 c1 xs_1 ∧
                          Sm xs_1 ∧
                            Mem.le E' E' ∧
                              bif bif false then true else !decide (validS xs_1) then
                                Mem.le E E' ∧ K (SV.raw (Value.bool true)) E'
                              else
                                ∃ (xs_2 : List Sn),
                                  SS E' b1 l1 c1 xs_2 ∧
                                    Sm xs_2 ∧
                                      ((-9223372036854775808 : Int) ≤ a1 ∧ a1 ≤ (9223372036854775807 : Int)) ∧
                                        (200 : Int) ≤ (1000 : Int) ∧
                                          ∀ (b' : Option Addr) (l' c' : Nat) (E'_1 : Mem),
                                            Mem.le E' E'_1 →
                                              NL E'_1 b' l' c' (missF xs_2 a1 (200 : Int)) →
                                                Mem.le E' E'_1 ∧
                                                  Lp WL7 8 Try.f7
                                                    [1, 1, 1, 1, 1, 0,
                                                      1, 0]
                                                    0 (pubK E K)
                                                    {
                                                      fr :=
                                                        [some (SV.raw (Value.slice b1 l1 c1)), some (SV.raw (Value.int IntKind.i64 a1)), none, none, some (SV.raw (Value.bool false)), some (SV.raw (Value.bool true)), some (SV.raw (Value.slice b' l' c')), some (SV.raw (Value.int IntKind.i64 (1 : Int))), some (SV.raw (Value.int IntKind.i64 (0 : Int))), none, none, none, none, none, none, none, none, none, none, none, some (SV.raw (Value.bool true)), some (SV.raw (Value.slice b1 l1 c1)), some (SV.raw (Value.bool (decide (fewS xs)))), some (SV.raw (Value.bool !decide (fewS xs))), some (SV.raw (Value.bool false)), some (SV.raw (Value.slice b1 l1 c1)), some (SV.raw (Value.bool (decide (validS xs_1)))), some (SV.raw (Value.bool !decide (validS xs_1))), some (SV.raw (Value.bool (bif false then true else !decide (validS xs_1)))), none, some (SV.raw (Value.slice b1 l1 c1)), some (SV.raw (Value.int IntKind.i64 a1)), some (SV.raw (Value.slice b' l' c')), some (SV.raw (Value.slice b1 l1 c1)), some (SV.raw (Value.int IntKind.i64 (↑l1 : Int))), some (SV.raw (Value.int IntKind.i64 (0 : Int))), none, none, none, none, none, none, none, none, none, none, none, none, none, none, none, none, none, none, none, none, none, none, none, none, none, none, none, none, none, none, none, none, none, none, none, none, none, none, none, none, none, none, none, none, none, none, none, none, none, none, none, none, none, none, none, none, none, none, none, none, none, none, none, none, none, none, none, none, none, none, none, none, none, none, none, none, none, none, none, none, none, none, none, none, none, none, none, none, none, none, none, none, none, none, none, none, none, none, none, none, none, none, none, none, none, none, none, none, none, none, none, none, none, none, none, none],
                                                      bx := [], E := E'_1 : St })
  have hob : -9223372036854775808 ≤ a1 ∧ a1 ≤ 9223372036854775807 := by simpa [Lit.wf, IntKind.min, IntKind.max, IntKind.signed, IntKind.bits] using ha1
  intro E1 q1
  refine ⟨q1, x1, hS10.mono SR_ok q1, hS11, Mem.le_refl _, condC (fun g => ⟨q1, h E1 q1⟩) (fun g => ?_)⟩
  have g : fewS x1 := by simpa using g
  have hs : Sm x1 := ⟨by have := g.1; omega, hS11⟩
  refine ⟨x1, hS10.mono SR_ok q1, hs, Mem.le_refl _, condC (fun g => ⟨q1, h E1 q1⟩) (fun g => ?_)⟩
  have g : validS x1 := by simpa using g
  refine ⟨x1, hS10.mono SR_ok q1, hs, hob, by decide, fun b' l' c' E2 q2 s2 => ⟨q2, ?_⟩⟩
  exact Lp_re [] (lpG7 (i := 0) ((hS10.mono SR_ok q1).mono SR_ok q2) hs g hob s2 (Nat.zero_le _) (topI_zero _ _) (Mem.le_trans q1 q2) h) ⟨⟨by simp, by simp, fun j h => absurd h (Nat.not_lt_zero _)⟩, rfl, (by repeat' first | exact True.intro | refine And.intro (Or.inl rfl) ?_ | refine And.intro (Or.inr ⟨rfl, rfl⟩) ?_), (by repeat' first | exact True.intro | exact rfl | exact Or.inl rfl | fail | refine And.intro ?_ ?_), (show List.Nodup [] from by decide), Mem.le_refl _⟩


theorem opn7 (W : World) (K : List SV → Prop) (h : ∀ (b1 : Option Addr) (l1 c1 : Nat) (z1 : List (List Value)), (l1 ≤ c1) → (c1 ≤ maxLen) → (b1 = none → c1 = 0) → (z1.length = c1) → RowAt W (.slice b1 l1 c1) z1.flatten → (∀ r ∈ z1, r.length = 2 ∧ Shp Try.prog W 12 45 r) → ∀ a1 : Int, (Lit.int .i64 a1).wf = true → K [L b1 l1 c1, I a1]) : opnAll Try.prog W Try.f7.params.toList K :=
  same (by kernel_rfl) h

theorem sem7 (W : World) : opnAll Try.prog W Try.f7.params.toList fun ss => TabSem Try.prog 7 ss (fun v cs => RowAt W v cs) fun r _ => r = .raw (.bool true) := by
  refine opn7 W _ ?_
  intro b1 l1 c1 z1 hl1 hc1 hb1 hz1 hE1 hr1 a1 ha1
  exact Ent.sem okWL7 Try.func7 ⟨by kernel_rfl, by kernel_rfl⟩ rfl (e7 (Nat.le_trans hl1 hc1) (SSof hl1 hb1 hz1 hE1 hr1).choose_spec.1 (SSof hl1 hb1 hz1 hE1 hr1).choose_spec.2 ha1 (fun _ _ => rfl))

theorem lifted7 (os : Os) (started : os.Started) (H : Type) (enc : TypeId × Value → H) :
    ReturnsInHanded {} Try.checked os 7 .any (Rows.seenGapsSpec.pre6 enc Try.prog Try.f7 Rows.seenGapsRow.domain false) (Rows.seenGapsSpec.post enc Try.prog Try.f7 false true false false) :=
  lift_true (C := Try.checked) (by kernel_rfl) (by kernel_rfl) started (by kernel_rfl) Try.func7
    (ChangeSpec.witness6 (enc := enc) (C := Try.checked) false ⟨#[], #[.slice none 0 0, .int .i64 0], []⟩ 8 (by kernel_rfl) (by kernel_rfl) (by kernel_rfl) (by kernel_rfl))
    (Tb := 4) (by kernel_rfl) (by kernel_rfl) (by kernel_rfl) rfl
    (fun ds hl => by
      match ds, hl with
      | [d0, d1], _ => exact ⟨rfl, rfl, rfl⟩)
    sem7

theorem over7 : Rows.seenGapsRow.holds Try.pinned (OpenSpec.ofChange Rows.seenGapsSpec) :=
  OpenClaim.holds_of_wide 7 Try.f7 rfl rfl rfl rfl rfl rfl rfl ⟨rfl, rfl, rfl, rfl, rfl⟩ rfl rfl rfl rfl rfl (by kernel_rfl) Try.func7 (by kernel_rfl)
    (of_decide_eq_true (by kernel_rfl)) (by unfold Func.isWrapper; first | (rw [if_pos (by decide +kernel)]; kernel_rfl) | (rw [if_neg (by decide +kernel)]; exact ⟨rfl, rfl⟩))
    (fun os started H enc _ => lifted7 os started H enc)

theorem proved7 : Rows.SeenGapsSaid := over7
end Go.Proofs.Ytjibgfihfbdcaaa.SeenOwn
