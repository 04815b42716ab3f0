/- The wire package: what its functions answer. -/
import Derived.Test.YtjlpfhekhpebpaaWire7
namespace Go.Proofs.Ytjlpfhekhpebpaa.WireOwn
open Go Go.Sx
set_option maxRecDepth 100000
set_option maxHeartbeats 4000000
set_option linter.unusedVariables false
set_option linter.unusedSimpArgs false
variable {E : Mem} {K : SV → Mem → Prop}
noncomputable def WB : Cx := { P := Try.prog, inl := fun f => List.contains [] f, tab := fun _ _ _ _ => False, isB := fun _ => false, tabB := fun _ _ _ _ _ => False, opt := { unroll := 0, carry := [5] }, muts := mutsD }
theorem okWB : CxOK WB := ⟨fun _ _ _ _ h => h.elim, by kernel_rfl, okInl (by kernel_rfl), fun _ _ _ _ _ h => h.elim⟩
def sh14 (b : Option Addr) (l m : Nat) (c : Option Addr) (k j : Nat) (i : Nat) (E : Mem) : St := { fr := [some (L b l m), some (L c k j), none, none, none, some (I i), none, none, none, none, none, none, none, none, none, none, none, none, none, none, none, none, none, none, none, none], bx := [], E := E }
theorem rnd14 {b : Option Addr} {l m : Nat} {c : Option Addr} {j i : Nat} {zs xs : List Int} (hB : Bs E b l m zs) (hC : Bs E c l j xs) (hl : l ≤ 100000) (hi : i ≤ l) (he : ∀ q, q < i → zs.getD q 0 = xs.getD q 0) (h : ∀ r : Bool, Hyp (decide (zs = xs) = r) → K (B r) E)
    (ih : i < l → (∀ q, q < i + 1 → zs.getD q 0 = xs.getD q 0) → Lp WB 6 Try.f14 [1, 1, 0, 1, 0] 0 (pubK E K) (sh14 b l m c l j (i + 1) E)) :
    Rnd WB 6 Try.f14 [1, 1, 0, 1, 0] 0 (pubK E K) (sh14 b l m c l j i E) := by
  refine same (by kernel_rfl) (?_ : 
      bif decide ((↑i : Int) < (↑l : Int)) then
        req (0 ≤ (↑i : Int) ∧ (↑i : Int) < (↑l : Int))
          ((∃ (cs : List Value), E (Value.slice b l m) cs ∧ (cs = [] → False)) ∧
            ∃ (n : Int),
              LoadE WB.P E 5 (Value.slice b l m) (Int.toNat (↑i : Int) * 1) (SV.raw (Value.int IntKind.u8 n)) ∧
                req (0 ≤ (↑i : Int) ∧ (↑i : Int) < (↑l : Int))
                  ((∃ (cs : List Value), E (Value.slice c l j) cs ∧ (cs = [] → False)) ∧
                    ∃ (n_1 : Int),
                      LoadE WB.P E 5 (Value.slice c l j) (Int.toNat (↑i : Int) * 1) (SV.raw (Value.int IntKind.u8 n_1)) ∧
                        bif n != n_1 then Mem.le E E ∧ K (SV.raw (Value.bool false)) E
                        else
                          Lp WB 6 Try.f14 [1, 1, 0, 1, 0] 0 (pubK E K)
                            {
                              fr :=
                                [some (SV.raw (Value.slice b l m)), some (SV.raw (Value.slice c l j)), none, none, none,
                                  some (SV.raw (Value.int IntKind.i64 (IntKind.wrap IntKind.i64 ((↑i : Int) + 1)))), none,
                                  none, none, none, none, none, none, none, none, none, none, none, none, none, none, none,
                                  none, none, none, none],
                              bx := [], E := E }))
      else Mem.le E E ∧ K (SV.raw (Value.bool true)) E)
  have hlen := hB.2.1
  have hlen2 := hC.2.1
  refine condC (fun h1 => ?_) (fun h1 => ?_)
  · have h1 : i < l := by simpa using h1
    refine req_intro ⟨by omega, by omega⟩ ⟨hB.ne h1, _, hB.load rfl h1, req_intro ⟨by omega, by omega⟩ ⟨hC.ne h1, _, hC.load rfl h1, ?_⟩⟩
    refine condC (fun h2 => ?_) (fun h2 => ?_)
    · exact ⟨Mem.le_refl _, h false (decide_eq_false (fun e => by rw [e] at h2; simp at h2))⟩
    · have h2 : zs.getD i 0 = xs.getD i 0 := by simpa using h2
      rw [show IntKind.wrap .i64 ((i : Int) + 1) = ((i + 1 : Nat) : Int) by rw [wrap_i64 (by omega)]; simp]
      exact Lp_from (by repeat' first | exact True.intro | refine And.intro rfl ?_) (ih h1 (fun q hq => by
        by_cases e : q = i
        · subst e; exact h2
        · exact he q (by omega)))
  · have h1 : ¬ i < l := by simpa using h1
    refine ⟨Mem.le_refl _, h true (decide_eq_true ?_)⟩
    apply List.ext_getElem (by omega)
    intro q q1 q2
    have := he q (by omega)
    rw [List.getD_eq_getElem?_getD, List.getD_eq_getElem?_getD, List.getElem?_eq_getElem q1, List.getElem?_eq_getElem q2] at this
    exact this
theorem s14 {b1 : Option Addr} {l2 : Nat} {c3 : Nat} {b4 : Option Addr} {l5 : Nat} {c6 : Nat} {zs : List Int} {xs : List Int} (h0 : Bs E b1 l2 c3 zs) (h1 : Bs E b4 l5 c6 xs) (h2 : l2 ≤ 100000) (h : ∀ r : Bool, Hyp (decide (zs = xs) = r) → K (B r) E) :
    Ent WB 6 Try.f14 [L b1 l2 c3, L b4 l5 c6] E K := by
  refine same (by kernel_rfl) (?_ : 
      bif (↑l2 : Int) != (↑l5 : Int) then Mem.le E E ∧ K (SV.raw (Value.bool false)) E
      else
        Lp WB 6 Try.f14 [1, 1, 0, 1, 0] 0 (pubK E K)
          {
            fr :=
              [some (SV.raw (Value.slice b1 l2 c3)), some (SV.raw (Value.slice b4 l5 c6)), none, none, none,
                some (SV.raw (Value.int IntKind.i64 0)), some (SV.raw (Value.slice b1 l2 c3)),
                some (SV.raw (Value.int IntKind.i64 (↑l2 : Int))), some (SV.raw (Value.slice b4 l5 c6)),
                some (SV.raw (Value.int IntKind.i64 (↑l5 : Int))), some (SV.raw (Value.bool ((↑l2 : Int) != (↑l5 : Int)))),
                none, none, none, none, none, none, none, none, none, none, none, none, none, none, none],
            bx := [], E := E })
  have hl1 := h0.2.1
  have hl2 := h1.2.1
  refine condC (fun g => ?_) (fun g => ?_)
  · exact ⟨Mem.le_refl _, h false (decide_eq_false (fun e => by simp at g; rw [e] at hl1; omega))⟩
  · have g : l2 = l5 := by simp at g; omega
    subst g
    have key := Lp_ind okWB (n := 6) (fn := Try.f14) (p := [1, 1, 0, 1, 0]) (n0 := 0) (K := pubK E K) (fun x : {x : Nat // x ≤ l2 ∧ ∀ q, q < x → zs.getD q 0 = xs.getD q 0} => sh14 b1 l2 c3 b4 l2 c6 x.1 E) (fun x => l2 - x.1) (by
      rintro ⟨i, g1, g2⟩ ih
      exact rnd14 h0 h1 h2 g1 g2 h (fun q1 q2 => ih ⟨i + 1, by have q1 : i < l2 := q1; omega, q2⟩ (by have q1 : i < l2 := q1; show l2 - (i + 1) < l2 - i; omega)))
    exact Lp_from (by repeat' first | exact True.intro | refine And.intro rfl ?_) (key ⟨0, by omega, fun q hq => by omega⟩)
theorem s38 {a1 : Int} {a2 : Int} {a3 : Int} (h : K (B (decide (a2 ≤ a1 ∧ a1 ≤ a3))) E) :
    Ent WB 6 Try.f38 [I a1, .agg [I a2, I a3]] E K := by
  refine same (by kernel_rfl) (?_ : 
      bif decide (a1 ≥ a2) then Mem.le E E ∧ K (SV.raw (Value.bool (bif true then decide (a1 ≤ a3) else false))) E
      else Mem.le E E ∧ K (SV.raw (Value.bool false)) E)
  refine condC (fun g => ?_) (fun g => ?_)
  · have g : a2 ≤ a1 := by simpa using g
    exact ⟨Mem.le_refl _, by simpa [g] using h⟩
  · have g : ¬ a2 ≤ a1 := by simpa using g
    exact ⟨Mem.le_refl _, by simpa [g] using h⟩
noncomputable def tabB : FuncId → List SV → Mem → (SV → Mem → Prop) → Prop := fun f args E K => match f with
  | 14 => d2 args fun x0 x1 => dS x0 fun b1 l2 c3 => dS x1 fun b4 l5 c6 => ∃ (zs : List Int) (xs : List Int), Bs E b1 l2 c3 zs ∧ Bs E b4 l5 c6 xs ∧ l2 ≤ 100000 ∧ (∀ r : Bool, Hyp (decide (zs = xs) = r) → K (B r) E)
  | 38 => d2 args fun x0 x1 => dI x0 fun a1 => dC x1 fun l1 => d2 l1 fun x1_0 x1_1 => dI x1_0 fun a2 => dI x1_1 fun a3 => (K (B (decide (a2 ≤ a1 ∧ a1 ≤ a3))) E)
  | _ => False
theorem tabB_ok : TabOK Try.prog tabB := by
  intro f args E K h
  unfold tabB at h
  split at h
  · obtain ⟨x0, x1, rfl, h⟩ := d2_elim h
    obtain ⟨b1, l2, c3, rfl, h⟩ := dS_elim h
    obtain ⟨b4, l5, c6, rfl, h⟩ := dS_elim h
    obtain ⟨zs, xs, g0, g1, g2, h⟩ := h
    exact TabSem.congr (valL_cons rfl (valL_cons rfl rfl)) (Ent.sem okWB Try.func14 ⟨by kernel_rfl, by kernel_rfl⟩ rfl (s14 g0 g1 g2 h))
  · obtain ⟨x0, x1, rfl, h⟩ := d2_elim h
    obtain ⟨a1, rfl, h⟩ := dI_elim h
    obtain ⟨l1, hl1, h⟩ := dC_elim h
    obtain ⟨x1_0, x1_1, rfl, h⟩ := d2_elim h
    obtain ⟨a2, rfl, h⟩ := dI_elim h
    obtain ⟨a3, rfl, h⟩ := dI_elim h
    exact TabSem.congr (valL_cons rfl (valL_cons (asCells_val hl1) rfl)) (Ent.sem okWB Try.func38 ⟨by kernel_rfl, by kernel_rfl⟩ rfl (s38 h))
  · exact h.elim
noncomputable def WC : Cx := { P := Try.prog, inl := fun f => List.contains [] f, tab := tabB, isB := fun _ => false, tabB := fun _ _ _ _ _ => False, opt := { unroll := 0, carry := [] }, muts := mutsD }
theorem okWC : CxOK WC := ⟨tabB_ok, by kernel_rfl, okInl (by kernel_rfl), fun _ _ _ _ _ h => h.elim⟩
theorem s25 {a1 : Int} {a2 : Int} {a3 : Int} {a4 : Int} {a5 : Int} {b6 : Option Addr} {l7 : Nat} {c8 : Nat} {a9 : Int} {a10 : Int} {a11 : Int} {a12 : Int} {a13 : Int} {b14 : Option Addr} {l15 : Nat} {c16 : Nat} {zs : List Int} {xs : List Int} (h0 : Bs E b6 l7 c8 zs) (h1 : Bs E b14 l15 c16 xs) (h2 : l7 ≤ 100000) (h : ∀ r : Bool, Hyp (decide (([a1, a2, a3, a4, a5], zs) = ([a9, a10, a11, a12, a13], xs)) = r) → K (B r) E) :
    Ent WC 6 Try.f25 [.agg [I a1, I a2, I a3, I a4, I a5, L b6 l7 c8], .agg [I a9, I a10, I a11, I a12, I a13, L b14 l15 c16]] E K := by
  refine same (by kernel_rfl) (?_ : 
      ∃ (zs : List Int),
        ∃ (xs : List Int),
          ((zs = [] ∨ E (Value.slice b6 l7 c8) (List.map (Value.int IntKind.u8) zs)) ∧
              List.length zs = l7 ∧ l7 ≤ c8 ∧ (∀ (z : Int), List.Mem z zs → 0 ≤ z ∧ z ≤ 255) ∧ (b6 = none → zs = [])) ∧
            ((xs = [] ∨ E (Value.slice b14 l15 c16) (List.map (Value.int IntKind.u8) xs)) ∧
                List.length xs = l15 ∧ l15 ≤ c16 ∧ (∀ (z : Int), List.Mem z xs → 0 ≤ z ∧ z ≤ 255) ∧ (b14 = none → xs = [])) ∧
              l7 ≤ 100000 ∧
                ∀ (r : Bool),
                  Hyp (decide (zs = xs) = r) →
                    Mem.le E E ∧
                      bif r then
                        bif bif true then a1 == a9 else false then
                          bif bif true then a2 == a10 else false then
                            bif bif true then a3 == a11 else false then
                              bif bif true then a4 == a12 else false then
                                Mem.le E E ∧ K (SV.raw (Value.bool (bif true then a5 == a13 else false))) E
                              else Mem.le E E ∧ K (SV.raw (Value.bool false)) E
                            else Mem.le E E ∧ K (SV.raw (Value.bool false)) E
                          else Mem.le E E ∧ K (SV.raw (Value.bool false)) E
                        else Mem.le E E ∧ K (SV.raw (Value.bool false)) E
                      else Mem.le E E ∧ K (SV.raw (Value.bool false)) E)
  refine ⟨zs, xs, h0, h1, h2, fun r hr => ⟨Mem.le_refl _, ?_⟩⟩
  have hr : decide (zs = xs) = r := hr
  have go : ∀ q : Bool, decide (([a1, a2, a3, a4, a5], zs) = ([a9, a10, a11, a12, a13], xs)) = q → K (B q) E := h
  simp only [Prod.mk.injEq, List.cons.injEq, and_true] at go
  repeat' first | (refine ⟨Mem.le_refl _, go _ ?_⟩) | refine condC (fun _ => ?_) (fun _ => ?_)
  all_goals (apply Bool.eq_iff_iff.2; simp_all)
noncomputable def WD : Cx := { P := Try.prog, inl := fun f => List.contains [41, 43] f, tab := fun _ _ _ _ => False, isB := fun _ => false, tabB := fun _ _ _ _ _ => False, opt := { unroll := 6, carry := [] }, muts := mutsD }
theorem okWD : CxOK WD := ⟨fun _ _ _ _ h => h.elim, by kernel_rfl, okInl (by kernel_rfl), fun _ _ _ _ _ h => h.elim⟩

def okF (k f t a y : Int) : Prop := (1 ≤ k ∧ k ≤ 4) ∧ (0 ≤ f ∧ f ≤ 59) ∧ (-1 ≤ t ∧ t ≤ 59) ∧ (0 ≤ a ∧ a ≤ 1000000000) ∧ (0 ≤ y ∧ y ≤ 2000000)
instance (k f t a y : Int) : Decidable (okF k f t a y) := inferInstanceAs (Decidable (_ ∧ _))
theorem s40 {a1 : Int} {a2 : Int} {a3 : Int} {a4 : Int} {a5 : Int} {b6 : Option Addr} {l7 : Nat} {c8 : Nat} (h : ∀ r : Bool, Hyp (decide (okF a1 a2 a3 a4 a5 ∧ l7 ≤ 4000) = r) → K (B r) E) :
    Ent WD 6 Try.f40 [.agg [I a1, I a2, I a3, I a4, I a5, L b6 l7 c8]] E K := by
  refine same (by kernel_rfl) (?_ : 
      Mem.le E E ∧
        bif decide (a1 ≥ 1) then
          Mem.le E E ∧
            bif !bif true then decide (a1 ≤ 4) else false then Mem.le E E ∧ K (SV.raw (Value.bool false)) E
            else
              bif decide (a2 ≥ 0) then
                Mem.le E E ∧
                  bif !bif true then decide (a2 ≤ 59) else false then Mem.le E E ∧ K (SV.raw (Value.bool false)) E
                  else
                    bif decide (a3 ≥ -1) then
                      Mem.le E E ∧
                        bif !bif true then decide (a3 ≤ 59) else false then Mem.le E E ∧ K (SV.raw (Value.bool false)) E
                        else
                          bif decide (a4 ≥ 0) then
                            Mem.le E E ∧
                              bif !bif true then decide (a4 ≤ 1000000000) else false then
                                Mem.le E E ∧ K (SV.raw (Value.bool false)) E
                              else
                                bif decide (a5 ≥ 0) then
                                  Mem.le E E ∧
                                    bif !bif true then decide (a5 ≤ 2000000) else false then
                                      Mem.le E E ∧ K (SV.raw (Value.bool false)) E
                                    else Mem.le E E ∧ K (SV.raw (Value.bool (decide ((↑l7 : Int) ≤ 4000)))) E
                                else Mem.le E E ∧ Mem.le E E ∧ K (SV.raw (Value.bool false)) E
                          else Mem.le E E ∧ Mem.le E E ∧ K (SV.raw (Value.bool false)) E
                    else Mem.le E E ∧ Mem.le E E ∧ K (SV.raw (Value.bool false)) E
              else Mem.le E E ∧ Mem.le E E ∧ K (SV.raw (Value.bool false)) E
        else Mem.le E E ∧ Mem.le E E ∧ K (SV.raw (Value.bool false)) E)
  have go : ∀ q : Bool, decide (okF a1 a2 a3 a4 a5 ∧ l7 ≤ 4000) = q → K (B q) E := h
  unfold okF at go
  repeat' first | (refine ⟨Mem.le_refl _, go _ ?_⟩) | (refine ⟨Mem.le_refl _, ?_⟩) | refine condC (fun _ => ?_) (fun _ => ?_)
  all_goals (apply Bool.eq_iff_iff.2; simp_all <;> omega)

end Go.Proofs.Ytjlpfhekhpebpaa.WireOwn
