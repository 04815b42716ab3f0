/- The flash package: what its functions answer. -/
import Derived.Test.YthgdbpnddnbbdaaFlash4
namespace Go.Proofs.Ythgdbpnddnbbdaa.FlashOwn
open Go Go.Sx
set_option maxRecDepth 100000
set_option maxHeartbeats 4000000
set_option linter.unusedVariables false
set_option linter.unusedSimpArgs false
variable {E : Mem} {K : SV → Mem → Prop}

def validF (s : Int) (l : Nat) : Prop := 1 ≤ s ∧ s ≤ 1024 ∧ s ≤ l ∧ l ≤ 16384 ∧ (l : Int) % s = 0
instance (s : Int) (l : Nat) : Decidable (validF s l) := by unfold validF; infer_instance
def progF (s : Int) (zs : List Int) (a : Int) (ds : List Int) : List (Int × List Int) × Int :=
  if ¬ validF s zs.length ∨ a < 0 then ([], 1) else if a > zs.length ∨ (ds.length : Int) > zs.length - a then ([], 3) else (mems s (gP ds) a.toNat zs (ds.length + 1), 0)
def erasF (s : Int) (zs : List Int) (k : Int) : List (Int × List Int) × Int :=
  if ¬ validF s zs.length ∨ k < 0 ∨ k ≥ (zs.length : Int) / s then ([], 1) else (mems s gE (k * s).toNat zs (s.toNat + 1), 0)
def tabP : CallT := fun f args bx E K => f = 27 ∧ ∃ (s : Int) (a : Nat) (b db : Option Addr) (l c dl dc m : Nat) (zs0 ds : List Int) (n0 : Int), args = [.clo 33 [] [.loc 2 0, .loc 4 0, .loc 5 0, .loc 3 0], I n0] ∧ bx = [⟨24, .lst [I s, L b l c], 2, true⟩, ⟨22, .lst [L db dl dc], 1, true⟩, ⟨24, .lst [I s, L b l c], 2, true⟩, ⟨3, .lst [I (a : Nat)], 1, true⟩, ⟨3, .lst [I (m : Nat)], 1, true⟩, ⟨50, .lst [.clo 26 [] [.loc 1 0]], 1, true⟩] ∧
  n0 = ((m + 1 : Nat) : Int) ∧ Bs E db dl dc ds ∧ m = dl ∧ Bs E b l c zs0 ∧ (1 ≤ l ∧ l ≤ 16384 ∧ a + m ≤ l) ∧ (∀ (fb : Option Addr) (cap : Nat) (E' : Mem), Mem.le E E' → FL E' fb (m + 1) cap (mems s (gP ds) a zs0 (m + 1)) → K (L fb (m + 1) cap) bx E')
theorem tabP_ok (f : FuncId) (args : List SV) (bx : List Box) (E : Mem) (K : KT) (h : tabP f args bx E K) : CallSem Try.prog f args bx E K := by
  obtain ⟨rfl, s, a, b, db, l, c, dl, dc, m, zs0, ds, n0, rfl, rfl, h1, h2, h3, h4, h5, h6⟩ := h
  exact sem27 h1 h2 h3 h4 h5 h6
def tabE : CallT := fun f args bx E K => f = 27 ∧ ∃ (s : Int) (a : Nat) (b : Option Addr) (l c m : Nat) (zs0 : List Int) (n0 : Int), args = [.clo 33 [] [.loc 2 0, .loc 4 0, .loc 5 0, .loc 3 0], I n0] ∧ bx = [⟨24, .lst [I s, L b l c], 2, true⟩, ⟨24, .lst [I s, L b l c], 2, true⟩, ⟨24, .lst [I s, L b l c], 2, true⟩, ⟨3, .lst [I (a : Nat)], 1, true⟩, ⟨3, .lst [I (m : Nat)], 1, true⟩, ⟨50, .lst [.clo 30 [] []], 1, true⟩] ∧
  n0 = ((m + 1 : Nat) : Int) ∧ Bs E b l c zs0 ∧ (1 ≤ l ∧ l ≤ 16384 ∧ a + m ≤ l) ∧ (∀ (fb : Option Addr) (cap : Nat) (E' : Mem), Mem.le E E' → FL E' fb (m + 1) cap (mems s gE a zs0 (m + 1)) → K (L fb (m + 1) cap) bx E')
theorem tabE_ok (f : FuncId) (args : List SV) (bx : List Box) (E : Mem) (K : KT) (h : tabE f args bx E K) : CallSem Try.prog f args bx E K := by
  obtain ⟨rfl, s, a, b, l, c, m, zs0, n0, rfl, rfl, h1, h4, h5, h6⟩ := h
  exact sem27e h1 h4 h5 h6
noncomputable def F5 : Cx := { P := Try.prog, inl := fun f => List.contains [] f, tab := fun _ _ _ _ => False, isB := fun _ => false, tabB := fun _ _ _ _ _ => False, opt := { unroll := 0, carry := [] }, muts := mutsD }
theorem okF5 : CxOK F5 := CxOK.four (fun _ _ _ _ h => h.elim) (by kernel_rfl) (okInl (by kernel_rfl)) (fun _ _ _ _ _ h => h.elim)
theorem validF_mod {s : Int} {l : Nat} (h1 : 1 ≤ s) : (Int.tmod (l : Int) s == 0) = decide ((l : Int) % s = 0) := by
  rw [Int.tmod_eq_emod_of_nonneg (by omega)]
  by_cases h : (l : Int) % s = 0 <;> simp [h]
theorem validF_no {s : Int} {l : Nat} (h : ¬ validF s l) : decide (validF s l) = false := by simp [h]
theorem s18 {a1 : Int} {b2 : Option Addr} {l3 : Nat} {c4 : Nat} (h : K (B (decide (validF a1 l3))) E) :
    Ent F5 6 Try.f18 [.agg [I a1, L b2 l3 c4]] E K := by
  refine same (by kernel_rfl) (?_ : 
      bif decide (a1 < (1 : Int)) then Mem.le E E ∧ K (SV.raw (Value.bool false)) E
      else
        bif bif false then true else decide (a1 > (1024 : Int)) then Mem.le E E ∧ K (SV.raw (Value.bool false)) E
        else
          bif decide ((↑l3 : Int) < a1) then Mem.le E E ∧ K (SV.raw (Value.bool false)) E
          else
            bif bif false then true else decide ((↑l3 : Int) > (16384 : Int)) then
              Mem.le E E ∧ K (SV.raw (Value.bool false)) E
            else (a1 = (0 : Int) → False) ∧ Mem.le E E ∧ K (SV.raw (Value.bool (Int.tmod (↑l3 : Int) a1 == (0 : Int)))) E)
  have bad : ¬ validF a1 l3 → Mem.le E E ∧ K (B false) E := fun hn => ⟨Mem.le_refl _, by rw [validF_no hn] at h; exact h⟩
  unfold validF at bad
  refine condC (fun g => bad (by simp at g; omega)) (fun g1 => ?_)
  refine condC (fun g => bad (by simp at g; omega)) (fun g2 => ?_)
  refine condC (fun g => bad (by simp at g; omega)) (fun g3 => ?_)
  refine condC (fun g => bad (by simp at g; omega)) (fun g4 => ?_)
  have g1 : 1 ≤ a1 := by simpa using g1
  have g2 : a1 ≤ 1024 := by simpa using g2
  have g3 : a1 ≤ l3 := by simpa using g3
  have g4 : l3 ≤ 16384 := by simp at g4; omega
  refine ⟨by omega, Mem.le_refl _, ?_⟩
  rw [validF_mod g1]
  rw [show decide (validF a1 l3) = decide ((l3 : Int) % a1 = 0) from by unfold validF; simp [g1, g2, g3, g4]] at h
  exact h
theorem s19 {a1 : Int} {b2 : Option Addr} {l3 : Nat} {c4 : Nat} (h : K (B (decide (validF a1 l3))) E) :
    Ent F5 6 Try.f19 [.agg [I a1, L b2 l3 c4]] E K := by
  refine same (by kernel_rfl) (?_ : 
      bif decide (a1 ≥ (1 : Int)) then
        bif bif true then decide (a1 ≤ (1024 : Int)) else false then
          bif bif true then decide ((↑l3 : Int) ≥ a1) else false then
            bif bif true then decide ((↑l3 : Int) ≤ (16384 : Int)) else false then
              (a1 = (0 : Int) → False) ∧
                Mem.le E E ∧ K (SV.raw (Value.bool (bif true then Int.tmod (↑l3 : Int) a1 == (0 : Int) else false))) E
            else Mem.le E E ∧ K (SV.raw (Value.bool false)) E
          else Mem.le E E ∧ K (SV.raw (Value.bool false)) E
        else Mem.le E E ∧ K (SV.raw (Value.bool false)) E
      else Mem.le E E ∧ K (SV.raw (Value.bool false)) E)
  have bad : ¬ validF a1 l3 → Mem.le E E ∧ K (B false) E := fun hn => ⟨Mem.le_refl _, by rw [validF_no hn] at h; exact h⟩
  unfold validF at bad
  refine condC (fun g1 => ?_) (fun g => bad (by simp at g; omega))
  refine condC (fun g2 => ?_) (fun g => bad (by simp at g; omega))
  refine condC (fun g3 => ?_) (fun g => bad (by simp at g; omega))
  refine condC (fun g4 => ?_) (fun g => bad (by simp at g; omega))
  have g1 : 1 ≤ a1 := by simpa using g1
  have g2 : a1 ≤ 1024 := by simpa using g2
  have g3 : a1 ≤ l3 := by simpa using g3
  have g4 : l3 ≤ 16384 := by simp at g4; omega
  refine ⟨by omega, Mem.le_refl _, ?_⟩
  show K (B (Int.tmod (l3 : Int) a1 == 0)) E
  rw [validF_mod g1]
  rw [show decide (validF a1 l3) = decide ((l3 : Int) % a1 = 0) from by unfold validF; simp [g1, g2, g3, g4]] at h
  exact h
noncomputable def tab18 : FuncId → List SV → Mem → (SV → Mem → Prop) → Prop := fun f args E K => match f with
  | 18 => d1 args fun x0 => dC x0 fun l1 => d2 l1 fun x0_0 x0_1 => dI x0_0 fun a1 => dS x0_1 fun b2 l3 c4 => (K (B (decide (validF a1 l3))) E)
  | _ => False
theorem tab18_ok : TabOK Try.prog tab18 := by
  intro f args E K h
  unfold tab18 at h
  split at h
  · replace h := d1_elim h
    obtain ⟨x0, rfl, h⟩ := h
    replace h := dC_elim h
    obtain ⟨l1, hl1, h⟩ := h
    replace h := d2_elim h
    obtain ⟨x0_0, x0_1, rfl, h⟩ := h
    replace h := dI_elim h
    obtain ⟨a1, rfl, h⟩ := h
    replace h := dS_elim h
    obtain ⟨b2, l3, c4, rfl, h⟩ := h
    exact TabSem.congr (valL_cons (asCells_val hl1) rfl) (Ent.sem okF5 Try.func18 ⟨by kernel_rfl, by kernel_rfl⟩ rfl (s18 h))
  · exact h.elim
noncomputable def F3 : Cx := { P := Try.prog, inl := fun f => List.contains [28] f, tab := tab18, isB := fun f => f == 27, tabB := tabP, opt := { unroll := 0, carry := [] }, muts := (fun o => match o with | .call { callee := .value (.func 28), .. } => true | .call { callee := .value (.func 27), .. } => true | o => mutsD o) }
theorem okF3 : CxOK F3 := CxOK.four tab18_ok (by kernel_rfl) (okInl (by kernel_rfl)) tabP_ok
noncomputable def F4 : Cx := { P := Try.prog, inl := fun f => List.contains [18, 28] f, tab := fun _ _ _ _ => False, isB := fun f => f == 27, tabB := tabE, opt := { unroll := 0, carry := [] }, muts := (fun o => match o with | .call { callee := .value (.func 28), .. } => true | .call { callee := .value (.func 27), .. } => true | o => mutsD o) }
theorem okF4 : CxOK F4 := CxOK.four (fun _ _ _ _ h => h.elim) (by kernel_rfl) (okInl (by kernel_rfl)) tabE_ok
theorem s14 {a1 : Int} {b2 : Option Addr} {l3 : Nat} {c4 : Nat} {a5 : Int} {b6 : Option Addr} {l7 : Nat} {c8 : Nat} {zs : List Int} {ds : List Int} (h0 : Bs E b2 l3 c4 zs) (h1 : Bs E b6 l7 c8 ds) (h : ∀ (b' : Option Addr) (l' c' : Nat) (ms : List (Int × List Int)) (e : Int) (E' : Mem), Mem.le E E' → Hyp (progF a1 zs a5 ds = (ms, e)) → FL E' b' l' c' ms → K (.tup [L b' l' c', I e]) E') :
    Ent F3 6 Try.f14 [.agg [I a1, L b2 l3 c4], I a5, L b6 l7 c8] E K := by
  refine same (by kernel_rfl) (?_ : 
      Mem.le E E ∧
        bif !decide (validF a1 l3) then
          Mem.le E E ∧ K (SV.tup [SV.raw (Value.slice none 0 0), SV.raw (Value.int IntKind.i64 (1 : Int))]) E
        else
          bif bif false then true else decide (a5 < (0 : Int)) then
            Mem.le E E ∧
              K (SV.tup [SV.raw (Value.slice none 0 0), SV.raw (Value.int IntKind.i64 (1 : Int))]) E
          else
            bif decide (a5 > (↑l3 : Int)) then
              Mem.le E E ∧
                K (SV.tup [SV.raw (Value.slice none 0 0), SV.raw (Value.int IntKind.i64 (3 : Int))]) E
            else
              bif bif false then true else decide ((↑l7 : Int) > IntKind.wrap IntKind.i64 ((↑l3 : Int) - a5)) then
                Mem.le E E ∧
                  K (SV.tup [SV.raw (Value.slice none 0 0), SV.raw (Value.int IntKind.i64 (3 : Int))]) E
              else
                Sx.Alike (AlikeT.n AlikeT.l AlikeT.l)
                  (27 = 27 ∧
                    ∃ (s : Int),
                      ∃ (a : Nat),
                        ∃ (b : Option Addr),
                          ∃ (db : Option Addr),
                            ∃ (l : Nat),
                              ∃ (c : Nat),
                                ∃ (dl : Nat),
                                  ∃ (dc : Nat),
                                    ∃ (m : Nat),
                                      ∃ (zs0 : List Int),
                                        ∃ (ds : List Int),
                                          ∃ (n0 : Int),
                                            [SV.clo 33 []
                                                    [SV.loc 2 0, SV.loc 4 0,
                                                      SV.loc 5 0, SV.loc 3 0],
                                                  SV.raw
                                                    (Value.int IntKind.i64
                                                      (IntKind.wrap IntKind.i64 ((↑l7 : Int) + (1 : Int))))] =
                                                [SV.clo 33 []
                                                    [SV.loc 2 0, SV.loc 4 0,
                                                      SV.loc 5 0, SV.loc 3 0],
                                                  SV.raw (Value.int IntKind.i64 n0)] ∧
                                              [{ elem := 24,
                                                      row :=
                                                        Row.lst
                                                          [SV.raw (Value.int IntKind.i64 a1), SV.raw (Value.slice b2 l3 c4)],
                                                      total := 2, own := true : Box },
                                                    { elem := 22, row := Row.lst [SV.raw (Value.slice b6 l7 c8)],
                                                      total := 1, own := true : Box },
                                                    { elem := 24,
                                                      row :=
                                                        Row.lst
                                                          [SV.raw (Value.int IntKind.i64 a1), SV.raw (Value.slice b2 l3 c4)],
                                                      total := 2, own := true : Box },
                                                    { elem := 3, row := Row.lst [SV.raw (Value.int IntKind.i64 a5)],
                                                      total := 1, own := true : Box },
                                                    { elem := 3,
                                                      row := Row.lst [SV.raw (Value.int IntKind.i64 (↑l7 : Int))],
                                                      total := 1, own := true : Box },
                                                    { elem := 50,
                                                      row := Row.lst [SV.clo 26 [] [SV.loc 1 0]],
                                                      total := 1, own := true : Box }] =
                                                  [{ elem := 24,
                                                      row :=
                                                        Row.lst
                                                          [SV.raw (Value.int IntKind.i64 s), SV.raw (Value.slice b l c)],
                                                      total := 2, own := true : Box },
                                                    { elem := 22, row := Row.lst [SV.raw (Value.slice db dl dc)],
                                                      total := 1, own := true : Box },
                                                    { elem := 24,
                                                      row :=
                                                        Row.lst
                                                          [SV.raw (Value.int IntKind.i64 s), SV.raw (Value.slice b l c)],
                                                      total := 2, own := true : Box },
                                                    { elem := 3,
                                                      row := Row.lst [SV.raw (Value.int IntKind.i64 (↑a : Int))],
                                                      total := 1, own := true : Box },
                                                    { elem := 3,
                                                      row := Row.lst [SV.raw (Value.int IntKind.i64 (↑m : Int))],
                                                      total := 1, own := true : Box },
                                                    { elem := 50,
                                                      row := Row.lst [SV.clo 26 [] [SV.loc 1 0]],
                                                      total := 1, own := true : Box }] ∧
                                                n0 = (↑(m + 1) : Int) ∧
                                                  Bs E db dl dc ds ∧
                                                    m = dl ∧
                                                      Bs E b l c zs0 ∧
                                                        (1 ≤ l ∧ l ≤ 16384 ∧ a + m ≤ l) ∧
                                                          ∀ (fb : Option Addr) (cap : Nat) (E' : Mem),
                                                            Mem.le E E' →
                                                              FL E' fb (m + 1) cap
                                                                  (mems s (gP ds) a zs0 (m + 1)) →
                                                                Mem.le E E' ∧
                                                                  K
                                                                    (SV.tup
                                                                      [SV.raw (Value.slice fb (m + 1) cap),
                                                                        SV.raw (Value.int IntKind.i64 (0 : Int))])
                                                                    E'))
  have hz := h0.2.1
  have hd := h1.2.1
  have ex : ∀ {ms : List (Int × List Int)} {e : Int}, progF a1 zs a5 ds = (ms, e) → (∀ (b' : Option Addr) (l' c' : Nat) (E' : Mem), Mem.le E E' → FL E' b' l' c' ms → K (.tup [L b' l' c', I e]) E') := fun he b' l' c' E' hE hF => h b' l' c' _ _ E' hE he hF
  unfold progF at ex
  rw [hz, hd] at ex
  refine ⟨Mem.le_refl _, condC (fun g => ?_) (fun g => ?_)⟩
  · have g : ¬ validF a1 l3 := by simpa using g
    exact ⟨Mem.le_refl _, ex (if_pos (.inl g)) none 0 0 E (Mem.le_refl _) (FL.nil _)⟩
  have g : validF a1 l3 := by simpa using g
  have gl := g
  unfold validF at gl
  refine condC (fun g1 => ?_) (fun g1 => ?_)
  · exact ⟨Mem.le_refl _, ex (if_pos (.inr (by simpa using g1))) none 0 0 E (Mem.le_refl _) (FL.nil _)⟩
  have g1 : 0 ≤ a5 := by simpa using g1
  rw [if_neg (by simp only [not_or, Decidable.not_not]; exact ⟨g, by omega⟩)] at ex
  refine condC (fun g2 => ?_) (fun g2 => ?_)
  · exact ⟨Mem.le_refl _, ex (if_pos (.inl (by simpa using g2))) none 0 0 E (Mem.le_refl _) (FL.nil _)⟩
  have g2 : a5 ≤ l3 := by simpa using g2
  rw [wrap_i64 (by omega)]
  refine condC (fun g3 => ?_) (fun g3 => ?_)
  · exact ⟨Mem.le_refl _, ex (if_pos (.inr (by simpa using g3))) none 0 0 E (Mem.le_refl _) (FL.nil _)⟩
  have g3 : (l7 : Int) ≤ l3 - a5 := by simpa using g3
  rw [if_neg (by omega)] at ex
  obtain ⟨a, rfl⟩ : ∃ a : Nat, a5 = a := ⟨a5.toNat, by omega⟩
  refine alike ⟨rfl, a1, a, b2, b6, l3, c4, l7, c8, l7, zs, ds, _, rfl, rfl, by rw [wrap_i64 (by omega)]; simp, h1, rfl, h0, ⟨by omega, by omega, by omega⟩, fun fb cap E' hE hF => ⟨hE, ?_⟩⟩
  exact ex (by rw [Int.toNat_natCast]) fb _ cap E' hE hF
theorem s16 {a1 : Int} {b2 : Option Addr} {l3 : Nat} {c4 : Nat} {a5 : Int} {zs : List Int} (h0 : Bs E b2 l3 c4 zs) (h : ∀ (b' : Option Addr) (l' c' : Nat) (ms : List (Int × List Int)) (e : Int) (E' : Mem), Mem.le E E' → Hyp (erasF a1 zs a5 = (ms, e)) → FL E' b' l' c' ms → K (.tup [L b' l' c', I e]) E') :
    Ent F4 6 Try.f16 [.agg [I a1, L b2 l3 c4], I a5] E K := by
  refine same (by kernel_rfl) (?_ : 
      bif decide (a1 < (1 : Int)) then
        Mem.le E E ∧
          Mem.le E E ∧ K (SV.tup [SV.raw (Value.slice none 0 0), SV.raw (Value.int IntKind.i64 (1 : Int))]) E
      else
        bif bif false then true else decide (a1 > (1024 : Int)) then
          Mem.le E E ∧
            Mem.le E E ∧
              K (SV.tup [SV.raw (Value.slice none 0 0), SV.raw (Value.int IntKind.i64 (1 : Int))]) E
        else
          bif decide ((↑l3 : Int) < a1) then
            Mem.le E E ∧
              Mem.le E E ∧
                K (SV.tup [SV.raw (Value.slice none 0 0), SV.raw (Value.int IntKind.i64 (1 : Int))]) E
          else
            bif bif false then true else decide ((↑l3 : Int) > (16384 : Int)) then
              Mem.le E E ∧
                Mem.le E E ∧
                  K (SV.tup [SV.raw (Value.slice none 0 0), SV.raw (Value.int IntKind.i64 (1 : Int))]) E
            else
              (a1 = (0 : Int) → False) ∧
                Mem.le E E ∧
                  bif !Int.tmod (↑l3 : Int) a1 == (0 : Int) then
                    Mem.le E E ∧
                      K (SV.tup [SV.raw (Value.slice none 0 0), SV.raw (Value.int IntKind.i64 (1 : Int))]) E
                  else
                    bif bif false then true else decide (a5 < (0 : Int)) then
                      Mem.le E E ∧
                        K (SV.tup [SV.raw (Value.slice none 0 0), SV.raw (Value.int IntKind.i64 (1 : Int))]) E
                    else
                      (a1 = (0 : Int) → False) ∧
                        bif bif false then true else decide (a5 ≥ IntKind.wrap IntKind.i64 (Int.tdiv (↑l3 : Int) a1)) then
                          Mem.le E E ∧
                            K
                              (SV.tup
                                [SV.raw (Value.slice none 0 0), SV.raw (Value.int IntKind.i64 (1 : Int))])
                              E
                        else
                          Sx.Alike (AlikeT.n AlikeT.l AlikeT.l)
                            (27 = 27 ∧
                              ∃ (s : Int),
                                ∃ (a : Nat),
                                  ∃ (b : Option Addr),
                                    ∃ (l : Nat),
                                      ∃ (c : Nat),
                                        ∃ (m : Nat),
                                          ∃ (zs0 : List Int),
                                            ∃ (n0 : Int),
                                              [SV.clo 33 []
                                                      [SV.loc 2 0, SV.loc 4 0,
                                                        SV.loc 5 0, SV.loc 3 0],
                                                    SV.raw
                                                      (Value.int IntKind.i64 (IntKind.wrap IntKind.i64 (a1 + (1 : Int))))] =
                                                  [SV.clo 33 []
                                                      [SV.loc 2 0, SV.loc 4 0,
                                                        SV.loc 5 0, SV.loc 3 0],
                                                    SV.raw (Value.int IntKind.i64 n0)] ∧
                                                [{ elem := 24,
                                                        row :=
                                                          Row.lst
                                                            [SV.raw (Value.int IntKind.i64 a1),
                                                              SV.raw (Value.slice b2 l3 c4)],
                                                        total := 2, own := true : Box },
                                                      { elem := 24,
                                                        row :=
                                                          Row.lst
                                                            [SV.raw (Value.int IntKind.i64 a1),
                                                              SV.raw (Value.slice b2 l3 c4)],
                                                        total := 2, own := true : Box },
                                                      { elem := 24,
                                                        row :=
                                                          Row.lst
                                                            [SV.raw (Value.int IntKind.i64 a1),
                                                              SV.raw (Value.slice b2 l3 c4)],
                                                        total := 2, own := true : Box },
                                                      { elem := 3,
                                                        row :=
                                                          Row.lst
                                                            [SV.raw
                                                                (Value.int IntKind.i64 (IntKind.wrap IntKind.i64 (a5 * a1)))],
                                                        total := 1, own := true : Box },
                                                      { elem := 3, row := Row.lst [SV.raw (Value.int IntKind.i64 a1)],
                                                        total := 1, own := true : Box },
                                                      { elem := 50, row := Row.lst [SV.clo 30 [] []],
                                                        total := 1, own := true : Box }] =
                                                    [{ elem := 24,
                                                        row :=
                                                          Row.lst
                                                            [SV.raw (Value.int IntKind.i64 s), SV.raw (Value.slice b l c)],
                                                        total := 2, own := true : Box },
                                                      { elem := 24,
                                                        row :=
                                                          Row.lst
                                                            [SV.raw (Value.int IntKind.i64 s), SV.raw (Value.slice b l c)],
                                                        total := 2, own := true : Box },
                                                      { elem := 24,
                                                        row :=
                                                          Row.lst
                                                            [SV.raw (Value.int IntKind.i64 s), SV.raw (Value.slice b l c)],
                                                        total := 2, own := true : Box },
                                                      { elem := 3,
                                                        row := Row.lst [SV.raw (Value.int IntKind.i64 (↑a : Int))],
                                                        total := 1, own := true : Box },
                                                      { elem := 3,
                                                        row := Row.lst [SV.raw (Value.int IntKind.i64 (↑m : Int))],
                                                        total := 1, own := true : Box },
                                                      { elem := 50, row := Row.lst [SV.clo 30 [] []],
                                                        total := 1, own := true : Box }] ∧
                                                  n0 = (↑(m + 1) : Int) ∧
                                                    Bs E b l c zs0 ∧
                                                      (1 ≤ l ∧ l ≤ 16384 ∧ a + m ≤ l) ∧
                                                        ∀ (fb : Option Addr) (cap : Nat) (E' : Mem),
                                                          Mem.le E E' →
                                                            FL E' fb (m + 1) cap (mems s gE a zs0 (m + 1)) →
                                                              Mem.le E E' ∧
                                                                K
                                                                  (SV.tup
                                                                    [SV.raw (Value.slice fb (m + 1) cap),
                                                                      SV.raw (Value.int IntKind.i64 (0 : Int))])
                                                                  E'))
  have hz := h0.2.1
  have ex : ∀ {ms : List (Int × List Int)} {e : Int}, erasF a1 zs a5 = (ms, e) → (∀ (b' : Option Addr) (l' c' : Nat) (E' : Mem), Mem.le E E' → FL E' b' l' c' ms → K (.tup [L b' l' c', I e]) E') := fun he b' l' c' E' hE hF => h b' l' c' _ _ E' hE he hF
  unfold erasF at ex
  rw [hz] at ex
  have bad : ¬ validF a1 l3 ∨ a5 < 0 ∨ a5 ≥ (l3 : Int) / a1 → K (.tup [L none 0 0, I 1]) E := fun hb => ex (if_pos hb) none 0 0 E (Mem.le_refl _) (FL.nil _)
  have bad1 : ¬ validF a1 l3 → Mem.le E E ∧ Mem.le E E ∧ K (.tup [L none 0 0, I 1]) E := fun hb => ⟨Mem.le_refl _, Mem.le_refl _, bad (.inl hb)⟩
  unfold validF at bad1
  refine condC (fun g => bad1 (by simp at g; omega)) (fun g1 => ?_)
  refine condC (fun g => bad1 (by simp at g; omega)) (fun g2 => ?_)
  refine condC (fun g => bad1 (by simp at g; omega)) (fun g3 => ?_)
  refine condC (fun g => bad1 (by simp at g; omega)) (fun g4 => ?_)
  have g1 : 1 ≤ a1 := by simpa using g1
  have g2 : a1 ≤ 1024 := by simpa using g2
  have g3 : a1 ≤ l3 := by simpa using g3
  have g4 : l3 ≤ 16384 := by simp at g4; omega
  refine ⟨by omega, Mem.le_refl _, condC (fun g => ?_) (fun g5 => ?_)⟩
  · rw [validF_mod g1] at g
    exact (bad1 (by simp at g; omega)).2
  have g5 : (l3 : Int) % a1 = 0 := by rw [validF_mod g1] at g5; simpa using g5
  have hv : validF a1 l3 := ⟨g1, g2, g3, g4, g5⟩
  refine condC (fun g => ⟨Mem.le_refl _, bad (.inr (.inl (by simpa using g)))⟩) (fun g6 => ?_)
  have g6 : 0 ≤ a5 := by simpa using g6
  have hdv : Int.tdiv (l3 : Int) a1 = (l3 : Int) / a1 := Int.tdiv_eq_ediv_of_nonneg (by omega)
  have hd1 : (l3 : Int) / a1 ≤ l3 := Int.ediv_le_self _ (by omega)
  have hd0 : 0 ≤ (l3 : Int) / a1 := Int.ediv_nonneg (by omega) (by omega)
  refine ⟨by omega, ?_⟩
  rw [hdv, wrap_i64 (x := (l3 : Int) / a1) (by omega)]
  refine condC (fun g => ⟨Mem.le_refl _, bad (.inr (.inr (by simpa using g)))⟩) (fun g7 => ?_)
  have g7 : a5 < (l3 : Int) / a1 := by simpa using g7
  rw [if_neg (fun q => q.elim (fun q => q hv) (fun q => by omega))] at ex
  have h8 : (a5 + 1) * a1 ≤ l3 := by
    have := Int.mul_le_mul_of_nonneg_right (show a5 + 1 ≤ (l3 : Int) / a1 by omega) (show 0 ≤ a1 by omega)
    have h2 := Int.ediv_mul_le (l3 : Int) (show a1 ≠ 0 by omega)
    omega
  have h9 : 0 ≤ a5 * a1 := Int.mul_nonneg g6 (by omega)
  rw [Int.add_mul, Int.one_mul] at h8
  obtain ⟨a, ha⟩ : ∃ a : Nat, a5 * a1 = a := ⟨(a5 * a1).toNat, by omega⟩
  obtain ⟨m, rfl⟩ : ∃ m : Nat, a1 = m := ⟨a1.toNat, by omega⟩
  rw [ha] at ex h8
  rw [ha, wrap_i64 (x := (a : Int)) (by omega)]
  refine alike ⟨rfl, m, a, b2, l3, c4, m, zs, _, rfl, rfl, by rw [wrap_i64 (by omega)]; simp, h0, ⟨by omega, by omega, by omega⟩, fun fb cap E' hE hF => ⟨hE, ?_⟩⟩
  exact ex (by rw [Int.toNat_natCast, Int.toNat_natCast]) fb _ cap E' hE hF

end Go.Proofs.Ythgdbpnddnbbdaa.FlashOwn
