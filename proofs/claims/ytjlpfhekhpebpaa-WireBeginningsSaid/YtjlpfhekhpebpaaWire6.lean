/- The wire package: what its functions answer. -/
import Derived.Test.YtjlpfhekhpebpaaWire5
namespace Go.Proofs.Ytjlpfhekhpebpaa.WireOwn
open Go Go.Sx
set_option maxRecDepth 100000
set_option maxHeartbeats 4000000
set_option linter.unusedVariables false
set_option linter.unusedSimpArgs false
variable {E : Mem} {K : SV → Mem → Prop}

def lenF (ws : List Int) : Nat → Nat → Int
  | 0, _ => 0
  | k + 1, i => if ws.length ≤ i then -1 else if ws.getD i 0 < 128 then i + 1 else lenF ws k (i + 1)
noncomputable def W9 : Cx := { P := Try.prog, inl := fun f => List.contains [] f, tab := fun _ _ _ _ => False, isB := fun _ => false, tabB := fun _ _ _ _ _ => False, opt := { unroll := 0, carry := [5] }, muts := mutsD }
theorem okW9 : CxOK W9 := ⟨fun _ _ _ _ h => h.elim, by kernel_rfl, okInl (by kernel_rfl), fun _ _ _ _ _ h => h.elim⟩
def sh36 (b : Option Addr) (l c : Nat) (a : Int) (i : Nat) (E : Mem) : St := { fr := [some (L b l c), some (I a), none, none, none, some (I i), none, none, none, none, none, none, none, none, none, none, none, none, none, none, none, none, none, none, none], bx := [], E := E }

theorem rnd36 {b : Option Addr} {l c : Nat} {a : Int} {i : Nat} {zs : List Int} (hB : Bs E b l c zs) (hl : l ≤ 100000) (ha : 0 ≤ a ∧ a ≤ l) (hi : i ≤ 7) (h : ∀ (n : Int), Hyp (lenF (zs.drop a.toNat) (7 - i) i = n) → K (I n) E)
    (ih : i < 7 → (∀ (n : Int), Hyp (lenF (zs.drop a.toNat) (7 - (i + 1)) (i + 1) = n) → K (I n) E) → Lp W9 6 Try.f36 [1, 0, 1, 0] 0 (pubK E K) (sh36 b l c a (i + 1) E)) :
    Rnd W9 6 Try.f36 [1, 0, 1, 0] 0 (pubK E K) (sh36 b l c a i E) := by
  refine same (by kernel_rfl) (?_ : 
      bif decide ((↑i : Int) < 7) then
        bif decide (IntKind.wrap IntKind.i64 (a + (↑i : Int)) ≥ (↑l : Int)) then
          Mem.le E E ∧ K (SV.raw (Value.int IntKind.i64 (-1))) E
        else
          req (0 ≤ IntKind.wrap IntKind.i64 (a + (↑i : Int)) ∧ IntKind.wrap IntKind.i64 (a + (↑i : Int)) < (↑l : Int))
            ((∃ (cs : List Value), E (Value.slice b l c) cs ∧ (cs = [] → False)) ∧
              ∃ (n : Int),
                LoadE W9.P E 5 (Value.slice b l c) (Int.toNat (IntKind.wrap IntKind.i64 (a + (↑i : Int))) * 1)
                    (SV.raw (Value.int IntKind.u8 n)) ∧
                  bif decide (n < 128) then
                    Mem.le E E ∧ K (SV.raw (Value.int IntKind.i64 (IntKind.wrap IntKind.i64 ((↑i : Int) + 1)))) E
                  else
                    Lp W9 6 Try.f36 [1, 0, 1, 0] 0 (pubK E K)
                      {
                        fr :=
                          [some (SV.raw (Value.slice b l c)), some (SV.raw (Value.int IntKind.i64 a)), none, none, none,
                            some (SV.raw (Value.int IntKind.i64 (IntKind.wrap IntKind.i64 ((↑i : Int) + 1)))), none, none,
                            none, none, none, none, none, none, none, none, none, none, none, none, none, none, none, none,
                            none],
                        bx := [], E := E })
      else Mem.le E E ∧ K (SV.raw (Value.int IntKind.i64 0)) E)
  have hlen := hB.2.1
  refine condC (fun h1 => ?_) (fun h1 => ?_)
  · have h1 : i < 7 := by simp at h1; omega
    obtain ⟨k, hk⟩ : ∃ k, 7 - i = k + 1 := ⟨6 - i, by omega⟩
    rw [show 7 - (i + 1) = k by omega] at ih
    rw [hk] at h
    have hw : IntKind.wrap .i64 (a + (i : Int)) = a + i := wrap_i64 (by omega)
    have hw2 : IntKind.wrap .i64 ((i : Int) + 1) = i + 1 := wrap_i64 (by omega)
    rw [hw, hw2]
    unfold lenF at h
    have hd : (zs.drop a.toNat).length = l - a.toNat := by rw [List.length_drop, hlen]
    refine condC (fun h2 => ?_) (fun h2 => ?_)
    · rw [if_pos (by simp at h2; omega)] at h
      exact ⟨Mem.le_refl _, h _ rfl⟩
    · have h2 : a + i < l := by simp at h2; omega
      rw [if_neg (by omega)] at h
      have e1 : (zs.drop a.toNat).getD i 0 = zs.getD (a + i).toNat 0 := by
        rw [List.getD_eq_getElem?_getD, List.getD_eq_getElem?_getD, List.getElem?_drop]; congr 2; omega
      rw [e1] at h
      refine req_intro ⟨by omega, h2⟩ ⟨hB.ne (i := (a + i).toNat) (by omega), _, hB.load (i := (a + i).toNat) rfl (by omega), ?_⟩
      refine condC (fun h3 => ?_) (fun h3 => ?_)
      · rw [if_pos (by simpa using h3)] at h
        exact ⟨Mem.le_refl _, h _ rfl⟩
      · rw [if_neg (by simpa using h3)] at h
        exact Lp_from (by repeat' first | exact True.intro | refine And.intro rfl ?_) (ih h1 h)
  · have h1 : ¬ i < 7 := by simp at h1; omega
    rw [show 7 - i = 0 by omega] at h
    exact ⟨Mem.le_refl _, h _ rfl⟩
theorem s36 {b : Option Addr} {l c : Nat} {a : Int} {zs : List Int} (hB : Bs E b l c zs) (hl : l ≤ 100000) (ha : 0 ≤ a ∧ a ≤ l) (h : ∀ (n : Int), Hyp (lenF (zs.drop a.toNat) 7 0 = n) → K (I n) E) : Ent W9 6 Try.f36 [L b l c, I a] E K := by
  refine same (by kernel_rfl) (?_ : 
      Lp W9 6 Try.f36 [1, 0, 1, 0] 0 (pubK E K)
        {
          fr :=
            [some (SV.raw (Value.slice b l c)), some (SV.raw (Value.int IntKind.i64 a)), none, none, none,
              some (SV.raw (Value.int IntKind.i64 0)), none, none, none, none, none, none, none, none, none, none, none, none,
              none, none, none, none, none, none, none],
          bx := [], E := E })
  have key := Lp_ind okW9 (n := 6) (fn := Try.f36) (p := [1, 0, 1, 0]) (n0 := 0) (K := pubK E K) (fun x : {x : Nat // x ≤ 7 ∧ (∀ (n : Int), Hyp (lenF (zs.drop a.toNat) (7 - x) x = n) → K (I n) E)} => sh36 b l c a x.1 E) (fun x => 7 - x.1) (by
    rintro ⟨i, g1, g2⟩ ih
    exact rnd36 hB hl ha g1 g2 (fun q1 q2 => ih ⟨i + 1, q1, q2⟩ (by have q1 : i < 7 := q1; show 7 - (i + 1) < 7 - i; omega)))
  exact Lp_from (by repeat' first | exact True.intro | refine And.intro rfl ?_) (key ⟨0, by omega, h⟩)
noncomputable def tab9 : FuncId → List SV → Mem → (SV → Mem → Prop) → Prop := fun f args E K => match f with
  | 36 => d2 args fun x0 x1 => dS x0 fun b1 l2 c3 => dI x1 fun a4 => ∃ (zs : List Int), Bs E b1 l2 c3 zs ∧ l2 ≤ 100000 ∧ (0 ≤ a4 ∧ a4 ≤ l2) ∧ (∀ (n : Int), Hyp (lenF (zs.drop a4.toNat) 7 0 = n) → K (I n) E)
  | 32 => d1 args fun x0 => dI x0 fun a1 => (K (B (decide (okN a1))) E)
  | _ => False
theorem tab9_ok : TabOK Try.prog tab9 := by
  intro f args E K h
  unfold tab9 at h
  split at h
  · obtain ⟨x0, x1, rfl, h⟩ := d2_elim h
    obtain ⟨b1, l2, c3, rfl, h⟩ := dS_elim h
    obtain ⟨a4, rfl, h⟩ := dI_elim h
    obtain ⟨zs, g0, g1, g2, h⟩ := h
    exact TabSem.congr (valL_cons rfl (valL_cons rfl rfl)) (Ent.sem okW9 Try.func36 ⟨by kernel_rfl, by kernel_rfl⟩ rfl (s36 g0 g1 g2 h))
  · obtain ⟨x0, rfl, h⟩ := d1_elim h
    obtain ⟨a1, rfl, h⟩ := dI_elim h
    exact TabSem.congr (valL_cons rfl rfl) (Ent.sem okW8 Try.func32 ⟨by kernel_rfl, by kernel_rfl⟩ rfl (s32 h))
  · exact h.elim
noncomputable def WA : Cx := { P := Try.prog, inl := fun f => List.contains [] f, tab := tab9, isB := fun _ => false, tabB := fun _ _ _ _ _ => False, opt := { unroll := 0, carry := [8, 9] }, muts := mutsD }
theorem okWA : CxOK WA := ⟨tab9_ok, by kernel_rfl, okInl (by kernel_rfl), fun _ _ _ _ _ h => h.elim⟩
def sh16 (b : Option Addr) (l c : Nat) (a : Int) (n u i : Int) (E : Mem) : St := { fr := [some (L b l c), some (I a), none, none, none, none, none, some (I n), some (I u), some (I i), none, none, none, none, none, none, none, none, none, none, none, none, none, none, none, none, none, none, none, none, none, none, none, none, none, none, none, none, none, none, none, none, none, none, none, none, none, none, none, none, none, none, none, none, none, none, none, none, none, none, none, none, none, none, none, none, none, none, none, none, none, none, none, none], bx := [], E := E }

def smF (ws : List Int) : Nat → Nat → Int
  | 0, _ => 0
  | k + 1, i => ws.getD i 0 % 128 + 128 * smF ws k (i + 1)
def finF (a : Int) (ws : List Int) (v : Int) (m : Nat) : Int × Int × Int := if okN (unzig v) ∧ (0 < ws.getD (m - 1) 0 ∨ m = 1) then (unzig v, a + m, 0) else (0, 0, 3)
theorem smF_b (ws : List Int) : ∀ (k i : Nat), 0 ≤ smF ws k i ∧ smF ws k i < 128 ^ k
  | 0, i => ⟨Int.le_refl _, by simp [smF]⟩
  | k + 1, i => by
    have := smF_b ws k (i + 1)
    have h1 : 0 ≤ ws.getD i 0 % 128 ∧ ws.getD i 0 % 128 < 128 := ⟨Int.emod_nonneg _ (by omega), Int.emod_lt_of_pos _ (by omega)⟩
    show 0 ≤ ws.getD i 0 % 128 + 128 * smF ws k (i + 1) ∧ ws.getD i 0 % 128 + 128 * smF ws k (i + 1) < 128 ^ (k + 1)
    rw [Int.pow_succ]
    omega
theorem rdF_len (a : Int) {ws : List Int} (hw : ∀ z ∈ ws, 0 ≤ z ∧ z ≤ 255) : ∀ (k i : Nat) (u : Int), i + k = 7 →
    (lenF ws k i = 0 → rdF a ws k i u = (0, 0, 3)) ∧ (lenF ws k i = -1 → rdF a ws k i u = (0, 0, 11)) ∧
    (lenF ws k i ≠ 0 → lenF ws k i ≠ -1 → ∃ m : Nat, lenF ws k i = m ∧ i < m ∧ m ≤ 7 ∧ m ≤ ws.length ∧ rdF a ws k i u = finF a ws (u + 128 ^ i * smF ws (m - i) i) m)
  | 0, i, u, h => by simp [lenF, rdF]
  | k + 1, i, u, h => by
    unfold lenF rdF
    by_cases h1 : ws.length ≤ i
    · rw [if_pos h1, if_pos h1]
      simp
    · rw [if_neg h1, if_neg h1]
      have hc : 0 ≤ ws.getD i 0 ∧ ws.getD i 0 ≤ 255 := by
        refine hw _ ?_
        rw [List.getD_eq_getElem?_getD, List.getElem?_eq_getElem (by omega)]; exact List.getElem_mem _
      by_cases h2 : ws.getD i 0 < 128
      · rw [if_pos h2, if_neg (by omega)]
        refine ⟨fun e => by omega, fun e => by omega, fun _ _ => ⟨i + 1, by simp, by omega, by omega, by omega, ?_⟩⟩
        have e1 : smF ws (i + 1 - i) i = ws.getD i 0 := by
          rw [show i + 1 - i = 1 by omega]; show ws.getD i 0 % 128 + 128 * 0 = _; omega
        rw [e1]
        unfold finF
        rw [show i + 1 - 1 = i by omega, Int.mul_comm]
        have e2 : ((0 < ws.getD i 0 ∨ i + 1 = 1) ↔ (0 < ws.getD i 0 ∨ i = 0)) := by simp
        simp only [e2]
        rw [show a + ((i + 1 : Nat) : Int) = a + i + 1 by omega]
      · rw [if_neg h2, if_pos (by omega)]
        obtain ⟨g1, g2, g3⟩ := rdF_len a hw k (i + 1) (u + (ws.getD i 0 - 128) * 128 ^ i) (by omega)
        by_cases hk : k = 0
        · subst hk
          rw [if_pos rfl]
          refine ⟨fun _ => rfl, fun e => ?_, fun e => ?_⟩
          · exact absurd (show lenF ws 0 (i + 1) = 0 from rfl) (by rw [e]; omega)
          · exact absurd (show lenF ws 0 (i + 1) = 0 from rfl) e
        · rw [if_neg hk]
          refine ⟨g1, g2, fun e1 e2 => ?_⟩
          obtain ⟨m, q1, q2, q3, q4, q5⟩ := g3 e1 e2
          refine ⟨m, q1, by omega, q3, q4, ?_⟩
          rw [q5]
          congr 1
          have e3 : m - i = (m - (i + 1)) + 1 := by omega
          rw [e3]
          show _ = u + 128 ^ i * (ws.getD i 0 % 128 + 128 * smF ws (m - (i + 1)) (i + 1))
          rw [show ws.getD i 0 % 128 = ws.getD i 0 - 128 by omega, Int.pow_succ, Int.mul_add, Int.mul_comm (128 ^ i) (ws.getD i 0 - 128), Int.mul_assoc]
          omega
theorem rnd16 {b : Option Addr} {l c : Nat} {a : Int} {i : Nat} {m : Nat} {u : Int} {zs : List Int} (hB : Bs E b l c zs) (hl : l ≤ 100000) (ha : 0 ≤ a ∧ a + m ≤ l) (hi : i ≤ m) (hn : 1 ≤ m ∧ m ≤ 7) (hu : u = smF (zs.drop a.toNat) (m - i) i) (h : ∀ (n end' e : Int) (E' : Mem), Mem.le E E' → Hyp (finF a (zs.drop a.toNat) (smF (zs.drop a.toNat) m 0) m = (n, end', e)) → K (.tup [I n, I end', I e]) E')
    (ih : 1 ≤ i → ∀ u', u' = smF (zs.drop a.toNat) (m - (i - 1)) (i - 1) → Lp WA 6 Try.f16 [1, 1, 1, 1, 1, 1, 0, 1, 0] 0 (pubK E K) (sh16 b l c a m u' ((i : Int) - 1 - 1) E)) :
    Rnd WA 6 Try.f16 [1, 1, 1, 1, 1, 1, 0, 1, 0] 0 (pubK E K) (sh16 b l c a m u (i - 1 : Int) E) := by
  refine same (by kernel_rfl) (?_ : 
      bif decide ((↑i : Int) - 1 ≥ 0) then
        req
          (0 ≤ IntKind.wrap IntKind.i64 (a + ((↑i : Int) - 1)) ∧ IntKind.wrap IntKind.i64 (a + ((↑i : Int) - 1)) < (↑l : Int))
          ((∃ (cs : List Value), E (Value.slice b l c) cs ∧ (cs = [] → False)) ∧
            ∃ (n : Int),
              LoadE WA.P E 5 (Value.slice b l c) (Int.toNat (IntKind.wrap IntKind.i64 (a + ((↑i : Int) - 1))) * 1)
                  (SV.raw (Value.int IntKind.u8 n)) ∧
                ((128 : Int) = 0 → False) ∧
                  Lp WA 6 Try.f16 [1, 1, 1, 1, 1, 1, 0, 1, 0] 0 (pubK E K)
                    {
                      fr :=
                        [some (SV.raw (Value.slice b l c)), some (SV.raw (Value.int IntKind.i64 a)), none, none, none, none,
                          none, some (SV.raw (Value.int IntKind.i64 (↑m : Int))),
                          some
                            (SV.raw
                              (Value.int IntKind.i64
                                (IntKind.wrap IntKind.i64
                                  (IntKind.wrap IntKind.i64 (128 * u) + Int.tmod (IntKind.wrap IntKind.i64 n) 128)))),
                          some (SV.raw (Value.int IntKind.i64 (IntKind.wrap IntKind.i64 ((↑i : Int) - 1 - 1)))), none, none,
                          none, none, none, none, none, none, none, none, none, none, none, none, none, none, none, none,
                          none, none, none, none, none, none, none, none, none, none, none, none, none, none, none, none,
                          none, none, none, none, none, none, none, none, none, none, none, none, none, none, none, none,
                          none, none, none, none, none, none, none, none, none, none, none, none, none, none],
                      bx := [], E := E })
      else
        ((2 : Int) = 0 → False) ∧
          ((2 : Int) = 0 → False) ∧
            bif Int.tmod u 2 == 1 then
              Mem.le E E ∧
                bif
                    !decide
                        (okN
                          (IntKind.wrap IntKind.i64
                            (IntKind.wrap IntKind.i64 (0 - IntKind.wrap IntKind.i64 (Int.tdiv u 2)) - 1))) then
                  Mem.le E E ∧
                    K
                      (SV.tup
                        [SV.raw (Value.int IntKind.i64 0), SV.raw (Value.int IntKind.i64 0),
                          SV.raw (Value.int IntKind.i64 3)])
                      E
                else
                  bif decide ((↑m : Int) > 1) then
                    req
                      (0 ≤ IntKind.wrap IntKind.i64 (IntKind.wrap IntKind.i64 (a + (↑m : Int)) - 1) ∧
                        IntKind.wrap IntKind.i64 (IntKind.wrap IntKind.i64 (a + (↑m : Int)) - 1) < (↑l : Int))
                      ((∃ (cs : List Value), E (Value.slice b l c) cs ∧ (cs = [] → False)) ∧
                        ∃ (n : Int),
                          LoadE WA.P E 5 (Value.slice b l c)
                              (Int.toNat (IntKind.wrap IntKind.i64 (IntKind.wrap IntKind.i64 (a + (↑m : Int)) - 1)) * 1)
                              (SV.raw (Value.int IntKind.u8 n)) ∧
                            bif bif false then true else bif true then n == 0 else false then
                              Mem.le E E ∧
                                K
                                  (SV.tup
                                    [SV.raw (Value.int IntKind.i64 0), SV.raw (Value.int IntKind.i64 0),
                                      SV.raw (Value.int IntKind.i64 3)])
                                  E
                            else
                              Mem.le E E ∧
                                K
                                  (SV.tup
                                    [SV.raw
                                        (Value.int IntKind.i64
                                          (IntKind.wrap IntKind.i64
                                            (IntKind.wrap IntKind.i64 (0 - IntKind.wrap IntKind.i64 (Int.tdiv u 2)) - 1))),
                                      SV.raw (Value.int IntKind.i64 (IntKind.wrap IntKind.i64 (a + (↑m : Int)))),
                                      SV.raw (Value.int IntKind.i64 0)])
                                  E)
                  else
                    Mem.le E E ∧
                      K
                        (SV.tup
                          [SV.raw
                              (Value.int IntKind.i64
                                (IntKind.wrap IntKind.i64
                                  (IntKind.wrap IntKind.i64 (0 - IntKind.wrap IntKind.i64 (Int.tdiv u 2)) - 1))),
                            SV.raw (Value.int IntKind.i64 (IntKind.wrap IntKind.i64 (a + (↑m : Int)))),
                            SV.raw (Value.int IntKind.i64 0)])
                        E
            else
              Mem.le E E ∧
                bif !decide (okN (IntKind.wrap IntKind.i64 (Int.tdiv u 2))) then
                  Mem.le E E ∧
                    K
                      (SV.tup
                        [SV.raw (Value.int IntKind.i64 0), SV.raw (Value.int IntKind.i64 0),
                          SV.raw (Value.int IntKind.i64 3)])
                      E
                else
                  bif decide ((↑m : Int) > 1) then
                    req
                      (0 ≤ IntKind.wrap IntKind.i64 (IntKind.wrap IntKind.i64 (a + (↑m : Int)) - 1) ∧
                        IntKind.wrap IntKind.i64 (IntKind.wrap IntKind.i64 (a + (↑m : Int)) - 1) < (↑l : Int))
                      ((∃ (cs : List Value), E (Value.slice b l c) cs ∧ (cs = [] → False)) ∧
                        ∃ (n : Int),
                          LoadE WA.P E 5 (Value.slice b l c)
                              (Int.toNat (IntKind.wrap IntKind.i64 (IntKind.wrap IntKind.i64 (a + (↑m : Int)) - 1)) * 1)
                              (SV.raw (Value.int IntKind.u8 n)) ∧
                            bif bif false then true else bif true then n == 0 else false then
                              Mem.le E E ∧
                                K
                                  (SV.tup
                                    [SV.raw (Value.int IntKind.i64 0), SV.raw (Value.int IntKind.i64 0),
                                      SV.raw (Value.int IntKind.i64 3)])
                                  E
                            else
                              Mem.le E E ∧
                                K
                                  (SV.tup
                                    [SV.raw (Value.int IntKind.i64 (IntKind.wrap IntKind.i64 (Int.tdiv u 2))),
                                      SV.raw (Value.int IntKind.i64 (IntKind.wrap IntKind.i64 (a + (↑m : Int)))),
                                      SV.raw (Value.int IntKind.i64 0)])
                                  E)
                  else
                    Mem.le E E ∧
                      K
                        (SV.tup
                          [SV.raw (Value.int IntKind.i64 (IntKind.wrap IntKind.i64 (Int.tdiv u 2))),
                            SV.raw (Value.int IntKind.i64 (IntKind.wrap IntKind.i64 (a + (↑m : Int)))),
                            SV.raw (Value.int IntKind.i64 0)])
                        E)
  have hlen := hB.2.1
  have hb := smF_b (zs.drop a.toNat) (m - i) i
  have hp : (128 : Int) ^ (m - i) ≤ 128 ^ 7 := by
    have := Nat.pow_le_pow_right (show 128 > 0 by omega) (show m - i ≤ 7 by omega)
    exact_mod_cast this
  have hp : (128 : Int) ^ (m - i) ≤ 562949953421312 := by simpa using hp
  have hu0 : 0 ≤ u ∧ u < 562949953421312 := by rw [hu]; omega
  refine condC (fun h1 => ?_) (fun h1 => ?_)
  · have h1 : 1 ≤ i := by simp at h1; omega
    rw [wrap_i64 (x := a + ((i : Int) - 1)) (by omega)]
    refine req_intro ⟨by omega, by omega⟩ ⟨hB.ne (i := (a + ((i : Int) - 1)).toNat) (by omega), _, hB.load (i := (a + ((i : Int) - 1)).toNat) rfl (by omega), by omega, ?_⟩
    have e5 : (zs.drop a.toNat).getD (i - 1) 0 = zs.getD (a + ((i : Int) - 1)).toNat 0 := by
      rw [List.getD_eq_getElem?_getD, List.getD_eq_getElem?_getD, List.getElem?_drop]; congr 2; omega
    have hc : 0 ≤ zs.getD (a + ((i : Int) - 1)).toNat 0 ∧ zs.getD (a + ((i : Int) - 1)).toNat 0 ≤ 255 := by
      refine BsB hB _ ?_
      rw [List.getD_eq_getElem?_getD, List.getElem?_eq_getElem (by omega)]; exact List.getElem_mem _
    generalize zs.getD (a + ((i : Int) - 1)).toNat 0 = c1 at hc e5
    rw [wrap_i64 (x := c1) (by omega), Int.tmod_eq_emod_of_nonneg hc.1, wrap_i64 (x := 128 * u) (by omega), wrap_i64 (x := 128 * u + c1 % 128) (by omega), wrap_i64 (x := (i : Int) - 1 - 1) (by omega)]
    refine Lp_from (by repeat' first | exact True.intro | refine And.intro rfl ?_) (ih h1 (128 * u + c1 % 128) ?_)
    rw [show m - (i - 1) = (m - i) + 1 by omega]
    show _ = (zs.drop a.toNat).getD (i - 1) 0 % 128 + 128 * smF (zs.drop a.toNat) (m - i) (i - 1 + 1)
    rw [e5, show i - 1 + 1 = i by omega, ← hu]; omega
  · have h1 : i = 0 := by simp at h1; omega
    subst h1
    rw [show m - 0 = m by omega] at hu
    rw [← hu] at h
    refine ⟨by omega, by omega, ?_⟩
    rw [Int.tmod_eq_emod_of_nonneg hu0.1, Int.tdiv_eq_ediv_of_nonneg hu0.1, wrap_i64 (x := a + m) (by omega)]
    refine condC (fun h2 => ?_) (fun h2 => ?_)
    · have h2 : u % 2 = 1 := by simpa using h2
      have hz : IntKind.wrap .i64 (IntKind.wrap .i64 (0 - IntKind.wrap .i64 (u / 2)) - 1) = unzig u := by
        rw [wrap_i64 (x := u / 2) (by omega), wrap_i64 (x := 0 - u / 2) (by omega), wrap_i64 (by omega)]
        unfold unzig; rw [if_pos h2]; omega
      rw [hz]
      refine ⟨Mem.le_refl _, ?_⟩
      refine condC (fun h3 => ?_) (fun h3 => ?_)
      · have h3 : ¬ okN (unzig u) := by simpa using h3
        refine ⟨Mem.le_refl _, h 0 0 3 E (Mem.le_refl _) ?_⟩
        show finF a _ _ m = _
        unfold finF; rw [if_neg (fun q => h3 q.1)]
      · have h3 : okN (unzig u) := by simpa using h3
        refine condC (fun h4 => ?_) (fun h4 => ?_)
        · have h4 : m > 1 := by simp at h4; omega
          rw [wrap_i64 (x := a + m - 1) (by omega)]
          refine req_intro ⟨by omega, by omega⟩ ⟨hB.ne (i := (a + m - 1).toNat) (by omega), _, hB.load (i := (a + m - 1).toNat) rfl (by omega), ?_⟩
          have e5 : (zs.drop a.toNat).getD (m - 1) 0 = zs.getD (a + m - 1).toNat 0 := by
            rw [List.getD_eq_getElem?_getD, List.getD_eq_getElem?_getD, List.getElem?_drop]; congr 2; omega
          have hc : 0 ≤ zs.getD (a + m - 1).toNat 0 := by
            refine (BsB hB _ ?_).1
            rw [List.getD_eq_getElem?_getD, List.getElem?_eq_getElem (by omega)]; exact List.getElem_mem _
          refine condC (fun h5 => ?_) (fun h5 => ?_)
          · have h5 : zs.getD (a + m - 1).toNat 0 = 0 := by simpa using h5
            refine ⟨Mem.le_refl _, h 0 0 3 E (Mem.le_refl _) ?_⟩
            show finF a _ _ m = _
            unfold finF; rw [if_neg (by rw [e5, h5]; rintro ⟨_, q | q⟩ <;> omega)]
          · have h5 : ¬ zs.getD (a + m - 1).toNat 0 = 0 := by simpa using h5
            refine ⟨Mem.le_refl _, h _ _ 0 E (Mem.le_refl _) ?_⟩
            show finF a _ _ m = _
            unfold finF; rw [if_pos ⟨h3, .inl (by rw [e5]; omega)⟩]
        · have h4 : m = 1 := by simp at h4; omega
          refine ⟨Mem.le_refl _, h _ _ 0 E (Mem.le_refl _) ?_⟩
          show finF a _ _ m = _
          unfold finF; rw [if_pos ⟨h3, .inr h4⟩]
    · have h2 : ¬ u % 2 = 1 := by simpa using h2
      have hz : IntKind.wrap .i64 (u / 2) = unzig u := by
        rw [wrap_i64 (x := u / 2) (by omega)]
        unfold unzig; rw [if_neg h2]
      rw [hz]
      refine ⟨Mem.le_refl _, ?_⟩
      refine condC (fun h3 => ?_) (fun h3 => ?_)
      · have h3 : ¬ okN (unzig u) := by simpa using h3
        refine ⟨Mem.le_refl _, h 0 0 3 E (Mem.le_refl _) ?_⟩
        show finF a _ _ m = _
        unfold finF; rw [if_neg (fun q => h3 q.1)]
      · have h3 : okN (unzig u) := by simpa using h3
        refine condC (fun h4 => ?_) (fun h4 => ?_)
        · have h4 : m > 1 := by simp at h4; omega
          rw [wrap_i64 (x := a + m - 1) (by omega)]
          refine req_intro ⟨by omega, by omega⟩ ⟨hB.ne (i := (a + m - 1).toNat) (by omega), _, hB.load (i := (a + m - 1).toNat) rfl (by omega), ?_⟩
          have e5 : (zs.drop a.toNat).getD (m - 1) 0 = zs.getD (a + m - 1).toNat 0 := by
            rw [List.getD_eq_getElem?_getD, List.getD_eq_getElem?_getD, List.getElem?_drop]; congr 2; omega
          have hc : 0 ≤ zs.getD (a + m - 1).toNat 0 := by
            refine (BsB hB _ ?_).1
            rw [List.getD_eq_getElem?_getD, List.getElem?_eq_getElem (by omega)]; exact List.getElem_mem _
          refine condC (fun h5 => ?_) (fun h5 => ?_)
          · have h5 : zs.getD (a + m - 1).toNat 0 = 0 := by simpa using h5
            refine ⟨Mem.le_refl _, h 0 0 3 E (Mem.le_refl _) ?_⟩
            show finF a _ _ m = _
            unfold finF; rw [if_neg (by rw [e5, h5]; rintro ⟨_, q | q⟩ <;> omega)]
          · have h5 : ¬ zs.getD (a + m - 1).toNat 0 = 0 := by simpa using h5
            refine ⟨Mem.le_refl _, h _ _ 0 E (Mem.le_refl _) ?_⟩
            show finF a _ _ m = _
            unfold finF; rw [if_pos ⟨h3, .inl (by rw [e5]; omega)⟩]
        · have h4 : m = 1 := by simp at h4; omega
          refine ⟨Mem.le_refl _, h _ _ 0 E (Mem.le_refl _) ?_⟩
          show finF a _ _ m = _
          unfold finF; rw [if_pos ⟨h3, .inr h4⟩]
theorem s16 {b : Option Addr} {l c : Nat} {zs : List Int} {a : Int} (hB : Bs E b l c zs) (hl : l ≤ 100000) (h : ∀ (n end' e : Int) (E' : Mem), Mem.le E E' → Hyp (rd zs a = (n, end', e)) → K (.tup [I n, I end', I e]) E') : Ent WA 6 Try.f16 [L b l c, I a] E K := by
  refine same (by kernel_rfl) (?_ : 
      bif decide (a < 0) then
        Mem.le E E ∧
          K (SV.tup [SV.raw (Value.int IntKind.i64 0), SV.raw (Value.int IntKind.i64 0), SV.raw (Value.int IntKind.i64 1)]) E
      else
        bif bif false then true else decide (a > (↑l : Int)) then
          Mem.le E E ∧
            K (SV.tup [SV.raw (Value.int IntKind.i64 0), SV.raw (Value.int IntKind.i64 0), SV.raw (Value.int IntKind.i64 1)])
              E
        else
          ∃ (zs : List Int),
            ((zs = [] ∨ E (Value.slice b l c) (List.map (Value.int IntKind.u8) zs)) ∧
                List.length zs = l ∧ l ≤ c ∧ (∀ (z : Int), List.Mem z zs → 0 ≤ z ∧ z ≤ 255) ∧ (b = none → zs = [])) ∧
              l ≤ 100000 ∧
                (0 ≤ a ∧ a ≤ (↑l : Int)) ∧
                  ∀ (n : Int),
                    Hyp (lenF (List.drop (Int.toNat a) zs) 7 0 = n) →
                      Mem.le E E ∧
                        bif n == 0 then
                          Mem.le E E ∧
                            K
                              (SV.tup
                                [SV.raw (Value.int IntKind.i64 0), SV.raw (Value.int IntKind.i64 0),
                                  SV.raw (Value.int IntKind.i64 3)])
                              E
                        else
                          bif decide (n < 0) then
                            Mem.le E E ∧
                              K
                                (SV.tup
                                  [SV.raw (Value.int IntKind.i64 0), SV.raw (Value.int IntKind.i64 0),
                                    SV.raw (Value.int IntKind.i64 11)])
                                E
                          else
                            Lp WA 6 Try.f16 [1, 1, 1, 1, 1, 1, 0, 1, 0] 0 (pubK E K)
                              {
                                fr :=
                                  [some (SV.raw (Value.slice b l c)), some (SV.raw (Value.int IntKind.i64 a)), none, none,
                                    some (SV.raw (Value.int IntKind.i64 0)), some (SV.raw (Value.int IntKind.i64 0)),
                                    some (SV.raw (Value.int IntKind.i64 0)), some (SV.raw (Value.int IntKind.i64 n)),
                                    some (SV.raw (Value.int IntKind.i64 0)),
                                    some (SV.raw (Value.int IntKind.i64 (IntKind.wrap IntKind.i64 (n - 1)))), none, none,
                                    some (SV.raw (Value.int IntKind.i64 a)), some (SV.raw (Value.bool (decide (a < 0)))),
                                    some (SV.raw (Value.bool false)), some (SV.raw (Value.int IntKind.i64 a)),
                                    some (SV.raw (Value.slice b l c)), some (SV.raw (Value.int IntKind.i64 (↑l : Int))),
                                    some (SV.raw (Value.bool (decide (a > (↑l : Int))))),
                                    some (SV.raw (Value.bool (bif false then true else decide (a > (↑l : Int))))),
                                    some (SV.raw (Value.slice b l c)), some (SV.raw (Value.int IntKind.i64 a)),
                                    some (SV.raw (Value.int IntKind.i64 n)), some (SV.raw (Value.int IntKind.i64 n)),
                                    some (SV.raw (Value.bool (n == 0))), some (SV.raw (Value.int IntKind.i64 n)),
                                    some (SV.raw (Value.bool (decide (n < 0)))), some (SV.raw (Value.int IntKind.i64 n)),
                                    some (SV.raw (Value.int IntKind.i64 (IntKind.wrap IntKind.i64 (n - 1)))), none, none,
                                    none, none, none, none, none, none, none, none, none, none, none, none, none, none, none,
                                    none, none, none, none, none, none, none, none, none, none, none, none, none, none, none,
                                    none, none, none, none, none, none, none, none, none, none, none, none, none],
                                bx := [], E := E })
  have hlen := hB.2.1
  refine condC (fun h1 => ?_) (fun h1 => ?_)
  · exact ⟨Mem.le_refl _, h 0 0 1 E (Mem.le_refl _) (by show rd zs a = _; unfold rd; rw [if_pos (.inl (by simpa using h1))])⟩
  · have h1 : ¬ a < 0 := by simpa using h1
    refine condC (fun h2 => ?_) (fun h2 => ?_)
    · have h2 : a > l := by simpa using h2
      exact ⟨Mem.le_refl _, h 0 0 1 E (Mem.le_refl _) (by show rd zs a = _; unfold rd; rw [if_pos (.inr (by omega))])⟩
    · have h2 : a ≤ l := by simpa using h2
      have hr : rd zs a = rdF a (zs.drop a.toNat) 7 0 0 := by unfold rd; rw [if_neg (by omega)]
      rw [hr] at h
      obtain ⟨r1, r2, r3⟩ := rdF_len a (ws := zs.drop a.toNat) (fun z hz => BsB hB z (List.drop_subset _ _ hz)) 7 0 0 rfl
      refine ⟨zs, hB, hl, ⟨by omega, h2⟩, fun n hn => ⟨Mem.le_refl _, ?_⟩⟩
      have hn : lenF (zs.drop a.toNat) 7 0 = n := hn
      rw [hn] at r1 r2 r3
      refine condC (fun h3 => ?_) (fun h3 => ?_)
      · have h3 : n = 0 := by simpa using h3
        exact ⟨Mem.le_refl _, h 0 0 3 E (Mem.le_refl _) (r1 h3)⟩
      · have h3 : ¬ n = 0 := by simpa using h3
        by_cases h4 : n = -1
        · refine condC (fun h5 => ?_) (fun h5 => absurd h5 (by simp; omega))
          exact ⟨Mem.le_refl _, h 0 0 11 E (Mem.le_refl _) (r2 h4)⟩
        · obtain ⟨m, q1, q2, q3, q4, q5⟩ := r3 h3 h4
          rw [q5] at h
          rw [List.length_drop, hlen] at q4
          refine condC (fun h5 => absurd h5 (by simp; omega)) (fun h5 => ?_)
          have key := Lp_ind okWA (n := 6) (fn := Try.f16) (p := [1, 1, 1, 1, 1, 1, 0, 1, 0]) (n0 := 0) (K := pubK E K) (fun x : {x : Nat × Int // x.1 ≤ m ∧ x.2 = smF (zs.drop a.toNat) (m - x.1) x.1} => sh16 b l c a m x.1.2 (x.1.1 - 1 : Int) E) (fun x => x.1.1) (by
            rintro ⟨⟨i, u⟩, g1, g2⟩ ih
            have g1 : i ≤ m := g1
            refine rnd16 hB hl (by omega) g1 ⟨by omega, q3⟩ g2 (fun n e' e E2 hE2 hy => h n e' e E2 hE2 (by rw [← hy]; show finF _ _ (0 + 128 ^ 0 * _) _ = _; rw [Int.pow_zero, Int.one_mul, Int.zero_add]; rfl)) (fun q1 u' q2 => ?_)
            have q1 : 1 ≤ i := q1
            have := ih ⟨⟨i - 1, u'⟩, by show i - 1 ≤ m; omega, q2⟩ (by show i - 1 < i; omega)
            have e : ((i - 1 : Nat) : Int) = (i : Int) - 1 := by omega
            simp only [e] at this
            exact this)
          rw [q1, wrap_i64 (x := (m : Int) - 1) (by omega)]
          exact Lp_from (by repeat' first | exact True.intro | refine And.intro rfl ?_) (key ⟨⟨m, 0⟩, by show m ≤ m; omega, by show (0 : Int) = smF _ (m - m) m; rw [Nat.sub_self]; rfl⟩)

end Go.Proofs.Ytjlpfhekhpebpaa.WireOwn
