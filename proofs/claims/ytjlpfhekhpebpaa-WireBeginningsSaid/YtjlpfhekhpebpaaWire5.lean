/- The wire package: what its functions answer. -/
import Derived.Test.YtjlpfhekhpebpaaWire4
namespace Go.Proofs.Ytjlpfhekhpebpaa.WireOwn
open Go Go.Sx
set_option maxRecDepth 100000
set_option maxHeartbeats 4000000
set_option linter.unusedVariables false
set_option linter.unusedSimpArgs false
variable {E : Mem} {K : SV → Mem → Prop}

def unzig (v : Int) : Int := if v % 2 = 1 then -((v + 1) / 2) else v / 2
def rdF (a : Int) (ws : List Int) : Nat → Nat → Int → Int × Int × Int
  | 0, _, _ => (0, 0, 3)
  | k + 1, i, u => if ws.length ≤ i then (0, 0, 11) else
      if 128 ≤ ws.getD i 0 then (if k = 0 then (0, 0, 3) else rdF a ws k (i + 1) (u + (ws.getD i 0 - 128) * 128 ^ i))
      else if okN (unzig (u + ws.getD i 0 * 128 ^ i)) ∧ (0 < ws.getD i 0 ∨ i = 0) then (unzig (u + ws.getD i 0 * 128 ^ i), a + i + 1, 0) else (0, 0, 3)
def rd (zs : List Int) (a : Int) : Int × Int × Int := if a < 0 ∨ a > zs.length then (0, 0, 1) else rdF a (zs.drop a.toNat) 7 0 0
theorem or_add {u d s : Nat} (hu : u < 2 ^ s) (h : u + d * 2 ^ s < 4611686018427387904) : (BitVec.ofInt 64 (u : Int) ||| BitVec.ofInt 64 ((d : Int) * 2 ^ s)).toNat = u + d * 2 ^ s := by
  have hd : (d : Int) * 2 ^ s = ((d * 2 ^ s : Nat) : Int) := by simp
  rw [BitVec.toNat_or, hd, BitVec.ofInt_natCast, BitVec.ofInt_natCast, BitVec.toNat_ofNat, BitVec.toNat_ofNat, Nat.mod_eq_of_lt (by omega), Nat.mod_eq_of_lt (by omega)]
  rw [Nat.or_comm, Nat.mul_comm d, ← Nat.two_pow_add_eq_or_of_lt hu]
  omega
theorem orW {u d : Int} {i : Nat} (hi : i ≤ 6) (hu : 0 ≤ u ∧ u < 128 ^ i) (hd : 0 ≤ d ∧ d < 128) :
    IntKind.wrap .i64 (((BitVec.ofInt (IntKind.bits .i64) u ||| BitVec.ofInt (IntKind.bits .i64) (IntKind.wrap .i64 (d * 2 ^ min (Int.toNat (IntKind.wrap .i64 (7 * (i : Int)))) (IntKind.bits .i64)))).toNat : Nat) : Int) = u + d * 128 ^ i ∧ 0 ≤ u + d * 128 ^ i ∧ u + d * 128 ^ i < 128 ^ (i + 1) := by
  obtain ⟨u', rfl⟩ : ∃ k : Nat, u = k := ⟨u.toNat, by omega⟩
  obtain ⟨d', rfl⟩ : ∃ k : Nat, d = k := ⟨d.toNat, by omega⟩
  obtain ⟨h0, h1⟩ := hu
  obtain ⟨h2, h3⟩ := hd
  rw [show IntKind.bits .i64 = 64 from rfl]
  have key : ∀ (s p : Nat), p = 2 ^ s → s ≤ 42 → (u' : Int) < p → IntKind.wrap .i64 (((BitVec.ofInt 64 (u' : Int) ||| BitVec.ofInt 64 (IntKind.wrap .i64 ((d' : Int) * 2 ^ min (Int.toNat (IntKind.wrap .i64 (s : Int))) 64))).toNat : Nat) : Int) = u' + d' * p := by
    intro s p hp hs h1
    have hp2 : p ≤ 4398046511104 := by rw [hp]; have := Nat.pow_le_pow_right (show 2 > 0 by omega) hs; simpa using this
    have hdp : d' * p ≤ 127 * 4398046511104 := Nat.mul_le_mul (by omega) hp2
    have e1 : min (Int.toNat (IntKind.wrap .i64 (s : Int))) 64 = s := by
      rw [wrap_i64 (by omega)]; omega
    rw [e1]
    have e2 : (d' : Int) * 2 ^ s = ((d' * p : Nat) : Int) := by rw [hp]; simp
    have := or_add (u := u') (d := d') (s := s) (by rw [← hp]; omega) (by rw [← hp]; omega)
    rw [e2, wrap_i64 (x := ((d' * p : Nat) : Int)) (by omega), ← e2, this, ← hp, wrap_i64 (by omega)]
    simp
  have hc : i = 0 ∨ i = 1 ∨ i = 2 ∨ i = 3 ∨ i = 4 ∨ i = 5 ∨ i = 6 := by omega
  rcases hc with rfl | rfl | rfl | rfl | rfl | rfl | rfl
  · exact ⟨(key 0 1 rfl (by omega) (by simpa using h1)).trans (by simp), by simp at h1 ⊢; omega, by simp at h1 ⊢; omega⟩
  · exact ⟨(key 7 128 rfl (by omega) (by simpa using h1)).trans (by simp), by simp at h1 ⊢; omega, by simp at h1 ⊢; omega⟩
  · exact ⟨(key 14 16384 rfl (by omega) (by simpa using h1)).trans (by simp), by simp at h1 ⊢; omega, by simp at h1 ⊢; omega⟩
  · exact ⟨(key 21 2097152 rfl (by omega) (by simpa using h1)).trans (by simp), by simp at h1 ⊢; omega, by simp at h1 ⊢; omega⟩
  · exact ⟨(key 28 268435456 rfl (by omega) (by simpa using h1)).trans (by simp), by simp at h1 ⊢; omega, by simp at h1 ⊢; omega⟩
  · exact ⟨(key 35 34359738368 rfl (by omega) (by simpa using h1)).trans (by simp), by simp at h1 ⊢; omega, by simp at h1 ⊢; omega⟩
  · exact ⟨(key 42 4398046511104 rfl (by omega) (by simpa using h1)).trans (by simp), by simp at h1 ⊢; omega, by simp at h1 ⊢; omega⟩
noncomputable def W8 : Cx := { P := Try.prog, inl := fun f => List.contains [] f, tab := fun _ _ _ _ => False, isB := fun _ => false, tabB := fun _ _ _ _ _ => False, opt := { unroll := 0, carry := [] }, muts := mutsD }
theorem okW8 : CxOK W8 := ⟨fun _ _ _ _ h => h.elim, by kernel_rfl, okInl (by kernel_rfl), fun _ _ _ _ _ h => h.elim⟩
theorem s35 {a1 : Int} (h0 : (0 ≤ a1 ∧ a1 < 1152921504606846976)) (h : K (I (unzig a1)) E) :
    Ent W8 6 Try.f35 [I a1] E K := by
  refine same (by kernel_rfl) (?_ : 
      ((2 : Int) = 0 → False) ∧
        bif Int.tmod a1 2 == 1 then
          ((2 : Int) = 0 → False) ∧
            Mem.le E E ∧
              K
                (SV.raw
                  (Value.int IntKind.i64
                    (IntKind.wrap IntKind.i64
                      (Int.tdiv (IntKind.wrap IntKind.i64 (0 - IntKind.wrap IntKind.i64 (a1 + 1))) 2))))
                E
        else ((2 : Int) = 0 → False) ∧ Mem.le E E ∧ K (SV.raw (Value.int IntKind.i64 (IntKind.wrap IntKind.i64 (Int.tdiv a1 2)))) E)
  obtain ⟨g0, g1⟩ := h0
  rw [Int.tmod_eq_emod_of_nonneg g0]
  unfold unzig at h
  refine ⟨by omega, condC (fun h1 => ?_) (fun h1 => ?_)⟩
  · have h1 : a1 % 2 = 1 := by simpa using h1
    rw [if_pos h1] at h
    rw [wrap_i64 (x := a1 + 1) (by omega), wrap_i64 (x := 0 - (a1 + 1)) (by omega), Int.zero_sub, Int.neg_tdiv, Int.tdiv_eq_ediv_of_nonneg (by omega), wrap_i64 (by omega)]
    exact ⟨by omega, Mem.le_refl _, h⟩
  · have h1 : ¬ a1 % 2 = 1 := by simpa using h1
    rw [if_neg h1] at h
    rw [Int.tdiv_eq_ediv_of_nonneg (by omega), wrap_i64 (by omega)]
    exact ⟨by omega, Mem.le_refl _, h⟩
theorem s28 {a1 : Int} (h : K (B (decide (okN a1))) E) :
    Ent W8 6 Try.f28 [I a1] E K := by
  refine same (by kernel_rfl) (?_ : 
      bif decide (a1 ≥ -10000000000000) then
        Mem.le E E ∧ K (SV.raw (Value.bool (bif true then decide (a1 ≤ 10000000000000) else false))) E
      else Mem.le E E ∧ K (SV.raw (Value.bool false)) E)
  unfold okN at h
  refine condC (fun h1 => ?_) (fun h1 => ?_)
  · have h1 : -10000000000000 ≤ a1 := by simpa using h1
    exact ⟨Mem.le_refl _, by simpa [h1] using h⟩
  · have h1 : ¬ -10000000000000 ≤ a1 := by simpa using h1
    exact ⟨Mem.le_refl _, by simpa [h1] using h⟩
theorem s32 {a1 : Int} (h : K (B (decide (okN a1))) E) :
    Ent W8 6 Try.f32 [I a1] E K := by
  refine same (by kernel_rfl) (?_ : 
      bif decide (a1 ≥ -10000000000000) then
        Mem.le E E ∧ K (SV.raw (Value.bool (bif true then decide (a1 ≤ 10000000000000) else false))) E
      else Mem.le E E ∧ K (SV.raw (Value.bool false)) E)
  unfold okN at h
  refine condC (fun h1 => ?_) (fun h1 => ?_)
  · have h1 : -10000000000000 ≤ a1 := by simpa using h1
    exact ⟨Mem.le_refl _, by simpa [h1] using h⟩
  · have h1 : ¬ -10000000000000 ≤ a1 := by simpa using h1
    exact ⟨Mem.le_refl _, by simpa [h1] using h⟩
noncomputable def tab7 : FuncId → List SV → Mem → (SV → Mem → Prop) → Prop := fun f args E K => match f with
  | 35 => d1 args fun x0 => dI x0 fun a1 => (0 ≤ a1 ∧ a1 < 1152921504606846976) ∧ (K (I (unzig a1)) E)
  | 28 => d1 args fun x0 => dI x0 fun a1 => (K (B (decide (okN a1))) E)
  | 32 => d1 args fun x0 => dI x0 fun a1 => (K (B (decide (okN a1))) E)
  | _ => False
theorem tab7_ok : TabOK Try.prog tab7 := by
  intro f args E K h
  unfold tab7 at h
  split at h
  · obtain ⟨x0, rfl, h⟩ := d1_elim h
    obtain ⟨a1, rfl, h⟩ := dI_elim h
    obtain ⟨g0, h⟩ := h
    exact TabSem.congr (valL_cons rfl rfl) (Ent.sem okW8 Try.func35 ⟨by kernel_rfl, by kernel_rfl⟩ rfl (s35 g0 h))
  · obtain ⟨x0, rfl, h⟩ := d1_elim h
    obtain ⟨a1, rfl, h⟩ := dI_elim h
    exact TabSem.congr (valL_cons rfl rfl) (Ent.sem okW8 Try.func28 ⟨by kernel_rfl, by kernel_rfl⟩ rfl (s28 h))
  · obtain ⟨x0, rfl, h⟩ := d1_elim h
    obtain ⟨a1, rfl, h⟩ := dI_elim h
    exact TabSem.congr (valL_cons rfl rfl) (Ent.sem okW8 Try.func32 ⟨by kernel_rfl, by kernel_rfl⟩ rfl (s32 h))
  · exact h.elim
noncomputable def W7 : Cx := { P := Try.prog, inl := fun f => List.contains [] f, tab := tab7, isB := fun _ => false, tabB := fun _ _ _ _ _ => False, opt := { unroll := 0, carry := [7, 23] }, muts := mutsD }
theorem okW7 : CxOK W7 := ⟨tab7_ok, by kernel_rfl, okInl (by kernel_rfl), fun _ _ _ _ _ h => h.elim⟩
def sh15 (b : Option Addr) (l c : Nat) (a : Int) (b2 : Option Addr) (l2 c2 : Nat) (i : Nat) (u : Int) (E : Mem) : St := { fr := [some (L b l c), some (I a), none, none, none, none, none, some (I u), none, none, none, none, none, none, none, none, none, none, none, none, none, some (L b2 l2 c2), some (I l2), some (I i), none, none, none, none, none, none, none, none, none, none, none, none, none, none, none, none, none, none, none, none, none, none, none, none, none, none, none, none, none, none, none, none, none, none, none, none, none, none, none, none, none, none, none, none, none, none, none], bx := [], E := E }

structure I15 (E : Mem) (K : SV → Mem → Prop) (a : Int) (ws : List Int) (l2 i : Nat) (u : Int) : Prop where
  i6 : i ≤ 6
  il : i ≤ l2
  hu : 0 ≤ u ∧ u < 128 ^ i
  h : ∀ (n end' e : Int) (E' : Mem), Mem.le E E' → Hyp (rdF a ws (7 - i) i u = (n, end', e)) → K (.tup [I n, I end', I e]) E'
theorem rnd15 {E0 : Mem} {b : Option Addr} {l c : Nat} {a : Int} {b2 : Option Addr} {l2 c2 i : Nat} {u : Int} {ws : List Int} (hB : Bs E b2 l2 c2 ws) (hE0 : Mem.le E0 E) (hl : l2 ≤ 100000) (ha : 0 ≤ a ∧ a ≤ 100000) (hi : i ≤ 6) (hil : i ≤ l2) (hu : 0 ≤ u ∧ u < 128 ^ i) (h : ∀ (n end' e : Int) (E' : Mem), Mem.le E E' → Hyp (rdF a ws (7 - i) i u = (n, end', e)) → K (.tup [I n, I end', I e]) E')
    (ih : ∀ u', i < 6 → i < l2 → 0 ≤ u' ∧ u' < 128 ^ (i + 1) → (∀ (n end' e : Int) (E' : Mem), Mem.le E E' → Hyp (rdF a ws (7 - (i + 1)) (i + 1) u' = (n, end', e)) → K (.tup [I n, I end', I e]) E') → Lp W7 6 Try.f15 [1, 1, 1, 0, 1, 0] 0 (pubK E0 K) (sh15 b l c a b2 l2 c2 (i + 1) u' E)) :
    Rnd W7 6 Try.f15 [1, 1, 1, 0, 1, 0] 0 (pubK E0 K) (sh15 b l c a b2 l2 c2 i u E) := by
  refine same (by kernel_rfl) (?_ : 
      bif decide ((↑i : Int) < (↑l2 : Int)) then
        req (0 ≤ (↑i : Int) ∧ (↑i : Int) < (↑l2 : Int))
          ((∃ (cs : List Value), E (Value.slice b2 l2 c2) cs ∧ (cs = [] → False)) ∧
            ∃ (n : Int),
              LoadE W7.P E 5 (Value.slice b2 l2 c2) (Int.toNat (↑i : Int) * 1) (SV.raw (Value.int IntKind.u8 n)) ∧
                bif decide (n ≥ 128) then
                  bif bif true then (↑i : Int) == 6 else false then
                    Mem.le E0 E ∧
                      K
                        (SV.tup
                          [SV.raw (Value.int IntKind.i64 0), SV.raw (Value.int IntKind.i64 0),
                            SV.raw (Value.int IntKind.i64 3)])
                        E
                  else
                    bif decide (n ≥ 128) then
                      req (0 ≤ IntKind.wrap IntKind.i64 (7 * (↑i : Int)))
                        (Lp W7 6 Try.f15 [1, 1, 1, 0, 1, 0] 0 (pubK E0 K)
                          {
                            fr :=
                              [some (SV.raw (Value.slice b l c)), some (SV.raw (Value.int IntKind.i64 a)), none, none, none,
                                none, none,
                                some
                                  (SV.raw
                                    (Value.int IntKind.i64
                                      (IntKind.wrap IntKind.i64
                                        (↑(BitVec.toNat
                                              (BitVec.ofInt (IntKind.bits IntKind.i64) u |||
                                                BitVec.ofInt (IntKind.bits IntKind.i64)
                                                  (IntKind.wrap IntKind.i64
                                                    (IntKind.wrap IntKind.i64 (IntKind.wrap IntKind.u8 (n - 128)) *
                                                      2 ^
                                                        min (Int.toNat (IntKind.wrap IntKind.i64 (7 * (↑i : Int))))
                                                          (IntKind.bits IntKind.i64))))) :
                                          Int)))),
                                none, none, none, none, none, none, none, none, none, none, none, none, none,
                                some (SV.raw (Value.slice b2 l2 c2)), some (SV.raw (Value.int IntKind.i64 (↑l2 : Int))),
                                some (SV.raw (Value.int IntKind.i64 (IntKind.wrap IntKind.i64 ((↑i : Int) + 1)))), none, none,
                                none, none, none, none, none, none, none, none, none, none, none, none, none, none, none,
                                none, none, none, none, none, none, none, none, none, none, none, none, none, none, none,
                                none, none, none, none, none, none, none, none, none, none, none, none, none, none, none],
                            bx := [], E := E })
                    else
                      req (0 ≤ IntKind.wrap IntKind.i64 (7 * (↑i : Int)))
                        ((0 ≤
                              IntKind.wrap IntKind.i64
                                (↑(BitVec.toNat
                                      (BitVec.ofInt (IntKind.bits IntKind.i64) u |||
                                        BitVec.ofInt (IntKind.bits IntKind.i64)
                                          (IntKind.wrap IntKind.i64
                                            (IntKind.wrap IntKind.i64 n *
                                              2 ^
                                                min (Int.toNat (IntKind.wrap IntKind.i64 (7 * (↑i : Int))))
                                                  (IntKind.bits IntKind.i64))))) :
                                  Int) ∧
                            IntKind.wrap IntKind.i64
                                (↑(BitVec.toNat
                                      (BitVec.ofInt (IntKind.bits IntKind.i64) u |||
                                        BitVec.ofInt (IntKind.bits IntKind.i64)
                                          (IntKind.wrap IntKind.i64
                                            (IntKind.wrap IntKind.i64 n *
                                              2 ^
                                                min (Int.toNat (IntKind.wrap IntKind.i64 (7 * (↑i : Int))))
                                                  (IntKind.bits IntKind.i64))))) :
                                  Int) <
                              1152921504606846976) ∧
                          Mem.le E E ∧
                            Mem.le E E ∧
                              bif
                                  decide
                                    (okN
                                      (unzig
                                        (IntKind.wrap IntKind.i64
                                          (↑(BitVec.toNat
                                                (BitVec.ofInt (IntKind.bits IntKind.i64) u |||
                                                  BitVec.ofInt (IntKind.bits IntKind.i64)
                                                    (IntKind.wrap IntKind.i64
                                                      (IntKind.wrap IntKind.i64 n *
                                                        2 ^
                                                          min (Int.toNat (IntKind.wrap IntKind.i64 (7 * (↑i : Int))))
                                                            (IntKind.bits IntKind.i64))))) :
                                            Int)))) then
                                bif decide (n > 0) then
                                  Mem.le E0 E ∧
                                    K
                                      (SV.tup
                                        [SV.raw
                                            (Value.int IntKind.i64
                                              (unzig
                                                (IntKind.wrap IntKind.i64
                                                  (↑(BitVec.toNat
                                                        (BitVec.ofInt (IntKind.bits IntKind.i64) u |||
                                                          BitVec.ofInt (IntKind.bits IntKind.i64)
                                                            (IntKind.wrap IntKind.i64
                                                              (IntKind.wrap IntKind.i64 n *
                                                                2 ^
                                                                  min (Int.toNat (IntKind.wrap IntKind.i64 (7 * (↑i : Int))))
                                                                    (IntKind.bits IntKind.i64))))) :
                                                    Int)))),
                                          SV.raw
                                            (Value.int IntKind.i64
                                              (IntKind.wrap IntKind.i64 (IntKind.wrap IntKind.i64 (a + (↑i : Int)) + 1))),
                                          SV.raw (Value.int IntKind.i64 0)])
                                      E
                                else
                                  bif bif true then bif false then true else (↑i : Int) == 0 else false then
                                    Mem.le E0 E ∧
                                      K
                                        (SV.tup
                                          [SV.raw
                                              (Value.int IntKind.i64
                                                (unzig
                                                  (IntKind.wrap IntKind.i64
                                                    (↑(BitVec.toNat
                                                          (BitVec.ofInt (IntKind.bits IntKind.i64) u |||
                                                            BitVec.ofInt (IntKind.bits IntKind.i64)
                                                              (IntKind.wrap IntKind.i64
                                                                (IntKind.wrap IntKind.i64 n *
                                                                  2 ^
                                                                    min
                                                                      (Int.toNat (IntKind.wrap IntKind.i64 (7 * (↑i : Int))))
                                                                      (IntKind.bits IntKind.i64))))) :
                                                      Int)))),
                                            SV.raw
                                              (Value.int IntKind.i64
                                                (IntKind.wrap IntKind.i64 (IntKind.wrap IntKind.i64 (a + (↑i : Int)) + 1))),
                                            SV.raw (Value.int IntKind.i64 0)])
                                        E
                                  else
                                    Mem.le E0 E ∧
                                      K
                                        (SV.tup
                                          [SV.raw (Value.int IntKind.i64 0), SV.raw (Value.int IntKind.i64 0),
                                            SV.raw (Value.int IntKind.i64 3)])
                                        E
                              else
                                Mem.le E0 E ∧
                                  K
                                    (SV.tup
                                      [SV.raw (Value.int IntKind.i64 0), SV.raw (Value.int IntKind.i64 0),
                                        SV.raw (Value.int IntKind.i64 3)])
                                    E)
                else
                  bif decide (n ≥ 128) then
                    req (0 ≤ IntKind.wrap IntKind.i64 (7 * (↑i : Int)))
                      (Lp W7 6 Try.f15 [1, 1, 1, 0, 1, 0] 0 (pubK E0 K)
                        {
                          fr :=
                            [some (SV.raw (Value.slice b l c)), some (SV.raw (Value.int IntKind.i64 a)), none, none, none,
                              none, none,
                              some
                                (SV.raw
                                  (Value.int IntKind.i64
                                    (IntKind.wrap IntKind.i64
                                      (↑(BitVec.toNat
                                            (BitVec.ofInt (IntKind.bits IntKind.i64) u |||
                                              BitVec.ofInt (IntKind.bits IntKind.i64)
                                                (IntKind.wrap IntKind.i64
                                                  (IntKind.wrap IntKind.i64 (IntKind.wrap IntKind.u8 (n - 128)) *
                                                    2 ^
                                                      min (Int.toNat (IntKind.wrap IntKind.i64 (7 * (↑i : Int))))
                                                        (IntKind.bits IntKind.i64))))) :
                                        Int)))),
                              none, none, none, none, none, none, none, none, none, none, none, none, none,
                              some (SV.raw (Value.slice b2 l2 c2)), some (SV.raw (Value.int IntKind.i64 (↑l2 : Int))),
                              some (SV.raw (Value.int IntKind.i64 (IntKind.wrap IntKind.i64 ((↑i : Int) + 1)))), none, none,
                              none, none, none, none, none, none, none, none, none, none, none, none, none, none, none, none,
                              none, none, none, none, none, none, none, none, none, none, none, none, none, none, none, none,
                              none, none, none, none, none, none, none, none, none, none, none, none, none],
                          bx := [], E := E })
                  else
                    req (0 ≤ IntKind.wrap IntKind.i64 (7 * (↑i : Int)))
                      ((0 ≤
                            IntKind.wrap IntKind.i64
                              (↑(BitVec.toNat
                                    (BitVec.ofInt (IntKind.bits IntKind.i64) u |||
                                      BitVec.ofInt (IntKind.bits IntKind.i64)
                                        (IntKind.wrap IntKind.i64
                                          (IntKind.wrap IntKind.i64 n *
                                            2 ^
                                              min (Int.toNat (IntKind.wrap IntKind.i64 (7 * (↑i : Int))))
                                                (IntKind.bits IntKind.i64))))) :
                                Int) ∧
                          IntKind.wrap IntKind.i64
                              (↑(BitVec.toNat
                                    (BitVec.ofInt (IntKind.bits IntKind.i64) u |||
                                      BitVec.ofInt (IntKind.bits IntKind.i64)
                                        (IntKind.wrap IntKind.i64
                                          (IntKind.wrap IntKind.i64 n *
                                            2 ^
                                              min (Int.toNat (IntKind.wrap IntKind.i64 (7 * (↑i : Int))))
                                                (IntKind.bits IntKind.i64))))) :
                                Int) <
                            1152921504606846976) ∧
                        Mem.le E E ∧
                          Mem.le E E ∧
                            bif
                                decide
                                  (okN
                                    (unzig
                                      (IntKind.wrap IntKind.i64
                                        (↑(BitVec.toNat
                                              (BitVec.ofInt (IntKind.bits IntKind.i64) u |||
                                                BitVec.ofInt (IntKind.bits IntKind.i64)
                                                  (IntKind.wrap IntKind.i64
                                                    (IntKind.wrap IntKind.i64 n *
                                                      2 ^
                                                        min (Int.toNat (IntKind.wrap IntKind.i64 (7 * (↑i : Int))))
                                                          (IntKind.bits IntKind.i64))))) :
                                          Int)))) then
                              bif decide (n > 0) then
                                Mem.le E0 E ∧
                                  K
                                    (SV.tup
                                      [SV.raw
                                          (Value.int IntKind.i64
                                            (unzig
                                              (IntKind.wrap IntKind.i64
                                                (↑(BitVec.toNat
                                                      (BitVec.ofInt (IntKind.bits IntKind.i64) u |||
                                                        BitVec.ofInt (IntKind.bits IntKind.i64)
                                                          (IntKind.wrap IntKind.i64
                                                            (IntKind.wrap IntKind.i64 n *
                                                              2 ^
                                                                min (Int.toNat (IntKind.wrap IntKind.i64 (7 * (↑i : Int))))
                                                                  (IntKind.bits IntKind.i64))))) :
                                                  Int)))),
                                        SV.raw
                                          (Value.int IntKind.i64
                                            (IntKind.wrap IntKind.i64 (IntKind.wrap IntKind.i64 (a + (↑i : Int)) + 1))),
                                        SV.raw (Value.int IntKind.i64 0)])
                                    E
                              else
                                bif bif true then bif false then true else (↑i : Int) == 0 else false then
                                  Mem.le E0 E ∧
                                    K
                                      (SV.tup
                                        [SV.raw
                                            (Value.int IntKind.i64
                                              (unzig
                                                (IntKind.wrap IntKind.i64
                                                  (↑(BitVec.toNat
                                                        (BitVec.ofInt (IntKind.bits IntKind.i64) u |||
                                                          BitVec.ofInt (IntKind.bits IntKind.i64)
                                                            (IntKind.wrap IntKind.i64
                                                              (IntKind.wrap IntKind.i64 n *
                                                                2 ^
                                                                  min (Int.toNat (IntKind.wrap IntKind.i64 (7 * (↑i : Int))))
                                                                    (IntKind.bits IntKind.i64))))) :
                                                    Int)))),
                                          SV.raw
                                            (Value.int IntKind.i64
                                              (IntKind.wrap IntKind.i64 (IntKind.wrap IntKind.i64 (a + (↑i : Int)) + 1))),
                                          SV.raw (Value.int IntKind.i64 0)])
                                      E
                                else
                                  Mem.le E0 E ∧
                                    K
                                      (SV.tup
                                        [SV.raw (Value.int IntKind.i64 0), SV.raw (Value.int IntKind.i64 0),
                                          SV.raw (Value.int IntKind.i64 3)])
                                      E
                            else
                              Mem.le E0 E ∧
                                K
                                  (SV.tup
                                    [SV.raw (Value.int IntKind.i64 0), SV.raw (Value.int IntKind.i64 0),
                                      SV.raw (Value.int IntKind.i64 3)])
                                  E))
      else
        Mem.le E0 E ∧
          K (SV.tup [SV.raw (Value.int IntKind.i64 0), SV.raw (Value.int IntKind.i64 0), SV.raw (Value.int IntKind.i64 11)]) E)
  have hlen := hB.2.1
  obtain ⟨k, hk⟩ : ∃ k, 7 - i = k + 1 := ⟨6 - i, by omega⟩
  have hk' : 7 - (i + 1) = k := by omega
  rw [hk'] at ih
  rw [hk] at h
  have h7 : IntKind.wrap .i64 (7 * (i : Int)) = 7 * i := wrap_i64 (by omega)
  unfold rdF at h
  refine condC (fun hlt => ?_) (fun hlt => ?_)
  · have hlt : i < l2 := by simpa using hlt
    rw [if_neg (by omega)] at h
    have hc : 0 ≤ ws.getD i 0 ∧ ws.getD i 0 ≤ 255 := by
      refine BsB hB _ ?_
      rw [List.getD_eq_getElem?_getD, List.getElem?_eq_getElem (by omega)]; exact List.getElem_mem _
    refine req_intro ⟨by omega, by omega⟩ ⟨hB.ne hlt, ws.getD i 0, hB.load rfl hlt, ?_⟩
    generalize ws.getD i 0 = c1 at hc h ih
    refine condC (fun h1 => ?_) (fun h1 => ?_)
    · have h1 : 128 ≤ c1 := by simpa using h1
      rw [if_pos h1] at h
      refine condC (fun h2 => ?_) (fun h2 => ?_)
      · have h2 : i = 6 := by simp at h2; omega
        rw [if_pos (by omega)] at h
        exact ⟨hE0, h 0 0 3 E (Mem.le_refl _) rfl⟩
      · have h2 : i < 6 := by simp at h2; omega
        rw [if_neg (by omega)] at h
        refine condC (fun _ => ?_) (fun h3 => absurd h1 (by simp at h3; omega))
        refine req_intro (by rw [h7]; omega) ?_
        have ho := orW hi hu (d := c1 - 128) (by omega)
        have e1 : IntKind.wrap .i64 (IntKind.wrap .u8 (c1 - 128)) = c1 - 128 := by rw [wu8 (by omega), wrap_i64 (by omega)]
        have e2 : IntKind.wrap .i64 ((i : Int) + 1) = ((i + 1 : Nat) : Int) := by rw [wrap_i64 (by omega)]; simp
        rw [e1, ho.1, e2]
        exact Lp_from (by repeat' first | exact True.intro | refine And.intro rfl ?_) (ih _ h2 hlt ho.2 h)
    · have h1 : ¬ 128 ≤ c1 := by simpa using h1
      rw [if_neg h1] at h
      refine condC (fun h3 => absurd h3 (by simp; omega)) (fun _ => ?_)
      refine req_intro (by rw [h7]; omega) ?_
      have ho := orW hi hu (d := c1) (by omega)
      have e1 : IntKind.wrap .i64 c1 = c1 := wrap_i64 (by omega)
      have e2 : IntKind.wrap .i64 (IntKind.wrap .i64 (a + (i : Int)) + 1) = a + i + 1 := by rw [wrap_i64 (x := a + i) (by omega), wrap_i64 (by omega)]
      have hb : (128 : Int) ^ (i + 1) ≤ 128 ^ 7 := by
        have := Nat.pow_le_pow_right (show 128 > 0 by omega) (show i + 1 ≤ 7 by omega)
        exact_mod_cast this
      simp only [e1, ho.1, e2]
      refine ⟨⟨ho.2.1, by have := ho.2.2; simp at hb; omega⟩, Mem.le_refl _, Mem.le_refl _, ?_⟩
      refine condC (fun h4 => ?_) (fun h4 => ?_)
      · have h4 : okN (unzig (u + c1 * 128 ^ i)) := by simpa using h4
        refine condC (fun h5 => ?_) (fun h5 => ?_)
        · have h5 : 0 < c1 := by simpa using h5
          rw [if_pos ⟨h4, .inl h5⟩] at h
          exact ⟨hE0, h _ _ _ E (Mem.le_refl _) rfl⟩
        · have h5 : ¬ 0 < c1 := by simpa using h5
          refine condC (fun h6 => ?_) (fun h6 => ?_)
          · have h6 : i = 0 := by simp at h6; omega
            rw [if_pos ⟨h4, .inr h6⟩] at h
            exact ⟨hE0, h _ _ _ E (Mem.le_refl _) rfl⟩
          · have h6 : ¬ i = 0 := by simp at h6; omega
            rw [if_neg (by rintro ⟨_, q | q⟩; exact h5 q; exact h6 q)] at h
            exact ⟨hE0, h _ _ _ E (Mem.le_refl _) rfl⟩
      · have h4 : ¬ okN (unzig (u + c1 * 128 ^ i)) := by simpa using h4
        rw [if_neg (fun q => h4 q.1)] at h
        exact ⟨hE0, h _ _ _ E (Mem.le_refl _) rfl⟩
  · have hlt : ¬ i < l2 := by simpa using hlt
    rw [if_pos (by omega)] at h
    exact ⟨hE0, h 0 0 11 E (Mem.le_refl _) rfl⟩
theorem s15 {b : Option Addr} {l c : Nat} {zs : List Int} {a : Int} (hB : Bs E b l c zs) (hl : l ≤ 100000) (h : ∀ (n end' e : Int) (E' : Mem), Mem.le E E' → Hyp (rd zs a = (n, end', e)) → K (.tup [I n, I end', I e]) E') : Ent W7 6 Try.f15 [L b l c, I a] E K := by
  refine same (by kernel_rfl) (?_ : 
      bif decide (a < 0) then
        Mem.le E E ∧
          K (SV.tup [SV.raw (Value.int IntKind.i64 0), SV.raw (Value.int IntKind.i64 0), SV.raw (Value.int IntKind.i64 1)]) E
      else
        bif bif false then true else decide (a > (↑l : Int)) then
          Mem.le E E ∧
            K (SV.tup [SV.raw (Value.int IntKind.i64 0), SV.raw (Value.int IntKind.i64 0), SV.raw (Value.int IntKind.i64 1)])
              E
        else
          req (l ≤ c)
            (req (0 ≤ a ∧ a ≤ (↑(toN none l) : Int))
              (∀ (base' : Option Addr) (E' : Mem),
                Mem.le E E' →
                  (∀ (cs : List Value),
                      E (Value.slice b l c) cs →
                        E' (Value.slice base' (toN none l - toN (some a) 0) (toN none c - toN (some a) 0))
                          (List.take ((toN none l - toN (some a) 0) * 1) (List.drop (toN (some a) 0 * 1) cs))) →
                    Option.isNone base' = Option.isNone b →
                      Lp W7 6 Try.f15 [1, 1, 1, 0, 1, 0] 0 (pubK E K)
                        {
                          fr :=
                            [some (SV.raw (Value.slice b l c)), some (SV.raw (Value.int IntKind.i64 a)), none, none, none,
                              none, none, some (SV.raw (Value.int IntKind.i64 0)), none, none, none,
                              some (SV.raw (Value.int IntKind.i64 a)), some (SV.raw (Value.bool (decide (a < 0)))),
                              some (SV.raw (Value.bool false)), some (SV.raw (Value.int IntKind.i64 a)),
                              some (SV.raw (Value.slice b l c)), some (SV.raw (Value.int IntKind.i64 (↑l : Int))),
                              some (SV.raw (Value.bool (decide (a > (↑l : Int))))),
                              some (SV.raw (Value.bool (bif false then true else decide (a > (↑l : Int))))),
                              some (SV.raw (Value.slice b l c)), some (SV.raw (Value.int IntKind.i64 a)),
                              some (SV.raw (Value.slice base' (toN none l - toN (some a) 0) (toN none c - toN (some a) 0))),
                              some (SV.raw (Value.int IntKind.i64 (↑(toN none l - toN (some a) 0) : Int))),
                              some (SV.raw (Value.int IntKind.i64 0)), none, none, none, none, none, none, none, none, none,
                              none, none, none, none, none, none, none, none, none, none, none, none, none, none, none, none,
                              none, none, none, none, none, none, none, none, none, none, none, none, none, none, none, none,
                              none, none, none, none, none, none],
                          bx := [], E := E' })))
  have hlen := hB.2.1
  refine condC (fun h1 => ?_) (fun h1 => ?_)
  · exact ⟨Mem.le_refl _, h 0 0 1 E (Mem.le_refl _) (by show rd zs a = _; unfold rd; rw [if_pos (.inl (by simpa using h1))])⟩
  · have h1 : ¬ a < 0 := by simpa using h1
    refine condC (fun h2 => ?_) (fun h2 => ?_)
    · have h2 : a > l := by simpa using h2
      exact ⟨Mem.le_refl _, h 0 0 1 E (Mem.le_refl _) (by show rd zs a = _; unfold rd; rw [if_pos (.inr (by omega))])⟩
    · have h2 : a ≤ l := by simpa using h2
      have hr : rd zs a = rdF a (zs.drop a.toNat) 7 0 0 := by unfold rd; rw [if_neg (by omega)]
      rw [hr] at h
      refine req_intro hB.2.2.1 (req_intro ⟨by omega, h2⟩ ?_)
      intro b2 E' hE hF hN
      have hB2 : Bs E' b2 (l - a.toNat) (c - a.toNat) (zs.drop a.toNat) := by
        refine ⟨?_, by simp [hlen], by have := hB.2.2.1; omega, fun z hz => BsB hB z (List.drop_subset _ _ hz), fun e => ?_⟩
        · rcases hB.1 with q | q
          · exact .inl (by rw [q]; simp)
          · refine .inr ?_
            have := hF _ q
            rw [Nat.mul_one, Nat.mul_one, ← List.map_drop, List.take_of_length_le (by show _ ≤ l - a.toNat; rw [List.length_map, List.length_drop, hlen]; exact Nat.le_refl _)] at this
            exact this
        · have : zs = [] := hB.2.2.2.2 (by cases b with | none => rfl | some x => rw [e] at hN; cases hN)
          rw [this]; simp
      have key := Lp_ind okW7 (n := 6) (fn := Try.f15) (p := [1, 1, 1, 0, 1, 0]) (n0 := 0) (K := pubK E K) (fun x : {x : Nat × Int // I15 E' K a (zs.drop a.toNat) (l - a.toNat) x.1 x.2} => sh15 b l c a b2 (l - a.toNat) (c - a.toNat) x.1.1 x.1.2 E') (fun x => 7 - x.1.1) (by
        rintro ⟨⟨i, u⟩, hP⟩ ih
        have hP : I15 E' K a (zs.drop a.toNat) (l - a.toNat) i u := hP
        have g6 := hP.i6
        refine rnd15 hB2 hE (by omega) (by omega) hP.i6 hP.il hP.hu hP.h (fun u' q1 q2 q3 q4 => ?_)
        exact ih ⟨⟨i + 1, u'⟩, ⟨q1, q2, q3, q4⟩⟩ (by show 7 - (i + 1) < 7 - i; omega))
      exact Lp_from (by repeat' first | exact True.intro | refine And.intro rfl ?_) (key ⟨⟨0, 0⟩, ⟨by omega, by omega, by simp, fun n e' e E2 hE2 hy => h n e' e E2 (Mem.le_trans hE hE2) hy⟩⟩)

end Go.Proofs.Ytjlpfhekhpebpaa.WireOwn
