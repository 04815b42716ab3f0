/- The law WireEnds. -/
import Derived.Test.YtjlpfhekhpebpaaWire12
import Derived.Test.YtjlpfhekhpebpaaRows
namespace Go.Proofs.Ytjlpfhekhpebpaa.WireOwn
open Go Go.Sx Go.Proofs.Ytjlpfhekhpebpaa
set_option maxRecDepth 100000
set_option maxHeartbeats 4000000
set_option linter.unusedVariables false
set_option linter.unusedSimpArgs false
variable {E : Mem} {K : SV → Mem → Prop}
theorem pk_inv {k f t a y : Int} {zs ys : List Int} (h : pk k f t a y zs = (ys, 0)) : okF k f t a y ∧ zs.length ≤ 4000 ∧ ys = pkL k f t a y zs := by
  unfold pk at h
  split at h
  · rename_i q
    obtain ⟨rfl, _⟩ := Prod.mk.inj h
    exact ⟨q.1, q.2, rfl⟩
  · simp at h
theorem pkL_len {k f t a y : Int} {zs : List Int} (hz : zs.length ≤ 6000) : 6 ≤ (pkL k f t a y zs).length ∧ (pkL k f t a y zs).length ≤ zs.length + 60 := by
  have h1 := dig_len (zig k); have h2 := dig_len (zig f); have h3 := dig_len (zig t); have h4 := dig_len (zig a); have h5 := dig_len (zig y); have h6 := dig_len (zig zs.length)
  unfold pkL
  simp only [List.length_append]; omega
noncomputable def WL7a : Cx := { P := Try.prog, inl := fun f => List.contains [] f, tab := fun _ _ _ _ => False, isB := fun _ => false, tabB := fun _ _ _ _ _ => False, opt := { unroll := 0, carry := [] }, muts := mutsD }
theorem okWL7a : CxOK WL7a := ⟨fun _ _ _ _ h => h.elim, by kernel_rfl, okInl (by kernel_rfl), fun _ _ _ _ _ h => h.elim⟩
theorem s26 {a1 : Int} {a2 : Int} (h0 : (-9223372036854775808 ≤ a1 ∧ a1 ≤ 9223372036854775807)) (h1 : 0 < a2) (h : ∀ r : Int, Hyp (0 ≤ r ∧ r < a2) → K (I r) E) :
    Ent WL7a 6 Try.f26 [I a1, I a2] E K := by
  refine same (by kernel_rfl) (?_ : 
      bif decide (a1 < 0) then
        (a2 = 0 → False) ∧
          Mem.le E E ∧
            K
              (SV.raw
                (Value.int IntKind.i64 (Int.tmod (IntKind.wrap IntKind.i64 (0 - IntKind.wrap IntKind.i64 (a1 + 1))) a2)))
              E
      else (a2 = 0 → False) ∧ Mem.le E E ∧ K (SV.raw (Value.int IntKind.i64 (Int.tmod a1 a2))) E)
  refine condC (fun g => ?_) (fun g => ?_)
  · have g : a1 < 0 := by simpa using g
    rw [wrap_i64 (x := a1 + 1) (by omega), wrap_i64 (by omega), Int.tmod_eq_emod_of_nonneg (by omega)]
    exact ⟨by omega, Mem.le_refl _, h _ ⟨Int.emod_nonneg _ (by omega), Int.emod_lt_of_pos _ h1⟩⟩
  · have g : ¬ a1 < 0 := by simpa using g
    rw [Int.tmod_eq_emod_of_nonneg (by omega)]
    exact ⟨by omega, Mem.le_refl _, h _ ⟨Int.emod_nonneg _ (by omega), Int.emod_lt_of_pos _ h1⟩⟩
noncomputable def tabL7 : FuncId → List SV → Mem → (SV → Mem → Prop) → Prop := fun f args E K => match f with
  | 10 => d0 args ((∀ (E' : Mem), Mem.le E E' → K (B true) E'))
  | 21 => d1 args fun x0 => dC x0 fun l1 => d6 l1 fun x0_0 x0_1 x0_2 x0_3 x0_4 x0_5 => dI x0_0 fun a1 => dI x0_1 fun a2 => dI x0_2 fun a3 => dI x0_3 fun a4 => dI x0_4 fun a5 => dS x0_5 fun b6 l7 c8 => ∃ (zs : List Int), Bs E b6 l7 c8 zs ∧ l7 ≤ 100000 ∧ (∀ (b' : Option Addr) (l' c' : Nat) (ys : List Int) (e : Int) (E' : Mem), Mem.le E E' → Hyp (pk a1 a2 a3 a4 a5 zs = (ys, e)) → Bs E' b' l' c' ys → K (.tup [L b' l' c', I e]) E')
  | 23 => d1 args fun x0 => dS x0 fun b1 l2 c3 => ∃ (zs : List Int), Bs E b1 l2 c3 zs ∧ l2 ≤ 100000 ∧ (∀ (k1 f1 t1 a1 y1 : Int) (b1 : Option Addr) (l1 c1 : Nat) (ys : List Int) (e1 : Int) (E' : Mem), Mem.le E E' → Hyp (uk0 zs 0 = ([k1, f1, t1, a1, y1], ys, e1)) → Bs E' b1 l1 c1 ys → K (.tup [.agg [I k1, I f1, I t1, I a1, I y1, L b1 l1 c1], I e1]) E')
  | 26 => d2 args fun x0 x1 => dI x0 fun a1 => dI x1 fun a2 => (-9223372036854775808 ≤ a1 ∧ a1 ≤ 9223372036854775807) ∧ 0 < a2 ∧ (∀ r : Int, Hyp (0 ≤ r ∧ r < a2) → K (I r) E)
  | _ => False
theorem tabL7_ok : TabOK Try.prog tabL7 := by
  intro f args E K h
  unfold tabL7 at h
  split at h
  · obtain ⟨rfl, h⟩ := d0_elim h
    exact TabSem.congr rfl (Ent.sem okWJ Try.func10 ⟨by kernel_rfl, by kernel_rfl⟩ rfl (s10 h))
  · obtain ⟨x0, rfl, h⟩ := d1_elim h
    obtain ⟨l1, hl1, h⟩ := dC_elim h
    obtain ⟨x0_0, x0_1, x0_2, x0_3, x0_4, x0_5, rfl, h⟩ := d6_elim h
    obtain ⟨a1, rfl, h⟩ := dI_elim h
    obtain ⟨a2, rfl, h⟩ := dI_elim h
    obtain ⟨a3, rfl, h⟩ := dI_elim h
    obtain ⟨a4, rfl, h⟩ := dI_elim h
    obtain ⟨a5, rfl, h⟩ := dI_elim h
    obtain ⟨b6, l7, c8, rfl, h⟩ := dS_elim h
    obtain ⟨zs, g0, g1, h⟩ := h
    exact TabSem.congr (valL_cons (asCells_val hl1) rfl) (Ent.sem okWE Try.func21 ⟨by kernel_rfl, by kernel_rfl⟩ rfl (s21 g0 g1 h))
  · obtain ⟨x0, rfl, h⟩ := d1_elim h
    obtain ⟨b1, l2, c3, rfl, h⟩ := dS_elim h
    obtain ⟨zs, g0, g1, h⟩ := h
    exact TabSem.congr (valL_cons rfl rfl) (Ent.sem okWG Try.func23 ⟨by kernel_rfl, by kernel_rfl⟩ rfl (s23 g0 g1 h))
  · obtain ⟨x0, x1, rfl, h⟩ := d2_elim h
    obtain ⟨a1, rfl, h⟩ := dI_elim h
    obtain ⟨a2, rfl, h⟩ := dI_elim h
    obtain ⟨g0, g1, h⟩ := h
    exact TabSem.congr (valL_cons rfl (valL_cons rfl rfl)) (Ent.sem okWL7a Try.func26 ⟨by kernel_rfl, by kernel_rfl⟩ rfl (s26 g0 g1 h))
  · exact h.elim
noncomputable def WL7 : Cx := { P := Try.prog, inl := fun f => List.contains [11] f, tab := tabL7, isB := fun _ => false, tabB := fun _ _ _ _ _ => False, opt := { unroll := 0, carry := [], cuts := [10] }, muts := mutsD }
theorem okWL7 : CxOK WL7 := ⟨tabL7_ok, by kernel_rfl, okInl (by kernel_rfl), fun _ _ _ _ _ h => h.elim⟩
def shL7 (b2 : Option Addr) (l2 c2 : Nat) (b3 : Option Addr) (l3 c3 : Nat) (E : Mem) : St := { fr := [none, none, some (L b2 l2 c2), none, none, none, none, some (B true), some (L b3 l3 c3), none, none, some (I 11), none, none, none, none, none, none, none, none, none, none, none, none, none, none, none, none, none, none, none, none, none, none, none, none, none, none, none, none, none, none, none, none, none, none, none, none, none, none, none, none, none, none, none, none, none, none, none, none, none, none, none, none, none, none, none, none, none, none, none, none, none, none, none, none, none, none], bx := [], E := E }
theorem pcL7_10 {b2 : Option Addr} {l2 c2 : Nat} {b3 : Option Addr} {l3 c3 : Nat} {z1 z2 : List Int} {a1 a2 a3 a4 a5 : Int} {E0 : Mem} (hB2 : Bs E b2 l2 c2 z2) (hB3 : Bs E b3 l3 c3 (pkL a1 a2 a3 a4 a5 z1)) (hk : okF a1 a2 a3 a4 a5) (g1 : z1.length ≤ 4000) (g2 : l2 ≤ 6000) (hE0 : Mem.le E0 E) (h : ∀ E', Mem.le E E' → K (B true) E') :
    Pc WL7 6 Try.f7 [1, 1, 1, 1, 1, 1, 1] 0 (pubK E0 K) (shL7 b2 l2 c2 b3 l3 c3 E) := by
  refine same (by kernel_rfl) (?_ : 
      ∃ (cs : List Value),
        (cs = [] ∨ E (Value.slice b3 l3 c3) cs) ∧
          l3 * 1 ≤ List.length cs ∧
            (∀ (x : Value), List.Mem x cs → Value.oneCell' x = true) ∧
              0 ≤ 20000 ∧
                20000 ≤ 20000 ∧
                  0 ≤ 20000 ∧
                    req ((0 + l3) * 1 ≤ 140737488355328)
                      (∀ (cap' tot' : Nat),
                        0 + l3 ≤ cap' →
                          cap' * 1 ≤ tot' →
                            ∃ (cs_1 : List Value),
                              (cs_1 = [] ∨ E (Value.slice b2 l2 c2) cs_1) ∧
                                l2 * 1 ≤ List.length cs_1 ∧
                                  (∀ (x : Value), List.Mem x cs_1 → Value.oneCell' x = true) ∧
                                    (0 + l3) * 1 ≤
                                        List.length
                                          (Row.cells
                                            (Row.vals
                                              (List.take 0 (zerosV [Value.int IntKind.u8 0] 20000) ++
                                                List.take (l3 * 1) cs))) ∧
                                      cap' * 1 ≤ tot' ∧
                                        0 + l3 ≤ cap' ∧
                                          req ((0 + l3 + l2) * 1 ≤ 140737488355328)
                                            (∀ (cap' tot' : Nat),
                                              0 + l3 + l2 ≤ cap' →
                                                cap' * 1 ≤ tot' →
                                                  ∀ (base : Option Addr) (E' : Mem),
                                                    Mem.le E E' →
                                                      WinE E' base
                                                          (List.take ((0 + l3) * 1)
                                                              (List.take 0 (zerosV [Value.int IntKind.u8 0] 20000) ++
                                                                List.take (l3 * 1) cs) ++
                                                            List.take (l2 * 1) cs_1) →
                                                        ∃ (zs : List Int),
                                                          ((zs = [] ∨
                                                                E'
                                                                  (Value.slice
                                                                    (Option.map (fun (x : Addr) => Addr.add x 0) base)
                                                                    (0 + l3 + l2) cap')
                                                                  (List.map (Value.int IntKind.u8) zs)) ∧
                                                              List.length zs = 0 + l3 + l2 ∧
                                                                0 + l3 + l2 ≤ cap' ∧
                                                                  (∀ (z : Int), List.Mem z zs → 0 ≤ z ∧ z ≤ 255) ∧
                                                                    (Option.map (fun (x : Addr) => Addr.add x 0) base = none →
                                                                      zs = [])) ∧
                                                            0 + l3 + l2 ≤ 100000 ∧
                                                              ∀ (k1 f1 t1 a1 y1 : Int) (b1 : Option Addr) (l1 c1 : Nat)
                                                                (ys : List Int) (e1 : Int) (E'_1 : Mem),
                                                                Mem.le E' E'_1 →
                                                                  Hyp (uk0 zs 0 = ([k1, f1, t1, a1, y1], ys, e1)) →
                                                                    (ys = [] ∨
                                                                          E'_1 (Value.slice b1 l1 c1)
                                                                            (List.map (Value.int IntKind.u8) ys)) ∧
                                                                        List.length ys = l1 ∧
                                                                          l1 ≤ c1 ∧
                                                                            (∀ (z : Int), List.Mem z ys → 0 ≤ z ∧ z ≤ 255) ∧
                                                                              (b1 = none → ys = []) →
                                                                      bif (↑l2 : Int) == 0 then
                                                                        bif bif true then e1 == 0 else false then
                                                                          Mem.le E0 E'_1 ∧ K (SV.raw (Value.bool true)) E'_1
                                                                        else
                                                                          bif decide ((↑l2 : Int) > 0) then
                                                                            Mem.le E0 E'_1 ∧
                                                                              K
                                                                                (SV.raw
                                                                                  (Value.bool
                                                                                    (bif true then
                                                                                      bif false then true
                                                                                      else bif true then e1 == 11 else false
                                                                                    else false)))
                                                                                E'_1
                                                                          else
                                                                            Mem.le E0 E'_1 ∧
                                                                              K (SV.raw (Value.bool false)) E'_1
                                                                      else
                                                                        bif decide ((↑l2 : Int) > 0) then
                                                                          Mem.le E0 E'_1 ∧
                                                                            K
                                                                              (SV.raw
                                                                                (Value.bool
                                                                                  (bif true then
                                                                                    bif false then true
                                                                                    else bif true then e1 == 11 else false
                                                                                  else false)))
                                                                              E'_1
                                                                        else
                                                                          Mem.le E0 E'_1 ∧
                                                                            K (SV.raw (Value.bool false)) E'_1)))
  have hlen2 := hB2.2.1
  have hl3 := hB3.2.1
  have hl := pkL_len (k := a1) (f := a2) (t := a3) (a := a4) (y := a5) (zs := z1) (by omega)
  obtain ⟨s1, s2, s3⟩ := hB3.src
  obtain ⟨t1, t2, t3⟩ := hB2.src
  have e3 : List.take (l3 * 1) (vB (pkL a1 a2 a3 a4 a5 z1)) = vB (pkL a1 a2 a3 a4 a5 z1) := tkB (Nat.le_of_eq hl3)
  refine ⟨_, s1, s2, s3, Nat.zero_le _, Nat.le_refl _, Nat.zero_le _, req_intro (by omega) ?_⟩
  intro cap1 tot1 q1 q2
  refine ⟨_, t1, t2, t3, ?_, q2, q1, req_intro (by omega) ?_⟩
  · rw [e3]; simp only [Row.cells, List.take_zero, List.nil_append, List.length_map]; omega
  intro cap2 tot2 q3 q4 base E1 hE1 hW
  rw [List.take_zero, List.nil_append, e3, tkB (l := 0 + l3) (by omega), tkB (Nat.le_of_eq hB2.2.1), mapB] at hW
  have hL := Bs.win hW rfl (l := 0 + l3 + l2) (by rw [List.length_append, hl3, hlen2]; omega) q3 (app_byte (BsB hB3) (BsB hB2))
  refine ⟨_, hL, by omega, fun k f t a y b6 l6 c6 ys e E2 hE2 hy A => ?_⟩
  have hy : uk0 (pkL a1 a2 a3 a4 a5 z1 ++ z2) 0 = ([k, f, t, a, y], ys, e) := hy
  have q12 := Mem.le_trans hE1 hE2
  have hh := h E2 q12
  have hE := Mem.le_trans hE0 q12
  have e0 : e = if z2.length = 0 then 0 else 11 := by
    by_cases hz : z2.length = 0
    · rw [if_pos hz]
      rw [List.length_eq_zero_iff.1 hz, List.append_nil, uk_pk hk g1] at hy
      simp only [Prod.mk.injEq] at hy
      exact hy.2.2.symm
    · rw [if_neg hz]
      rw [uk_long hk g1 (by omega)] at hy
      simp only [bad, Prod.mk.injEq] at hy
      exact hy.2.2.symm
  by_cases hz : z2.length = 0
  · rw [if_pos hz] at e0
    have hl2 : l2 = 0 := by omega
    subst e0
    subst hl2
    exact condC (fun _ => condC (fun _ => ⟨hE, hh⟩) (fun x => absurd x (by simp))) (fun x => absurd x (by simp))
  · rw [if_neg hz] at e0
    have hl2 : (l2 : Int) ≠ 0 := by omega
    have hl2' : (l2 : Int) > 0 := by omega
    subst e0
    refine condC (fun x => absurd x (by simp; omega)) (fun _ => ?_)
    exact condC (fun _ => ⟨hE, hh⟩) (fun x => absurd x (by simp; omega))
theorem e7 {a1 : Int} {a2 : Int} {a3 : Int} {a4 : Int} {a5 : Int} {b1 : Option Addr} {l1 : Nat} {c1 : Nat} {z1 : List Int} {a6 : Int} {b2 : Option Addr} {l2 : Nat} {c2 : Nat} {z2 : List Int} (ha1 : (Lit.int .i64 a1).wf = true) (ha2 : (Lit.int .i64 a2).wf = true) (ha3 : (Lit.int .i64 a3).wf = true) (ha4 : (Lit.int .i64 a4).wf = true) (ha5 : (Lit.int .i64 a5).wf = true) (hB1 : Bs E b1 l1 c1 z1) (ha6 : (Lit.int .i64 a6).wf = true) (hB2 : Bs E b2 l2 c2 z2) (h : ∀ E' : Mem, Mem.le E E' → K (B true) E') :
    Ent WL7 6 Try.f7 [.agg [I a1, I a2, I a3, I a4, I a5, L b1 l1 c1], I a6, L b2 l2 c2] E K := by
  refine same (by kernel_rfl) (?_ : 
      ∀ (E' : Mem),
        Mem.le E E' →
          Mem.le E E' ∧
            bif decide ((↑l1 : Int) > 6000) then Mem.le E E' ∧ K (SV.raw (Value.bool true)) E'
            else
              bif bif false then true else decide ((↑l2 : Int) > 6000) then Mem.le E E' ∧ K (SV.raw (Value.bool true)) E'
              else
                ∃ (zs : List Int),
                  ((zs = [] ∨ E' (Value.slice b1 l1 c1) (List.map (Value.int IntKind.u8) zs)) ∧
                      List.length zs = l1 ∧
                        l1 ≤ c1 ∧ (∀ (z : Int), List.Mem z zs → 0 ≤ z ∧ z ≤ 255) ∧ (b1 = none → zs = [])) ∧
                    l1 ≤ 100000 ∧
                      ∀ (b' : Option Addr) (l' c' : Nat) (ys : List Int) (e : Int) (E'_1 : Mem),
                        Mem.le E' E'_1 →
                          Hyp (pk a1 a2 a3 a4 a5 zs = (ys, e)) →
                            (ys = [] ∨ E'_1 (Value.slice b' l' c') (List.map (Value.int IntKind.u8) ys)) ∧
                                List.length ys = l' ∧
                                  l' ≤ c' ∧ (∀ (z : Int), List.Mem z ys → 0 ≤ z ∧ z ≤ 255) ∧ (b' = none → ys = []) →
                              Mem.le E' E'_1 ∧
                                bif e != 0 then Mem.le E E'_1 ∧ K (SV.raw (Value.bool true)) E'_1
                                else
                                  bif (↑l' : Int) == 0 then Mem.le E E'_1 ∧ K (SV.raw (Value.bool false)) E'_1
                                  else
                                    (-9223372036854775808 ≤ a6 ∧ a6 ≤ 9223372036854775807) ∧
                                      0 < (↑l' : Int) ∧
                                        ∀ (r : Int),
                                          Hyp (0 ≤ r ∧ r < (↑l' : Int)) →
                                            Mem.le E'_1 E'_1 ∧
                                              req (l' ≤ c')
                                                (req (0 ≤ r ∧ r ≤ (↑(toN none c') : Int))
                                                  (∀ (base' : Option Addr) (E' : Mem),
                                                    Mem.le E'_1 E' →
                                                      (∀ (cs : List Value),
                                                          E'_1 (Value.slice b' l' c') cs →
                                                            E' (Value.slice base' (toN (some r) l' - 0) (toN none c' - 0))
                                                              (List.take ((toN (some r) l' - 0) * 1) (List.drop 0 cs))) →
                                                        Option.isNone base' = Option.isNone b' →
                                                          ∃ (zs : List Int),
                                                            ((zs = [] ∨
                                                                  E'
                                                                    (Value.slice base' (toN (some r) l' - 0)
                                                                      (toN none c' - 0))
                                                                    (List.map (Value.int IntKind.u8) zs)) ∧
                                                                List.length zs = toN (some r) l' - 0 ∧
                                                                  toN (some r) l' - 0 ≤ toN none c' - 0 ∧
                                                                    (∀ (z : Int), List.Mem z zs → 0 ≤ z ∧ z ≤ 255) ∧
                                                                      (base' = none → zs = [])) ∧
                                                              toN (some r) l' - 0 ≤ 100000 ∧
                                                                ∀ (k1 f1 t1 a1_1 y1 : Int) (b1_1 : Option Addr)
                                                                  (l1_1 c1_1 : Nat) (ys : List Int) (e1 : Int) (E'_2 : Mem),
                                                                  Mem.le E' E'_2 →
                                                                    Hyp (uk0 zs 0 = ([k1, f1, t1, a1_1, y1], ys, e1)) →
                                                                      (ys = [] ∨
                                                                            E'_2 (Value.slice b1_1 l1_1 c1_1)
                                                                              (List.map (Value.int IntKind.u8) ys)) ∧
                                                                          List.length ys = l1_1 ∧
                                                                            l1_1 ≤ c1_1 ∧
                                                                              (∀ (z : Int), List.Mem z ys → 0 ≤ z ∧ z ≤ 255) ∧
                                                                                (b1_1 = none → ys = []) →
                                                                        Mem.le E' E'_2 ∧
                                                                          Ct WL7 6 Try.f7 [1, 1, 1, 1, 1, 1, 1] 0 (pubK E K)
                                                                            {
                                                                              fr :=
                                                                                [some
                                                                                    (SV.agg
                                                                                      [SV.raw (Value.int IntKind.i64 a1),
                                                                                        SV.raw (Value.int IntKind.i64 a2),
                                                                                        SV.raw (Value.int IntKind.i64 a3),
                                                                                        SV.raw (Value.int IntKind.i64 a4),
                                                                                        SV.raw (Value.int IntKind.i64 a5),
                                                                                        SV.raw (Value.slice b1 l1 c1)]),
                                                                                  some (SV.raw (Value.int IntKind.i64 a6)),
                                                                                  some (SV.raw (Value.slice b2 l2 c2)),
                                                                                  some (SV.loc 0 0), none, none,
                                                                                  some (SV.raw (Value.bool false)),
                                                                                  some (SV.raw (Value.bool true)),
                                                                                  some (SV.raw (Value.slice b' l' c')),
                                                                                  some (SV.raw (Value.int IntKind.i64 e)),
                                                                                  some (SV.loc 1 0),
                                                                                  some (SV.raw (Value.int IntKind.i64 e1)),
                                                                                  none, none, some (SV.raw (Value.bool true)),
                                                                                  some (SV.loc 0 5),
                                                                                  some (SV.raw (Value.slice b1 l1 c1)),
                                                                                  some
                                                                                    (SV.raw
                                                                                      (Value.int IntKind.i64 (↑l1 : Int))),
                                                                                  some
                                                                                    (SV.raw
                                                                                      (Value.bool
                                                                                        (decide ((↑l1 : Int) > 6000)))),
                                                                                  some (SV.raw (Value.bool false)),
                                                                                  some (SV.raw (Value.slice b2 l2 c2)),
                                                                                  some
                                                                                    (SV.raw
                                                                                      (Value.int IntKind.i64 (↑l2 : Int))),
                                                                                  some
                                                                                    (SV.raw
                                                                                      (Value.bool
                                                                                        (decide ((↑l2 : Int) > 6000)))),
                                                                                  some
                                                                                    (SV.raw
                                                                                      (Value.bool
                                                                                        (bif false then true
                                                                                        else decide ((↑l2 : Int) > 6000)))),
                                                                                  none,
                                                                                  some
                                                                                    (SV.tup
                                                                                      [SV.raw (Value.slice b' l' c'),
                                                                                        SV.raw (Value.int IntKind.i64 e)]),
                                                                                  some
                                                                                    (SV.agg
                                                                                      [SV.raw (Value.int IntKind.i64 a1),
                                                                                        SV.raw (Value.int IntKind.i64 a2),
                                                                                        SV.raw (Value.int IntKind.i64 a3),
                                                                                        SV.raw (Value.int IntKind.i64 a4),
                                                                                        SV.raw (Value.int IntKind.i64 a5),
                                                                                        SV.raw (Value.slice b1 l1 c1)]),
                                                                                  some
                                                                                    (SV.tup
                                                                                      [SV.raw (Value.slice b' l' c'),
                                                                                        SV.raw (Value.int IntKind.i64 e)]),
                                                                                  some (SV.raw (Value.slice b' l' c')),
                                                                                  some (SV.raw (Value.int IntKind.i64 e)),
                                                                                  some (SV.raw (Value.int IntKind.i64 e)),
                                                                                  some (SV.raw (Value.bool (e != 0))), none,
                                                                                  some (SV.raw (Value.slice b' l' c')),
                                                                                  some
                                                                                    (SV.raw
                                                                                      (Value.int IntKind.i64 (↑l' : Int))),
                                                                                  some
                                                                                    (SV.raw (Value.bool ((↑l' : Int) == 0))),
                                                                                  some
                                                                                    (SV.tup
                                                                                      [SV.agg
                                                                                          [SV.raw (Value.int IntKind.i64 k1),
                                                                                            SV.raw (Value.int IntKind.i64 f1),
                                                                                            SV.raw (Value.int IntKind.i64 t1),
                                                                                            SV.raw
                                                                                              (Value.int IntKind.i64 a1_1),
                                                                                            SV.raw (Value.int IntKind.i64 y1),
                                                                                            SV.raw
                                                                                              (Value.slice b1_1 l1_1 c1_1)],
                                                                                        SV.raw (Value.int IntKind.i64 e1)]),
                                                                                  some (SV.raw (Value.slice b' l' c')),
                                                                                  some (SV.raw (Value.int IntKind.i64 a6)),
                                                                                  some (SV.raw (Value.slice b' l' c')),
                                                                                  some
                                                                                    (SV.raw
                                                                                      (Value.int IntKind.i64 (↑l' : Int))),
                                                                                  some (SV.raw (Value.int IntKind.i64 r)),
                                                                                  some
                                                                                    (SV.raw
                                                                                      (Value.slice base' (toN (some r) l' - 0)
                                                                                        (toN none c' - 0))),
                                                                                  some
                                                                                    (SV.tup
                                                                                      [SV.agg
                                                                                          [SV.raw (Value.int IntKind.i64 k1),
                                                                                            SV.raw (Value.int IntKind.i64 f1),
                                                                                            SV.raw (Value.int IntKind.i64 t1),
                                                                                            SV.raw
                                                                                              (Value.int IntKind.i64 a1_1),
                                                                                            SV.raw (Value.int IntKind.i64 y1),
                                                                                            SV.raw
                                                                                              (Value.slice b1_1 l1_1 c1_1)],
                                                                                        SV.raw (Value.int IntKind.i64 e1)]),
                                                                                  some
                                                                                    (SV.agg
                                                                                      [SV.raw (Value.int IntKind.i64 k1),
                                                                                        SV.raw (Value.int IntKind.i64 f1),
                                                                                        SV.raw (Value.int IntKind.i64 t1),
                                                                                        SV.raw (Value.int IntKind.i64 a1_1),
                                                                                        SV.raw (Value.int IntKind.i64 y1),
                                                                                        SV.raw (Value.slice b1_1 l1_1 c1_1)]),
                                                                                  some (SV.raw (Value.int IntKind.i64 e1)),
                                                                                  none, none, none, none, none, none, none,
                                                                                  none, none, none, none, none, none, none,
                                                                                  none, none, none, none, none, none, none,
                                                                                  none, none, none, none, none, none, none,
                                                                                  none, none, none, none],
                                                                              bx :=
                                                                                [{ elem := 24,
                                                                                    row :=
                                                                                      Row.lst
                                                                                        [SV.raw (Value.int IntKind.i64 a1),
                                                                                          SV.raw (Value.int IntKind.i64 a2),
                                                                                          SV.raw (Value.int IntKind.i64 a3),
                                                                                          SV.raw (Value.int IntKind.i64 a4),
                                                                                          SV.raw (Value.int IntKind.i64 a5),
                                                                                          SV.raw (Value.slice b1 l1 c1)],
                                                                                    total := 6, own := true },
                                                                                  { elem := 24,
                                                                                    row :=
                                                                                      Row.lst
                                                                                        [SV.raw (Value.int IntKind.i64 k1),
                                                                                          SV.raw (Value.int IntKind.i64 f1),
                                                                                          SV.raw (Value.int IntKind.i64 t1),
                                                                                          SV.raw (Value.int IntKind.i64 a1_1),
                                                                                          SV.raw (Value.int IntKind.i64 y1),
                                                                                          SV.raw
                                                                                            (Value.slice b1_1 l1_1 c1_1)],
                                                                                    total := 6, own := true }],
                                                                              E := E'_2 })))
  intro E1 hE0
  have hlen := hB1.2.1
  refine ⟨hE0, condC (fun _ => ⟨hE0, h E1 hE0⟩) (fun g1 => ?_)⟩
  have g1 : l1 ≤ 6000 := by simp at g1; omega
  refine condC (fun _ => ⟨hE0, h E1 hE0⟩) (fun g2 => ?_)
  have g2 : l2 ≤ 6000 := by simp at g2; omega
  refine ⟨_, hB1.mono hE0, by omega, fun b4 l4 c4 ys e E2 q2 hy A => ⟨q2, ?_⟩⟩
  have hy : pk a1 a2 a3 a4 a5 z1 = (ys, e) := hy
  have A : Bs E2 b4 l4 c4 ys := A
  have hq := Mem.le_trans hE0 q2
  refine condC (fun g => ⟨hq, h E2 hq⟩) (fun g => ?_)
  have g : e = 0 := by simpa using g
  subst g
  obtain ⟨o1, o2, rfl⟩ := pk_inv hy
  have hl := pkL_len (k := a1) (f := a2) (t := a3) (a := a4) (y := a5) (zs := z1) (by omega)
  have hl4 := A.2.1
  refine condC (fun x => absurd x (by simp; omega)) (fun _ => ?_)
  have hw6 : -9223372036854775808 ≤ a6 ∧ a6 ≤ 9223372036854775807 := by simpa [Lit.wf, IntKind.min, IntKind.max, IntKind.signed, IntKind.bits] using ha6
  refine ⟨hw6, by omega, fun r hr => ⟨Mem.le_refl _, ?_⟩⟩
  have hr : 0 ≤ r ∧ r < (l4 : Int) := hr
  have hcc := A.2.2.1
  refine req_intro hcc (req_intro ⟨hr.1, by show r ≤ (c4 : Int); omega⟩ ?_)
  intro b5 E3 q3 hF hN
  have hS : Bs E3 b5 (r.toNat - 0) (c4 - 0) (((pkL a1 a2 a3 a4 a5 z1).drop 0).take (r.toNat - 0)) := Bs.sub A hF hN (by omega) (by omega)
  rw [List.drop_zero] at hS
  refine ⟨_, hS, by show r.toNat - 0 ≤ _; omega, fun k f t a y b6 l6 c6 xs e E4 q4 hz A6 => ⟨q4, ?_⟩⟩
  have hz : uk0 ((pkL a1 a2 a3 a4 a5 z1).take (r.toNat - 0)) 0 = ([k, f, t, a, y], xs, e) := hz
  rw [uk_cut o1 o2 (by omega)] at hz
  simp only [bad, Prod.mk.injEq] at hz
  have he : e = 11 := hz.2.2.symm
  subst he
  have hq4 := Mem.le_trans hq (Mem.le_trans q3 q4)
  exact Ct_re [] (Ct_intro okWL7 (pcL7_10 (hB2.mono hq4) (A.mono (Mem.le_trans q3 q4)) o1 o2 g2 hq4 (fun E' hE' => h E' (Mem.le_trans hq4 hE')))) ⟨⟨Nat.zero_le _, Nat.zero_le _, fun j h => absurd h (Nat.not_lt_zero _)⟩, rfl, (by repeat' first | exact True.intro | refine And.intro (Or.inl rfl) ?_), True.intro, (by show List.Nodup []; decide), Mem.le_refl _⟩


theorem opn7 (W : World) (K : List SV → Prop) (h : ∀ a1 : Int, (Lit.int .i64 a1).wf = true → ∀ a2 : Int, (Lit.int .i64 a2).wf = true → ∀ a3 : Int, (Lit.int .i64 a3).wf = true → ∀ a4 : Int, (Lit.int .i64 a4).wf = true → ∀ a5 : Int, (Lit.int .i64 a5).wf = true → ∀ (b1 : Option Addr) (l1 c1 : Nat) (z1 : List Int), (l1 ≤ c1) → (c1 ≤ maxLen) → (b1 = none → c1 = 0) → (z1.length = c1) → (∀ x ∈ z1, (Lit.int .u8 x).wf = true) → RowAt W (.slice b1 l1 c1) (z1.map (.int .u8)) → ∀ a6 : Int, (Lit.int .i64 a6).wf = true → ∀ (b2 : Option Addr) (l2 c2 : Nat) (z2 : List Int), (l2 ≤ c2) → (c2 ≤ maxLen) → (b2 = none → c2 = 0) → (z2.length = c2) → (∀ x ∈ z2, (Lit.int .u8 x).wf = true) → RowAt W (.slice b2 l2 c2) (z2.map (.int .u8)) → K [.agg [I a1, I a2, I a3, I a4, I a5, L b1 l1 c1], I a6, L b2 l2 c2]) : opnAll Try.prog W Try.f7.params.toList K :=
  same (by kernel_rfl) h

theorem sem7 (W : World) : opnAll Try.prog W Try.f7.params.toList fun ss => TabSem Try.prog 7 ss (fun v cs => RowAt W v cs) fun r _ => r = .raw (.bool true) := by
  refine opn7 W _ ?_
  intro a1 ha1 a2 ha2 a3 ha3 a4 ha4 a5 ha5 b1 l1 c1 z1 hl1 hc1 hb1 hz1 hw1 hE1 a6 ha6 b2 l2 c2 z2 hl2 hc2 hb2 hz2 hw2 hE2
  exact Ent.sem okWL7 Try.func7 ⟨by kernel_rfl, by kernel_rfl⟩ rfl (e7 ha1 ha2 ha3 ha4 ha5 (Bs.of hl1 hb1 hz1 hw1 hE1) ha6 (Bs.of hl2 hb2 hz2 hw2 hE2) (fun _ _ => rfl))

theorem lifted7 (os : Os) (started : os.Started) (H : Type) (enc : TypeId × Value → H) :
    ReturnsInHanded {} Try.checked os 7 .any (Rows.wireEndsSpec.pre6 enc Try.prog Try.f7 Rows.wireEndsRow.domain false) (Rows.wireEndsSpec.post enc Try.prog Try.f7 false true false false) :=
  lift_true (C := Try.checked) (by kernel_rfl) (by kernel_rfl) started (by kernel_rfl) Try.func7
    (ChangeSpec.witness6 (enc := enc) (C := Try.checked) false ⟨#[], #[.agg #[.int .i64 0, .int .i64 0, .int .i64 0, .int .i64 0, .int .i64 0, .slice none 0 0], .int .i64 0, .slice none 0 0], []⟩ 8 (by kernel_rfl) (by kernel_rfl) (by kernel_rfl) (by kernel_rfl))
    (Tb := 4) (by kernel_rfl) (by kernel_rfl) (by kernel_rfl) rfl
    (fun ds hl => by
      match ds, hl with
      | [d0, d1, d2], _ => exact ⟨rfl, rfl, rfl⟩)
    sem7

theorem over7 : Rows.wireEndsRow.holds Try.pinned (OpenSpec.ofChange Rows.wireEndsSpec) :=
  OpenClaim.holds_of_wide 7 Try.f7 rfl rfl rfl rfl rfl rfl rfl ⟨rfl, rfl, rfl, rfl, rfl⟩ rfl rfl rfl rfl rfl (by kernel_rfl) Try.func7 (by kernel_rfl)
    (of_decide_eq_true (by kernel_rfl)) (by unfold Func.isWrapper; first | (rw [if_pos (by decide +kernel)]; kernel_rfl) | (rw [if_neg (by decide +kernel)]; exact ⟨rfl, rfl⟩))
    (fun os started H enc _ => lifted7 os started H enc)

theorem proved7 : Rows.WireEndsSaid := over7
end Go.Proofs.Ytjlpfhekhpebpaa.WireOwn
