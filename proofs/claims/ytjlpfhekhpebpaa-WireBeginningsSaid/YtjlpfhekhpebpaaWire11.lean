/- The wire package: what its functions answer. -/
import Derived.Test.YtjlpfhekhpebpaaWire10
namespace Go.Proofs.Ytjlpfhekhpebpaa.WireOwn
open Go Go.Sx
set_option maxRecDepth 100000
set_option maxHeartbeats 4000000
set_option linter.unusedVariables false
set_option linter.unusedSimpArgs false
variable {E : Mem} {K : SV → Mem → Prop}

theorem s12' {b1 : Option Addr} {l2 : Nat} {c3 : Nat} {a4 : Int} {zs : List Int} (h0 : Bs E b1 l2 c3 zs) (h1 : l2 ≤ 10000) (h : ∀ (b' : Option Addr) (l' c' : Nat) (ys : List Int) (e : Int) (E' : Mem), Mem.le E E' → Hyp (putN zs a4 = (ys, e)) → Bs E' b' l' c' ys → K (.tup [L b' l' c', I e]) E') : Ent W1 6 Try.f12 [L b1 l2 c3, I a4] E K := s12 h0 (by omega) h
noncomputable def tab20 : FuncId → List SV → Mem → (SV → Mem → Prop) → Prop := fun f args E K => match f with
  | 12 => d2 args fun x0 x1 => dS x0 fun b1 l2 c3 => dI x1 fun a4 => ∃ (zs : List Int), Bs E b1 l2 c3 zs ∧ l2 ≤ 10000 ∧ (∀ (b' : Option Addr) (l' c' : Nat) (ys : List Int) (e : Int) (E' : Mem), Mem.le E E' → Hyp (putN zs a4 = (ys, e)) → Bs E' b' l' c' ys → K (.tup [L b' l' c', I e]) E')
  | 15 => d2 args fun x0 x1 => dS x0 fun b1 l2 c3 => dI x1 fun a4 => ∃ (zs : List Int), Bs E b1 l2 c3 zs ∧ l2 ≤ 100000 ∧ (∀ (n end' e : Int) (E' : Mem), Mem.le E E' → Hyp (rd zs a4 = (n, end', e)) → K (.tup [I n, I end', I e]) E')
  | 14 => d2 args fun x0 x1 => dS x0 fun b1 l2 c3 => dS x1 fun b4 l5 c6 => ∃ (zs : List Int) (xs : List Int), Bs E b1 l2 c3 zs ∧ Bs E b4 l5 c6 xs ∧ l2 ≤ 100000 ∧ (∀ r : Bool, Hyp (decide (zs = xs) = r) → K (B r) E)
  | _ => False
theorem tab20_ok : TabOK Try.prog tab20 := by
  intro f args E K h
  unfold tab20 at h
  split at h
  · obtain ⟨x0, x1, rfl, h⟩ := d2_elim h
    obtain ⟨b1, l2, c3, rfl, h⟩ := dS_elim h
    obtain ⟨a4, rfl, h⟩ := dI_elim h
    obtain ⟨zs, g0, g1, h⟩ := h
    exact TabSem.congr (valL_cons rfl (valL_cons rfl rfl)) (Ent.sem okW1 Try.func12 ⟨by kernel_rfl, by kernel_rfl⟩ rfl (s12' g0 g1 h))
  · obtain ⟨x0, x1, rfl, h⟩ := d2_elim h
    obtain ⟨b1, l2, c3, rfl, h⟩ := dS_elim h
    obtain ⟨a4, rfl, h⟩ := dI_elim h
    obtain ⟨zs, g0, g1, h⟩ := h
    exact TabSem.congr (valL_cons rfl (valL_cons rfl rfl)) (Ent.sem okW7 Try.func15 ⟨by kernel_rfl, by kernel_rfl⟩ rfl (s15 g0 g1 h))
  · obtain ⟨x0, x1, rfl, h⟩ := d2_elim h
    obtain ⟨b1, l2, c3, rfl, h⟩ := dS_elim h
    obtain ⟨b4, l5, c6, rfl, h⟩ := dS_elim h
    obtain ⟨zs, xs, g0, g1, g2, h⟩ := h
    exact TabSem.congr (valL_cons rfl (valL_cons rfl rfl)) (Ent.sem okWB Try.func14 ⟨by kernel_rfl, by kernel_rfl⟩ rfl (s14 g0 g1 g2 h))
  · exact h.elim
noncomputable def WI : Cx := { P := Try.prog, inl := fun f => List.contains [] f, tab := tab20, isB := fun _ => false, tabB := fun _ _ _ _ _ => False, opt := { unroll := 0, carry := [] }, muts := mutsD }
theorem okWI : CxOK WI := ⟨tab20_ok, by kernel_rfl, okInl (by kernel_rfl), fun _ _ _ _ _ h => h.elim⟩

def numS (n : Int) (ws : List Int) : Bool := match putN [] n, rd ws 0 with
  | (b, e), (m, en, f) => e == 0 && f == 0 && decide (b = ws) && m == n && en == ws.length
theorem s27 {a1 : Int} {b2 : Option Addr} {l3 : Nat} {c4 : Nat} {zs : List Int} (h0 : Bs E b2 l3 c4 zs) (h1 : l3 ≤ 100000) (h : ∀ (r : Bool) (E' : Mem), Mem.le E E' → Hyp (numS a1 zs = r) → K (B r) E') :
    Ent WI 6 Try.f27 [I a1, L b2 l3 c4] E K := by
  refine same (by kernel_rfl) (?_ : 
      ∃ (zs : List Int),
        ((zs = [] ∨ E (Value.slice none 0 0) (List.map (Value.int IntKind.u8) zs)) ∧
            List.length zs = 0 ∧ 0 ≤ 0 ∧ (∀ (z : Int), List.Mem z zs → 0 ≤ z ∧ z ≤ 255) ∧ ((none : Option Addr) = none → zs = [])) ∧
          0 ≤ 10000 ∧
            ∀ (b' : Option Addr) (l' c' : Nat) (ys : List Int) (e : Int) (E' : Mem),
              Mem.le E E' →
                Hyp (putN zs a1 = (ys, e)) →
                  (ys = [] ∨ E' (Value.slice b' l' c') (List.map (Value.int IntKind.u8) ys)) ∧
                      List.length ys = l' ∧ l' ≤ c' ∧ (∀ (z : Int), List.Mem z ys → 0 ≤ z ∧ z ≤ 255) ∧ (b' = none → ys = []) →
                    Mem.le E E' ∧
                      ∃ (zs : List Int),
                        ((zs = [] ∨ E' (Value.slice b2 l3 c4) (List.map (Value.int IntKind.u8) zs)) ∧
                            List.length zs = l3 ∧
                              l3 ≤ c4 ∧ (∀ (z : Int), List.Mem z zs → 0 ≤ z ∧ z ≤ 255) ∧ (b2 = none → zs = [])) ∧
                          l3 ≤ 100000 ∧
                            ∀ (n end' e_1 : Int) (E'_1 : Mem),
                              Mem.le E' E'_1 →
                                Hyp (rd zs 0 = (n, end', e_1)) →
                                  Mem.le E' E'_1 ∧
                                    bif e == 0 then
                                      bif bif true then e_1 == 0 else false then
                                        ∃ (zs : List Int),
                                          ∃ (xs : List Int),
                                            ((zs = [] ∨ E'_1 (Value.slice b' l' c') (List.map (Value.int IntKind.u8) zs)) ∧
                                                List.length zs = l' ∧
                                                  l' ≤ c' ∧
                                                    (∀ (z : Int), List.Mem z zs → 0 ≤ z ∧ z ≤ 255) ∧ (b' = none → zs = [])) ∧
                                              ((xs = [] ∨ E'_1 (Value.slice b2 l3 c4) (List.map (Value.int IntKind.u8) xs)) ∧
                                                  List.length xs = l3 ∧
                                                    l3 ≤ c4 ∧
                                                      (∀ (z : Int), List.Mem z xs → 0 ≤ z ∧ z ≤ 255) ∧
                                                        (b2 = none → xs = [])) ∧
                                                l' ≤ 100000 ∧
                                                  ∀ (r : Bool),
                                                    Hyp (decide (zs = xs) = r) →
                                                      Mem.le E'_1 E'_1 ∧
                                                        bif bif true then r else false then
                                                          bif bif true then n == a1 else false then
                                                            Mem.le E E'_1 ∧
                                                              K
                                                                (SV.raw
                                                                  (Value.bool (bif true then end' == (↑l3 : Int) else false)))
                                                                E'_1
                                                          else Mem.le E E'_1 ∧ K (SV.raw (Value.bool false)) E'_1
                                                        else Mem.le E E'_1 ∧ K (SV.raw (Value.bool false)) E'_1
                                      else Mem.le E E'_1 ∧ K (SV.raw (Value.bool false)) E'_1
                                    else Mem.le E E'_1 ∧ K (SV.raw (Value.bool false)) E'_1)
  refine ⟨[], Bs.nil _, by omega, fun b1 l1 c1 ys e E1 hE1 hy hB1 => ⟨hE1, zs, h0.mono hE1, h1, fun n en f E2 hE2 hr => ⟨hE2, ?_⟩⟩⟩
  have hy : putN [] a1 = (ys, e) := hy
  have hr : rd zs 0 = (n, en, f) := hr
  have hB1 : Bs E1 b1 l1 c1 ys := hB1
  have hlen := h0.2.1
  have hE := Mem.le_trans hE1 hE2
  have go : ∀ r : Bool, (e == 0 && f == 0 && decide (ys = zs) && n == a1 && en == l3) = r → K (B r) E2 := fun r q => h r E2 hE (by show numS a1 zs = r; unfold numS; rw [hy, hr, hlen]; exact q)
  refine condC (fun g => ?_) (fun g => ?_)
  · refine condC (fun g2 => ?_) (fun g2 => ?_)
    · have hl : l1 ≤ 100000 := by
        rw [← hB1.2.1]
        unfold putN at hy
        split at hy
        · cases hy; have := dig_len7 (zig a1); simp; omega
        · cases hy; simp
      refine ⟨ys, zs, hB1.mono hE2, h0.mono hE, hl, fun r hq => ⟨Mem.le_refl _, ?_⟩⟩
      have hq : decide (ys = zs) = r := hq
      rw [hq] at go
      refine condC (fun g3 => ?_) (fun g3 => ?_)
      · refine condC (fun g4 => ?_) (fun g4 => ?_)
        · exact ⟨hE, go _ (by simp_all)⟩
        · exact ⟨hE, go _ (by simp_all)⟩
      · exact ⟨hE, go _ (by simp_all)⟩
    · exact ⟨hE, go _ (by simp_all)⟩
  · exact ⟨hE, go _ (by simp_all)⟩
theorem s27' {a1 : Int} {b2 : Option Addr} {l3 : Nat} {c4 : Nat} {zs : List Int} (h0 : Bs E b2 l3 c4 zs) (h1 : l3 ≤ 100000) (h2 : numS a1 zs = true) (h : ∀ (E' : Mem), Mem.le E E' → K (B true) E') : Ent WI 6 Try.f27 [I a1, L b2 l3 c4] E K := s27 h0 h1 (fun r E' hE hr => by have hr : numS a1 zs = r := hr; rw [h2] at hr; subst hr; exact h E' hE)
theorem h14 {b1 : Option Addr} {l2 : Nat} {c3 : Nat} {b4 : Option Addr} {l5 : Nat} {c6 : Nat} {zs : List Int} (h0 : Bs E b1 l2 c3 zs) (h1 : Bs E b4 l5 c6 zs) (h2 : l2 ≤ 100000) (h : K (B true) E) : Ent WB 6 Try.f14 [L b1 l2 c3, L b4 l5 c6] E K := s14 h0 h1 h2 (fun r hr => by have hr : decide (zs = zs) = r := hr; simp at hr; subst hr; exact h)
theorem h25 {a1 : Int} {a2 : Int} {a3 : Int} {a4 : Int} {a5 : Int} {b6 : Option Addr} {l7 : Nat} {c8 : Nat} {a9 : Int} {a10 : Int} {a11 : Int} {a12 : Int} {a13 : Int} {b14 : Option Addr} {l15 : Nat} {c16 : Nat} {zs : List Int} (h0 : Bs E b6 l7 c8 zs) (h1 : Bs E b14 l15 c16 zs) (h2 : l7 ≤ 100000) (h3 : [a1, a2, a3, a4, a5] = [a9, a10, a11, a12, a13]) (h : K (B true) E) : Ent WC 6 Try.f25 [.agg [I a1, I a2, I a3, I a4, I a5, L b6 l7 c8], .agg [I a9, I a10, I a11, I a12, I a13, L b14 l15 c16]] E K := s25 h0 h1 h2 (fun r hr => by have hr : decide ((_, zs) = (_, zs)) = r := hr; rw [h3] at hr; simp at hr; subst hr; exact h)
theorem h21 {a1 : Int} {a2 : Int} {a3 : Int} {a4 : Int} {a5 : Int} {b6 : Option Addr} {l7 : Nat} {c8 : Nat} {zs : List Int} {ys : List Int} (h0 : Bs E b6 l7 c8 zs) (h1 : l7 ≤ 100000) (h2 : pk a1 a2 a3 a4 a5 zs = (ys, 0)) (h : ∀ (b' : Option Addr) (l' c' : Nat) (E' : Mem), Mem.le E E' → Bs E' b' l' c' ys → K (.tup [L b' l' c', I 0]) E') : Ent WE 6 Try.f21 [.agg [I a1, I a2, I a3, I a4, I a5, L b6 l7 c8]] E K := s21 h0 h1 (fun b l c y e E' hE hy hB => by have hy : pk _ _ _ _ _ zs = (y, e) := hy; rw [h2] at hy; cases hy; exact h b l c E' hE hB)
theorem h23 {b1 : Option Addr} {l2 : Nat} {c3 : Nat} {zs : List Int} (h0 : Bs E b1 l2 c3 zs) (h1 : l2 ≤ 100000) (h2 : (uk0 zs 0).2.2 = (bif l2 == 8 then 0 else 11)) (h : ∀ (k1 f1 t1 a1 y1 : Int) (b1 : Option Addr) (l1 c1 : Nat) (ys : List Int) (E' : Mem), Mem.le E E' → Hyp (uk0 zs 0 = ([k1, f1, t1, a1, y1], ys, bif l2 == 8 then 0 else 11)) → Bs E' b1 l1 c1 ys → K (.tup [.agg [I k1, I f1, I t1, I a1, I y1, L b1 l1 c1], I (bif l2 == 8 then 0 else 11)]) E') : Ent WG 6 Try.f23 [L b1 l2 c3] E K := s23 h0 h1 (fun k f t a y b l c ys e E' hE hy hB => by have hy : uk0 zs 0 = ([k, f, t, a, y], ys, e) := hy; have e1 : e = (bif l2 == 8 then 0 else 11) := by { rw [hy] at h2; exact h2 }; rw [e1] at hy ⊢; exact h k f t a y b l c ys E' hE hy hB)
theorem h15 {b1 : Option Addr} {l2 : Nat} {c3 : Nat} {a4 : Int} {zs : List Int} (h0 : Bs E b1 l2 c3 zs) (h1 : l2 ≤ 100000) (h2 : (rd zs a4).2.2 = 3) (h : ∀ (n end' : Int) (E' : Mem), Mem.le E E' → K (.tup [I n, I end', I 3]) E') : Ent W7 6 Try.f15 [L b1 l2 c3, I a4] E K := s15 h0 h1 (fun n e' e E' hE hy => by have hy : rd zs _ = (n, e', e) := hy; rw [hy] at h2; have h2 : e = 3 := h2; subst h2; exact h n e' E' hE)
theorem h17 {b1 : Option Addr} {l2 : Nat} {c3 : Nat} {b4 : Option Addr} {l5 : Nat} {c6 : Nat} {zs : List Int} {xs : List Int} {ys : List Int} (h0 : Bs E b1 l2 c3 zs) (h1 : Bs E b4 l5 c6 xs) (h2 : l2 ≤ 10000) (h3 : putB zs xs = (ys, 0)) (h : ∀ (b' : Option Addr) (l' c' : Nat) (E' : Mem), Mem.le E E' → Bs E' b' l' c' ys → K (.tup [L b' l' c', I 0]) E') : Ent W6 6 Try.f17 [L b1 l2 c3, L b4 l5 c6] E K := s17 h0 h1 h2 (fun b l c y e E' hE hy hB => by have hy : putB zs xs = (y, e) := hy; rw [h3] at hy; cases hy; exact h b l c E' hE hB)
noncomputable def tab21 : FuncId → List SV → Mem → (SV → Mem → Prop) → Prop := fun f args E K => match f with
  | 27 => d2 args fun x0 x1 => dI x0 fun a1 => dS x1 fun b2 l3 c4 => ∃ (zs : List Int), Bs E b2 l3 c4 zs ∧ l3 ≤ 100000 ∧ numS a1 zs = true ∧ (∀ (E' : Mem), Mem.le E E' → K (B true) E')
  | 14 => d2 args fun x0 x1 => dS x0 fun b1 l2 c3 => dS x1 fun b4 l5 c6 => ∃ (zs : List Int), Bs E b1 l2 c3 zs ∧ Bs E b4 l5 c6 zs ∧ l2 ≤ 100000 ∧ (K (B true) E)
  | 25 => d2 args fun x0 x1 => dC x0 fun l1 => d6 l1 fun x0_0 x0_1 x0_2 x0_3 x0_4 x0_5 => dI x0_0 fun a1 => dI x0_1 fun a2 => dI x0_2 fun a3 => dI x0_3 fun a4 => dI x0_4 fun a5 => dS x0_5 fun b6 l7 c8 => dC x1 fun l2 => d6 l2 fun x1_0 x1_1 x1_2 x1_3 x1_4 x1_5 => dI x1_0 fun a9 => dI x1_1 fun a10 => dI x1_2 fun a11 => dI x1_3 fun a12 => dI x1_4 fun a13 => dS x1_5 fun b14 l15 c16 => ∃ (zs : List Int), Bs E b6 l7 c8 zs ∧ Bs E b14 l15 c16 zs ∧ l7 ≤ 100000 ∧ [a1, a2, a3, a4, a5] = [a9, a10, a11, a12, a13] ∧ (K (B true) E)
  | 21 => d1 args fun x0 => dC x0 fun l1 => d6 l1 fun x0_0 x0_1 x0_2 x0_3 x0_4 x0_5 => dI x0_0 fun a1 => dI x0_1 fun a2 => dI x0_2 fun a3 => dI x0_3 fun a4 => dI x0_4 fun a5 => dS x0_5 fun b6 l7 c8 => ∃ (zs : List Int) (ys : List Int), Bs E b6 l7 c8 zs ∧ l7 ≤ 100000 ∧ pk a1 a2 a3 a4 a5 zs = (ys, 0) ∧ (∀ (b' : Option Addr) (l' c' : Nat) (E' : Mem), Mem.le E E' → Bs E' b' l' c' ys → K (.tup [L b' l' c', I 0]) E')
  | 23 => d1 args fun x0 => dS x0 fun b1 l2 c3 => ∃ (zs : List Int), Bs E b1 l2 c3 zs ∧ l2 ≤ 100000 ∧ (uk0 zs 0).2.2 = (bif l2 == 8 then 0 else 11) ∧ (∀ (k1 f1 t1 a1 y1 : Int) (b1 : Option Addr) (l1 c1 : Nat) (ys : List Int) (E' : Mem), Mem.le E E' → Hyp (uk0 zs 0 = ([k1, f1, t1, a1, y1], ys, bif l2 == 8 then 0 else 11)) → Bs E' b1 l1 c1 ys → K (.tup [.agg [I k1, I f1, I t1, I a1, I y1, L b1 l1 c1], I (bif l2 == 8 then 0 else 11)]) E')
  | 15 => d2 args fun x0 x1 => dS x0 fun b1 l2 c3 => dI x1 fun a4 => ∃ (zs : List Int), Bs E b1 l2 c3 zs ∧ l2 ≤ 100000 ∧ (rd zs a4).2.2 = 3 ∧ (∀ (n end' : Int) (E' : Mem), Mem.le E E' → K (.tup [I n, I end', I 3]) E')
  | 17 => d2 args fun x0 x1 => dS x0 fun b1 l2 c3 => dS x1 fun b4 l5 c6 => ∃ (zs : List Int) (xs : List Int) (ys : List Int), Bs E b1 l2 c3 zs ∧ Bs E b4 l5 c6 xs ∧ l2 ≤ 10000 ∧ putB zs xs = (ys, 0) ∧ (∀ (b' : Option Addr) (l' c' : Nat) (E' : Mem), Mem.le E E' → Bs E' b' l' c' ys → K (.tup [L b' l' c', I 0]) E')
  | _ => False
theorem tab21_ok : TabOK Try.prog tab21 := by
  intro f args E K h
  unfold tab21 at h
  split at h
  · obtain ⟨x0, x1, rfl, h⟩ := d2_elim h
    obtain ⟨a1, rfl, h⟩ := dI_elim h
    obtain ⟨b2, l3, c4, rfl, h⟩ := dS_elim h
    obtain ⟨zs, g0, g1, g2, h⟩ := h
    exact TabSem.congr (valL_cons rfl (valL_cons rfl rfl)) (Ent.sem okWI Try.func27 ⟨by kernel_rfl, by kernel_rfl⟩ rfl (s27' g0 g1 g2 h))
  · obtain ⟨x0, x1, rfl, h⟩ := d2_elim h
    obtain ⟨b1, l2, c3, rfl, h⟩ := dS_elim h
    obtain ⟨b4, l5, c6, rfl, h⟩ := dS_elim h
    obtain ⟨zs, g0, g1, g2, h⟩ := h
    exact TabSem.congr (valL_cons rfl (valL_cons rfl rfl)) (Ent.sem okWB Try.func14 ⟨by kernel_rfl, by kernel_rfl⟩ rfl (h14 g0 g1 g2 h))
  · obtain ⟨x0, x1, rfl, h⟩ := d2_elim h
    obtain ⟨l1, hl1, h⟩ := dC_elim h
    obtain ⟨x0_0, x0_1, x0_2, x0_3, x0_4, x0_5, rfl, h⟩ := d6_elim h
    obtain ⟨a1, rfl, h⟩ := dI_elim h
    obtain ⟨a2, rfl, h⟩ := dI_elim h
    obtain ⟨a3, rfl, h⟩ := dI_elim h
    obtain ⟨a4, rfl, h⟩ := dI_elim h
    obtain ⟨a5, rfl, h⟩ := dI_elim h
    obtain ⟨b6, l7, c8, rfl, h⟩ := dS_elim h
    obtain ⟨l2, hl2, h⟩ := dC_elim h
    obtain ⟨x1_0, x1_1, x1_2, x1_3, x1_4, x1_5, rfl, h⟩ := d6_elim h
    obtain ⟨a9, rfl, h⟩ := dI_elim h
    obtain ⟨a10, rfl, h⟩ := dI_elim h
    obtain ⟨a11, rfl, h⟩ := dI_elim h
    obtain ⟨a12, rfl, h⟩ := dI_elim h
    obtain ⟨a13, rfl, h⟩ := dI_elim h
    obtain ⟨b14, l15, c16, rfl, h⟩ := dS_elim h
    obtain ⟨zs, g0, g1, g2, g3, h⟩ := h
    exact TabSem.congr (valL_cons (asCells_val hl1) (valL_cons (asCells_val hl2) rfl)) (Ent.sem okWC Try.func25 ⟨by kernel_rfl, by kernel_rfl⟩ rfl (h25 g0 g1 g2 g3 h))
  · obtain ⟨x0, rfl, h⟩ := d1_elim h
    obtain ⟨l1, hl1, h⟩ := dC_elim h
    obtain ⟨x0_0, x0_1, x0_2, x0_3, x0_4, x0_5, rfl, h⟩ := d6_elim h
    obtain ⟨a1, rfl, h⟩ := dI_elim h
    obtain ⟨a2, rfl, h⟩ := dI_elim h
    obtain ⟨a3, rfl, h⟩ := dI_elim h
    obtain ⟨a4, rfl, h⟩ := dI_elim h
    obtain ⟨a5, rfl, h⟩ := dI_elim h
    obtain ⟨b6, l7, c8, rfl, h⟩ := dS_elim h
    obtain ⟨zs, ys, g0, g1, g2, h⟩ := h
    exact TabSem.congr (valL_cons (asCells_val hl1) rfl) (Ent.sem okWE Try.func21 ⟨by kernel_rfl, by kernel_rfl⟩ rfl (h21 g0 g1 g2 h))
  · obtain ⟨x0, rfl, h⟩ := d1_elim h
    obtain ⟨b1, l2, c3, rfl, h⟩ := dS_elim h
    obtain ⟨zs, g0, g1, g2, h⟩ := h
    exact TabSem.congr (valL_cons rfl rfl) (Ent.sem okWG Try.func23 ⟨by kernel_rfl, by kernel_rfl⟩ rfl (h23 g0 g1 g2 h))
  · obtain ⟨x0, x1, rfl, h⟩ := d2_elim h
    obtain ⟨b1, l2, c3, rfl, h⟩ := dS_elim h
    obtain ⟨a4, rfl, h⟩ := dI_elim h
    obtain ⟨zs, g0, g1, g2, h⟩ := h
    exact TabSem.congr (valL_cons rfl (valL_cons rfl rfl)) (Ent.sem okW7 Try.func15 ⟨by kernel_rfl, by kernel_rfl⟩ rfl (h15 g0 g1 g2 h))
  · obtain ⟨x0, x1, rfl, h⟩ := d2_elim h
    obtain ⟨b1, l2, c3, rfl, h⟩ := dS_elim h
    obtain ⟨b4, l5, c6, rfl, h⟩ := dS_elim h
    obtain ⟨zs, xs, ys, g0, g1, g2, g3, h⟩ := h
    exact TabSem.congr (valL_cons rfl (valL_cons rfl rfl)) (Ent.sem okW6 Try.func17 ⟨by kernel_rfl, by kernel_rfl⟩ rfl (h17 g0 g1 g2 g3 h))
  · exact h.elim
noncomputable def WJ : Cx := { P := Try.prog, inl := fun f => List.contains [] f, tab := tab21, isB := fun _ => false, tabB := fun _ _ _ _ _ => False, opt := { unroll := 0, carry := [] }, muts := mutsD }
theorem okWJ : CxOK WJ := ⟨tab21_ok, by kernel_rfl, okInl (by kernel_rfl), fun _ _ _ _ _ h => h.elim⟩
theorem s10  (h : ∀ (E' : Mem), Mem.le E E' → K (B true) E') :
    Ent WJ 6 Try.f10 [] E K := by
  refine same (by kernel_rfl) (?_ : 
      ∀ (base : Option Addr) (E' : Mem),
        Mem.le E E' →
          WinE E' base [Value.int IntKind.u8 0] →
            ∃ (zs : List Int),
              ((zs = [] ∨
                    E' (Value.slice (Option.map (fun (x : Addr) => Addr.add x 0) base) 1 1)
                      (List.map (Value.int IntKind.u8) zs)) ∧
                  List.length zs = 1 ∧
                    1 ≤ 1 ∧
                      (∀ (z : Int), List.Mem z zs → 0 ≤ z ∧ z ≤ 255) ∧
                        (Option.map (fun (x : Addr) => Addr.add x 0) base = none → zs = [])) ∧
                1 ≤ 100000 ∧
                  numS 0 zs = true ∧
                    ∀ (E'_1 : Mem),
                      Mem.le E' E'_1 →
                        ∀ (base : Option Addr) (E' : Mem),
                          Mem.le E'_1 E' →
                            WinE E' base [Value.int IntKind.u8 1] →
                              ∃ (zs : List Int),
                                ((zs = [] ∨
                                      E' (Value.slice (Option.map (fun (x : Addr) => Addr.add x 0) base) 1 1)
                                        (List.map (Value.int IntKind.u8) zs)) ∧
                                    List.length zs = 1 ∧
                                      1 ≤ 1 ∧
                                        (∀ (z : Int), List.Mem z zs → 0 ≤ z ∧ z ≤ 255) ∧
                                          (Option.map (fun (x : Addr) => Addr.add x 0) base = none → zs = [])) ∧
                                  1 ≤ 100000 ∧
                                    numS (-1) zs = true ∧
                                      ∀ (E'_2 : Mem),
                                        Mem.le E' E'_2 →
                                          ∀ (base : Option Addr) (E' : Mem),
                                            Mem.le E'_2 E' →
                                              WinE E' base [Value.int IntKind.u8 2] →
                                                ∃ (zs : List Int),
                                                  ((zs = [] ∨
                                                        E'
                                                          (Value.slice (Option.map (fun (x : Addr) => Addr.add x 0) base) 1 1)
                                                          (List.map (Value.int IntKind.u8) zs)) ∧
                                                      List.length zs = 1 ∧
                                                        1 ≤ 1 ∧
                                                          (∀ (z : Int), List.Mem z zs → 0 ≤ z ∧ z ≤ 255) ∧
                                                            (Option.map (fun (x : Addr) => Addr.add x 0) base = none →
                                                              zs = [])) ∧
                                                    1 ≤ 100000 ∧
                                                      numS 1 zs = true ∧
                                                        ∀ (E'_3 : Mem),
                                                          Mem.le E' E'_3 →
                                                            ∀ (base : Option Addr) (E' : Mem),
                                                              Mem.le E'_3 E' →
                                                                WinE E' base [Value.int IntKind.u8 126] →
                                                                  ∃ (zs : List Int),
                                                                    ((zs = [] ∨
                                                                          E'
                                                                            (Value.slice
                                                                              (Option.map (fun (x : Addr) => Addr.add x 0)
                                                                                base)
                                                                              1 1)
                                                                            (List.map (Value.int IntKind.u8) zs)) ∧
                                                                        List.length zs = 1 ∧
                                                                          1 ≤ 1 ∧
                                                                            (∀ (z : Int), List.Mem z zs → 0 ≤ z ∧ z ≤ 255) ∧
                                                                              (Option.map (fun (x : Addr) => Addr.add x 0)
                                                                                    base =
                                                                                  none →
                                                                                zs = [])) ∧
                                                                      1 ≤ 100000 ∧
                                                                        numS 63 zs = true ∧
                                                                          ∀ (E'_4 : Mem),
                                                                            Mem.le E' E'_4 →
                                                                              ∀ (base : Option Addr) (E' : Mem),
                                                                                Mem.le E'_4 E' →
                                                                                  WinE E' base [Value.int IntKind.u8 127] →
                                                                                    ∃ (zs : List Int),
                                                                                      ((zs = [] ∨
                                                                                            E'
                                                                                              (Value.slice
                                                                                                (Option.map
                                                                                                  (fun (x : Addr) =>
                                                                                                    Addr.add x 0)
                                                                                                  base)
                                                                                                1 1)
                                                                                              (List.map (Value.int IntKind.u8)
                                                                                                zs)) ∧
                                                                                          List.length zs = 1 ∧
                                                                                            1 ≤ 1 ∧
                                                                                              (∀ (z : Int),
                                                                                                  List.Mem z zs →
                                                                                                    0 ≤ z ∧ z ≤ 255) ∧
                                                                                                (Option.map
                                                                                                      (fun (x : Addr) =>
                                                                                                        Addr.add x 0)
                                                                                                      base =
                                                                                                    none →
                                                                                                  zs = [])) ∧
                                                                                        1 ≤ 100000 ∧
                                                                                          numS (-64) zs = true ∧
                                                                                            ∀ (E'_5 : Mem),
                                                                                              Mem.le E' E'_5 →
                                                                                                ∀ (base : Option Addr)
                                                                                                  (E' : Mem),
                                                                                                  Mem.le E'_5 E' →
                                                                                                    WinE E' base
                                                                                                        [Value.int IntKind.u8
                                                                                                            128,
                                                                                                          Value.int IntKind.u8
                                                                                                            1] →
                                                                                                      ∃ (zs : List Int),
                                                                                                        ((zs = [] ∨
                                                                                                              E'
                                                                                                                (Value.slice
                                                                                                                  (Option.map
                                                                                                                    (fun
                                                                                                                        (x :
                                                                                                                          Addr) =>
                                                                                                                      Addr.add
                                                                                                                        x 0)
                                                                                                                    base)
                                                                                                                  2 2)
                                                                                                                (List.map
                                                                                                                  (Value.int
                                                                                                                    IntKind.u8)
                                                                                                                  zs)) ∧
                                                                                                            List.length zs =
                                                                                                                2 ∧
                                                                                                              2 ≤ 2 ∧
                                                                                                                (∀ (z : Int),
                                                                                                                    List.Mem z
                                                                                                                        zs →
                                                                                                                      0 ≤ z ∧
                                                                                                                        z ≤
                                                                                                                          255) ∧
                                                                                                                  (Option.map
                                                                                                                        (fun
                                                                                                                            (x :
                                                                                                                              Addr) =>
                                                                                                                          Addr.add
                                                                                                                            x
                                                                                                                            0)
                                                                                                                        base =
                                                                                                                      none →
                                                                                                                    zs =
                                                                                                                      [])) ∧
                                                                                                          2 ≤ 100000 ∧
                                                                                                            numS 64 zs =
                                                                                                                true ∧
                                                                                                              ∀ (E'_6 : Mem),
                                                                                                                Mem.le E'
                                                                                                                    E'_6 →
                                                                                                                  ∀
                                                                                                                    (base :
                                                                                                                      Option
                                                                                                                        Addr)
                                                                                                                    (E' :
                                                                                                                      Mem),
                                                                                                                    Mem.le
                                                                                                                        E'_6
                                                                                                                        E' →
                                                                                                                      WinE E'
                                                                                                                          base
                                                                                                                          [Value.int
                                                                                                                              IntKind.u8
                                                                                                                              216,
                                                                                                                            Value.int
                                                                                                                              IntKind.u8
                                                                                                                              4] →
                                                                                                                        ∃ (zs
                                                                                                                          :
                                                                                                                          List
                                                                                                                            Int),
                                                                                                                          ((zs =
                                                                                                                                  [] ∨
                                                                                                                                E'
                                                                                                                                  (Value.slice
                                                                                                                                    (Option.map
                                                                                                                                      (fun
                                                                                                                                          (x :
                                                                                                                                            Addr) =>
                                                                                                                                        Addr.add
                                                                                                                                          x
                                                                                                                                          0)
                                                                                                                                      base)
                                                                                                                                    2
                                                                                                                                    2)
                                                                                                                                  (List.map
                                                                                                                                    (Value.int
                                                                                                                                      IntKind.u8)
                                                                                                                                    zs)) ∧
                                                                                                                              List.length
                                                                                                                                    zs =
                                                                                                                                  2 ∧
                                                                                                                                2 ≤
                                                                                                                                    2 ∧
                                                                                                                                  (∀
                                                                                                                                      (z :
                                                                                                                                        Int),
                                                                                                                                      List.Mem
                                                                                                                                          z
                                                                                                                                          zs →
                                                                                                                                        0 ≤
                                                                                                                                            z ∧
                                                                                                                                          z ≤
                                                                                                                                            255) ∧
                                                                                                                                    (Option.map
                                                                                                                                          (fun
                                                                                                                                              (x :
                                                                                                                                                Addr) =>
                                                                                                                                            Addr.add
                                                                                                                                              x
                                                                                                                                              0)
                                                                                                                                          base =
                                                                                                                                        none →
                                                                                                                                      zs =
                                                                                                                                        [])) ∧
                                                                                                                            2 ≤
                                                                                                                                100000 ∧
                                                                                                                              numS
                                                                                                                                    300
                                                                                                                                    zs =
                                                                                                                                  true ∧
                                                                                                                                ∀
                                                                                                                                  (E'_7 :
                                                                                                                                    Mem),
                                                                                                                                  Mem.le
                                                                                                                                      E'
                                                                                                                                      E'_7 →
                                                                                                                                    ∀
                                                                                                                                      (base :
                                                                                                                                        Option
                                                                                                                                          Addr)
                                                                                                                                      (E' :
                                                                                                                                        Mem),
                                                                                                                                      Mem.le
                                                                                                                                          E'_7
                                                                                                                                          E' →
                                                                                                                                        WinE
                                                                                                                                            E'
                                                                                                                                            base
                                                                                                                                            [Value.int
                                                                                                                                                IntKind.u8
                                                                                                                                                9] →
                                                                                                                                          ∃
                                                                                                                                            (zs
                                                                                                                                            :
                                                                                                                                            List
                                                                                                                                              Int),
                                                                                                                                            ∃
                                                                                                                                              (ys
                                                                                                                                              :
                                                                                                                                              List
                                                                                                                                                Int),
                                                                                                                                              ((zs =
                                                                                                                                                      [] ∨
                                                                                                                                                    E'
                                                                                                                                                      (Value.slice
                                                                                                                                                        (Option.map
                                                                                                                                                          (fun
                                                                                                                                                              (x :
                                                                                                                                                                Addr) =>
                                                                                                                                                            Addr.add
                                                                                                                                                              x
                                                                                                                                                              0)
                                                                                                                                                          base)
                                                                                                                                                        1
                                                                                                                                                        1)
                                                                                                                                                      (List.map
                                                                                                                                                        (Value.int
                                                                                                                                                          IntKind.u8)
                                                                                                                                                        zs)) ∧
                                                                                                                                                  List.length
                                                                                                                                                        zs =
                                                                                                                                                      1 ∧
                                                                                                                                                    1 ≤
                                                                                                                                                        1 ∧
                                                                                                                                                      (∀
                                                                                                                                                          (z :
                                                                                                                                                            Int),
                                                                                                                                                          List.Mem
                                                                                                                                                              z
                                                                                                                                                              zs →
                                                                                                                                                            0 ≤
                                                                                                                                                                z ∧
                                                                                                                                                              z ≤
                                                                                                                                                                255) ∧
                                                                                                                                                        (Option.map
                                                                                                                                                              (fun
                                                                                                                                                                  (x :
                                                                                                                                                                    Addr) =>
                                                                                                                                                                Addr.add
                                                                                                                                                                  x
                                                                                                                                                                  0)
                                                                                                                                                              base =
                                                                                                                                                            none →
                                                                                                                                                          zs =
                                                                                                                                                            [])) ∧
                                                                                                                                                1 ≤
                                                                                                                                                    100000 ∧
                                                                                                                                                  pk
                                                                                                                                                        1
                                                                                                                                                        3
                                                                                                                                                        (-1)
                                                                                                                                                        100
                                                                                                                                                        1
                                                                                                                                                        zs =
                                                                                                                                                      (ys,
                                                                                                                                                        0) ∧
                                                                                                                                                    ∀
                                                                                                                                                      (b' :
                                                                                                                                                        Option
                                                                                                                                                          Addr)
                                                                                                                                                      (l'
                                                                                                                                                        c' :
                                                                                                                                                        Nat)
                                                                                                                                                      (E'_8 :
                                                                                                                                                        Mem),
                                                                                                                                                      Mem.le
                                                                                                                                                          E'
                                                                                                                                                          E'_8 →
                                                                                                                                                        (ys =
                                                                                                                                                                [] ∨
                                                                                                                                                              E'_8
                                                                                                                                                                (Value.slice
                                                                                                                                                                  b'
                                                                                                                                                                  l'
                                                                                                                                                                  c')
                                                                                                                                                                (List.map
                                                                                                                                                                  (Value.int
                                                                                                                                                                    IntKind.u8)
                                                                                                                                                                  ys)) ∧
                                                                                                                                                            List.length
                                                                                                                                                                  ys =
                                                                                                                                                                l' ∧
                                                                                                                                                              l' ≤
                                                                                                                                                                  c' ∧
                                                                                                                                                                (∀
                                                                                                                                                                    (z :
                                                                                                                                                                      Int),
                                                                                                                                                                    List.Mem
                                                                                                                                                                        z
                                                                                                                                                                        ys →
                                                                                                                                                                      0 ≤
                                                                                                                                                                          z ∧
                                                                                                                                                                        z ≤
                                                                                                                                                                          255) ∧
                                                                                                                                                                  (b' =
                                                                                                                                                                      none →
                                                                                                                                                                    ys =
                                                                                                                                                                      []) →
                                                                                                                                                          ∀
                                                                                                                                                            (base_1 :
                                                                                                                                                              Option
                                                                                                                                                                Addr)
                                                                                                                                                            (E' :
                                                                                                                                                              Mem),
                                                                                                                                                            Mem.le
                                                                                                                                                                E'_8
                                                                                                                                                                E' →
                                                                                                                                                              WinE
                                                                                                                                                                  E'
                                                                                                                                                                  base_1
                                                                                                                                                                  [Value.int
                                                                                                                                                                      IntKind.u8
                                                                                                                                                                      2,
                                                                                                                                                                    Value.int
                                                                                                                                                                      IntKind.u8
                                                                                                                                                                      6,
                                                                                                                                                                    Value.int
                                                                                                                                                                      IntKind.u8
                                                                                                                                                                      1,
                                                                                                                                                                    Value.int
                                                                                                                                                                      IntKind.u8
                                                                                                                                                                      200,
                                                                                                                                                                    Value.int
                                                                                                                                                                      IntKind.u8
                                                                                                                                                                      1,
                                                                                                                                                                    Value.int
                                                                                                                                                                      IntKind.u8
                                                                                                                                                                      2,
                                                                                                                                                                    Value.int
                                                                                                                                                                      IntKind.u8
                                                                                                                                                                      2,
                                                                                                                                                                    Value.int
                                                                                                                                                                      IntKind.u8
                                                                                                                                                                      9] →
                                                                                                                                                                ∃
                                                                                                                                                                  (zs
                                                                                                                                                                  :
                                                                                                                                                                  List
                                                                                                                                                                    Int),
                                                                                                                                                                  ((zs =
                                                                                                                                                                          [] ∨
                                                                                                                                                                        E'
                                                                                                                                                                          (Value.slice
                                                                                                                                                                            (Option.map
                                                                                                                                                                              (fun
                                                                                                                                                                                  (x :
                                                                                                                                                                                    Addr) =>
                                                                                                                                                                                Addr.add
                                                                                                                                                                                  x
                                                                                                                                                                                  0)
                                                                                                                                                                              base_1)
                                                                                                                                                                            8
                                                                                                                                                                            8)
                                                                                                                                                                          (List.map
                                                                                                                                                                            (Value.int
                                                                                                                                                                              IntKind.u8)
                                                                                                                                                                            zs)) ∧
                                                                                                                                                                      List.length
                                                                                                                                                                            zs =
                                                                                                                                                                          8 ∧
                                                                                                                                                                        8 ≤
                                                                                                                                                                            8 ∧
                                                                                                                                                                          (∀
                                                                                                                                                                              (z :
                                                                                                                                                                                Int),
                                                                                                                                                                              List.Mem
                                                                                                                                                                                  z
                                                                                                                                                                                  zs →
                                                                                                                                                                                0 ≤
                                                                                                                                                                                    z ∧
                                                                                                                                                                                  z ≤
                                                                                                                                                                                    255) ∧
                                                                                                                                                                            (Option.map
                                                                                                                                                                                  (fun
                                                                                                                                                                                      (x :
                                                                                                                                                                                        Addr) =>
                                                                                                                                                                                    Addr.add
                                                                                                                                                                                      x
                                                                                                                                                                                      0)
                                                                                                                                                                                  base_1 =
                                                                                                                                                                                none →
                                                                                                                                                                              zs =
                                                                                                                                                                                [])) ∧
                                                                                                                                                                    8 ≤
                                                                                                                                                                        100000 ∧
                                                                                                                                                                      (uk0
                                                                                                                                                                                zs
                                                                                                                                                                                0).snd.snd =
                                                                                                                                                                          0 ∧
                                                                                                                                                                        ∀
                                                                                                                                                                          (k1
                                                                                                                                                                            f1
                                                                                                                                                                            t1
                                                                                                                                                                            a1
                                                                                                                                                                            y1 :
                                                                                                                                                                            Int)
                                                                                                                                                                          (b1 :
                                                                                                                                                                            Option
                                                                                                                                                                              Addr)
                                                                                                                                                                          (l1
                                                                                                                                                                            c1 :
                                                                                                                                                                            Nat)
                                                                                                                                                                          (ys :
                                                                                                                                                                            List
                                                                                                                                                                              Int)
                                                                                                                                                                          (E'_9 :
                                                                                                                                                                            Mem),
                                                                                                                                                                          Mem.le
                                                                                                                                                                              E'
                                                                                                                                                                              E'_9 →
                                                                                                                                                                            Hyp
                                                                                                                                                                                (uk0
                                                                                                                                                                                    zs
                                                                                                                                                                                    0 =
                                                                                                                                                                                  ([k1,
                                                                                                                                                                                      f1,
                                                                                                                                                                                      t1,
                                                                                                                                                                                      a1,
                                                                                                                                                                                      y1],
                                                                                                                                                                                    ys,
                                                                                                                                                                                    0)) →
                                                                                                                                                                              (ys =
                                                                                                                                                                                      [] ∨
                                                                                                                                                                                    E'_9
                                                                                                                                                                                      (Value.slice
                                                                                                                                                                                        b1
                                                                                                                                                                                        l1
                                                                                                                                                                                        c1)
                                                                                                                                                                                      (List.map
                                                                                                                                                                                        (Value.int
                                                                                                                                                                                          IntKind.u8)
                                                                                                                                                                                        ys)) ∧
                                                                                                                                                                                  List.length
                                                                                                                                                                                        ys =
                                                                                                                                                                                      l1 ∧
                                                                                                                                                                                    l1 ≤
                                                                                                                                                                                        c1 ∧
                                                                                                                                                                                      (∀
                                                                                                                                                                                          (z :
                                                                                                                                                                                            Int),
                                                                                                                                                                                          List.Mem
                                                                                                                                                                                              z
                                                                                                                                                                                              ys →
                                                                                                                                                                                            0 ≤
                                                                                                                                                                                                z ∧
                                                                                                                                                                                              z ≤
                                                                                                                                                                                                255) ∧
                                                                                                                                                                                        (b1 =
                                                                                                                                                                                            none →
                                                                                                                                                                                          ys =
                                                                                                                                                                                            []) →
                                                                                                                                                                                ∀
                                                                                                                                                                                  (base_2 :
                                                                                                                                                                                    Option
                                                                                                                                                                                      Addr)
                                                                                                                                                                                  (E' :
                                                                                                                                                                                    Mem),
                                                                                                                                                                                  Mem.le
                                                                                                                                                                                      E'_9
                                                                                                                                                                                      E' →
                                                                                                                                                                                    WinE
                                                                                                                                                                                        E'
                                                                                                                                                                                        base_2
                                                                                                                                                                                        [Value.int
                                                                                                                                                                                            IntKind.u8
                                                                                                                                                                                            2,
                                                                                                                                                                                          Value.int
                                                                                                                                                                                            IntKind.u8
                                                                                                                                                                                            6,
                                                                                                                                                                                          Value.int
                                                                                                                                                                                            IntKind.u8
                                                                                                                                                                                            1,
                                                                                                                                                                                          Value.int
                                                                                                                                                                                            IntKind.u8
                                                                                                                                                                                            200,
                                                                                                                                                                                          Value.int
                                                                                                                                                                                            IntKind.u8
                                                                                                                                                                                            1,
                                                                                                                                                                                          Value.int
                                                                                                                                                                                            IntKind.u8
                                                                                                                                                                                            2,
                                                                                                                                                                                          Value.int
                                                                                                                                                                                            IntKind.u8
                                                                                                                                                                                            2] →
                                                                                                                                                                                      ∃
                                                                                                                                                                                        (zs
                                                                                                                                                                                        :
                                                                                                                                                                                        List
                                                                                                                                                                                          Int),
                                                                                                                                                                                        ((zs =
                                                                                                                                                                                                [] ∨
                                                                                                                                                                                              E'
                                                                                                                                                                                                (Value.slice
                                                                                                                                                                                                  (Option.map
                                                                                                                                                                                                    (fun
                                                                                                                                                                                                        (x :
                                                                                                                                                                                                          Addr) =>
                                                                                                                                                                                                      Addr.add
                                                                                                                                                                                                        x
                                                                                                                                                                                                        0)
                                                                                                                                                                                                    base_2)
                                                                                                                                                                                                  7
                                                                                                                                                                                                  7)
                                                                                                                                                                                                (List.map
                                                                                                                                                                                                  (Value.int
                                                                                                                                                                                                    IntKind.u8)
                                                                                                                                                                                                  zs)) ∧
                                                                                                                                                                                            List.length
                                                                                                                                                                                                  zs =
                                                                                                                                                                                                7 ∧
                                                                                                                                                                                              7 ≤
                                                                                                                                                                                                  7 ∧
                                                                                                                                                                                                (∀
                                                                                                                                                                                                    (z :
                                                                                                                                                                                                      Int),
                                                                                                                                                                                                    List.Mem
                                                                                                                                                                                                        z
                                                                                                                                                                                                        zs →
                                                                                                                                                                                                      0 ≤
                                                                                                                                                                                                          z ∧
                                                                                                                                                                                                        z ≤
                                                                                                                                                                                                          255) ∧
                                                                                                                                                                                                  (Option.map
                                                                                                                                                                                                        (fun
                                                                                                                                                                                                            (x :
                                                                                                                                                                                                              Addr) =>
                                                                                                                                                                                                          Addr.add
                                                                                                                                                                                                            x
                                                                                                                                                                                                            0)
                                                                                                                                                                                                        base_2 =
                                                                                                                                                                                                      none →
                                                                                                                                                                                                    zs =
                                                                                                                                                                                                      [])) ∧
                                                                                                                                                                                          7 ≤
                                                                                                                                                                                              100000 ∧
                                                                                                                                                                                            (uk0
                                                                                                                                                                                                      zs
                                                                                                                                                                                                      0).snd.snd =
                                                                                                                                                                                                11 ∧
                                                                                                                                                                                              ∀
                                                                                                                                                                                                (k1_1
                                                                                                                                                                                                  f1_1
                                                                                                                                                                                                  t1_1
                                                                                                                                                                                                  a1_1
                                                                                                                                                                                                  y1_1 :
                                                                                                                                                                                                  Int)
                                                                                                                                                                                                (b1_1 :
                                                                                                                                                                                                  Option
                                                                                                                                                                                                    Addr)
                                                                                                                                                                                                (l1_1
                                                                                                                                                                                                  c1_1 :
                                                                                                                                                                                                  Nat)
                                                                                                                                                                                                (ys :
                                                                                                                                                                                                  List
                                                                                                                                                                                                    Int)
                                                                                                                                                                                                (E'_10 :
                                                                                                                                                                                                  Mem),
                                                                                                                                                                                                Mem.le
                                                                                                                                                                                                    E'
                                                                                                                                                                                                    E'_10 →
                                                                                                                                                                                                  Hyp
                                                                                                                                                                                                      (uk0
                                                                                                                                                                                                          zs
                                                                                                                                                                                                          0 =
                                                                                                                                                                                                        ([k1_1,
                                                                                                                                                                                                            f1_1,
                                                                                                                                                                                                            t1_1,
                                                                                                                                                                                                            a1_1,
                                                                                                                                                                                                            y1_1],
                                                                                                                                                                                                          ys,
                                                                                                                                                                                                          11)) →
                                                                                                                                                                                                    (ys =
                                                                                                                                                                                                            [] ∨
                                                                                                                                                                                                          E'_10
                                                                                                                                                                                                            (Value.slice
                                                                                                                                                                                                              b1_1
                                                                                                                                                                                                              l1_1
                                                                                                                                                                                                              c1_1)
                                                                                                                                                                                                            (List.map
                                                                                                                                                                                                              (Value.int
                                                                                                                                                                                                                IntKind.u8)
                                                                                                                                                                                                              ys)) ∧
                                                                                                                                                                                                        List.length
                                                                                                                                                                                                              ys =
                                                                                                                                                                                                            l1_1 ∧
                                                                                                                                                                                                          l1_1 ≤
                                                                                                                                                                                                              c1_1 ∧
                                                                                                                                                                                                            (∀
                                                                                                                                                                                                                (z :
                                                                                                                                                                                                                  Int),
                                                                                                                                                                                                                List.Mem
                                                                                                                                                                                                                    z
                                                                                                                                                                                                                    ys →
                                                                                                                                                                                                                  0 ≤
                                                                                                                                                                                                                      z ∧
                                                                                                                                                                                                                    z ≤
                                                                                                                                                                                                                      255) ∧
                                                                                                                                                                                                              (b1_1 =
                                                                                                                                                                                                                  none →
                                                                                                                                                                                                                ys =
                                                                                                                                                                                                                  []) →
                                                                                                                                                                                                      ∀
                                                                                                                                                                                                        (base_3 :
                                                                                                                                                                                                          Option
                                                                                                                                                                                                            Addr)
                                                                                                                                                                                                        (E' :
                                                                                                                                                                                                          Mem),
                                                                                                                                                                                                        Mem.le
                                                                                                                                                                                                            E'_10
                                                                                                                                                                                                            E' →
                                                                                                                                                                                                          WinE
                                                                                                                                                                                                              E'
                                                                                                                                                                                                              base_3
                                                                                                                                                                                                              [Value.int
                                                                                                                                                                                                                  IntKind.u8
                                                                                                                                                                                                                  128,
                                                                                                                                                                                                                Value.int
                                                                                                                                                                                                                  IntKind.u8
                                                                                                                                                                                                                  0] →
                                                                                                                                                                                                            ∃
                                                                                                                                                                                                              (zs
                                                                                                                                                                                                              :
                                                                                                                                                                                                              List
                                                                                                                                                                                                                Int),
                                                                                                                                                                                                              ((zs =
                                                                                                                                                                                                                      [] ∨
                                                                                                                                                                                                                    E'
                                                                                                                                                                                                                      (Value.slice
                                                                                                                                                                                                                        (Option.map
                                                                                                                                                                                                                          (fun
                                                                                                                                                                                                                              (x :
                                                                                                                                                                                                                                Addr) =>
                                                                                                                                                                                                                            Addr.add
                                                                                                                                                                                                                              x
                                                                                                                                                                                                                              0)
                                                                                                                                                                                                                          base_3)
                                                                                                                                                                                                                        2
                                                                                                                                                                                                                        2)
                                                                                                                                                                                                                      (List.map
                                                                                                                                                                                                                        (Value.int
                                                                                                                                                                                                                          IntKind.u8)
                                                                                                                                                                                                                        zs)) ∧
                                                                                                                                                                                                                  List.length
                                                                                                                                                                                                                        zs =
                                                                                                                                                                                                                      2 ∧
                                                                                                                                                                                                                    2 ≤
                                                                                                                                                                                                                        2 ∧
                                                                                                                                                                                                                      (∀
                                                                                                                                                                                                                          (z :
                                                                                                                                                                                                                            Int),
                                                                                                                                                                                                                          List.Mem
                                                                                                                                                                                                                              z
                                                                                                                                                                                                                              zs →
                                                                                                                                                                                                                            0 ≤
                                                                                                                                                                                                                                z ∧
                                                                                                                                                                                                                              z ≤
                                                                                                                                                                                                                                255) ∧
                                                                                                                                                                                                                        (Option.map
                                                                                                                                                                                                                              (fun
                                                                                                                                                                                                                                  (x :
                                                                                                                                                                                                                                    Addr) =>
                                                                                                                                                                                                                                Addr.add
                                                                                                                                                                                                                                  x
                                                                                                                                                                                                                                  0)
                                                                                                                                                                                                                              base_3 =
                                                                                                                                                                                                                            none →
                                                                                                                                                                                                                          zs =
                                                                                                                                                                                                                            [])) ∧
                                                                                                                                                                                                                2 ≤
                                                                                                                                                                                                                    100000 ∧
                                                                                                                                                                                                                  (rd
                                                                                                                                                                                                                            zs
                                                                                                                                                                                                                            0).snd.snd =
                                                                                                                                                                                                                      3 ∧
                                                                                                                                                                                                                    ∀
                                                                                                                                                                                                                      (n
                                                                                                                                                                                                                        end' :
                                                                                                                                                                                                                        Int)
                                                                                                                                                                                                                      (E'_11 :
                                                                                                                                                                                                                        Mem),
                                                                                                                                                                                                                      Mem.le
                                                                                                                                                                                                                          E'
                                                                                                                                                                                                                          E'_11 →
                                                                                                                                                                                                                        ∀
                                                                                                                                                                                                                          (base_4 :
                                                                                                                                                                                                                            Option
                                                                                                                                                                                                                              Addr)
                                                                                                                                                                                                                          (E' :
                                                                                                                                                                                                                            Mem),
                                                                                                                                                                                                                          Mem.le
                                                                                                                                                                                                                              E'_11
                                                                                                                                                                                                                              E' →
                                                                                                                                                                                                                            WinE
                                                                                                                                                                                                                                E'
                                                                                                                                                                                                                                base_4
                                                                                                                                                                                                                                [Value.int
                                                                                                                                                                                                                                    IntKind.u8
                                                                                                                                                                                                                                    5] →
                                                                                                                                                                                                                              ∀
                                                                                                                                                                                                                                (base_5 :
                                                                                                                                                                                                                                  Option
                                                                                                                                                                                                                                    Addr)
                                                                                                                                                                                                                                (E'_12 :
                                                                                                                                                                                                                                  Mem),
                                                                                                                                                                                                                                Mem.le
                                                                                                                                                                                                                                    E'
                                                                                                                                                                                                                                    E'_12 →
                                                                                                                                                                                                                                  WinE
                                                                                                                                                                                                                                      E'_12
                                                                                                                                                                                                                                      base_5
                                                                                                                                                                                                                                      [Value.int
                                                                                                                                                                                                                                          IntKind.u8
                                                                                                                                                                                                                                          7,
                                                                                                                                                                                                                                        Value.int
                                                                                                                                                                                                                                          IntKind.u8
                                                                                                                                                                                                                                          7,
                                                                                                                                                                                                                                        Value.int
                                                                                                                                                                                                                                          IntKind.u8
                                                                                                                                                                                                                                          7] →
                                                                                                                                                                                                                                    ∃
                                                                                                                                                                                                                                      (zs
                                                                                                                                                                                                                                      :
                                                                                                                                                                                                                                      List
                                                                                                                                                                                                                                        Int),
                                                                                                                                                                                                                                      ∃
                                                                                                                                                                                                                                        (xs
                                                                                                                                                                                                                                        :
                                                                                                                                                                                                                                        List
                                                                                                                                                                                                                                          Int),
                                                                                                                                                                                                                                        ∃
                                                                                                                                                                                                                                          (ys
                                                                                                                                                                                                                                          :
                                                                                                                                                                                                                                          List
                                                                                                                                                                                                                                            Int),
                                                                                                                                                                                                                                          ((zs =
                                                                                                                                                                                                                                                  [] ∨
                                                                                                                                                                                                                                                E'_12
                                                                                                                                                                                                                                                  (Value.slice
                                                                                                                                                                                                                                                    (Option.map
                                                                                                                                                                                                                                                      (fun
                                                                                                                                                                                                                                                          (x :
                                                                                                                                                                                                                                                            Addr) =>
                                                                                                                                                                                                                                                        Addr.add
                                                                                                                                                                                                                                                          x
                                                                                                                                                                                                                                                          0)
                                                                                                                                                                                                                                                      base_4)
                                                                                                                                                                                                                                                    1
                                                                                                                                                                                                                                                    1)
                                                                                                                                                                                                                                                  (List.map
                                                                                                                                                                                                                                                    (Value.int
                                                                                                                                                                                                                                                      IntKind.u8)
                                                                                                                                                                                                                                                    zs)) ∧
                                                                                                                                                                                                                                              List.length
                                                                                                                                                                                                                                                    zs =
                                                                                                                                                                                                                                                  1 ∧
                                                                                                                                                                                                                                                1 ≤
                                                                                                                                                                                                                                                    1 ∧
                                                                                                                                                                                                                                                  (∀
                                                                                                                                                                                                                                                      (z :
                                                                                                                                                                                                                                                        Int),
                                                                                                                                                                                                                                                      List.Mem
                                                                                                                                                                                                                                                          z
                                                                                                                                                                                                                                                          zs →
                                                                                                                                                                                                                                                        0 ≤
                                                                                                                                                                                                                                                            z ∧
                                                                                                                                                                                                                                                          z ≤
                                                                                                                                                                                                                                                            255) ∧
                                                                                                                                                                                                                                                    (Option.map
                                                                                                                                                                                                                                                          (fun
                                                                                                                                                                                                                                                              (x :
                                                                                                                                                                                                                                                                Addr) =>
                                                                                                                                                                                                                                                            Addr.add
                                                                                                                                                                                                                                                              x
                                                                                                                                                                                                                                                              0)
                                                                                                                                                                                                                                                          base_4 =
                                                                                                                                                                                                                                                        none →
                                                                                                                                                                                                                                                      zs =
                                                                                                                                                                                                                                                        [])) ∧
                                                                                                                                                                                                                                            ((xs =
                                                                                                                                                                                                                                                    [] ∨
                                                                                                                                                                                                                                                  E'_12
                                                                                                                                                                                                                                                    (Value.slice
                                                                                                                                                                                                                                                      (Option.map
                                                                                                                                                                                                                                                        (fun
                                                                                                                                                                                                                                                            (x :
                                                                                                                                                                                                                                                              Addr) =>
                                                                                                                                                                                                                                                          Addr.add
                                                                                                                                                                                                                                                            x
                                                                                                                                                                                                                                                            0)
                                                                                                                                                                                                                                                        base_5)
                                                                                                                                                                                                                                                      3
                                                                                                                                                                                                                                                      3)
                                                                                                                                                                                                                                                    (List.map
                                                                                                                                                                                                                                                      (Value.int
                                                                                                                                                                                                                                                        IntKind.u8)
                                                                                                                                                                                                                                                      xs)) ∧
                                                                                                                                                                                                                                                List.length
                                                                                                                                                                                                                                                      xs =
                                                                                                                                                                                                                                                    3 ∧
                                                                                                                                                                                                                                                  3 ≤
                                                                                                                                                                                                                                                      3 ∧
                                                                                                                                                                                                                                                    (∀
                                                                                                                                                                                                                                                        (z :
                                                                                                                                                                                                                                                          Int),
                                                                                                                                                                                                                                                        List.Mem
                                                                                                                                                                                                                                                            z
                                                                                                                                                                                                                                                            xs →
                                                                                                                                                                                                                                                          0 ≤
                                                                                                                                                                                                                                                              z ∧
                                                                                                                                                                                                                                                            z ≤
                                                                                                                                                                                                                                                              255) ∧
                                                                                                                                                                                                                                                      (Option.map
                                                                                                                                                                                                                                                            (fun
                                                                                                                                                                                                                                                                (x :
                                                                                                                                                                                                                                                                  Addr) =>
                                                                                                                                                                                                                                                              Addr.add
                                                                                                                                                                                                                                                                x
                                                                                                                                                                                                                                                                0)
                                                                                                                                                                                                                                                            base_5 =
                                                                                                                                                                                                                                                          none →
                                                                                                                                                                                                                                                        xs =
                                                                                                                                                                                                                                                          [])) ∧
                                                                                                                                                                                                                                              1 ≤
                                                                                                                                                                                                                                                  10000 ∧
                                                                                                                                                                                                                                                putB
                                                                                                                                                                                                                                                      zs
                                                                                                                                                                                                                                                      xs =
                                                                                                                                                                                                                                                    (ys,
                                                                                                                                                                                                                                                      0) ∧
                                                                                                                                                                                                                                                  ∀
                                                                                                                                                                                                                                                    (b'_1 :
                                                                                                                                                                                                                                                      Option
                                                                                                                                                                                                                                                        Addr)
                                                                                                                                                                                                                                                    (l'_1
                                                                                                                                                                                                                                                      c'_1 :
                                                                                                                                                                                                                                                      Nat)
                                                                                                                                                                                                                                                    (E' :
                                                                                                                                                                                                                                                      Mem),
                                                                                                                                                                                                                                                    Mem.le
                                                                                                                                                                                                                                                        E'_12
                                                                                                                                                                                                                                                        E' →
                                                                                                                                                                                                                                                      (ys =
                                                                                                                                                                                                                                                              [] ∨
                                                                                                                                                                                                                                                            E'
                                                                                                                                                                                                                                                              (Value.slice
                                                                                                                                                                                                                                                                b'_1
                                                                                                                                                                                                                                                                l'_1
                                                                                                                                                                                                                                                                c'_1)
                                                                                                                                                                                                                                                              (List.map
                                                                                                                                                                                                                                                                (Value.int
                                                                                                                                                                                                                                                                  IntKind.u8)
                                                                                                                                                                                                                                                                ys)) ∧
                                                                                                                                                                                                                                                          List.length
                                                                                                                                                                                                                                                                ys =
                                                                                                                                                                                                                                                              l'_1 ∧
                                                                                                                                                                                                                                                            l'_1 ≤
                                                                                                                                                                                                                                                                c'_1 ∧
                                                                                                                                                                                                                                                              (∀
                                                                                                                                                                                                                                                                  (z :
                                                                                                                                                                                                                                                                    Int),
                                                                                                                                                                                                                                                                  List.Mem
                                                                                                                                                                                                                                                                      z
                                                                                                                                                                                                                                                                      ys →
                                                                                                                                                                                                                                                                    0 ≤
                                                                                                                                                                                                                                                                        z ∧
                                                                                                                                                                                                                                                                      z ≤
                                                                                                                                                                                                                                                                        255) ∧
                                                                                                                                                                                                                                                                (b'_1 =
                                                                                                                                                                                                                                                                    none →
                                                                                                                                                                                                                                                                  ys =
                                                                                                                                                                                                                                                                    []) →
                                                                                                                                                                                                                                                        ∀
                                                                                                                                                                                                                                                          (base_6 :
                                                                                                                                                                                                                                                            Option
                                                                                                                                                                                                                                                              Addr)
                                                                                                                                                                                                                                                          (E'_13 :
                                                                                                                                                                                                                                                            Mem),
                                                                                                                                                                                                                                                          Mem.le
                                                                                                                                                                                                                                                              E'
                                                                                                                                                                                                                                                              E'_13 →
                                                                                                                                                                                                                                                            WinE
                                                                                                                                                                                                                                                                E'_13
                                                                                                                                                                                                                                                                base_6
                                                                                                                                                                                                                                                                [Value.int
                                                                                                                                                                                                                                                                    IntKind.u8
                                                                                                                                                                                                                                                                    2,
                                                                                                                                                                                                                                                                  Value.int
                                                                                                                                                                                                                                                                    IntKind.u8
                                                                                                                                                                                                                                                                    6,
                                                                                                                                                                                                                                                                  Value.int
                                                                                                                                                                                                                                                                    IntKind.u8
                                                                                                                                                                                                                                                                    1,
                                                                                                                                                                                                                                                                  Value.int
                                                                                                                                                                                                                                                                    IntKind.u8
                                                                                                                                                                                                                                                                    200,
                                                                                                                                                                                                                                                                  Value.int
                                                                                                                                                                                                                                                                    IntKind.u8
                                                                                                                                                                                                                                                                    1,
                                                                                                                                                                                                                                                                  Value.int
                                                                                                                                                                                                                                                                    IntKind.u8
                                                                                                                                                                                                                                                                    2,
                                                                                                                                                                                                                                                                  Value.int
                                                                                                                                                                                                                                                                    IntKind.u8
                                                                                                                                                                                                                                                                    2,
                                                                                                                                                                                                                                                                  Value.int
                                                                                                                                                                                                                                                                    IntKind.u8
                                                                                                                                                                                                                                                                    9] →
                                                                                                                                                                                                                                                              ∃
                                                                                                                                                                                                                                                                (zs
                                                                                                                                                                                                                                                                :
                                                                                                                                                                                                                                                                List
                                                                                                                                                                                                                                                                  Int),
                                                                                                                                                                                                                                                                ((zs =
                                                                                                                                                                                                                                                                        [] ∨
                                                                                                                                                                                                                                                                      E'_13
                                                                                                                                                                                                                                                                        (Value.slice
                                                                                                                                                                                                                                                                          b'
                                                                                                                                                                                                                                                                          l'
                                                                                                                                                                                                                                                                          c')
                                                                                                                                                                                                                                                                        (List.map
                                                                                                                                                                                                                                                                          (Value.int
                                                                                                                                                                                                                                                                            IntKind.u8)
                                                                                                                                                                                                                                                                          zs)) ∧
                                                                                                                                                                                                                                                                    List.length
                                                                                                                                                                                                                                                                          zs =
                                                                                                                                                                                                                                                                        l' ∧
                                                                                                                                                                                                                                                                      l' ≤
                                                                                                                                                                                                                                                                          c' ∧
                                                                                                                                                                                                                                                                        (∀
                                                                                                                                                                                                                                                                            (z :
                                                                                                                                                                                                                                                                              Int),
                                                                                                                                                                                                                                                                            List.Mem
                                                                                                                                                                                                                                                                                z
                                                                                                                                                                                                                                                                                zs →
                                                                                                                                                                                                                                                                              0 ≤
                                                                                                                                                                                                                                                                                  z ∧
                                                                                                                                                                                                                                                                                z ≤
                                                                                                                                                                                                                                                                                  255) ∧
                                                                                                                                                                                                                                                                          (b' =
                                                                                                                                                                                                                                                                              none →
                                                                                                                                                                                                                                                                            zs =
                                                                                                                                                                                                                                                                              [])) ∧
                                                                                                                                                                                                                                                                  ((zs =
                                                                                                                                                                                                                                                                          [] ∨
                                                                                                                                                                                                                                                                        E'_13
                                                                                                                                                                                                                                                                          (Value.slice
                                                                                                                                                                                                                                                                            (Option.map
                                                                                                                                                                                                                                                                              (fun
                                                                                                                                                                                                                                                                                  (x :
                                                                                                                                                                                                                                                                                    Addr) =>
                                                                                                                                                                                                                                                                                Addr.add
                                                                                                                                                                                                                                                                                  x
                                                                                                                                                                                                                                                                                  0)
                                                                                                                                                                                                                                                                              base_6)
                                                                                                                                                                                                                                                                            8
                                                                                                                                                                                                                                                                            8)
                                                                                                                                                                                                                                                                          (List.map
                                                                                                                                                                                                                                                                            (Value.int
                                                                                                                                                                                                                                                                              IntKind.u8)
                                                                                                                                                                                                                                                                            zs)) ∧
                                                                                                                                                                                                                                                                      List.length
                                                                                                                                                                                                                                                                            zs =
                                                                                                                                                                                                                                                                          8 ∧
                                                                                                                                                                                                                                                                        8 ≤
                                                                                                                                                                                                                                                                            8 ∧
                                                                                                                                                                                                                                                                          (∀
                                                                                                                                                                                                                                                                              (z :
                                                                                                                                                                                                                                                                                Int),
                                                                                                                                                                                                                                                                              List.Mem
                                                                                                                                                                                                                                                                                  z
                                                                                                                                                                                                                                                                                  zs →
                                                                                                                                                                                                                                                                                0 ≤
                                                                                                                                                                                                                                                                                    z ∧
                                                                                                                                                                                                                                                                                  z ≤
                                                                                                                                                                                                                                                                                    255) ∧
                                                                                                                                                                                                                                                                            (Option.map
                                                                                                                                                                                                                                                                                  (fun
                                                                                                                                                                                                                                                                                      (x :
                                                                                                                                                                                                                                                                                        Addr) =>
                                                                                                                                                                                                                                                                                    Addr.add
                                                                                                                                                                                                                                                                                      x
                                                                                                                                                                                                                                                                                      0)
                                                                                                                                                                                                                                                                                  base_6 =
                                                                                                                                                                                                                                                                                none →
                                                                                                                                                                                                                                                                              zs =
                                                                                                                                                                                                                                                                                [])) ∧
                                                                                                                                                                                                                                                                    l' ≤
                                                                                                                                                                                                                                                                        100000 ∧
                                                                                                                                                                                                                                                                      ∃
                                                                                                                                                                                                                                                                        (zs
                                                                                                                                                                                                                                                                        :
                                                                                                                                                                                                                                                                        List
                                                                                                                                                                                                                                                                          Int),
                                                                                                                                                                                                                                                                        ((zs =
                                                                                                                                                                                                                                                                                [] ∨
                                                                                                                                                                                                                                                                              E'_13
                                                                                                                                                                                                                                                                                (Value.slice
                                                                                                                                                                                                                                                                                  (Option.map
                                                                                                                                                                                                                                                                                    (fun
                                                                                                                                                                                                                                                                                        (x :
                                                                                                                                                                                                                                                                                          Addr) =>
                                                                                                                                                                                                                                                                                      Addr.add
                                                                                                                                                                                                                                                                                        x
                                                                                                                                                                                                                                                                                        0)
                                                                                                                                                                                                                                                                                    base)
                                                                                                                                                                                                                                                                                  1
                                                                                                                                                                                                                                                                                  1)
                                                                                                                                                                                                                                                                                (List.map
                                                                                                                                                                                                                                                                                  (Value.int
                                                                                                                                                                                                                                                                                    IntKind.u8)
                                                                                                                                                                                                                                                                                  zs)) ∧
                                                                                                                                                                                                                                                                            List.length
                                                                                                                                                                                                                                                                                  zs =
                                                                                                                                                                                                                                                                                1 ∧
                                                                                                                                                                                                                                                                              1 ≤
                                                                                                                                                                                                                                                                                  1 ∧
                                                                                                                                                                                                                                                                                (∀
                                                                                                                                                                                                                                                                                    (z :
                                                                                                                                                                                                                                                                                      Int),
                                                                                                                                                                                                                                                                                    List.Mem
                                                                                                                                                                                                                                                                                        z
                                                                                                                                                                                                                                                                                        zs →
                                                                                                                                                                                                                                                                                      0 ≤
                                                                                                                                                                                                                                                                                          z ∧
                                                                                                                                                                                                                                                                                        z ≤
                                                                                                                                                                                                                                                                                          255) ∧
                                                                                                                                                                                                                                                                                  (Option.map
                                                                                                                                                                                                                                                                                        (fun
                                                                                                                                                                                                                                                                                            (x :
                                                                                                                                                                                                                                                                                              Addr) =>
                                                                                                                                                                                                                                                                                          Addr.add
                                                                                                                                                                                                                                                                                            x
                                                                                                                                                                                                                                                                                            0)
                                                                                                                                                                                                                                                                                        base =
                                                                                                                                                                                                                                                                                      none →
                                                                                                                                                                                                                                                                                    zs =
                                                                                                                                                                                                                                                                                      [])) ∧
                                                                                                                                                                                                                                                                          ((zs =
                                                                                                                                                                                                                                                                                  [] ∨
                                                                                                                                                                                                                                                                                E'_13
                                                                                                                                                                                                                                                                                  (Value.slice
                                                                                                                                                                                                                                                                                    b1
                                                                                                                                                                                                                                                                                    l1
                                                                                                                                                                                                                                                                                    c1)
                                                                                                                                                                                                                                                                                  (List.map
                                                                                                                                                                                                                                                                                    (Value.int
                                                                                                                                                                                                                                                                                      IntKind.u8)
                                                                                                                                                                                                                                                                                    zs)) ∧
                                                                                                                                                                                                                                                                              List.length
                                                                                                                                                                                                                                                                                    zs =
                                                                                                                                                                                                                                                                                  l1 ∧
                                                                                                                                                                                                                                                                                l1 ≤
                                                                                                                                                                                                                                                                                    c1 ∧
                                                                                                                                                                                                                                                                                  (∀
                                                                                                                                                                                                                                                                                      (z :
                                                                                                                                                                                                                                                                                        Int),
                                                                                                                                                                                                                                                                                      List.Mem
                                                                                                                                                                                                                                                                                          z
                                                                                                                                                                                                                                                                                          zs →
                                                                                                                                                                                                                                                                                        0 ≤
                                                                                                                                                                                                                                                                                            z ∧
                                                                                                                                                                                                                                                                                          z ≤
                                                                                                                                                                                                                                                                                            255) ∧
                                                                                                                                                                                                                                                                                    (b1 =
                                                                                                                                                                                                                                                                                        none →
                                                                                                                                                                                                                                                                                      zs =
                                                                                                                                                                                                                                                                                        [])) ∧
                                                                                                                                                                                                                                                                            1 ≤
                                                                                                                                                                                                                                                                                100000 ∧
                                                                                                                                                                                                                                                                              [1,
                                                                                                                                                                                                                                                                                    3,
                                                                                                                                                                                                                                                                                    -1,
                                                                                                                                                                                                                                                                                    100,
                                                                                                                                                                                                                                                                                    1] =
                                                                                                                                                                                                                                                                                  [k1,
                                                                                                                                                                                                                                                                                    f1,
                                                                                                                                                                                                                                                                                    t1,
                                                                                                                                                                                                                                                                                    a1,
                                                                                                                                                                                                                                                                                    y1] ∧
                                                                                                                                                                                                                                                                                Mem.le
                                                                                                                                                                                                                                                                                    E'_13
                                                                                                                                                                                                                                                                                    E'_13 ∧
                                                                                                                                                                                                                                                                                  ∀
                                                                                                                                                                                                                                                                                    (base :
                                                                                                                                                                                                                                                                                      Option
                                                                                                                                                                                                                                                                                        Addr)
                                                                                                                                                                                                                                                                                    (E' :
                                                                                                                                                                                                                                                                                      Mem),
                                                                                                                                                                                                                                                                                    Mem.le
                                                                                                                                                                                                                                                                                        E'_13
                                                                                                                                                                                                                                                                                        E' →
                                                                                                                                                                                                                                                                                      WinE
                                                                                                                                                                                                                                                                                          E'
                                                                                                                                                                                                                                                                                          base
                                                                                                                                                                                                                                                                                          [Value.int
                                                                                                                                                                                                                                                                                              IntKind.u8
                                                                                                                                                                                                                                                                                              5,
                                                                                                                                                                                                                                                                                            Value.int
                                                                                                                                                                                                                                                                                              IntKind.u8
                                                                                                                                                                                                                                                                                              6,
                                                                                                                                                                                                                                                                                            Value.int
                                                                                                                                                                                                                                                                                              IntKind.u8
                                                                                                                                                                                                                                                                                              7,
                                                                                                                                                                                                                                                                                            Value.int
                                                                                                                                                                                                                                                                                              IntKind.u8
                                                                                                                                                                                                                                                                                              7,
                                                                                                                                                                                                                                                                                            Value.int
                                                                                                                                                                                                                                                                                              IntKind.u8
                                                                                                                                                                                                                                                                                              7] →
                                                                                                                                                                                                                                                                                        ∃
                                                                                                                                                                                                                                                                                          (zs
                                                                                                                                                                                                                                                                                          :
                                                                                                                                                                                                                                                                                          List
                                                                                                                                                                                                                                                                                            Int),
                                                                                                                                                                                                                                                                                          ((zs =
                                                                                                                                                                                                                                                                                                  [] ∨
                                                                                                                                                                                                                                                                                                E'
                                                                                                                                                                                                                                                                                                  (Value.slice
                                                                                                                                                                                                                                                                                                    b'_1
                                                                                                                                                                                                                                                                                                    l'_1
                                                                                                                                                                                                                                                                                                    c'_1)
                                                                                                                                                                                                                                                                                                  (List.map
                                                                                                                                                                                                                                                                                                    (Value.int
                                                                                                                                                                                                                                                                                                      IntKind.u8)
                                                                                                                                                                                                                                                                                                    zs)) ∧
                                                                                                                                                                                                                                                                                              List.length
                                                                                                                                                                                                                                                                                                    zs =
                                                                                                                                                                                                                                                                                                  l'_1 ∧
                                                                                                                                                                                                                                                                                                l'_1 ≤
                                                                                                                                                                                                                                                                                                    c'_1 ∧
                                                                                                                                                                                                                                                                                                  (∀
                                                                                                                                                                                                                                                                                                      (z :
                                                                                                                                                                                                                                                                                                        Int),
                                                                                                                                                                                                                                                                                                      List.Mem
                                                                                                                                                                                                                                                                                                          z
                                                                                                                                                                                                                                                                                                          zs →
                                                                                                                                                                                                                                                                                                        0 ≤
                                                                                                                                                                                                                                                                                                            z ∧
                                                                                                                                                                                                                                                                                                          z ≤
                                                                                                                                                                                                                                                                                                            255) ∧
                                                                                                                                                                                                                                                                                                    (b'_1 =
                                                                                                                                                                                                                                                                                                        none →
                                                                                                                                                                                                                                                                                                      zs =
                                                                                                                                                                                                                                                                                                        [])) ∧
                                                                                                                                                                                                                                                                                            ((zs =
                                                                                                                                                                                                                                                                                                    [] ∨
                                                                                                                                                                                                                                                                                                  E'
                                                                                                                                                                                                                                                                                                    (Value.slice
                                                                                                                                                                                                                                                                                                      (Option.map
                                                                                                                                                                                                                                                                                                        (fun
                                                                                                                                                                                                                                                                                                            (x :
                                                                                                                                                                                                                                                                                                              Addr) =>
                                                                                                                                                                                                                                                                                                          Addr.add
                                                                                                                                                                                                                                                                                                            x
                                                                                                                                                                                                                                                                                                            0)
                                                                                                                                                                                                                                                                                                        base)
                                                                                                                                                                                                                                                                                                      5
                                                                                                                                                                                                                                                                                                      5)
                                                                                                                                                                                                                                                                                                    (List.map
                                                                                                                                                                                                                                                                                                      (Value.int
                                                                                                                                                                                                                                                                                                        IntKind.u8)
                                                                                                                                                                                                                                                                                                      zs)) ∧
                                                                                                                                                                                                                                                                                                List.length
                                                                                                                                                                                                                                                                                                      zs =
                                                                                                                                                                                                                                                                                                    5 ∧
                                                                                                                                                                                                                                                                                                  5 ≤
                                                                                                                                                                                                                                                                                                      5 ∧
                                                                                                                                                                                                                                                                                                    (∀
                                                                                                                                                                                                                                                                                                        (z :
                                                                                                                                                                                                                                                                                                          Int),
                                                                                                                                                                                                                                                                                                        List.Mem
                                                                                                                                                                                                                                                                                                            z
                                                                                                                                                                                                                                                                                                            zs →
                                                                                                                                                                                                                                                                                                          0 ≤
                                                                                                                                                                                                                                                                                                              z ∧
                                                                                                                                                                                                                                                                                                            z ≤
                                                                                                                                                                                                                                                                                                              255) ∧
                                                                                                                                                                                                                                                                                                      (Option.map
                                                                                                                                                                                                                                                                                                            (fun
                                                                                                                                                                                                                                                                                                                (x :
                                                                                                                                                                                                                                                                                                                  Addr) =>
                                                                                                                                                                                                                                                                                                              Addr.add
                                                                                                                                                                                                                                                                                                                x
                                                                                                                                                                                                                                                                                                                0)
                                                                                                                                                                                                                                                                                                            base =
                                                                                                                                                                                                                                                                                                          none →
                                                                                                                                                                                                                                                                                                        zs =
                                                                                                                                                                                                                                                                                                          [])) ∧
                                                                                                                                                                                                                                                                                              l'_1 ≤
                                                                                                                                                                                                                                                                                                  100000 ∧
                                                                                                                                                                                                                                                                                                Mem.le
                                                                                                                                                                                                                                                                                                    E
                                                                                                                                                                                                                                                                                                    E' ∧
                                                                                                                                                                                                                                                                                                  K
                                                                                                                                                                                                                                                                                                    (SV.raw
                                                                                                                                                                                                                                                                                                      (Value.bool
                                                                                                                                                                                                                                                                                                        true))
                                                                                                                                                                                                                                                                                                    E')
  intro c1 M1 e1 w1
  have B1 : Bs M1 (c1.map fun x => x.add 0) 1 1 [0] := Bs.win w1 rfl rfl (Nat.le_refl _) (by decide)
  refine ⟨_, B1, by omega, by kernel_rfl, ?_⟩
  intro N1 f1
  intro c2 M2 e2 w2
  have B2 : Bs M2 (c2.map fun x => x.add 0) 1 1 [1] := Bs.win w2 rfl rfl (Nat.le_refl _) (by decide)
  refine ⟨_, B2, by omega, by kernel_rfl, ?_⟩
  intro N2 f2
  intro c3 M3 e3 w3
  have B3 : Bs M3 (c3.map fun x => x.add 0) 1 1 [2] := Bs.win w3 rfl rfl (Nat.le_refl _) (by decide)
  refine ⟨_, B3, by omega, by kernel_rfl, ?_⟩
  intro N3 f3
  intro c4 M4 e4 w4
  have B4 : Bs M4 (c4.map fun x => x.add 0) 1 1 [126] := Bs.win w4 rfl rfl (Nat.le_refl _) (by decide)
  refine ⟨_, B4, by omega, by kernel_rfl, ?_⟩
  intro N4 f4
  intro c5 M5 e5 w5
  have B5 : Bs M5 (c5.map fun x => x.add 0) 1 1 [127] := Bs.win w5 rfl rfl (Nat.le_refl _) (by decide)
  refine ⟨_, B5, by omega, by kernel_rfl, ?_⟩
  intro N5 f5
  intro c6 M6 e6 w6
  have B6 : Bs M6 (c6.map fun x => x.add 0) 2 2 [128, 1] := Bs.win w6 rfl rfl (Nat.le_refl _) (by decide)
  refine ⟨_, B6, by omega, by kernel_rfl, ?_⟩
  intro N6 f6
  intro c7 M7 e7 w7
  have B7 : Bs M7 (c7.map fun x => x.add 0) 2 2 [216, 4] := Bs.win w7 rfl rfl (Nat.le_refl _) (by decide)
  refine ⟨_, B7, by omega, by kernel_rfl, ?_⟩
  intro N7 f7
  intro c8 M8 e8 w8
  have B8 : Bs M8 (c8.map fun x => x.add 0) 1 1 [9] := Bs.win w8 rfl rfl (Nat.le_refl _) (by decide)
  refine ⟨_, [2, 6, 1, 200, 1, 2, 2, 9], B8, by omega, by kernel_rfl, ?_⟩
  intro pb pl pc N8 f8 PB
  have PB : Bs N8 pb pl pc [2, 6, 1, 200, 1, 2, 2, 9] := PB
  have pl8 := PB.2.1
  intro c9 M9 e9 w9
  have B9 : Bs M9 (c9.map fun x => x.add 0) 8 8 [2, 6, 1, 200, 1, 2, 2, 9] := Bs.win w9 rfl rfl (Nat.le_refl _) (by decide)
  refine ⟨_, B9, by omega, by kernel_rfl, ?_⟩
  intro xk xf xt xa xy ub ul uc ys N9 f9 U UB
  have U : uk0 [2, 6, 1, 200, 1, 2, 2, 9] 0 = ([xk, xf, xt, xa, xy], ys, 0) := U
  have U2 : uk0 [2, 6, 1, 200, 1, 2, 2, 9] 0 = ([1, 3, -1, 100, 1], [9], 0) := by kernel_rfl
  rw [U2] at U
  obtain ⟨U3, U4⟩ := Prod.mk.inj U
  obtain ⟨U4, _⟩ := Prod.mk.inj U4
  have UB : Bs N9 ub ul uc ys := UB
  rw [← U4] at UB
  intro c10 M10 e10 w10
  have B10 : Bs M10 (c10.map fun x => x.add 0) 7 7 [2, 6, 1, 200, 1, 2, 2] := Bs.win w10 rfl rfl (Nat.le_refl _) (by decide)
  refine ⟨_, B10, by omega, by kernel_rfl, ?_⟩
  intro _ _ _ _ _ _ _ _ _ N10 f10 _ _
  intro c11 M11 e11 w11
  have B11 : Bs M11 (c11.map fun x => x.add 0) 2 2 [128, 0] := Bs.win w11 rfl rfl (Nat.le_refl _) (by decide)
  refine ⟨_, B11, by omega, by kernel_rfl, ?_⟩
  intro _ _ N11 f11
  intro c12 M12 e12 w12
  have B12 : Bs M12 (c12.map fun x => x.add 0) 1 1 [5] := Bs.win w12 rfl rfl (Nat.le_refl _) (by decide)
  intro c13 M13 e13 w13
  have B13 : Bs M13 (c13.map fun x => x.add 0) 3 3 [7, 7, 7] := Bs.win w13 rfl rfl (Nat.le_refl _) (by decide)
  refine ⟨_, _, [5, 6, 7, 7, 7], B12.mono e13, B13, by omega, by kernel_rfl, ?_⟩
  intro xb xl xc N13 f13 XB
  have XB : Bs N13 xb xl xc [5, 6, 7, 7, 7] := XB
  have xl5 := XB.2.1
  intro c14 M14 e14 w14
  have B14 : Bs M14 (c14.map fun x => x.add 0) 8 8 [2, 6, 1, 200, 1, 2, 2, 9] := Bs.win w14 rfl rfl (Nat.le_refl _) (by decide)
  refine ⟨_, PB.mono (Mem.le_trans (Mem.le_trans (Mem.le_trans (Mem.le_trans (Mem.le_trans (Mem.le_trans (Mem.le_trans (Mem.le_trans (Mem.le_trans e9 f9) e10) f10) e11) f11) e12) e13) f13) e14), B14, by rw [← pl8]; decide, [9], B8.mono (Mem.le_trans f8 (Mem.le_trans (Mem.le_trans (Mem.le_trans (Mem.le_trans (Mem.le_trans (Mem.le_trans (Mem.le_trans (Mem.le_trans (Mem.le_trans e9 f9) e10) f10) e11) f11) e12) e13) f13) e14)), UB.mono (Mem.le_trans (Mem.le_trans (Mem.le_trans (Mem.le_trans (Mem.le_trans (Mem.le_trans (Mem.le_trans e10 f10) e11) f11) e12) e13) f13) e14), by omega, U3, Mem.le_refl _, ?_⟩
  intro c15 M15 e15 w15
  have B15 : Bs M15 (c15.map fun x => x.add 0) 5 5 [5, 6, 7, 7, 7] := Bs.win w15 rfl rfl (Nat.le_refl _) (by decide)
  exact ⟨_, XB.mono (Mem.le_trans e14 e15), B15, by rw [← xl5]; decide, Mem.le_trans (Mem.le_trans (Mem.le_trans (Mem.le_trans (Mem.le_trans (Mem.le_trans (Mem.le_trans (Mem.le_trans (Mem.le_trans (Mem.le_trans (Mem.le_trans (Mem.le_trans (Mem.le_trans (Mem.le_trans (Mem.le_trans (Mem.le_trans (Mem.le_trans (Mem.le_trans (Mem.le_trans (Mem.le_trans (Mem.le_trans (Mem.le_trans (Mem.le_trans (Mem.le_trans (Mem.le_trans (Mem.le_trans (Mem.le_trans (Mem.le_refl E) e1) f1) e2) f2) e3) f3) e4) f4) e5) f5) e6) f6) e7) f7) e8) f8) e9) f9) e10) f10) e11) f11) e12) e13) f13) e14) e15, h _ (Mem.le_trans (Mem.le_trans (Mem.le_trans (Mem.le_trans (Mem.le_trans (Mem.le_trans (Mem.le_trans (Mem.le_trans (Mem.le_trans (Mem.le_trans (Mem.le_trans (Mem.le_trans (Mem.le_trans (Mem.le_trans (Mem.le_trans (Mem.le_trans (Mem.le_trans (Mem.le_trans (Mem.le_trans (Mem.le_trans (Mem.le_trans (Mem.le_trans (Mem.le_trans (Mem.le_trans (Mem.le_trans (Mem.le_trans (Mem.le_trans (Mem.le_refl E) e1) f1) e2) f2) e3) f3) e4) f4) e5) f5) e6) f6) e7) f7) e8) f8) e9) f9) e10) f10) e11) f11) e12) e13) f13) e14) e15)⟩

end Go.Proofs.Ytjlpfhekhpebpaa.WireOwn
