/- The law WireMatchesReference. -/
import Derived.Test.YtjlpfhekhpebpaaWire11
import Derived.Test.YtjlpfhekhpebpaaRows
namespace Go.Proofs.Ytjlpfhekhpebpaa.WireOwn
open Go Go.Sx Go.Proofs.Ytjlpfhekhpebpaa
set_option maxRecDepth 100000
set_option maxHeartbeats 4000000
set_option linter.unusedVariables false
set_option linter.unusedSimpArgs false
variable {E : Mem} {K : SV → Mem → Prop}
noncomputable def tabL3 : FuncId → List SV → Mem → (SV → Mem → Prop) → Prop := fun f args E K => match f with
  | 10 => d0 args ((∀ (E' : Mem), Mem.le E E' → K (B true) E'))
  | 12 => d2 args fun x0 x1 => dS x0 fun b1 l2 c3 => dI x1 fun a4 => ∃ (zs : List Int), Bs E b1 l2 c3 zs ∧ l2 ≤ 10000 ∧ (∀ (b' : Option Addr) (l' c' : Nat) (ys : List Int) (e : Int) (E' : Mem), Mem.le E E' → Hyp (putN zs a4 = (ys, e)) → Bs E' b' l' c' ys → K (.tup [L b' l' c', I e]) E')
  | 13 => d2 args fun x0 x1 => dS x0 fun b1 l2 c3 => dI x1 fun a4 => ∃ (zs : List Int), Bs E b1 l2 c3 zs ∧ l2 ≤ 10000 ∧ (∀ (b' : Option Addr) (l' c' : Nat) (ys : List Int) (e : Int) (E' : Mem), Mem.le E E' → Hyp (putN zs a4 = (ys, e)) → Bs E' b' l' c' ys → K (.tup [L b' l' c', I e]) E')
  | 14 => d2 args fun x0 x1 => dS x0 fun b1 l2 c3 => dS x1 fun b4 l5 c6 => ∃ (zs : List Int), Bs E b1 l2 c3 zs ∧ Bs E b4 l5 c6 zs ∧ l2 ≤ 100000 ∧ (K (B true) E)
  | 15 => d2 args fun x0 x1 => dS x0 fun b1 l2 c3 => dI x1 fun a4 => ∃ (zs : List Int), Bs E b1 l2 c3 zs ∧ l2 ≤ 100000 ∧ (∀ (n end' e : Int) (E' : Mem), Mem.le E E' → Hyp (rd zs a4 = (n, end', e)) → K (.tup [I n, I end', I e]) E')
  | 16 => d2 args fun x0 x1 => dS x0 fun b1 l2 c3 => dI x1 fun a4 => ∃ (zs : List Int), Bs E b1 l2 c3 zs ∧ l2 ≤ 100000 ∧ (∀ (n end' e : Int) (E' : Mem), Mem.le E E' → Hyp (rd zs a4 = (n, end', e)) → K (.tup [I n, I end', I e]) E')
  | 17 => d2 args fun x0 x1 => dS x0 fun b1 l2 c3 => dS x1 fun b4 l5 c6 => ∃ (zs : List Int) (xs : List Int), Bs E b1 l2 c3 zs ∧ Bs E b4 l5 c6 xs ∧ l2 ≤ 10000 ∧ (∀ (b' : Option Addr) (l' c' : Nat) (ys : List Int) (e : Int) (E' : Mem), Mem.le E E' → Hyp (putB zs xs = (ys, e)) → Bs E' b' l' c' ys → K (.tup [L b' l' c', I e]) E')
  | 18 => d2 args fun x0 x1 => dS x0 fun b1 l2 c3 => dS x1 fun b4 l5 c6 => ∃ (zs : List Int) (xs : List Int), Bs E b1 l2 c3 zs ∧ Bs E b4 l5 c6 xs ∧ l2 ≤ 10000 ∧ (∀ (b' : Option Addr) (l' c' : Nat) (ys : List Int) (e : Int) (E' : Mem), Mem.le E E' → Hyp (putB zs xs = (ys, e)) → Bs E' b' l' c' ys → K (.tup [L b' l' c', I e]) E')
  | 19 => d2 args fun x0 x1 => dS x0 fun b1 l2 c3 => dI x1 fun a4 => ∃ (zs : List Int), Bs E b1 l2 c3 zs ∧ l2 ≤ 100000 ∧ (∀ (b' : Option Addr) (l' c' : Nat) (ys : List Int) (end' e : Int) (E' : Mem), Mem.le E E' → Hyp (rdB zs a4 = (ys, end', e)) → Bs E' b' l' c' ys → K (.tup [L b' l' c', I end', I e]) E')
  | 20 => d2 args fun x0 x1 => dS x0 fun b1 l2 c3 => dI x1 fun a4 => ∃ (zs : List Int), Bs E b1 l2 c3 zs ∧ l2 ≤ 100000 ∧ (∀ (b' : Option Addr) (l' c' : Nat) (ys : List Int) (end' e : Int) (E' : Mem), Mem.le E E' → Hyp (rdB zs a4 = (ys, end', e)) → Bs E' b' l' c' ys → K (.tup [L b' l' c', I end', I e]) E')
  | 21 => d1 args fun x0 => dC x0 fun l1 => d6 l1 fun x0_0 x0_1 x0_2 x0_3 x0_4 x0_5 => dI x0_0 fun a1 => dI x0_1 fun a2 => dI x0_2 fun a3 => dI x0_3 fun a4 => dI x0_4 fun a5 => dS x0_5 fun b6 l7 c8 => ∃ (zs : List Int), Bs E b6 l7 c8 zs ∧ l7 ≤ 100000 ∧ (∀ (b' : Option Addr) (l' c' : Nat) (ys : List Int) (e : Int) (E' : Mem), Mem.le E E' → Hyp (pk a1 a2 a3 a4 a5 zs = (ys, e)) → Bs E' b' l' c' ys → K (.tup [L b' l' c', I e]) E')
  | 22 => d1 args fun x0 => dC x0 fun l1 => d6 l1 fun x0_0 x0_1 x0_2 x0_3 x0_4 x0_5 => dI x0_0 fun a1 => dI x0_1 fun a2 => dI x0_2 fun a3 => dI x0_3 fun a4 => dI x0_4 fun a5 => dS x0_5 fun b6 l7 c8 => ∃ (zs : List Int), Bs E b6 l7 c8 zs ∧ l7 ≤ 100000 ∧ (∀ (b' : Option Addr) (l' c' : Nat) (ys : List Int) (e : Int) (E' : Mem), Mem.le E E' → Hyp (pk a1 a2 a3 a4 a5 zs = (ys, e)) → Bs E' b' l' c' ys → K (.tup [L b' l' c', I e]) E')
  | 23 => d1 args fun x0 => dS x0 fun b1 l2 c3 => ∃ (zs : List Int), Bs E b1 l2 c3 zs ∧ l2 ≤ 100000 ∧ (∀ (k1 f1 t1 a1 y1 : Int) (b1 : Option Addr) (l1 c1 : Nat) (ys : List Int) (e1 : Int) (E' : Mem), Mem.le E E' → Hyp (uk0 zs 0 = ([k1, f1, t1, a1, y1], ys, e1)) → Bs E' b1 l1 c1 ys → K (.tup [.agg [I k1, I f1, I t1, I a1, I y1, L b1 l1 c1], I e1]) E')
  | 24 => d1 args fun x0 => dS x0 fun b1 l2 c3 => ∃ (zs : List Int), Bs E b1 l2 c3 zs ∧ l2 ≤ 100000 ∧ (∀ (k1 f1 t1 a1 y1 : Int) (b1 : Option Addr) (l1 c1 : Nat) (ys : List Int) (e1 : Int) (E' : Mem), Mem.le E E' → Hyp (uk0 zs 0 = ([k1, f1, t1, a1, y1], ys, e1)) → Bs E' b1 l1 c1 ys → K (.tup [.agg [I k1, I f1, I t1, I a1, I y1, L b1 l1 c1], I e1]) E')
  | 25 => d2 args fun x0 x1 => dC x0 fun l1 => d6 l1 fun x0_0 x0_1 x0_2 x0_3 x0_4 x0_5 => dI x0_0 fun a1 => dI x0_1 fun a2 => dI x0_2 fun a3 => dI x0_3 fun a4 => dI x0_4 fun a5 => dS x0_5 fun b6 l7 c8 => dC x1 fun l2 => d6 l2 fun x1_0 x1_1 x1_2 x1_3 x1_4 x1_5 => dI x1_0 fun a9 => dI x1_1 fun a10 => dI x1_2 fun a11 => dI x1_3 fun a12 => dI x1_4 fun a13 => dS x1_5 fun b14 l15 c16 => ∃ (zs : List Int), Bs E b6 l7 c8 zs ∧ Bs E b14 l15 c16 zs ∧ l7 ≤ 100000 ∧ [a1, a2, a3, a4, a5] = [a9, a10, a11, a12, a13] ∧ (K (B true) E)
  | _ => False
theorem tabL3_ok : TabOK Try.prog tabL3 := by
  intro f args E K h
  unfold tabL3 at h
  split at h
  · obtain ⟨rfl, h⟩ := d0_elim h
    exact TabSem.congr rfl (Ent.sem okWJ Try.func10 ⟨by kernel_rfl, by kernel_rfl⟩ rfl (s10 h))
  · obtain ⟨x0, x1, rfl, h⟩ := d2_elim h
    obtain ⟨b1, l2, c3, rfl, h⟩ := dS_elim h
    obtain ⟨a4, rfl, h⟩ := dI_elim h
    obtain ⟨zs, g0, g1, h⟩ := h
    exact TabSem.congr (valL_cons rfl (valL_cons rfl rfl)) (Ent.sem okW1 Try.func12 ⟨by kernel_rfl, by kernel_rfl⟩ rfl (s12' g0 g1 h))
  · obtain ⟨x0, x1, rfl, h⟩ := d2_elim h
    obtain ⟨b1, l2, c3, rfl, h⟩ := dS_elim h
    obtain ⟨a4, rfl, h⟩ := dI_elim h
    obtain ⟨zs, g0, g1, h⟩ := h
    exact TabSem.congr (valL_cons rfl (valL_cons rfl rfl)) (Ent.sem okW5 Try.func13 ⟨by kernel_rfl, by kernel_rfl⟩ rfl (s13 g0 g1 h))
  · obtain ⟨x0, x1, rfl, h⟩ := d2_elim h
    obtain ⟨b1, l2, c3, rfl, h⟩ := dS_elim h
    obtain ⟨b4, l5, c6, rfl, h⟩ := dS_elim h
    obtain ⟨zs, g0, g1, g2, h⟩ := h
    exact TabSem.congr (valL_cons rfl (valL_cons rfl rfl)) (Ent.sem okWB Try.func14 ⟨by kernel_rfl, by kernel_rfl⟩ rfl (h14 g0 g1 g2 h))
  · obtain ⟨x0, x1, rfl, h⟩ := d2_elim h
    obtain ⟨b1, l2, c3, rfl, h⟩ := dS_elim h
    obtain ⟨a4, rfl, h⟩ := dI_elim h
    obtain ⟨zs, g0, g1, h⟩ := h
    exact TabSem.congr (valL_cons rfl (valL_cons rfl rfl)) (Ent.sem okW7 Try.func15 ⟨by kernel_rfl, by kernel_rfl⟩ rfl (s15 g0 g1 h))
  · obtain ⟨x0, x1, rfl, h⟩ := d2_elim h
    obtain ⟨b1, l2, c3, rfl, h⟩ := dS_elim h
    obtain ⟨a4, rfl, h⟩ := dI_elim h
    obtain ⟨zs, g0, g1, h⟩ := h
    exact TabSem.congr (valL_cons rfl (valL_cons rfl rfl)) (Ent.sem okWA Try.func16 ⟨by kernel_rfl, by kernel_rfl⟩ rfl (s16 g0 g1 h))
  · obtain ⟨x0, x1, rfl, h⟩ := d2_elim h
    obtain ⟨b1, l2, c3, rfl, h⟩ := dS_elim h
    obtain ⟨b4, l5, c6, rfl, h⟩ := dS_elim h
    obtain ⟨zs, xs, g0, g1, g2, h⟩ := h
    exact TabSem.congr (valL_cons rfl (valL_cons rfl rfl)) (Ent.sem okW6 Try.func17 ⟨by kernel_rfl, by kernel_rfl⟩ rfl (s17 g0 g1 g2 h))
  · obtain ⟨x0, x1, rfl, h⟩ := d2_elim h
    obtain ⟨b1, l2, c3, rfl, h⟩ := dS_elim h
    obtain ⟨b4, l5, c6, rfl, h⟩ := dS_elim h
    obtain ⟨zs, xs, g0, g1, g2, h⟩ := h
    exact TabSem.congr (valL_cons rfl (valL_cons rfl rfl)) (Ent.sem okW5 Try.func18 ⟨by kernel_rfl, by kernel_rfl⟩ rfl (s18 g0 g1 g2 h))
  · obtain ⟨x0, x1, rfl, h⟩ := d2_elim h
    obtain ⟨b1, l2, c3, rfl, h⟩ := dS_elim h
    obtain ⟨a4, rfl, h⟩ := dI_elim h
    obtain ⟨zs, g0, g1, h⟩ := h
    exact TabSem.congr (valL_cons rfl (valL_cons rfl rfl)) (Ent.sem okWP1 Try.func19 ⟨by kernel_rfl, by kernel_rfl⟩ rfl (s19 g0 g1 h))
  · obtain ⟨x0, x1, rfl, h⟩ := d2_elim h
    obtain ⟨b1, l2, c3, rfl, h⟩ := dS_elim h
    obtain ⟨a4, rfl, h⟩ := dI_elim h
    obtain ⟨zs, g0, g1, h⟩ := h
    exact TabSem.congr (valL_cons rfl (valL_cons rfl rfl)) (Ent.sem okWR1 Try.func20 ⟨by kernel_rfl, by kernel_rfl⟩ rfl (s20 g0 g1 h))
  · obtain ⟨x0, rfl, h⟩ := d1_elim h
    obtain ⟨l1, hl1, h⟩ := dC_elim h
    obtain ⟨x0_0, x0_1, x0_2, x0_3, x0_4, x0_5, rfl, h⟩ := d6_elim h
    obtain ⟨a1, rfl, h⟩ := dI_elim h
    obtain ⟨a2, rfl, h⟩ := dI_elim h
    obtain ⟨a3, rfl, h⟩ := dI_elim h
    obtain ⟨a4, rfl, h⟩ := dI_elim h
    obtain ⟨a5, rfl, h⟩ := dI_elim h
    obtain ⟨b6, l7, c8, rfl, h⟩ := dS_elim h
    obtain ⟨zs, g0, g1, h⟩ := h
    exact TabSem.congr (valL_cons (asCells_val hl1) rfl) (Ent.sem okWE Try.func21 ⟨by kernel_rfl, by kernel_rfl⟩ rfl (s21 g0 g1 h))
  · obtain ⟨x0, rfl, h⟩ := d1_elim h
    obtain ⟨l1, hl1, h⟩ := dC_elim h
    obtain ⟨x0_0, x0_1, x0_2, x0_3, x0_4, x0_5, rfl, h⟩ := d6_elim h
    obtain ⟨a1, rfl, h⟩ := dI_elim h
    obtain ⟨a2, rfl, h⟩ := dI_elim h
    obtain ⟨a3, rfl, h⟩ := dI_elim h
    obtain ⟨a4, rfl, h⟩ := dI_elim h
    obtain ⟨a5, rfl, h⟩ := dI_elim h
    obtain ⟨b6, l7, c8, rfl, h⟩ := dS_elim h
    obtain ⟨zs, g0, g1, h⟩ := h
    exact TabSem.congr (valL_cons (asCells_val hl1) rfl) (Ent.sem okWF Try.func22 ⟨by kernel_rfl, by kernel_rfl⟩ rfl (s22 g0 g1 h))
  · obtain ⟨x0, rfl, h⟩ := d1_elim h
    obtain ⟨b1, l2, c3, rfl, h⟩ := dS_elim h
    obtain ⟨zs, g0, g1, h⟩ := h
    exact TabSem.congr (valL_cons rfl rfl) (Ent.sem okWG Try.func23 ⟨by kernel_rfl, by kernel_rfl⟩ rfl (s23 g0 g1 h))
  · obtain ⟨x0, rfl, h⟩ := d1_elim h
    obtain ⟨b1, l2, c3, rfl, h⟩ := dS_elim h
    obtain ⟨zs, g0, g1, h⟩ := h
    exact TabSem.congr (valL_cons rfl rfl) (Ent.sem okWH Try.func24 ⟨by kernel_rfl, by kernel_rfl⟩ rfl (s24 g0 g1 h))
  · obtain ⟨x0, x1, rfl, h⟩ := d2_elim h
    obtain ⟨l1, hl1, h⟩ := dC_elim h
    obtain ⟨x0_0, x0_1, x0_2, x0_3, x0_4, x0_5, rfl, h⟩ := d6_elim h
    obtain ⟨a1, rfl, h⟩ := dI_elim h
    obtain ⟨a2, rfl, h⟩ := dI_elim h
    obtain ⟨a3, rfl, h⟩ := dI_elim h
    obtain ⟨a4, rfl, h⟩ := dI_elim h
    obtain ⟨a5, rfl, h⟩ := dI_elim h
    obtain ⟨b6, l7, c8, rfl, h⟩ := dS_elim h
    obtain ⟨l2, hl2, h⟩ := dC_elim h
    obtain ⟨x1_0, x1_1, x1_2, x1_3, x1_4, x1_5, rfl, h⟩ := d6_elim h
    obtain ⟨a9, rfl, h⟩ := dI_elim h
    obtain ⟨a10, rfl, h⟩ := dI_elim h
    obtain ⟨a11, rfl, h⟩ := dI_elim h
    obtain ⟨a12, rfl, h⟩ := dI_elim h
    obtain ⟨a13, rfl, h⟩ := dI_elim h
    obtain ⟨b14, l15, c16, rfl, h⟩ := dS_elim h
    obtain ⟨zs, g0, g1, g2, g3, h⟩ := h
    exact TabSem.congr (valL_cons (asCells_val hl1) (valL_cons (asCells_val hl2) rfl)) (Ent.sem okWC Try.func25 ⟨by kernel_rfl, by kernel_rfl⟩ rfl (h25 g0 g1 g2 g3 h))
  · exact h.elim
noncomputable def WL3 : Cx := { P := Try.prog, inl := fun f => List.contains [11] f, tab := tabL3, isB := fun _ => false, tabB := fun _ _ _ _ _ => False, opt := { unroll := 0, carry := [], cuts := [8, 11, 14, 17, 20] }, muts := mutsD }
theorem okWL3 : CxOK WL3 := ⟨tabL3_ok, by kernel_rfl, okInl (by kernel_rfl), fun _ _ _ _ _ h => h.elim⟩
def shL3 (b1 : Option Addr) (l1 c1 : Nat) (b2 : Option Addr) (l2 c2 : Nat) (a2 a3 a4 a5 a6 a7 : Int) (b3 : Option Addr) (l3 c3 : Nat) (E : Mem) : St := { fr := [some (L b1 l1 c1), some (L b2 l2 c2), none, some (I a2), none, none, none, none, none, some (.loc 0 0), none, some (B true), none, none, none, none, none, none, none, none, none, none, none, none, none, none, none, none, none, none, none, none, none, none, none, none, none, none, none, none, none, none, none, none, none, none, none, none, none, none, none, none, none, none, none, none, none, none, none, none, none, none, none, none, none, none, none, none, none, none, none, none, none, none, none, none, none, none, none, none, none, none, none, none, none, none, none, none, none, none, none, none, none, none, none, none, none, none, none, none, none, none, none, none, none, none, none, none, none, none, none, none, none, none, none, none, none, none, none, none, none, none, none, none, none, none, none, none, none, none, none, none, none, none, none, none, none, none, none, none, none, none, none, none, none, none, none, none, none, none, none, none, none, none, none, none, none, none, none, none, none, none, none, none, none, none, none, none, none, none, none, none, none, none, none, none, none, none, none, none, none, none, none, none], bx := [⟨24, .lst [I a3, I a4, I a5, I a6, I a7, L b3 l3 c3], 6, true⟩], E := E }

theorem putN_len {zs ys : List Int} {n e : Int} (h : putN zs n = (ys, e)) (hz : zs.length ≤ 6000) : ys.length ≤ 100000 := by
  unfold putN at h
  split at h
  · cases h; have := dig_len7 (zig n); simp; omega
  · cases h; simp
theorem putB_len {zs xs ys : List Int} {e : Int} (h : putB zs xs = (ys, e)) (hz : zs.length ≤ 6000) : ys.length ≤ 100000 := by
  unfold putB at h
  split at h
  · cases h; have := dig_len7 (zig xs.length); simp; omega
  · cases h; simp
theorem rdB_len {zs ys : List Int} {a p e : Int} (h : rdB zs a = (ys, p, e)) : ys.length ≤ 100000 := by
  unfold rdB at h
  split at h
  split at h
  · cases h; simp
  · split at h
    · cases h; simp
    · split at h
      · cases h; simp
      · cases h; rw [List.length_take]; omega
theorem pk_len {k f t a y e : Int} {zs ys : List Int} (h : pk k f t a y zs = (ys, e)) : ys.length ≤ 100000 := by
  unfold pk at h
  split at h
  · cases h
    have h1 := dig_len7 (zig k); have h2 := dig_len7 (zig f); have h3 := dig_len7 (zig t); have h4 := dig_len7 (zig a); have h5 := dig_len7 (zig y); have h6 := dig_len7 (zig zs.length)
    simp only [List.length_append]; omega
  · cases h; simp
theorem uk5_len {zs : List Int} {p k f t a y : Int} {l ys : List Int} {e : Int} (h : uk5 zs p k f t a y = (l, ys, e)) : ys.length ≤ 100000 := by
  unfold uk5 at h
  split at h
  rename_i w _ _ hw
  split at h
  · cases h; simp
  · split at h
    · cases h; simp
    · cases h; exact rdB_len hw
theorem uk4_len {zs : List Int} {p k f t a : Int} {l ys : List Int} {e : Int} (h : uk4 zs p k f t a = (l, ys, e)) : ys.length ≤ 100000 := by
  unfold uk4 at h
  split at h
  split at h
  · cases h; simp
  · exact uk5_len h
theorem uk3_len {zs : List Int} {p k f t : Int} {l ys : List Int} {e : Int} (h : uk3 zs p k f t = (l, ys, e)) : ys.length ≤ 100000 := by
  unfold uk3 at h
  split at h
  split at h
  · cases h; simp
  · exact uk4_len h
theorem uk2_len {zs : List Int} {p k f : Int} {l ys : List Int} {e : Int} (h : uk2 zs p k f = (l, ys, e)) : ys.length ≤ 100000 := by
  unfold uk2 at h
  split at h
  split at h
  · cases h; simp
  · exact uk3_len h
theorem uk1_len {zs : List Int} {p k : Int} {l ys : List Int} {e : Int} (h : uk1 zs p k = (l, ys, e)) : ys.length ≤ 100000 := by
  unfold uk1 at h
  split at h
  split at h
  · cases h; simp
  · exact uk2_len h
theorem uk0_len {zs : List Int} {p : Int} {l ys : List Int} {e : Int} (h : uk0 zs p = (l, ys, e)) : ys.length ≤ 100000 := by
  unfold uk0 at h
  split at h
  split at h
  · cases h; simp
  · exact uk1_len h
theorem pcL3_20 {b1 : Option Addr} {l1 c1 : Nat} {b2 : Option Addr} {l2 c2 : Nat} {a2 a3 a4 a5 a6 a7 : Int} {b3 : Option Addr} {l3 c3 : Nat} {z1 z2 z3 : List Int} {E0 : Mem} (hB1 : Bs E b1 l1 c1 z1) (hB2 : Bs E b2 l2 c2 z2) (hB3 : Bs E b3 l3 c3 z3) (g1 : l1 ≤ 6000) (g2 : l2 ≤ 6000) (g3 : l3 ≤ 6000) (hE0 : Mem.le E0 E) (h : ∀ E', Mem.le E E' → K (B true) E') : Pc WL3 6 Try.f3 [1, 1, 1, 1, 1, 1, 1, 1, 1, 1, 1, 1, 1, 1, 1, 1, 1, 1, 1] 0 (pubK E0 K) (shL3 b1 l1 c1 b2 l2 c2 a2 a3 a4 a5 a6 a7 b3 l3 c3 E) := by
  refine same (by kernel_rfl) (?_ : 
      ∃ (zs : List Int),
        ((zs = [] ∨ E (Value.slice b1 l1 c1) (List.map (Value.int IntKind.u8) zs)) ∧
            List.length zs = l1 ∧ l1 ≤ c1 ∧ (∀ (z : Int), List.Mem z zs → 0 ≤ z ∧ z ≤ 255) ∧ (b1 = none → zs = [])) ∧
          l1 ≤ 100000 ∧
            ∀ (k1 f1 t1 a1 y1 : Int) (b1_1 : Option Addr) (l1_1 c1_1 : Nat) (ys : List Int) (e1 : Int) (E' : Mem),
              Mem.le E E' →
                Hyp (uk0 zs 0 = ([k1, f1, t1, a1, y1], ys, e1)) →
                  (ys = [] ∨ E' (Value.slice b1_1 l1_1 c1_1) (List.map (Value.int IntKind.u8) ys)) ∧
                      List.length ys = l1_1 ∧
                        l1_1 ≤ c1_1 ∧ (∀ (z : Int), List.Mem z ys → 0 ≤ z ∧ z ≤ 255) ∧ (b1_1 = none → ys = []) →
                    Mem.le E E' ∧
                      ∃ (zs : List Int),
                        ((zs = [] ∨ E' (Value.slice b1 l1 c1) (List.map (Value.int IntKind.u8) zs)) ∧
                            List.length zs = l1 ∧
                              l1 ≤ c1 ∧ (∀ (z : Int), List.Mem z zs → 0 ≤ z ∧ z ≤ 255) ∧ (b1 = none → zs = [])) ∧
                          l1 ≤ 100000 ∧
                            ∀ (k1_1 f1_1 t1_1 a1_1 y1_1 : Int) (b1 : Option Addr) (l1 c1 : Nat) (ys : List Int) (e1_1 : Int)
                              (E'_1 : Mem),
                              Mem.le E' E'_1 →
                                Hyp (uk0 zs 0 = ([k1_1, f1_1, t1_1, a1_1, y1_1], ys, e1_1)) →
                                  (ys = [] ∨ E'_1 (Value.slice b1 l1 c1) (List.map (Value.int IntKind.u8) ys)) ∧
                                      List.length ys = l1 ∧
                                        l1 ≤ c1 ∧ (∀ (z : Int), List.Mem z ys → 0 ≤ z ∧ z ≤ 255) ∧ (b1 = none → ys = []) →
                                    Mem.le E' E'_1 ∧
                                      ∃ (zs : List Int),
                                        ((zs = [] ∨ E'_1 (Value.slice b1_1 l1_1 c1_1) (List.map (Value.int IntKind.u8) zs)) ∧
                                            List.length zs = l1_1 ∧
                                              l1_1 ≤ c1_1 ∧
                                                (∀ (z : Int), List.Mem z zs → 0 ≤ z ∧ z ≤ 255) ∧ (b1_1 = none → zs = [])) ∧
                                          ((zs = [] ∨ E'_1 (Value.slice b1 l1 c1) (List.map (Value.int IntKind.u8) zs)) ∧
                                              List.length zs = l1 ∧
                                                l1 ≤ c1 ∧
                                                  (∀ (z : Int), List.Mem z zs → 0 ≤ z ∧ z ≤ 255) ∧ (b1 = none → zs = [])) ∧
                                            l1_1 ≤ 100000 ∧
                                              [k1, f1, t1, a1, y1] = [k1_1, f1_1, t1_1, a1_1, y1_1] ∧
                                                Mem.le E'_1 E'_1 ∧
                                                  Mem.le E0 E'_1 ∧
                                                    K (SV.raw (Value.bool (bif true then e1 == e1_1 else false))) E'_1)
  refine ⟨_, hB1, by omega, fun k f t a y ab al ac ys e E2 q2 hy A => ⟨q2, _, hB1.mono q2, by omega, fun k' f' t' a' y' bb bl bc ys' e' E3 q3 hy' A' => ⟨q3, ?_⟩⟩⟩
  have hy : uk0 z1 0 = ([k, f, t, a, y], ys, e) := hy
  have hy' : uk0 z1 0 = ([k', f', t', a', y'], ys', e') := hy'
  rw [hy] at hy'
  obtain ⟨hl, hz⟩ := Prod.mk.inj hy'
  obtain ⟨rfl, rfl⟩ := Prod.mk.inj hz
  have A : Bs E2 ab al ac ys := A
  have A' : Bs E3 bb bl bc ys := A'
  have hq := Mem.le_trans q2 q3
  have hlen := uk0_len hy
  refine ⟨ys, A.mono q3, A', by rw [← A.2.1]; exact hlen, hl, Mem.le_refl _, ?_⟩
  rw [show (bif true then e == e else false) = true by simp]
  exact ⟨Mem.le_trans hE0 hq, h E3 hq⟩
theorem pcL3_17 {b1 : Option Addr} {l1 c1 : Nat} {b2 : Option Addr} {l2 c2 : Nat} {a2 a3 a4 a5 a6 a7 : Int} {b3 : Option Addr} {l3 c3 : Nat} {z1 z2 z3 : List Int} {E0 : Mem} (hB1 : Bs E b1 l1 c1 z1) (hB2 : Bs E b2 l2 c2 z2) (hB3 : Bs E b3 l3 c3 z3) (g1 : l1 ≤ 6000) (g2 : l2 ≤ 6000) (g3 : l3 ≤ 6000) (hE0 : Mem.le E0 E) (h : ∀ E', Mem.le E E' → K (B true) E') : Pc WL3 6 Try.f3 [1, 1, 1, 1, 1, 1, 1, 1, 1, 1, 1, 1, 1, 1, 1, 1] 0 (pubK E0 K) (shL3 b1 l1 c1 b2 l2 c2 a2 a3 a4 a5 a6 a7 b3 l3 c3 E) := by
  refine same (by kernel_rfl) (?_ : 
      ∃ (zs : List Int),
        ((zs = [] ∨ E (Value.slice b3 l3 c3) (List.map (Value.int IntKind.u8) zs)) ∧
            List.length zs = l3 ∧ l3 ≤ c3 ∧ (∀ (z : Int), List.Mem z zs → 0 ≤ z ∧ z ≤ 255) ∧ (b3 = none → zs = [])) ∧
          l3 ≤ 100000 ∧
            ∀ (b' : Option Addr) (l' c' : Nat) (ys : List Int) (e : Int) (E' : Mem),
              Mem.le E E' →
                Hyp (pk a3 a4 a5 a6 a7 zs = (ys, e)) →
                  (ys = [] ∨ E' (Value.slice b' l' c') (List.map (Value.int IntKind.u8) ys)) ∧
                      List.length ys = l' ∧ l' ≤ c' ∧ (∀ (z : Int), List.Mem z ys → 0 ≤ z ∧ z ≤ 255) ∧ (b' = none → ys = []) →
                    Mem.le E E' ∧
                      ∃ (zs : List Int),
                        ((zs = [] ∨ E' (Value.slice b3 l3 c3) (List.map (Value.int IntKind.u8) zs)) ∧
                            List.length zs = l3 ∧
                              l3 ≤ c3 ∧ (∀ (z : Int), List.Mem z zs → 0 ≤ z ∧ z ≤ 255) ∧ (b3 = none → zs = [])) ∧
                          l3 ≤ 100000 ∧
                            ∀ (b'_1 : Option Addr) (l'_1 c'_1 : Nat) (ys : List Int) (e_1 : Int) (E'_1 : Mem),
                              Mem.le E' E'_1 →
                                Hyp (pk a3 a4 a5 a6 a7 zs = (ys, e_1)) →
                                  (ys = [] ∨ E'_1 (Value.slice b'_1 l'_1 c'_1) (List.map (Value.int IntKind.u8) ys)) ∧
                                      List.length ys = l'_1 ∧
                                        l'_1 ≤ c'_1 ∧
                                          (∀ (z : Int), List.Mem z ys → 0 ≤ z ∧ z ≤ 255) ∧ (b'_1 = none → ys = []) →
                                    Mem.le E' E'_1 ∧
                                      ∃ (zs : List Int),
                                        ((zs = [] ∨ E'_1 (Value.slice b' l' c') (List.map (Value.int IntKind.u8) zs)) ∧
                                            List.length zs = l' ∧
                                              l' ≤ c' ∧
                                                (∀ (z : Int), List.Mem z zs → 0 ≤ z ∧ z ≤ 255) ∧ (b' = none → zs = [])) ∧
                                          ((zs = [] ∨
                                                E'_1 (Value.slice b'_1 l'_1 c'_1) (List.map (Value.int IntKind.u8) zs)) ∧
                                              List.length zs = l'_1 ∧
                                                l'_1 ≤ c'_1 ∧
                                                  (∀ (z : Int), List.Mem z zs → 0 ≤ z ∧ z ≤ 255) ∧ (b'_1 = none → zs = [])) ∧
                                            l' ≤ 100000 ∧
                                              Mem.le E'_1 E'_1 ∧
                                                Ct WL3 6 Try.f3 [1, 1, 1, 1, 1, 1, 1, 1, 1, 1, 1, 1, 1, 1, 1, 1, 1, 1, 1] 0
                                                  (pubK E0 K)
                                                  {
                                                    fr :=
                                                      [some (SV.raw (Value.slice b1 l1 c1)),
                                                        some (SV.raw (Value.slice b2 l2 c2)), none,
                                                        some (SV.raw (Value.int IntKind.i64 a2)), none, none, none, none,
                                                        none, some (SV.loc 0 0), none,
                                                        some (SV.raw (Value.bool (bif true then e == e_1 else false))), none,
                                                        some (SV.raw (Value.slice b' l' c')),
                                                        some (SV.raw (Value.int IntKind.i64 e)),
                                                        some (SV.raw (Value.slice b'_1 l'_1 c'_1)),
                                                        some (SV.raw (Value.int IntKind.i64 e_1)), none, none, none, none,
                                                        none, none, none, none, none, none, none, none, none, none, none,
                                                        none, none, none, none, none, none, none, none, none, none, none,
                                                        none, none, none, none, none, none, none, none, none, none, none,
                                                        none, none, none, none, none, none, none, none, none, none, none,
                                                        none, none, none, none, none, none, none, none, none, none, none,
                                                        none, none, none, none, none, none, none, none, none, none, none,
                                                        none, none, none, none, none, none, none, none, none, none, none,
                                                        none, none, none, none, none, none, none, none, none, none, none,
                                                        none, none, none, none, none, none, none, none, none, none, none,
                                                        none, none, none, none, none, none, none, none, none, none, none,
                                                        none, none, none, none, none, none, none, none, none, none, none,
                                                        some
                                                          (SV.tup
                                                            [SV.raw (Value.slice b' l' c'),
                                                              SV.raw (Value.int IntKind.i64 e)]),
                                                        some
                                                          (SV.agg
                                                            [SV.raw (Value.int IntKind.i64 a3),
                                                              SV.raw (Value.int IntKind.i64 a4),
                                                              SV.raw (Value.int IntKind.i64 a5),
                                                              SV.raw (Value.int IntKind.i64 a6),
                                                              SV.raw (Value.int IntKind.i64 a7),
                                                              SV.raw (Value.slice b3 l3 c3)]),
                                                        some
                                                          (SV.tup
                                                            [SV.raw (Value.slice b' l' c'),
                                                              SV.raw (Value.int IntKind.i64 e)]),
                                                        some (SV.raw (Value.slice b' l' c')),
                                                        some (SV.raw (Value.int IntKind.i64 e)),
                                                        some
                                                          (SV.tup
                                                            [SV.raw (Value.slice b'_1 l'_1 c'_1),
                                                              SV.raw (Value.int IntKind.i64 e_1)]),
                                                        some
                                                          (SV.agg
                                                            [SV.raw (Value.int IntKind.i64 a3),
                                                              SV.raw (Value.int IntKind.i64 a4),
                                                              SV.raw (Value.int IntKind.i64 a5),
                                                              SV.raw (Value.int IntKind.i64 a6),
                                                              SV.raw (Value.int IntKind.i64 a7),
                                                              SV.raw (Value.slice b3 l3 c3)]),
                                                        some
                                                          (SV.tup
                                                            [SV.raw (Value.slice b'_1 l'_1 c'_1),
                                                              SV.raw (Value.int IntKind.i64 e_1)]),
                                                        some (SV.raw (Value.slice b'_1 l'_1 c'_1)),
                                                        some (SV.raw (Value.int IntKind.i64 e_1)),
                                                        some (SV.raw (Value.bool true)), some (SV.raw (Value.bool true)),
                                                        some (SV.raw (Value.slice b' l' c')),
                                                        some (SV.raw (Value.slice b'_1 l'_1 c'_1)),
                                                        some (SV.raw (Value.bool true)), some (SV.raw (Value.bool true)),
                                                        some (SV.raw (Value.bool true)),
                                                        some (SV.raw (Value.int IntKind.i64 e)),
                                                        some (SV.raw (Value.int IntKind.i64 e_1)),
                                                        some (SV.raw (Value.bool (e == e_1))),
                                                        some (SV.raw (Value.bool (bif true then e == e_1 else false))), none,
                                                        none, none, none, none, none, none, none, none, none, none, none,
                                                        none, none, none, none, none, none, none, none, none],
                                                    bx :=
                                                      [{ elem := 24,
                                                          row :=
                                                            Row.lst
                                                              [SV.raw (Value.int IntKind.i64 a3),
                                                                SV.raw (Value.int IntKind.i64 a4),
                                                                SV.raw (Value.int IntKind.i64 a5),
                                                                SV.raw (Value.int IntKind.i64 a6),
                                                                SV.raw (Value.int IntKind.i64 a7),
                                                                SV.raw (Value.slice b3 l3 c3)],
                                                          total := 6, own := true }],
                                                    E := E'_1 })
  refine ⟨_, hB3, by omega, fun ab al ac ys e E2 q2 hy A => ⟨q2, _, hB3.mono q2, by omega, fun bb bl bc ys' e' E3 q3 hy' A' => ⟨q3, ?_⟩⟩⟩
  have hy : pk a3 a4 a5 a6 a7 z3 = (ys, e) := hy
  have hy' : pk a3 a4 a5 a6 a7 z3 = (ys', e') := hy'
  rw [hy] at hy'
  obtain ⟨rfl, rfl⟩ := Prod.mk.inj hy'
  have A : Bs E2 ab al ac ys := A
  have A' : Bs E3 bb bl bc ys := A'
  have hq := Mem.le_trans q2 q3
  have hlen := pk_len hy
  refine ⟨ys, A.mono q3, A', by rw [← A.2.1]; exact hlen, Mem.le_refl _, ?_⟩
  rw [show (bif true then e == e else false) = true by simp]
  exact Ct_from (by repeat' first | exact True.intro | refine And.intro rfl ?_) (Ct_intro okWL3 (pcL3_20 (hB1.mono hq) (hB2.mono hq) (hB3.mono hq) g1 g2 g3 (Mem.le_trans hE0 hq) (fun E' hE' => h E' (Mem.le_trans hq hE'))))
theorem pcL3_14 {b1 : Option Addr} {l1 c1 : Nat} {b2 : Option Addr} {l2 c2 : Nat} {a2 a3 a4 a5 a6 a7 : Int} {b3 : Option Addr} {l3 c3 : Nat} {z1 z2 z3 : List Int} {E0 : Mem} (hB1 : Bs E b1 l1 c1 z1) (hB2 : Bs E b2 l2 c2 z2) (hB3 : Bs E b3 l3 c3 z3) (g1 : l1 ≤ 6000) (g2 : l2 ≤ 6000) (g3 : l3 ≤ 6000) (hE0 : Mem.le E0 E) (h : ∀ E', Mem.le E E' → K (B true) E') : Pc WL3 6 Try.f3 [1, 1, 1, 1, 1, 1, 1, 1, 1, 1, 1, 1, 1] 0 (pubK E0 K) (shL3 b1 l1 c1 b2 l2 c2 a2 a3 a4 a5 a6 a7 b3 l3 c3 E) := by
  refine same (by kernel_rfl) (?_ : 
      ∃ (zs : List Int),
        ((zs = [] ∨ E (Value.slice b1 l1 c1) (List.map (Value.int IntKind.u8) zs)) ∧
            List.length zs = l1 ∧ l1 ≤ c1 ∧ (∀ (z : Int), List.Mem z zs → 0 ≤ z ∧ z ≤ 255) ∧ (b1 = none → zs = [])) ∧
          l1 ≤ 100000 ∧
            ∀ (b' : Option Addr) (l' c' : Nat) (ys : List Int) (end' e : Int) (E' : Mem),
              Mem.le E E' →
                Hyp (rdB zs a2 = (ys, end', e)) →
                  (ys = [] ∨ E' (Value.slice b' l' c') (List.map (Value.int IntKind.u8) ys)) ∧
                      List.length ys = l' ∧ l' ≤ c' ∧ (∀ (z : Int), List.Mem z ys → 0 ≤ z ∧ z ≤ 255) ∧ (b' = none → ys = []) →
                    Mem.le E E' ∧
                      ∃ (zs : List Int),
                        ((zs = [] ∨ E' (Value.slice b1 l1 c1) (List.map (Value.int IntKind.u8) zs)) ∧
                            List.length zs = l1 ∧
                              l1 ≤ c1 ∧ (∀ (z : Int), List.Mem z zs → 0 ≤ z ∧ z ≤ 255) ∧ (b1 = none → zs = [])) ∧
                          l1 ≤ 100000 ∧
                            ∀ (b'_1 : Option Addr) (l'_1 c'_1 : Nat) (ys : List Int) (end'_1 e_1 : Int) (E'_1 : Mem),
                              Mem.le E' E'_1 →
                                Hyp (rdB zs a2 = (ys, end'_1, e_1)) →
                                  (ys = [] ∨ E'_1 (Value.slice b'_1 l'_1 c'_1) (List.map (Value.int IntKind.u8) ys)) ∧
                                      List.length ys = l'_1 ∧
                                        l'_1 ≤ c'_1 ∧
                                          (∀ (z : Int), List.Mem z ys → 0 ≤ z ∧ z ≤ 255) ∧ (b'_1 = none → ys = []) →
                                    Mem.le E' E'_1 ∧
                                      ∃ (zs : List Int),
                                        ((zs = [] ∨ E'_1 (Value.slice b' l' c') (List.map (Value.int IntKind.u8) zs)) ∧
                                            List.length zs = l' ∧
                                              l' ≤ c' ∧
                                                (∀ (z : Int), List.Mem z zs → 0 ≤ z ∧ z ≤ 255) ∧ (b' = none → zs = [])) ∧
                                          ((zs = [] ∨
                                                E'_1 (Value.slice b'_1 l'_1 c'_1) (List.map (Value.int IntKind.u8) zs)) ∧
                                              List.length zs = l'_1 ∧
                                                l'_1 ≤ c'_1 ∧
                                                  (∀ (z : Int), List.Mem z zs → 0 ≤ z ∧ z ≤ 255) ∧ (b'_1 = none → zs = [])) ∧
                                            l' ≤ 100000 ∧
                                              Mem.le E'_1 E'_1 ∧
                                                bif bif true then end' == end'_1 else false then
                                                  Ct WL3 6 Try.f3 [1, 1, 1, 1, 1, 1, 1, 1, 1, 1, 1, 1, 1, 1, 1, 1] 0
                                                    (pubK E0 K)
                                                    {
                                                      fr :=
                                                        [some (SV.raw (Value.slice b1 l1 c1)),
                                                          some (SV.raw (Value.slice b2 l2 c2)), none,
                                                          some (SV.raw (Value.int IntKind.i64 a2)), none, none, none, none,
                                                          none, some (SV.loc 0 0), none,
                                                          some (SV.raw (Value.bool (bif true then e == e_1 else false))),
                                                          none, some (SV.raw (Value.slice b' l' c')),
                                                          some (SV.raw (Value.int IntKind.i64 e)),
                                                          some (SV.raw (Value.slice b'_1 l'_1 c'_1)),
                                                          some (SV.raw (Value.int IntKind.i64 e_1)), none,
                                                          some (SV.raw (Value.int IntKind.i64 end')), none,
                                                          some (SV.raw (Value.int IntKind.i64 end'_1)), none, none, none,
                                                          none, none, none, none, none, none, none, none, none, none, none,
                                                          none, none, none, none, none, none, none, none, none, none, none,
                                                          none, none, none, none, none, none, none, none, none, none, none,
                                                          none, none, none, none, none, none, none, none, none, none, none,
                                                          none, none, none, none, none, none, none, none, none, none, none,
                                                          none, none, none, none, none, none, none, none, none, none, none,
                                                          none, none, none, none, none, none, none, none, none, none, none,
                                                          none, none, none, none, none, none, none, none, none, none, none,
                                                          some
                                                            (SV.tup
                                                              [SV.raw (Value.slice b' l' c'),
                                                                SV.raw (Value.int IntKind.i64 end'),
                                                                SV.raw (Value.int IntKind.i64 e)]),
                                                          some (SV.raw (Value.slice b1 l1 c1)),
                                                          some (SV.raw (Value.int IntKind.i64 a2)),
                                                          some
                                                            (SV.tup
                                                              [SV.raw (Value.slice b' l' c'),
                                                                SV.raw (Value.int IntKind.i64 end'),
                                                                SV.raw (Value.int IntKind.i64 e)]),
                                                          some (SV.raw (Value.slice b' l' c')),
                                                          some (SV.raw (Value.int IntKind.i64 end')),
                                                          some (SV.raw (Value.int IntKind.i64 e)),
                                                          some
                                                            (SV.tup
                                                              [SV.raw (Value.slice b'_1 l'_1 c'_1),
                                                                SV.raw (Value.int IntKind.i64 end'_1),
                                                                SV.raw (Value.int IntKind.i64 e_1)]),
                                                          some (SV.raw (Value.slice b1 l1 c1)),
                                                          some (SV.raw (Value.int IntKind.i64 a2)),
                                                          some
                                                            (SV.tup
                                                              [SV.raw (Value.slice b'_1 l'_1 c'_1),
                                                                SV.raw (Value.int IntKind.i64 end'_1),
                                                                SV.raw (Value.int IntKind.i64 e_1)]),
                                                          some (SV.raw (Value.slice b'_1 l'_1 c'_1)),
                                                          some (SV.raw (Value.int IntKind.i64 end'_1)),
                                                          some (SV.raw (Value.int IntKind.i64 e_1)),
                                                          some (SV.raw (Value.bool true)), some (SV.raw (Value.bool true)),
                                                          some (SV.raw (Value.slice b' l' c')),
                                                          some (SV.raw (Value.slice b'_1 l'_1 c'_1)),
                                                          some (SV.raw (Value.bool true)), some (SV.raw (Value.bool true)),
                                                          some (SV.raw (Value.bool true)),
                                                          some (SV.raw (Value.int IntKind.i64 end')),
                                                          some (SV.raw (Value.int IntKind.i64 end'_1)),
                                                          some (SV.raw (Value.bool (end' == end'_1))),
                                                          some
                                                            (SV.raw (Value.bool (bif true then end' == end'_1 else false))),
                                                          some (SV.raw (Value.bool true)),
                                                          some (SV.raw (Value.int IntKind.i64 e)),
                                                          some (SV.raw (Value.int IntKind.i64 e_1)),
                                                          some (SV.raw (Value.bool (e == e_1))),
                                                          some (SV.raw (Value.bool (bif true then e == e_1 else false))),
                                                          none, none, none, none, none, none, none, none, none, none, none,
                                                          none, none, none, none, none, none, none, none, none, none, none,
                                                          none, none, none, none, none, none, none, none, none, none, none,
                                                          none, none, none, none, none, none, none, none, none],
                                                      bx :=
                                                        [{ elem := 24,
                                                            row :=
                                                              Row.lst
                                                                [SV.raw (Value.int IntKind.i64 a3),
                                                                  SV.raw (Value.int IntKind.i64 a4),
                                                                  SV.raw (Value.int IntKind.i64 a5),
                                                                  SV.raw (Value.int IntKind.i64 a6),
                                                                  SV.raw (Value.int IntKind.i64 a7),
                                                                  SV.raw (Value.slice b3 l3 c3)],
                                                            total := 6, own := true }],
                                                      E := E'_1 }
                                                else
                                                  Ct WL3 6 Try.f3 [1, 1, 1, 1, 1, 1, 1, 1, 1, 1, 1, 1, 1, 1, 1, 1] 0
                                                    (pubK E0 K)
                                                    {
                                                      fr :=
                                                        [some (SV.raw (Value.slice b1 l1 c1)),
                                                          some (SV.raw (Value.slice b2 l2 c2)), none,
                                                          some (SV.raw (Value.int IntKind.i64 a2)), none, none, none, none,
                                                          none, some (SV.loc 0 0), none, some (SV.raw (Value.bool false)),
                                                          none, some (SV.raw (Value.slice b' l' c')),
                                                          some (SV.raw (Value.int IntKind.i64 e)),
                                                          some (SV.raw (Value.slice b'_1 l'_1 c'_1)),
                                                          some (SV.raw (Value.int IntKind.i64 e_1)), none,
                                                          some (SV.raw (Value.int IntKind.i64 end')), none,
                                                          some (SV.raw (Value.int IntKind.i64 end'_1)), none, none, none,
                                                          none, none, none, none, none, none, none, none, none, none, none,
                                                          none, none, none, none, none, none, none, none, none, none, none,
                                                          none, none, none, none, none, none, none, none, none, none, none,
                                                          none, none, none, none, none, none, none, none, none, none, none,
                                                          none, none, none, none, none, none, none, none, none, none, none,
                                                          none, none, none, none, none, none, none, none, none, none, none,
                                                          none, none, none, none, none, none, none, none, none, none, none,
                                                          none, none, none, none, none, none, none, none, none, none, none,
                                                          some
                                                            (SV.tup
                                                              [SV.raw (Value.slice b' l' c'),
                                                                SV.raw (Value.int IntKind.i64 end'),
                                                                SV.raw (Value.int IntKind.i64 e)]),
                                                          some (SV.raw (Value.slice b1 l1 c1)),
                                                          some (SV.raw (Value.int IntKind.i64 a2)),
                                                          some
                                                            (SV.tup
                                                              [SV.raw (Value.slice b' l' c'),
                                                                SV.raw (Value.int IntKind.i64 end'),
                                                                SV.raw (Value.int IntKind.i64 e)]),
                                                          some (SV.raw (Value.slice b' l' c')),
                                                          some (SV.raw (Value.int IntKind.i64 end')),
                                                          some (SV.raw (Value.int IntKind.i64 e)),
                                                          some
                                                            (SV.tup
                                                              [SV.raw (Value.slice b'_1 l'_1 c'_1),
                                                                SV.raw (Value.int IntKind.i64 end'_1),
                                                                SV.raw (Value.int IntKind.i64 e_1)]),
                                                          some (SV.raw (Value.slice b1 l1 c1)),
                                                          some (SV.raw (Value.int IntKind.i64 a2)),
                                                          some
                                                            (SV.tup
                                                              [SV.raw (Value.slice b'_1 l'_1 c'_1),
                                                                SV.raw (Value.int IntKind.i64 end'_1),
                                                                SV.raw (Value.int IntKind.i64 e_1)]),
                                                          some (SV.raw (Value.slice b'_1 l'_1 c'_1)),
                                                          some (SV.raw (Value.int IntKind.i64 end'_1)),
                                                          some (SV.raw (Value.int IntKind.i64 e_1)),
                                                          some (SV.raw (Value.bool true)), some (SV.raw (Value.bool true)),
                                                          some (SV.raw (Value.slice b' l' c')),
                                                          some (SV.raw (Value.slice b'_1 l'_1 c'_1)),
                                                          some (SV.raw (Value.bool true)), some (SV.raw (Value.bool true)),
                                                          some (SV.raw (Value.bool true)),
                                                          some (SV.raw (Value.int IntKind.i64 end')),
                                                          some (SV.raw (Value.int IntKind.i64 end'_1)),
                                                          some (SV.raw (Value.bool (end' == end'_1))),
                                                          some
                                                            (SV.raw (Value.bool (bif true then end' == end'_1 else false))),
                                                          some (SV.raw (Value.bool false)),
                                                          some (SV.raw (Value.tuple { toList := [] })),
                                                          some (SV.raw (Value.tuple { toList := [] })),
                                                          some (SV.raw (Value.tuple { toList := [] })),
                                                          some (SV.raw (Value.bool false)), none, none, none, none, none,
                                                          none, none, none, none, none, none, none, none, none, none, none,
                                                          none, none, none, none, none, none, none, none, none, none, none,
                                                          none, none, none, none, none, none, none, none, none, none, none,
                                                          none, none, none, none],
                                                      bx :=
                                                        [{ elem := 24,
                                                            row :=
                                                              Row.lst
                                                                [SV.raw (Value.int IntKind.i64 a3),
                                                                  SV.raw (Value.int IntKind.i64 a4),
                                                                  SV.raw (Value.int IntKind.i64 a5),
                                                                  SV.raw (Value.int IntKind.i64 a6),
                                                                  SV.raw (Value.int IntKind.i64 a7),
                                                                  SV.raw (Value.slice b3 l3 c3)],
                                                            total := 6, own := true }],
                                                      E := E'_1 })
  refine ⟨_, hB1, by omega, fun ab al ac ys p e E2 q2 hy A => ⟨q2, _, hB1.mono q2, by omega, fun bb bl bc ys' p' e' E3 q3 hy' A' => ⟨q3, ?_⟩⟩⟩
  have hy : rdB z1 a2 = (ys, p, e) := hy
  have hy' : rdB z1 a2 = (ys', p', e') := hy'
  rw [hy] at hy'
  obtain ⟨rfl, hz⟩ := Prod.mk.inj hy'
  obtain ⟨rfl, rfl⟩ := Prod.mk.inj hz
  have A : Bs E2 ab al ac ys := A
  have A' : Bs E3 bb bl bc ys := A'
  have hq := Mem.le_trans q2 q3
  have hlen := rdB_len hy
  refine ⟨ys, A.mono q3, A', by rw [← A.2.1]; exact hlen, Mem.le_refl _, ?_⟩
  refine condC (fun _ => ?_) (fun x => absurd x (by simp))
  rw [show (bif true then e == e else false) = true by simp]
  exact Ct_from (by repeat' first | exact True.intro | refine And.intro rfl ?_) (Ct_intro okWL3 (pcL3_17 (hB1.mono hq) (hB2.mono hq) (hB3.mono hq) g1 g2 g3 (Mem.le_trans hE0 hq) (fun E' hE' => h E' (Mem.le_trans hq hE'))))
theorem pcL3_11 {b1 : Option Addr} {l1 c1 : Nat} {b2 : Option Addr} {l2 c2 : Nat} {a2 a3 a4 a5 a6 a7 : Int} {b3 : Option Addr} {l3 c3 : Nat} {z1 z2 z3 : List Int} {E0 : Mem} (hB1 : Bs E b1 l1 c1 z1) (hB2 : Bs E b2 l2 c2 z2) (hB3 : Bs E b3 l3 c3 z3) (g1 : l1 ≤ 6000) (g2 : l2 ≤ 6000) (g3 : l3 ≤ 6000) (hE0 : Mem.le E0 E) (h : ∀ E', Mem.le E E' → K (B true) E') : Pc WL3 6 Try.f3 [1, 1, 1, 1, 1, 1, 1, 1, 1, 1] 0 (pubK E0 K) (shL3 b1 l1 c1 b2 l2 c2 a2 a3 a4 a5 a6 a7 b3 l3 c3 E) := by
  refine same (by kernel_rfl) (?_ : 
      ∃ (zs : List Int),
        ∃ (xs : List Int),
          ((zs = [] ∨ E (Value.slice b1 l1 c1) (List.map (Value.int IntKind.u8) zs)) ∧
              List.length zs = l1 ∧ l1 ≤ c1 ∧ (∀ (z : Int), List.Mem z zs → 0 ≤ z ∧ z ≤ 255) ∧ (b1 = none → zs = [])) ∧
            ((xs = [] ∨ E (Value.slice b2 l2 c2) (List.map (Value.int IntKind.u8) xs)) ∧
                List.length xs = l2 ∧ l2 ≤ c2 ∧ (∀ (z : Int), List.Mem z xs → 0 ≤ z ∧ z ≤ 255) ∧ (b2 = none → xs = [])) ∧
              l1 ≤ 10000 ∧
                ∀ (b' : Option Addr) (l' c' : Nat) (ys : List Int) (e : Int) (E' : Mem),
                  Mem.le E E' →
                    Hyp (putB zs xs = (ys, e)) →
                      (ys = [] ∨ E' (Value.slice b' l' c') (List.map (Value.int IntKind.u8) ys)) ∧
                          List.length ys = l' ∧
                            l' ≤ c' ∧ (∀ (z : Int), List.Mem z ys → 0 ≤ z ∧ z ≤ 255) ∧ (b' = none → ys = []) →
                        Mem.le E E' ∧
                          ∃ (zs : List Int),
                            ∃ (xs : List Int),
                              ((zs = [] ∨ E' (Value.slice b1 l1 c1) (List.map (Value.int IntKind.u8) zs)) ∧
                                  List.length zs = l1 ∧
                                    l1 ≤ c1 ∧ (∀ (z : Int), List.Mem z zs → 0 ≤ z ∧ z ≤ 255) ∧ (b1 = none → zs = [])) ∧
                                ((xs = [] ∨ E' (Value.slice b2 l2 c2) (List.map (Value.int IntKind.u8) xs)) ∧
                                    List.length xs = l2 ∧
                                      l2 ≤ c2 ∧ (∀ (z : Int), List.Mem z xs → 0 ≤ z ∧ z ≤ 255) ∧ (b2 = none → xs = [])) ∧
                                  l1 ≤ 10000 ∧
                                    ∀ (b'_1 : Option Addr) (l'_1 c'_1 : Nat) (ys : List Int) (e_1 : Int) (E'_1 : Mem),
                                      Mem.le E' E'_1 →
                                        Hyp (putB zs xs = (ys, e_1)) →
                                          (ys = [] ∨ E'_1 (Value.slice b'_1 l'_1 c'_1) (List.map (Value.int IntKind.u8) ys)) ∧
                                              List.length ys = l'_1 ∧
                                                l'_1 ≤ c'_1 ∧
                                                  (∀ (z : Int), List.Mem z ys → 0 ≤ z ∧ z ≤ 255) ∧ (b'_1 = none → ys = []) →
                                            Mem.le E' E'_1 ∧
                                              ∃ (zs : List Int),
                                                ((zs = [] ∨
                                                      E'_1 (Value.slice b' l' c') (List.map (Value.int IntKind.u8) zs)) ∧
                                                    List.length zs = l' ∧
                                                      l' ≤ c' ∧
                                                        (∀ (z : Int), List.Mem z zs → 0 ≤ z ∧ z ≤ 255) ∧
                                                          (b' = none → zs = [])) ∧
                                                  ((zs = [] ∨
                                                        E'_1 (Value.slice b'_1 l'_1 c'_1)
                                                          (List.map (Value.int IntKind.u8) zs)) ∧
                                                      List.length zs = l'_1 ∧
                                                        l'_1 ≤ c'_1 ∧
                                                          (∀ (z : Int), List.Mem z zs → 0 ≤ z ∧ z ≤ 255) ∧
                                                            (b'_1 = none → zs = [])) ∧
                                                    l' ≤ 100000 ∧
                                                      Mem.le E'_1 E'_1 ∧
                                                        Ct WL3 6 Try.f3 [1, 1, 1, 1, 1, 1, 1, 1, 1, 1, 1, 1, 1] 0 (pubK E0 K)
                                                          {
                                                            fr :=
                                                              [some (SV.raw (Value.slice b1 l1 c1)),
                                                                some (SV.raw (Value.slice b2 l2 c2)), none,
                                                                some (SV.raw (Value.int IntKind.i64 a2)), none, none, none,
                                                                none, none, some (SV.loc 0 0), none,
                                                                some
                                                                  (SV.raw (Value.bool (bif true then e == e_1 else false))),
                                                                none, some (SV.raw (Value.slice b' l' c')),
                                                                some (SV.raw (Value.int IntKind.i64 e)),
                                                                some (SV.raw (Value.slice b'_1 l'_1 c'_1)),
                                                                some (SV.raw (Value.int IntKind.i64 e_1)), none, none, none,
                                                                none, none, none, none, none, none, none, none, none, none,
                                                                none, none, none, none, none, none, none, none, none, none,
                                                                none, none, none, none, none, none, none, none, none, none,
                                                                none, none, none, none, none, none, none, none, none, none,
                                                                none, none, none, none, none, none, none, none, none, none,
                                                                none, none, none, none, none, none, none, none, none, none,
                                                                none, none, none, none, none, none, none, none, none,
                                                                some
                                                                  (SV.tup
                                                                    [SV.raw (Value.slice b' l' c'),
                                                                      SV.raw (Value.int IntKind.i64 e)]),
                                                                some (SV.raw (Value.slice b1 l1 c1)),
                                                                some (SV.raw (Value.slice b2 l2 c2)),
                                                                some
                                                                  (SV.tup
                                                                    [SV.raw (Value.slice b' l' c'),
                                                                      SV.raw (Value.int IntKind.i64 e)]),
                                                                some (SV.raw (Value.slice b' l' c')),
                                                                some (SV.raw (Value.int IntKind.i64 e)),
                                                                some
                                                                  (SV.tup
                                                                    [SV.raw (Value.slice b'_1 l'_1 c'_1),
                                                                      SV.raw (Value.int IntKind.i64 e_1)]),
                                                                some (SV.raw (Value.slice b1 l1 c1)),
                                                                some (SV.raw (Value.slice b2 l2 c2)),
                                                                some
                                                                  (SV.tup
                                                                    [SV.raw (Value.slice b'_1 l'_1 c'_1),
                                                                      SV.raw (Value.int IntKind.i64 e_1)]),
                                                                some (SV.raw (Value.slice b'_1 l'_1 c'_1)),
                                                                some (SV.raw (Value.int IntKind.i64 e_1)),
                                                                some (SV.raw (Value.bool true)),
                                                                some (SV.raw (Value.bool true)),
                                                                some (SV.raw (Value.slice b' l' c')),
                                                                some (SV.raw (Value.slice b'_1 l'_1 c'_1)),
                                                                some (SV.raw (Value.bool true)),
                                                                some (SV.raw (Value.bool true)),
                                                                some (SV.raw (Value.bool true)),
                                                                some (SV.raw (Value.int IntKind.i64 e)),
                                                                some (SV.raw (Value.int IntKind.i64 e_1)),
                                                                some (SV.raw (Value.bool (e == e_1))),
                                                                some
                                                                  (SV.raw (Value.bool (bif true then e == e_1 else false))),
                                                                none, none, none, none, none, none, none, none, none, none,
                                                                none, none, none, none, none, none, none, none, none, none,
                                                                none, none, none, none, none, none, none, none, none, none,
                                                                none, none, none, none, none, none, none, none, none, none,
                                                                none, none, none, none, none, none, none, none, none, none,
                                                                none, none, none, none, none, none, none, none, none, none,
                                                                none, none, none, none, none, none, none, none, none, none,
                                                                none, none],
                                                            bx :=
                                                              [{ elem := 24,
                                                                  row :=
                                                                    Row.lst
                                                                      [SV.raw (Value.int IntKind.i64 a3),
                                                                        SV.raw (Value.int IntKind.i64 a4),
                                                                        SV.raw (Value.int IntKind.i64 a5),
                                                                        SV.raw (Value.int IntKind.i64 a6),
                                                                        SV.raw (Value.int IntKind.i64 a7),
                                                                        SV.raw (Value.slice b3 l3 c3)],
                                                                  total := 6, own := true }],
                                                            E := E'_1 })
  refine ⟨_, _, hB1, hB2, by omega, fun ab al ac ys e E2 q2 hy A => ⟨q2, _, _, hB1.mono q2, hB2.mono q2, by omega, fun bb bl bc ys' e' E3 q3 hy' A' => ⟨q3, ?_⟩⟩⟩
  have hy : putB z1 z2 = (ys, e) := hy
  have hy' : putB z1 z2 = (ys', e') := hy'
  rw [hy] at hy'
  obtain ⟨rfl, rfl⟩ := Prod.mk.inj hy'
  have A : Bs E2 ab al ac ys := A
  have A' : Bs E3 bb bl bc ys := A'
  have hq := Mem.le_trans q2 q3
  have hlen := putB_len hy (by rw [hB1.2.1]; omega)
  refine ⟨ys, A.mono q3, A', by rw [← A.2.1]; exact hlen, Mem.le_refl _, ?_⟩
  rw [show (bif true then e == e else false) = true by simp]
  exact Ct_from (by repeat' first | exact True.intro | refine And.intro rfl ?_) (Ct_intro okWL3 (pcL3_14 (hB1.mono hq) (hB2.mono hq) (hB3.mono hq) g1 g2 g3 (Mem.le_trans hE0 hq) (fun E' hE' => h E' (Mem.le_trans hq hE'))))
theorem pcL3_8 {b1 : Option Addr} {l1 c1 : Nat} {b2 : Option Addr} {l2 c2 : Nat} {a2 a3 a4 a5 a6 a7 : Int} {b3 : Option Addr} {l3 c3 : Nat} {z1 z2 z3 : List Int} {E0 : Mem} (hB1 : Bs E b1 l1 c1 z1) (hB2 : Bs E b2 l2 c2 z2) (hB3 : Bs E b3 l3 c3 z3) (g1 : l1 ≤ 6000) (g2 : l2 ≤ 6000) (g3 : l3 ≤ 6000) (hE0 : Mem.le E0 E) (h : ∀ E', Mem.le E E' → K (B true) E') : Pc WL3 6 Try.f3 [1, 1, 1, 1, 1, 1, 1] 0 (pubK E0 K) (shL3 b1 l1 c1 b2 l2 c2 a2 a3 a4 a5 a6 a7 b3 l3 c3 E) := by
  refine same (by kernel_rfl) (?_ : 
      ∃ (zs : List Int),
        ((zs = [] ∨ E (Value.slice b1 l1 c1) (List.map (Value.int IntKind.u8) zs)) ∧
            List.length zs = l1 ∧ l1 ≤ c1 ∧ (∀ (z : Int), List.Mem z zs → 0 ≤ z ∧ z ≤ 255) ∧ (b1 = none → zs = [])) ∧
          l1 ≤ 100000 ∧
            ∀ (n end' e : Int) (E' : Mem),
              Mem.le E E' →
                Hyp (rd zs a2 = (n, end', e)) →
                  Mem.le E E' ∧
                    ∃ (zs : List Int),
                      ((zs = [] ∨ E' (Value.slice b1 l1 c1) (List.map (Value.int IntKind.u8) zs)) ∧
                          List.length zs = l1 ∧
                            l1 ≤ c1 ∧ (∀ (z : Int), List.Mem z zs → 0 ≤ z ∧ z ≤ 255) ∧ (b1 = none → zs = [])) ∧
                        l1 ≤ 100000 ∧
                          ∀ (n_1 end'_1 e_1 : Int) (E'_1 : Mem),
                            Mem.le E' E'_1 →
                              Hyp (rd zs a2 = (n_1, end'_1, e_1)) →
                                Mem.le E' E'_1 ∧
                                  bif bif true then n == n_1 else false then
                                    bif bif true then end' == end'_1 else false then
                                      Ct WL3 6 Try.f3 [1, 1, 1, 1, 1, 1, 1, 1, 1, 1] 0 (pubK E0 K)
                                        {
                                          fr :=
                                            [some (SV.raw (Value.slice b1 l1 c1)), some (SV.raw (Value.slice b2 l2 c2)), none,
                                              some (SV.raw (Value.int IntKind.i64 a2)), none, none, none, none, none,
                                              some (SV.loc 0 0), none,
                                              some (SV.raw (Value.bool (bif true then e == e_1 else false))), none, none,
                                              some (SV.raw (Value.int IntKind.i64 e)), none,
                                              some (SV.raw (Value.int IntKind.i64 e_1)),
                                              some (SV.raw (Value.int IntKind.i64 n)),
                                              some (SV.raw (Value.int IntKind.i64 end')),
                                              some (SV.raw (Value.int IntKind.i64 n_1)),
                                              some (SV.raw (Value.int IntKind.i64 end'_1)), none, none, none, none, none,
                                              none, none, none, none, none, none, none, none, none, none, none, none, none,
                                              none, none, none, none, none, none, none, none, none, none, none, none, none,
                                              none, none, none, none, none, none, none,
                                              some
                                                (SV.tup
                                                  [SV.raw (Value.int IntKind.i64 n), SV.raw (Value.int IntKind.i64 end'),
                                                    SV.raw (Value.int IntKind.i64 e)]),
                                              some (SV.raw (Value.slice b1 l1 c1)), some (SV.raw (Value.int IntKind.i64 a2)),
                                              some
                                                (SV.tup
                                                  [SV.raw (Value.int IntKind.i64 n), SV.raw (Value.int IntKind.i64 end'),
                                                    SV.raw (Value.int IntKind.i64 e)]),
                                              some (SV.raw (Value.int IntKind.i64 n)),
                                              some (SV.raw (Value.int IntKind.i64 end')),
                                              some (SV.raw (Value.int IntKind.i64 e)),
                                              some
                                                (SV.tup
                                                  [SV.raw (Value.int IntKind.i64 n_1), SV.raw (Value.int IntKind.i64 end'_1),
                                                    SV.raw (Value.int IntKind.i64 e_1)]),
                                              some (SV.raw (Value.slice b1 l1 c1)), some (SV.raw (Value.int IntKind.i64 a2)),
                                              some
                                                (SV.tup
                                                  [SV.raw (Value.int IntKind.i64 n_1), SV.raw (Value.int IntKind.i64 end'_1),
                                                    SV.raw (Value.int IntKind.i64 e_1)]),
                                              some (SV.raw (Value.int IntKind.i64 n_1)),
                                              some (SV.raw (Value.int IntKind.i64 end'_1)),
                                              some (SV.raw (Value.int IntKind.i64 e_1)), some (SV.raw (Value.bool true)),
                                              some (SV.raw (Value.bool true)), some (SV.raw (Value.int IntKind.i64 n)),
                                              some (SV.raw (Value.int IntKind.i64 n_1)),
                                              some (SV.raw (Value.bool (n == n_1))),
                                              some (SV.raw (Value.bool (bif true then n == n_1 else false))),
                                              some (SV.raw (Value.bool true)), some (SV.raw (Value.int IntKind.i64 end')),
                                              some (SV.raw (Value.int IntKind.i64 end'_1)),
                                              some (SV.raw (Value.bool (end' == end'_1))),
                                              some (SV.raw (Value.bool (bif true then end' == end'_1 else false))),
                                              some (SV.raw (Value.bool true)), some (SV.raw (Value.int IntKind.i64 e)),
                                              some (SV.raw (Value.int IntKind.i64 e_1)),
                                              some (SV.raw (Value.bool (e == e_1))),
                                              some (SV.raw (Value.bool (bif true then e == e_1 else false))), none, none,
                                              none, none, none, none, none, none, none, none, none, none, none, none, none,
                                              none, none, none, none, none, none, none, none, none, none, none, none, none,
                                              none, none, none, none, none, none, none, none, none, none, none, none, none,
                                              none, none, none, none, none, none, none, none, none, none, none, none, none,
                                              none, none, none, none, none, none, none, none, none, none, none, none, none,
                                              none, none, none, none, none, none, none, none, none, none, none, none, none,
                                              none, none, none, none, none, none, none, none, none, none, none, none, none,
                                              none, none],
                                          bx :=
                                            [{ elem := 24,
                                                row :=
                                                  Row.lst
                                                    [SV.raw (Value.int IntKind.i64 a3), SV.raw (Value.int IntKind.i64 a4),
                                                      SV.raw (Value.int IntKind.i64 a5), SV.raw (Value.int IntKind.i64 a6),
                                                      SV.raw (Value.int IntKind.i64 a7), SV.raw (Value.slice b3 l3 c3)],
                                                total := 6, own := true }],
                                          E := E'_1 }
                                    else
                                      Ct WL3 6 Try.f3 [1, 1, 1, 1, 1, 1, 1, 1, 1, 1] 0 (pubK E0 K)
                                        {
                                          fr :=
                                            [some (SV.raw (Value.slice b1 l1 c1)), some (SV.raw (Value.slice b2 l2 c2)), none,
                                              some (SV.raw (Value.int IntKind.i64 a2)), none, none, none, none, none,
                                              some (SV.loc 0 0), none, some (SV.raw (Value.bool false)), none, none,
                                              some (SV.raw (Value.int IntKind.i64 e)), none,
                                              some (SV.raw (Value.int IntKind.i64 e_1)),
                                              some (SV.raw (Value.int IntKind.i64 n)),
                                              some (SV.raw (Value.int IntKind.i64 end')),
                                              some (SV.raw (Value.int IntKind.i64 n_1)),
                                              some (SV.raw (Value.int IntKind.i64 end'_1)), none, none, none, none, none,
                                              none, none, none, none, none, none, none, none, none, none, none, none, none,
                                              none, none, none, none, none, none, none, none, none, none, none, none, none,
                                              none, none, none, none, none, none, none,
                                              some
                                                (SV.tup
                                                  [SV.raw (Value.int IntKind.i64 n), SV.raw (Value.int IntKind.i64 end'),
                                                    SV.raw (Value.int IntKind.i64 e)]),
                                              some (SV.raw (Value.slice b1 l1 c1)), some (SV.raw (Value.int IntKind.i64 a2)),
                                              some
                                                (SV.tup
                                                  [SV.raw (Value.int IntKind.i64 n), SV.raw (Value.int IntKind.i64 end'),
                                                    SV.raw (Value.int IntKind.i64 e)]),
                                              some (SV.raw (Value.int IntKind.i64 n)),
                                              some (SV.raw (Value.int IntKind.i64 end')),
                                              some (SV.raw (Value.int IntKind.i64 e)),
                                              some
                                                (SV.tup
                                                  [SV.raw (Value.int IntKind.i64 n_1), SV.raw (Value.int IntKind.i64 end'_1),
                                                    SV.raw (Value.int IntKind.i64 e_1)]),
                                              some (SV.raw (Value.slice b1 l1 c1)), some (SV.raw (Value.int IntKind.i64 a2)),
                                              some
                                                (SV.tup
                                                  [SV.raw (Value.int IntKind.i64 n_1), SV.raw (Value.int IntKind.i64 end'_1),
                                                    SV.raw (Value.int IntKind.i64 e_1)]),
                                              some (SV.raw (Value.int IntKind.i64 n_1)),
                                              some (SV.raw (Value.int IntKind.i64 end'_1)),
                                              some (SV.raw (Value.int IntKind.i64 e_1)), some (SV.raw (Value.bool true)),
                                              some (SV.raw (Value.bool true)), some (SV.raw (Value.int IntKind.i64 n)),
                                              some (SV.raw (Value.int IntKind.i64 n_1)),
                                              some (SV.raw (Value.bool (n == n_1))),
                                              some (SV.raw (Value.bool (bif true then n == n_1 else false))),
                                              some (SV.raw (Value.bool true)), some (SV.raw (Value.int IntKind.i64 end')),
                                              some (SV.raw (Value.int IntKind.i64 end'_1)),
                                              some (SV.raw (Value.bool (end' == end'_1))),
                                              some (SV.raw (Value.bool (bif true then end' == end'_1 else false))),
                                              some (SV.raw (Value.bool false)), some (SV.raw (Value.tuple { toList := [] })),
                                              some (SV.raw (Value.tuple { toList := [] })),
                                              some (SV.raw (Value.tuple { toList := [] })), some (SV.raw (Value.bool false)),
                                              none, none, none, none, none, none, none, none, none, none, none, none, none,
                                              none, none, none, none, none, none, none, none, none, none, none, none, none,
                                              none, none, none, none, none, none, none, none, none, none, none, none, none,
                                              none, none, none, none, none, none, none, none, none, none, none, none, none,
                                              none, none, none, none, none, none, none, none, none, none, none, none, none,
                                              none, none, none, none, none, none, none, none, none, none, none, none, none,
                                              none, none, none, none, none, none, none, none, none, none, none, none, none,
                                              none, none, none, none],
                                          bx :=
                                            [{ elem := 24,
                                                row :=
                                                  Row.lst
                                                    [SV.raw (Value.int IntKind.i64 a3), SV.raw (Value.int IntKind.i64 a4),
                                                      SV.raw (Value.int IntKind.i64 a5), SV.raw (Value.int IntKind.i64 a6),
                                                      SV.raw (Value.int IntKind.i64 a7), SV.raw (Value.slice b3 l3 c3)],
                                                total := 6, own := true }],
                                          E := E'_1 }
                                  else
                                    Ct WL3 6 Try.f3 [1, 1, 1, 1, 1, 1, 1, 1, 1, 1] 0 (pubK E0 K)
                                      {
                                        fr :=
                                          [some (SV.raw (Value.slice b1 l1 c1)), some (SV.raw (Value.slice b2 l2 c2)), none,
                                            some (SV.raw (Value.int IntKind.i64 a2)), none, none, none, none, none,
                                            some (SV.loc 0 0), none, some (SV.raw (Value.bool false)), none, none,
                                            some (SV.raw (Value.int IntKind.i64 e)), none,
                                            some (SV.raw (Value.int IntKind.i64 e_1)),
                                            some (SV.raw (Value.int IntKind.i64 n)),
                                            some (SV.raw (Value.int IntKind.i64 end')),
                                            some (SV.raw (Value.int IntKind.i64 n_1)),
                                            some (SV.raw (Value.int IntKind.i64 end'_1)), none, none, none, none, none, none,
                                            none, none, none, none, none, none, none, none, none, none, none, none, none,
                                            none, none, none, none, none, none, none, none, none, none, none, none, none,
                                            none, none, none, none, none, none,
                                            some
                                              (SV.tup
                                                [SV.raw (Value.int IntKind.i64 n), SV.raw (Value.int IntKind.i64 end'),
                                                  SV.raw (Value.int IntKind.i64 e)]),
                                            some (SV.raw (Value.slice b1 l1 c1)), some (SV.raw (Value.int IntKind.i64 a2)),
                                            some
                                              (SV.tup
                                                [SV.raw (Value.int IntKind.i64 n), SV.raw (Value.int IntKind.i64 end'),
                                                  SV.raw (Value.int IntKind.i64 e)]),
                                            some (SV.raw (Value.int IntKind.i64 n)),
                                            some (SV.raw (Value.int IntKind.i64 end')),
                                            some (SV.raw (Value.int IntKind.i64 e)),
                                            some
                                              (SV.tup
                                                [SV.raw (Value.int IntKind.i64 n_1), SV.raw (Value.int IntKind.i64 end'_1),
                                                  SV.raw (Value.int IntKind.i64 e_1)]),
                                            some (SV.raw (Value.slice b1 l1 c1)), some (SV.raw (Value.int IntKind.i64 a2)),
                                            some
                                              (SV.tup
                                                [SV.raw (Value.int IntKind.i64 n_1), SV.raw (Value.int IntKind.i64 end'_1),
                                                  SV.raw (Value.int IntKind.i64 e_1)]),
                                            some (SV.raw (Value.int IntKind.i64 n_1)),
                                            some (SV.raw (Value.int IntKind.i64 end'_1)),
                                            some (SV.raw (Value.int IntKind.i64 e_1)), some (SV.raw (Value.bool true)),
                                            some (SV.raw (Value.bool true)), some (SV.raw (Value.int IntKind.i64 n)),
                                            some (SV.raw (Value.int IntKind.i64 n_1)), some (SV.raw (Value.bool (n == n_1))),
                                            some (SV.raw (Value.bool (bif true then n == n_1 else false))),
                                            some (SV.raw (Value.bool false)), some (SV.raw (Value.tuple { toList := [] })),
                                            some (SV.raw (Value.tuple { toList := [] })),
                                            some (SV.raw (Value.tuple { toList := [] })), some (SV.raw (Value.bool false)),
                                            some (SV.raw (Value.bool false)), some (SV.raw (Value.tuple { toList := [] })),
                                            some (SV.raw (Value.tuple { toList := [] })),
                                            some (SV.raw (Value.tuple { toList := [] })), some (SV.raw (Value.bool false)),
                                            none, none, none, none, none, none, none, none, none, none, none, none, none,
                                            none, none, none, none, none, none, none, none, none, none, none, none, none,
                                            none, none, none, none, none, none, none, none, none, none, none, none, none,
                                            none, none, none, none, none, none, none, none, none, none, none, none, none,
                                            none, none, none, none, none, none, none, none, none, none, none, none, none,
                                            none, none, none, none, none, none, none, none, none, none, none, none, none,
                                            none, none, none, none, none, none, none, none, none, none, none, none, none,
                                            none, none, none, none],
                                        bx :=
                                          [{ elem := 24,
                                              row :=
                                                Row.lst
                                                  [SV.raw (Value.int IntKind.i64 a3), SV.raw (Value.int IntKind.i64 a4),
                                                    SV.raw (Value.int IntKind.i64 a5), SV.raw (Value.int IntKind.i64 a6),
                                                    SV.raw (Value.int IntKind.i64 a7), SV.raw (Value.slice b3 l3 c3)],
                                              total := 6, own := true }],
                                        E := E'_1 })
  refine ⟨_, hB1, by omega, fun n p e E2 q2 hy => ⟨q2, _, hB1.mono q2, by omega, fun n' p' e' E3 q3 hy' => ⟨q3, ?_⟩⟩⟩
  have hy : rd z1 a2 = (n, p, e) := hy
  have hy' : rd z1 a2 = (n', p', e') := hy'
  rw [hy] at hy'
  obtain ⟨rfl, hz⟩ := Prod.mk.inj hy'
  obtain ⟨rfl, rfl⟩ := Prod.mk.inj hz
  have hq := Mem.le_trans q2 q3
  refine condC (fun _ => ?_) (fun x => absurd x (by simp))
  refine condC (fun _ => ?_) (fun x => absurd x (by simp))
  rw [show (bif true then e == e else false) = true by simp]
  exact Ct_from (by repeat' first | exact True.intro | refine And.intro rfl ?_) (Ct_intro okWL3 (pcL3_11 (hB1.mono hq) (hB2.mono hq) (hB3.mono hq) g1 g2 g3 (Mem.le_trans hE0 hq) (fun E' hE' => h E' (Mem.le_trans hq hE'))))
theorem e3 {b1 : Option Addr} {l1 : Nat} {c1 : Nat} {z1 : List Int} {b2 : Option Addr} {l2 : Nat} {c2 : Nat} {z2 : List Int} {a1 : Int} {a2 : Int} {a3 : Int} {a4 : Int} {a5 : Int} {a6 : Int} {a7 : Int} {b3 : Option Addr} {l3 : Nat} {c3 : Nat} {z3 : List Int} (hB1 : Bs E b1 l1 c1 z1) (hB2 : Bs E b2 l2 c2 z2) (ha1 : (Lit.int .i64 a1).wf = true) (ha2 : (Lit.int .i64 a2).wf = true) (ha3 : (Lit.int .i64 a3).wf = true) (ha4 : (Lit.int .i64 a4).wf = true) (ha5 : (Lit.int .i64 a5).wf = true) (ha6 : (Lit.int .i64 a6).wf = true) (ha7 : (Lit.int .i64 a7).wf = true) (hB3 : Bs E b3 l3 c3 z3) (h : ∀ E' : Mem, Mem.le E E' → K (B true) E') :
    Ent WL3 6 Try.f3 [L b1 l1 c1, L b2 l2 c2, I a1, I a2, .agg [I a3, I a4, I a5, I a6, I a7, L b3 l3 c3]] E K := by
  refine same (by kernel_rfl) (?_ : 
      ∀ (E' : Mem),
        Mem.le E E' →
          Mem.le E E' ∧
            bif decide ((↑l1 : Int) ≤ 6000) then
              Mem.le E' E' ∧
                bif !bif true then decide ((↑l2 : Int) ≤ 6000) else false then Mem.le E E' ∧ K (SV.raw (Value.bool true)) E'
                else
                  bif bif false then true else decide ((↑l3 : Int) > 6000) then Mem.le E E' ∧ K (SV.raw (Value.bool true)) E'
                  else
                    ∃ (zs : List Int),
                      ((zs = [] ∨ E' (Value.slice b1 l1 c1) (List.map (Value.int IntKind.u8) zs)) ∧
                          List.length zs = l1 ∧
                            l1 ≤ c1 ∧ (∀ (z : Int), List.Mem z zs → 0 ≤ z ∧ z ≤ 255) ∧ (b1 = none → zs = [])) ∧
                        l1 ≤ 10000 ∧
                          ∀ (b' : Option Addr) (l' c' : Nat) (ys : List Int) (e : Int) (E'_1 : Mem),
                            Mem.le E' E'_1 →
                              Hyp (putN zs a1 = (ys, e)) →
                                (ys = [] ∨ E'_1 (Value.slice b' l' c') (List.map (Value.int IntKind.u8) ys)) ∧
                                    List.length ys = l' ∧
                                      l' ≤ c' ∧ (∀ (z : Int), List.Mem z ys → 0 ≤ z ∧ z ≤ 255) ∧ (b' = none → ys = []) →
                                  Mem.le E' E'_1 ∧
                                    ∃ (zs : List Int),
                                      ((zs = [] ∨ E'_1 (Value.slice b1 l1 c1) (List.map (Value.int IntKind.u8) zs)) ∧
                                          List.length zs = l1 ∧
                                            l1 ≤ c1 ∧
                                              (∀ (z : Int), List.Mem z zs → 0 ≤ z ∧ z ≤ 255) ∧ (b1 = none → zs = [])) ∧
                                        l1 ≤ 10000 ∧
                                          ∀ (b'_1 : Option Addr) (l'_1 c'_1 : Nat) (ys : List Int) (e_1 : Int) (E' : Mem),
                                            Mem.le E'_1 E' →
                                              Hyp (putN zs a1 = (ys, e_1)) →
                                                (ys = [] ∨
                                                      E' (Value.slice b'_1 l'_1 c'_1) (List.map (Value.int IntKind.u8) ys)) ∧
                                                    List.length ys = l'_1 ∧
                                                      l'_1 ≤ c'_1 ∧
                                                        (∀ (z : Int), List.Mem z ys → 0 ≤ z ∧ z ≤ 255) ∧
                                                          (b'_1 = none → ys = []) →
                                                  Mem.le E'_1 E' ∧
                                                    ∃ (zs : List Int),
                                                      ((zs = [] ∨
                                                            E' (Value.slice b' l' c') (List.map (Value.int IntKind.u8) zs)) ∧
                                                          List.length zs = l' ∧
                                                            l' ≤ c' ∧
                                                              (∀ (z : Int), List.Mem z zs → 0 ≤ z ∧ z ≤ 255) ∧
                                                                (b' = none → zs = [])) ∧
                                                        ((zs = [] ∨
                                                              E' (Value.slice b'_1 l'_1 c'_1)
                                                                (List.map (Value.int IntKind.u8) zs)) ∧
                                                            List.length zs = l'_1 ∧
                                                              l'_1 ≤ c'_1 ∧
                                                                (∀ (z : Int), List.Mem z zs → 0 ≤ z ∧ z ≤ 255) ∧
                                                                  (b'_1 = none → zs = [])) ∧
                                                          l' ≤ 100000 ∧
                                                            Mem.le E' E' ∧
                                                              Ct WL3 6 Try.f3 [1, 1, 1, 1, 1, 1, 1] 0 (pubK E K)
                                                                {
                                                                  fr :=
                                                                    [some (SV.raw (Value.slice b1 l1 c1)),
                                                                      some (SV.raw (Value.slice b2 l2 c2)),
                                                                      some (SV.raw (Value.int IntKind.i64 a1)),
                                                                      some (SV.raw (Value.int IntKind.i64 a2)),
                                                                      some
                                                                        (SV.agg
                                                                          [SV.raw (Value.int IntKind.i64 a3),
                                                                            SV.raw (Value.int IntKind.i64 a4),
                                                                            SV.raw (Value.int IntKind.i64 a5),
                                                                            SV.raw (Value.int IntKind.i64 a6),
                                                                            SV.raw (Value.int IntKind.i64 a7),
                                                                            SV.raw (Value.slice b3 l3 c3)]),
                                                                      none, none, none, none, some (SV.loc 0 0),
                                                                      some (SV.raw (Value.bool false)),
                                                                      some
                                                                        (SV.raw
                                                                          (Value.bool (bif true then e == e_1 else false))),
                                                                      some
                                                                        (SV.raw
                                                                          (Value.bool
                                                                            (bif true then decide ((↑l2 : Int) ≤ 6000)
                                                                            else false))),
                                                                      some (SV.raw (Value.slice b' l' c')),
                                                                      some (SV.raw (Value.int IntKind.i64 e)),
                                                                      some (SV.raw (Value.slice b'_1 l'_1 c'_1)),
                                                                      some (SV.raw (Value.int IntKind.i64 e_1)), none, none,
                                                                      none, none, none, none, some (SV.raw (Value.bool true)),
                                                                      some (SV.raw (Value.slice b1 l1 c1)),
                                                                      some (SV.raw (Value.slice b2 l2 c2)),
                                                                      some
                                                                        (SV.raw
                                                                          (Value.bool
                                                                            (bif true then decide ((↑l2 : Int) ≤ 6000)
                                                                            else false))),
                                                                      some
                                                                        (SV.raw
                                                                          (Value.bool
                                                                            (bif true then decide ((↑l2 : Int) ≤ 6000)
                                                                            else false))),
                                                                      some
                                                                        (SV.raw
                                                                          (Value.bool
                                                                            !bif true then decide ((↑l2 : Int) ≤ 6000)
                                                                              else false)),
                                                                      some (SV.raw (Value.bool false)), some (SV.loc 0 5),
                                                                      some (SV.raw (Value.slice b3 l3 c3)),
                                                                      some (SV.raw (Value.int IntKind.i64 (↑l3 : Int))),
                                                                      some
                                                                        (SV.raw (Value.bool (decide ((↑l3 : Int) > 6000)))),
                                                                      some
                                                                        (SV.raw
                                                                          (Value.bool
                                                                            (bif false then true
                                                                            else decide ((↑l3 : Int) > 6000)))),
                                                                      none,
                                                                      some
                                                                        (SV.tup
                                                                          [SV.raw (Value.slice b' l' c'),
                                                                            SV.raw (Value.int IntKind.i64 e)]),
                                                                      some (SV.raw (Value.slice b1 l1 c1)),
                                                                      some (SV.raw (Value.int IntKind.i64 a1)),
                                                                      some
                                                                        (SV.tup
                                                                          [SV.raw (Value.slice b' l' c'),
                                                                            SV.raw (Value.int IntKind.i64 e)]),
                                                                      some (SV.raw (Value.slice b' l' c')),
                                                                      some (SV.raw (Value.int IntKind.i64 e)),
                                                                      some
                                                                        (SV.tup
                                                                          [SV.raw (Value.slice b'_1 l'_1 c'_1),
                                                                            SV.raw (Value.int IntKind.i64 e_1)]),
                                                                      some (SV.raw (Value.slice b1 l1 c1)),
                                                                      some (SV.raw (Value.int IntKind.i64 a1)),
                                                                      some
                                                                        (SV.tup
                                                                          [SV.raw (Value.slice b'_1 l'_1 c'_1),
                                                                            SV.raw (Value.int IntKind.i64 e_1)]),
                                                                      some (SV.raw (Value.slice b'_1 l'_1 c'_1)),
                                                                      some (SV.raw (Value.int IntKind.i64 e_1)),
                                                                      some (SV.raw (Value.bool true)),
                                                                      some (SV.raw (Value.bool true)),
                                                                      some (SV.raw (Value.slice b' l' c')),
                                                                      some (SV.raw (Value.slice b'_1 l'_1 c'_1)),
                                                                      some (SV.raw (Value.bool true)),
                                                                      some (SV.raw (Value.bool true)),
                                                                      some (SV.raw (Value.bool true)),
                                                                      some (SV.raw (Value.int IntKind.i64 e)),
                                                                      some (SV.raw (Value.int IntKind.i64 e_1)),
                                                                      some (SV.raw (Value.bool (e == e_1))),
                                                                      some
                                                                        (SV.raw
                                                                          (Value.bool (bif true then e == e_1 else false))),
                                                                      none, none, none, none, none, none, none, none, none,
                                                                      none, none, none, none, none, none, none, none, none,
                                                                      none, none, none, none, none, none, none, none, none,
                                                                      none, none, none, none, none, none, none, none, none,
                                                                      none, none, none, none, none, none, none, none, none,
                                                                      none, none, none, none, none, none, none, none, none,
                                                                      none, none, none, none, none, none, none, none, none,
                                                                      none, none, none, none, none, none, none, none, none,
                                                                      none, none, none, none, none, none, none, none, none,
                                                                      none, none, none, none, none, none, none, none, none,
                                                                      none, none, none, none, none, none, none, none, none,
                                                                      none, none, none, none, none, none, none, none, none,
                                                                      none, none, none, none, none, none, none, none, none,
                                                                      none, none, none, none, none, none, none, none],
                                                                  bx :=
                                                                    [{ elem := 24,
                                                                        row :=
                                                                          Row.lst
                                                                            [SV.raw (Value.int IntKind.i64 a3),
                                                                              SV.raw (Value.int IntKind.i64 a4),
                                                                              SV.raw (Value.int IntKind.i64 a5),
                                                                              SV.raw (Value.int IntKind.i64 a6),
                                                                              SV.raw (Value.int IntKind.i64 a7),
                                                                              SV.raw (Value.slice b3 l3 c3)],
                                                                        total := 6, own := true }],
                                                                  E := E' }
            else Mem.le E' E' ∧ Mem.le E E' ∧ K (SV.raw (Value.bool true)) E')
  intro E1 hE0
  have hh : ∀ E', Mem.le E1 E' → K (B true) E' := fun E' hE' => h E' (Mem.le_trans hE0 hE')
  refine ⟨hE0, condC (fun g1 => ?_) (fun g1 => ⟨Mem.le_refl _, hE0, hh E1 (Mem.le_refl _)⟩)⟩
  have g1 : l1 ≤ 6000 := by simp at g1; omega
  refine ⟨Mem.le_refl _, condC (fun _ => ⟨hE0, hh E1 (Mem.le_refl _)⟩) (fun g2 => ?_)⟩
  have g2 : l2 ≤ 6000 := by simp at g2; omega
  refine condC (fun _ => ⟨hE0, hh E1 (Mem.le_refl _)⟩) (fun g3 => ?_)
  have g3 : l3 ≤ 6000 := by simp at g3; omega
  have hB1 := hB1.mono hE0
  have hB2 := hB2.mono hE0
  have hB3 := hB3.mono hE0
  have h := hh
  refine ⟨_, hB1, by omega, fun ab al ac ys e E2 q2 hy A => ⟨q2, _, hB1.mono q2, by omega, fun bb bl bc ys' e' E3 q3 hy' A' => ⟨q3, ?_⟩⟩⟩
  have hy : putN z1 a1 = (ys, e) := hy
  have hy' : putN z1 a1 = (ys', e') := hy'
  rw [hy] at hy'
  obtain ⟨rfl, rfl⟩ := Prod.mk.inj hy'
  have A : Bs E2 ab al ac ys := A
  have A' : Bs E3 bb bl bc ys := A'
  have hq := Mem.le_trans q2 q3
  have hlen := putN_len hy (by rw [hB1.2.1]; omega)
  refine ⟨ys, A.mono q3, A', by rw [← A.2.1]; exact hlen, Mem.le_refl _, ?_⟩
  rw [show (bif true then e == e else false) = true by simp]
  exact Ct_from (by repeat' first | exact True.intro | refine And.intro rfl ?_) (Ct_intro okWL3 (pcL3_8 (hB1.mono hq) (hB2.mono hq) (hB3.mono hq) g1 g2 g3 (Mem.le_trans hE0 hq) (fun E' hE' => h E' (Mem.le_trans hq hE'))))


theorem opn3 (W : World) (K : List SV → Prop) (h : ∀ (b1 : Option Addr) (l1 c1 : Nat) (z1 : List Int), (l1 ≤ c1) → (c1 ≤ maxLen) → (b1 = none → c1 = 0) → (z1.length = c1) → (∀ x ∈ z1, (Lit.int .u8 x).wf = true) → RowAt W (.slice b1 l1 c1) (z1.map (.int .u8)) → ∀ (b2 : Option Addr) (l2 c2 : Nat) (z2 : List Int), (l2 ≤ c2) → (c2 ≤ maxLen) → (b2 = none → c2 = 0) → (z2.length = c2) → (∀ x ∈ z2, (Lit.int .u8 x).wf = true) → RowAt W (.slice b2 l2 c2) (z2.map (.int .u8)) → ∀ a1 : Int, (Lit.int .i64 a1).wf = true → ∀ a2 : Int, (Lit.int .i64 a2).wf = true → ∀ a3 : Int, (Lit.int .i64 a3).wf = true → ∀ a4 : Int, (Lit.int .i64 a4).wf = true → ∀ a5 : Int, (Lit.int .i64 a5).wf = true → ∀ a6 : Int, (Lit.int .i64 a6).wf = true → ∀ a7 : Int, (Lit.int .i64 a7).wf = true → ∀ (b3 : Option Addr) (l3 c3 : Nat) (z3 : List Int), (l3 ≤ c3) → (c3 ≤ maxLen) → (b3 = none → c3 = 0) → (z3.length = c3) → (∀ x ∈ z3, (Lit.int .u8 x).wf = true) → RowAt W (.slice b3 l3 c3) (z3.map (.int .u8)) → K [L b1 l1 c1, L b2 l2 c2, I a1, I a2, .agg [I a3, I a4, I a5, I a6, I a7, L b3 l3 c3]]) : opnAll Try.prog W Try.f3.params.toList K :=
  same (by kernel_rfl) h

theorem sem3 (W : World) : opnAll Try.prog W Try.f3.params.toList fun ss => TabSem Try.prog 3 ss (fun v cs => RowAt W v cs) fun r _ => r = .raw (.bool true) := by
  refine opn3 W _ ?_
  intro b1 l1 c1 z1 hl1 hc1 hb1 hz1 hw1 hE1 b2 l2 c2 z2 hl2 hc2 hb2 hz2 hw2 hE2 a1 ha1 a2 ha2 a3 ha3 a4 ha4 a5 ha5 a6 ha6 a7 ha7 b3 l3 c3 z3 hl3 hc3 hb3 hz3 hw3 hE3
  exact Ent.sem okWL3 Try.func3 ⟨by kernel_rfl, by kernel_rfl⟩ rfl (e3 (Bs.of hl1 hb1 hz1 hw1 hE1) (Bs.of hl2 hb2 hz2 hw2 hE2) ha1 ha2 ha3 ha4 ha5 ha6 ha7 (Bs.of hl3 hb3 hz3 hw3 hE3) (fun _ _ => rfl))

theorem lifted3 (os : Os) (started : os.Started) (H : Type) (enc : TypeId × Value → H) :
    ReturnsInHanded {} Try.checked os 3 .any (Rows.wireMatchesReferenceSpec.pre6 enc Try.prog Try.f3 Rows.wireMatchesReferenceRow.domain false) (Rows.wireMatchesReferenceSpec.post enc Try.prog Try.f3 false true false false) :=
  lift_true (C := Try.checked) (by kernel_rfl) (by kernel_rfl) started (by kernel_rfl) Try.func3
    (ChangeSpec.witness6 (enc := enc) (C := Try.checked) false ⟨#[], #[.slice none 0 0, .slice none 0 0, .int .i64 0, .int .i64 0, .agg #[.int .i64 0, .int .i64 0, .int .i64 0, .int .i64 0, .int .i64 0, .slice none 0 0]], []⟩ 8 (by kernel_rfl) (by kernel_rfl) (by kernel_rfl) (by kernel_rfl))
    (Tb := 4) (by kernel_rfl) (by kernel_rfl) (by kernel_rfl) rfl
    (fun ds hl => by
      match ds, hl with
      | [d0, d1, d2, d3, d4], _ => exact ⟨rfl, rfl, rfl⟩)
    sem3

theorem over3 : Rows.wireMatchesReferenceRow.holds Try.pinned (OpenSpec.ofChange Rows.wireMatchesReferenceSpec) :=
  OpenClaim.holds_of_wide 3 Try.f3 rfl rfl rfl rfl rfl rfl rfl ⟨rfl, rfl, rfl, rfl, rfl⟩ rfl rfl rfl rfl rfl (by kernel_rfl) Try.func3 (by kernel_rfl)
    (of_decide_eq_true (by kernel_rfl)) (by unfold Func.isWrapper; first | (rw [if_pos (by decide +kernel)]; kernel_rfl) | (rw [if_neg (by decide +kernel)]; exact ⟨rfl, rfl⟩))
    (fun os started H enc _ => lifted3 os started H enc)

theorem proved3 : Rows.WireMatchesReferenceSaid := over3
end Go.Proofs.Ytjlpfhekhpebpaa.WireOwn
