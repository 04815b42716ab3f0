/- The wire package: what its functions answer. -/
import Derived.Test.YtjlpfhekhpebpaaWire9
namespace Go.Proofs.Ytjlpfhekhpebpaa.WireOwn
open Go Go.Sx
set_option maxRecDepth 100000
set_option maxHeartbeats 4000000
set_option linter.unusedVariables false
set_option linter.unusedSimpArgs false
variable {E : Mem} {K : SV → Mem → Prop}
noncomputable def tab12 : FuncId → List SV → Mem → (SV → Mem → Prop) → Prop := fun f args E K => match f with
  | 15 => d2 args fun x0 x1 => dS x0 fun b1 l2 c3 => dI x1 fun a4 => ∃ (zs : List Int), Bs E b1 l2 c3 zs ∧ l2 ≤ 100000 ∧ (∀ (n end' e : Int) (E' : Mem), Mem.le E E' → Hyp (rd zs a4 = (n, end', e)) → K (.tup [I n, I end', I e]) E')
  | 38 => d2 args fun x0 x1 => dI x0 fun a1 => dC x1 fun l1 => d2 l1 fun x1_0 x1_1 => dI x1_0 fun a2 => dI x1_1 fun a3 => (K (B (decide (a2 ≤ a1 ∧ a1 ≤ a3))) E)
  | 19 => d2 args fun x0 x1 => dS x0 fun b1 l2 c3 => dI x1 fun a4 => ∃ (zs : List Int), Bs E b1 l2 c3 zs ∧ l2 ≤ 100000 ∧ (∀ (b' : Option Addr) (l' c' : Nat) (ys : List Int) (end' e : Int) (E' : Mem), Mem.le E E' → Hyp (rdB zs a4 = (ys, end', e)) → Bs E' b' l' c' ys → K (.tup [L b' l' c', I end', I e]) E')
  | _ => False
theorem tab12_ok : TabOK Try.prog tab12 := by
  intro f args E K h
  unfold tab12 at h
  split at h
  · obtain ⟨x0, x1, rfl, h⟩ := d2_elim h
    obtain ⟨b1, l2, c3, rfl, h⟩ := dS_elim h
    obtain ⟨a4, rfl, h⟩ := dI_elim h
    obtain ⟨zs, g0, g1, h⟩ := h
    exact TabSem.congr (valL_cons rfl (valL_cons rfl rfl)) (Ent.sem okW7 Try.func15 ⟨by kernel_rfl, by kernel_rfl⟩ rfl (s15 g0 g1 h))
  · obtain ⟨x0, x1, rfl, h⟩ := d2_elim h
    obtain ⟨a1, rfl, h⟩ := dI_elim h
    obtain ⟨l1, hl1, h⟩ := dC_elim h
    obtain ⟨x1_0, x1_1, rfl, h⟩ := d2_elim h
    obtain ⟨a2, rfl, h⟩ := dI_elim h
    obtain ⟨a3, rfl, h⟩ := dI_elim h
    exact TabSem.congr (valL_cons rfl (valL_cons (asCells_val hl1) rfl)) (Ent.sem okWB Try.func38 ⟨by kernel_rfl, by kernel_rfl⟩ rfl (s38 h))
  · obtain ⟨x0, x1, rfl, h⟩ := d2_elim h
    obtain ⟨b1, l2, c3, rfl, h⟩ := dS_elim h
    obtain ⟨a4, rfl, h⟩ := dI_elim h
    obtain ⟨zs, g0, g1, h⟩ := h
    exact TabSem.congr (valL_cons rfl (valL_cons rfl rfl)) (Ent.sem okWP1 Try.func19 ⟨by kernel_rfl, by kernel_rfl⟩ rfl (s19 g0 g1 h))
  · exact h.elim
noncomputable def WG : Cx := { P := Try.prog, inl := fun f => List.contains [37, 42] f, tab := tab12, isB := fun _ => false, tabB := fun _ _ _ _ _ => False, opt := { unroll := 0, carry := [15] }, muts := mutsD }
theorem okWG : CxOK WG := ⟨tab12_ok, by kernel_rfl, okInl (by kernel_rfl), fun _ _ _ _ _ h => h.elim⟩
noncomputable def tab13 : FuncId → List SV → Mem → (SV → Mem → Prop) → Prop := fun f args E K => match f with
  | 16 => d2 args fun x0 x1 => dS x0 fun b1 l2 c3 => dI x1 fun a4 => ∃ (zs : List Int), Bs E b1 l2 c3 zs ∧ l2 ≤ 100000 ∧ (∀ (n end' e : Int) (E' : Mem), Mem.le E E' → Hyp (rd zs a4 = (n, end', e)) → K (.tup [I n, I end', I e]) E')
  | 20 => d2 args fun x0 x1 => dS x0 fun b1 l2 c3 => dI x1 fun a4 => ∃ (zs : List Int), Bs E b1 l2 c3 zs ∧ l2 ≤ 100000 ∧ (∀ (b' : Option Addr) (l' c' : Nat) (ys : List Int) (end' e : Int) (E' : Mem), Mem.le E E' → Hyp (rdB zs a4 = (ys, end', e)) → Bs E' b' l' c' ys → K (.tup [L b' l' c', I end', I e]) E')
  | _ => False
theorem tab13_ok : TabOK Try.prog tab13 := by
  intro f args E K h
  unfold tab13 at h
  split at h
  · obtain ⟨x0, x1, rfl, h⟩ := d2_elim h
    obtain ⟨b1, l2, c3, rfl, h⟩ := dS_elim h
    obtain ⟨a4, rfl, h⟩ := dI_elim h
    obtain ⟨zs, g0, g1, h⟩ := h
    exact TabSem.congr (valL_cons rfl (valL_cons rfl rfl)) (Ent.sem okWA Try.func16 ⟨by kernel_rfl, by kernel_rfl⟩ rfl (s16 g0 g1 h))
  · obtain ⟨x0, x1, rfl, h⟩ := d2_elim h
    obtain ⟨b1, l2, c3, rfl, h⟩ := dS_elim h
    obtain ⟨a4, rfl, h⟩ := dI_elim h
    obtain ⟨zs, g0, g1, h⟩ := h
    exact TabSem.congr (valL_cons rfl (valL_cons rfl rfl)) (Ent.sem okWR1 Try.func20 ⟨by kernel_rfl, by kernel_rfl⟩ rfl (s20 g0 g1 h))
  · exact h.elim
noncomputable def WH : Cx := { P := Try.prog, inl := fun f => List.contains [43] f, tab := tab13, isB := fun _ => false, tabB := fun _ _ _ _ _ => False, opt := { unroll := 0, carry := [4, 5, 6] }, muts := mutsD }
theorem okWH : CxOK WH := ⟨tab13_ok, by kernel_rfl, okInl (by kernel_rfl), fun _ _ _ _ _ h => h.elim⟩

def fld (zs : List Int) (p lo hi : Int) : Int × Int × Int := match rd zs p with
  | (n, e', e) => if e ≠ 0 then (0, 0, e) else if lo ≤ n ∧ n ≤ hi then (n, e', 0) else (0, 0, 3)
theorem fld_e {zs : List Int} {p lo hi n e' e : Int} (h : rd zs p = (n, e', e)) (he : e ≠ 0) : fld zs p lo hi = (0, 0, e) := by unfold fld; rw [h]; exact if_pos he
theorem fld_r {zs : List Int} {p lo hi n e' : Int} (h : rd zs p = (n, e', 0)) (he : ¬ (lo ≤ n ∧ n ≤ hi)) : fld zs p lo hi = (0, 0, 3) := by unfold fld; rw [h]; exact (if_neg (by simp)).trans (if_neg he)
theorem fld_o {zs : List Int} {p lo hi n e' : Int} (h : rd zs p = (n, e', 0)) (he : lo ≤ n ∧ n ≤ hi) : fld zs p lo hi = (n, e', 0) := by unfold fld; rw [h]; exact (if_neg (by simp)).trans (if_pos he)
def bad (e : Int) : List Int × List Int × Int := ([0, 0, 0, 0, 0], [], e)
def stp (er : Int) (r : List Int × List Int × Int) : List Int × List Int × Int := if er ≠ 0 then bad er else r
theorem stp_e {er : Int} (h : er ≠ 0) {r : List Int × List Int × Int} : stp er r = bad er := if_pos h
theorem stp_0 {r : List Int × List Int × Int} : stp 0 r = r := if_neg (by simp)
def uk5 (zs : List Int) (p k f t a y : Int) : List Int × List Int × Int := match rdB zs p with
  | (ys, e', e) => if e ≠ 0 then bad e else if e' < zs.length then bad 11 else ([k, f, t, a, y], ys, 0)
theorem uk5_e {zs : List Int} {p k f t a y : Int} {ys : List Int} {e' e : Int} (h : rdB zs p = (ys, e', e)) (he : e ≠ 0) : uk5 zs p k f t a y = bad e := by unfold uk5; rw [h]; exact if_pos he
theorem uk5_s {zs : List Int} {p k f t a y : Int} {ys : List Int} {e' : Int} (h : rdB zs p = (ys, e', 0)) (he : e' < zs.length) : uk5 zs p k f t a y = bad 11 := by unfold uk5; rw [h]; exact (if_neg (by simp)).trans (if_pos he)
theorem uk5_o {zs : List Int} {p k f t a y : Int} {ys : List Int} {e' : Int} (h : rdB zs p = (ys, e', 0)) (he : ¬ e' < zs.length) : uk5 zs p k f t a y = ([k, f, t, a, y], ys, 0) := by unfold uk5; rw [h]; exact (if_neg (by simp)).trans (if_neg he)
def uk4 (zs : List Int) (p k f t a : Int) : List Int × List Int × Int := match fld zs p (0) 2000000 with
  | (y, p', e) => if e ≠ 0 then bad e else uk5 zs p' k f t a y
theorem uk4_e {zs : List Int} {p k f t a n p' e : Int} (h : fld zs p (0) 2000000 = (n, p', e)) (he : e ≠ 0) : uk4 zs p k f t a = bad e := by unfold uk4; rw [h]; exact if_pos he
theorem uk4_o {zs : List Int} {p k f t a n p' : Int} (h : fld zs p (0) 2000000 = (n, p', 0)) : uk4 zs p k f t a = uk5 zs p' k f t a n := by unfold uk4; rw [h]; exact if_neg (by simp)
def uk3 (zs : List Int) (p k f t : Int) : List Int × List Int × Int := match fld zs p (0) 1000000000 with
  | (a, p', e) => if e ≠ 0 then bad e else uk4 zs p' k f t a
theorem uk3_e {zs : List Int} {p k f t n p' e : Int} (h : fld zs p (0) 1000000000 = (n, p', e)) (he : e ≠ 0) : uk3 zs p k f t = bad e := by unfold uk3; rw [h]; exact if_pos he
theorem uk3_o {zs : List Int} {p k f t n p' : Int} (h : fld zs p (0) 1000000000 = (n, p', 0)) : uk3 zs p k f t = uk4 zs p' k f t n := by unfold uk3; rw [h]; exact if_neg (by simp)
def uk2 (zs : List Int) (p k f : Int) : List Int × List Int × Int := match fld zs p (-1) 59 with
  | (t, p', e) => if e ≠ 0 then bad e else uk3 zs p' k f t
theorem uk2_e {zs : List Int} {p k f n p' e : Int} (h : fld zs p (-1) 59 = (n, p', e)) (he : e ≠ 0) : uk2 zs p k f = bad e := by unfold uk2; rw [h]; exact if_pos he
theorem uk2_o {zs : List Int} {p k f n p' : Int} (h : fld zs p (-1) 59 = (n, p', 0)) : uk2 zs p k f = uk3 zs p' k f n := by unfold uk2; rw [h]; exact if_neg (by simp)
def uk1 (zs : List Int) (p k : Int) : List Int × List Int × Int := match fld zs p (0) 59 with
  | (f, p', e) => if e ≠ 0 then bad e else uk2 zs p' k f
theorem uk1_e {zs : List Int} {p k n p' e : Int} (h : fld zs p (0) 59 = (n, p', e)) (he : e ≠ 0) : uk1 zs p k = bad e := by unfold uk1; rw [h]; exact if_pos he
theorem uk1_o {zs : List Int} {p k n p' : Int} (h : fld zs p (0) 59 = (n, p', 0)) : uk1 zs p k = uk2 zs p' k n := by unfold uk1; rw [h]; exact if_neg (by simp)
def uk0 (zs : List Int) (p : Int) : List Int × List Int × Int := match fld zs p (1) 4 with
  | (k, p', e) => if e ≠ 0 then bad e else uk1 zs p' k
theorem uk0_e {zs : List Int} {p n p' e : Int} (h : fld zs p (1) 4 = (n, p', e)) (he : e ≠ 0) : uk0 zs p = bad e := by unfold uk0; rw [h]; exact if_pos he
theorem uk0_o {zs : List Int} {p n p' : Int} (h : fld zs p (1) 4 = (n, p', 0)) : uk0 zs p = uk1 zs p' n := by unfold uk0; rw [h]; exact if_neg (by simp)
def sh23 (b : Option Addr) (l c : Nat) (p er k f t a y i : Int) (E : Mem) : St := { fr := [none, some (.loc 0 0), some (.loc 1 0), some (I 0), some (.loc 2 0), some (.loc 3 0), some (.clo 42 [] [.loc 3 0, .loc 0 0, .loc 2 0]), some (.loc 4 0), none, none, none, none, none, none, some (.agg [I 1, I 4, I 0, I 59, I (-1), I 59, I 0, I 1000000000, I 0, I 2000000]), some (I i), none, none, none, none, none, none, none, none, none, none, none, none, none, none, none, none, none, none, none, none, none, none, none, none, none, none, none, none, none, none, none, none, none, none, none, none, none, none, none, none, none, none, none], bx := [⟨22, .lst [L b l c], 1, true⟩, ⟨24, .lst [I 0, I 0, I 0, I 0, I 0, L none 0 0], 6, true⟩, ⟨3, .lst [I p], 1, true⟩, ⟨27, .lst [I er], 1, true⟩, ⟨54, .lst [I k, I f, I t, I a, I y], 5, true⟩], E := E }
theorem rnd23_5 {b : Option Addr} {l c : Nat} {zs : List Int} {p er k f t a y : Int} {E0 : Mem} (hB : Bs E b l c zs) (hl : l ≤ 100000) (hE0 : Mem.le E0 E) (h : ∀ (k1 f1 t1 a1 y1 : Int) (b1 : Option Addr) (l1 c1 : Nat) (ys : List Int) (e1 : Int) (E' : Mem), Mem.le E E' → Hyp (stp er (uk5 zs p k f t a y) = ([k1, f1, t1, a1, y1], ys, e1)) → Bs E' b1 l1 c1 ys → K (.tup [.agg [I k1, I f1, I t1, I a1, I y1, L b1 l1 c1], I e1]) E') :
    Rnd WG 6 Try.f23 [1, 1, 1, 1, 0, 1, 0] 0 (pubK E0 K) (sh23 b l c p er k f t a y 5 E) := by
  refine same (by kernel_rfl) (?_ : 
      bif er != 0 then
        Sx.Alike (AlikeT.n AlikeT.l AlikeT.l)
          (Mem.le E0 E ∧
            K
              (SV.tup
                [SV.agg
                    [SV.raw (Value.int IntKind.i64 0), SV.raw (Value.int IntKind.i64 0), SV.raw (Value.int IntKind.i64 0),
                      SV.raw (Value.int IntKind.i64 0), SV.raw (Value.int IntKind.i64 0), SV.raw (Value.slice none 0 0)],
                  SV.raw (Value.int IntKind.i64 er)])
              E)
      else
        ∃ (zs : List Int),
          ((zs = [] ∨ E (Value.slice b l c) (List.map (Value.int IntKind.u8) zs)) ∧
              List.length zs = l ∧ l ≤ c ∧ (∀ (z : Int), List.Mem z zs → 0 ≤ z ∧ z ≤ 255) ∧ (b = none → zs = [])) ∧
            l ≤ 100000 ∧
              ∀ (b' : Option Addr) (l' c' : Nat) (ys : List Int) (end' e : Int) (E' : Mem),
                Mem.le E E' →
                  Hyp (rdB zs p = (ys, end', e)) →
                    (ys = [] ∨ E' (Value.slice b' l' c') (List.map (Value.int IntKind.u8) ys)) ∧
                        List.length ys = l' ∧
                          l' ≤ c' ∧ (∀ (z : Int), List.Mem z ys → 0 ≤ z ∧ z ≤ 255) ∧ (b' = none → ys = []) →
                      Mem.le E E' ∧
                        bif e != 0 then
                          Mem.le E0 E' ∧
                            K
                              (SV.tup
                                [SV.agg
                                    [SV.raw (Value.int IntKind.i64 0), SV.raw (Value.int IntKind.i64 0),
                                      SV.raw (Value.int IntKind.i64 0), SV.raw (Value.int IntKind.i64 0),
                                      SV.raw (Value.int IntKind.i64 0), SV.raw (Value.slice none 0 0)],
                                  SV.raw (Value.int IntKind.i64 e)])
                              E'
                        else
                          bif decide (end' < (↑l : Int)) then
                            Mem.le E0 E' ∧
                              K
                                (SV.tup
                                  [SV.agg
                                      [SV.raw (Value.int IntKind.i64 0), SV.raw (Value.int IntKind.i64 0),
                                        SV.raw (Value.int IntKind.i64 0), SV.raw (Value.int IntKind.i64 0),
                                        SV.raw (Value.int IntKind.i64 0), SV.raw (Value.slice none 0 0)],
                                    SV.raw (Value.int IntKind.i64 11)])
                                E'
                          else
                            Mem.le E0 E' ∧
                              K
                                (SV.tup
                                  [SV.agg
                                      [SV.raw (Value.int IntKind.i64 k), SV.raw (Value.int IntKind.i64 f),
                                        SV.raw (Value.int IntKind.i64 t), SV.raw (Value.int IntKind.i64 a),
                                        SV.raw (Value.int IntKind.i64 y), SV.raw (Value.slice b' l' c')],
                                    SV.raw (Value.int IntKind.i64 0)])
                                E')
  have hlen := hB.2.1
  refine condC (fun g => ?_) (fun g => ?_)
  · have g : er ≠ 0 := by simpa using g
    rw [stp_e g] at h
    exact alike ⟨hE0, h 0 0 0 0 0 none 0 0 [] er E (Mem.le_refl _) rfl (Bs.nil _)⟩
  · have g : er = 0 := by simpa using g
    subst g
    rw [stp_0] at h
    refine ⟨zs, hB, hl, fun b2 l2 c2 ys e' e2 E1 hE1 hy hB2 => ⟨hE1, ?_⟩⟩
    have hy : rdB zs p = (ys, e', e2) := hy
    refine condC (fun g2 => ?_) (fun g2 => ?_)
    · have g2 : e2 ≠ 0 := by simpa using g2
      rw [uk5_e hy g2] at h
      exact ⟨Mem.le_trans hE0 hE1, h 0 0 0 0 0 none 0 0 [] e2 E1 hE1 rfl (Bs.nil _)⟩
    · have g2 : e2 = 0 := by simpa using g2
      subst g2
      refine condC (fun g3 => ?_) (fun g3 => ?_)
      · rw [uk5_s hy (by simp at g3; omega)] at h
        exact ⟨Mem.le_trans hE0 hE1, h 0 0 0 0 0 none 0 0 [] 11 E1 hE1 rfl (Bs.nil _)⟩
      · rw [uk5_o hy (by simp at g3; omega)] at h
        exact ⟨Mem.le_trans hE0 hE1, h k f t a y b2 l2 c2 ys 0 E1 hE1 rfl hB2⟩
theorem lp23_5 {b : Option Addr} {l c : Nat} {zs : List Int} {p er k f t a y : Int} {E0 : Mem} (hB : Bs E b l c zs) (hl : l ≤ 100000) (hE0 : Mem.le E0 E) (h : ∀ (k1 f1 t1 a1 y1 : Int) (b1 : Option Addr) (l1 c1 : Nat) (ys : List Int) (e1 : Int) (E' : Mem), Mem.le E E' → Hyp (stp er (uk5 zs p k f t a y) = ([k1, f1, t1, a1, y1], ys, e1)) → Bs E' b1 l1 c1 ys → K (.tup [.agg [I k1, I f1, I t1, I a1, I y1, L b1 l1 c1], I e1]) E') :
    Lp WG 6 Try.f23 [1, 1, 1, 1, 0, 1, 0] 0 (pubK E0 K) (sh23 b l c p er k f t a y 5 E) :=
  Lp_ind okWG (fun _ : Unit => sh23 b l c p er k f t a y 5 E) (fun _ => 0) (fun _ _ => rnd23_5 hB hl hE0 h) ()
theorem rnd23_4 {b : Option Addr} {l c : Nat} {zs : List Int} {p er k f t a : Int} {E0 : Mem} (hB : Bs E b l c zs) (hl : l ≤ 100000) (hE0 : Mem.le E0 E) (h : ∀ (k1 f1 t1 a1 y1 : Int) (b1 : Option Addr) (l1 c1 : Nat) (ys : List Int) (e1 : Int) (E' : Mem), Mem.le E E' → Hyp (stp er (uk4 zs p k f t a) = ([k1, f1, t1, a1, y1], ys, e1)) → Bs E' b1 l1 c1 ys → K (.tup [.agg [I k1, I f1, I t1, I a1, I y1, L b1 l1 c1], I e1]) E')
    (ih : ∀ (p' e' v : Int) (E1 : Mem), Mem.le E E1 → (∀ (k1 f1 t1 a1 y1 : Int) (b1 : Option Addr) (l1 c1 : Nat) (ys : List Int) (e1 : Int) (E' : Mem), Mem.le E1 E' → Hyp (stp e' (uk5 zs p' k f t a v) = ([k1, f1, t1, a1, y1], ys, e1)) → Bs E' b1 l1 c1 ys → K (.tup [.agg [I k1, I f1, I t1, I a1, I y1, L b1 l1 c1], I e1]) E') → Lp WG 6 Try.f23 [1, 1, 1, 1, 0, 1, 0] 0 (pubK E0 K) (sh23 b l c p' e' k f t a v 5 E1)) :
    Rnd WG 6 Try.f23 [1, 1, 1, 1, 0, 1, 0] 0 (pubK E0 K) (sh23 b l c p er k f t a 0 4 E) := by
  refine same (by kernel_rfl) (?_ : 
      bif er != 0 then
        Lp WG 6 Try.f23 [1, 1, 1, 1, 0, 1, 0] 0 (pubK E0 K)
          {
            fr :=
              [none, some (SV.loc 0 0), some (SV.loc 1 0), some (SV.raw (Value.int IntKind.i64 0)), some (SV.loc 2 0),
                some (SV.loc 3 0), some (SV.clo 42 [] [SV.loc 3 0, SV.loc 0 0, SV.loc 2 0]), some (SV.loc 4 0), none, none,
                none, none, none, none,
                some
                  (SV.agg
                    [SV.raw (Value.int IntKind.i64 1), SV.raw (Value.int IntKind.i64 4), SV.raw (Value.int IntKind.i64 0),
                      SV.raw (Value.int IntKind.i64 59), SV.raw (Value.int IntKind.i64 (-1)),
                      SV.raw (Value.int IntKind.i64 59), SV.raw (Value.int IntKind.i64 0),
                      SV.raw (Value.int IntKind.i64 1000000000), SV.raw (Value.int IntKind.i64 0),
                      SV.raw (Value.int IntKind.i64 2000000)]),
                some (SV.raw (Value.int IntKind.i64 5)), none, none, none, none, none, none, none, none, none, none, none,
                none, none, none, none, none, none, none, none, none, none, none, none, none, none, none, none, none, none,
                none, none, none, none, none, none, none, none, none, none, none, none, none, none],
            bx :=
              [{ elem := 22, row := Row.lst [SV.raw (Value.slice b l c)], total := 1, own := true },
                { elem := 24,
                  row :=
                    Row.lst
                      [SV.raw (Value.int IntKind.i64 0), SV.raw (Value.int IntKind.i64 0), SV.raw (Value.int IntKind.i64 0),
                        SV.raw (Value.int IntKind.i64 0), SV.raw (Value.int IntKind.i64 0), SV.raw (Value.slice none 0 0)],
                  total := 6, own := true },
                { elem := 3, row := Row.lst [SV.raw (Value.int IntKind.i64 p)], total := 1, own := true },
                { elem := 27, row := Row.lst [SV.raw (Value.int IntKind.i64 er)], total := 1, own := true },
                { elem := 54,
                  row :=
                    Row.lst
                      [SV.raw (Value.int IntKind.i64 k), SV.raw (Value.int IntKind.i64 f), SV.raw (Value.int IntKind.i64 t),
                        SV.raw (Value.int IntKind.i64 a), SV.raw (Value.int IntKind.i64 0)],
                  total := 5, own := true },
                { elem := 56, row := Row.lst [SV.raw (Value.int IntKind.i64 0), SV.raw (Value.int IntKind.i64 2000000)],
                  total := 2, own := true },
                { elem := 56, row := Row.lst [SV.raw (Value.int IntKind.i64 0), SV.raw (Value.int IntKind.i64 2000000)],
                  total := 2, own := true }],
            E := E }
      else
        ∃ (zs : List Int),
          ((zs = [] ∨ E (Value.slice b l c) (List.map (Value.int IntKind.u8) zs)) ∧
              List.length zs = l ∧ l ≤ c ∧ (∀ (z : Int), List.Mem z zs → 0 ≤ z ∧ z ≤ 255) ∧ (b = none → zs = [])) ∧
            l ≤ 100000 ∧
              ∀ (n end' e : Int) (E' : Mem),
                Mem.le E E' →
                  Hyp (rd zs p = (n, end', e)) →
                    Mem.le E E' ∧
                      bif e == 0 then
                        Mem.le E' E' ∧
                          bif bif true then !decide (0 ≤ n ∧ n ≤ 2000000) else false then
                            Lp WG 6 Try.f23 [1, 1, 1, 1, 0, 1, 0] 0 (pubK E0 K)
                              {
                                fr :=
                                  [none, some (SV.loc 0 0), some (SV.loc 1 0), some (SV.raw (Value.int IntKind.i64 0)),
                                    some (SV.loc 2 0), some (SV.loc 3 0),
                                    some (SV.clo 42 [] [SV.loc 3 0, SV.loc 0 0, SV.loc 2 0]), some (SV.loc 4 0), none, none,
                                    none, none, none, none,
                                    some
                                      (SV.agg
                                        [SV.raw (Value.int IntKind.i64 1), SV.raw (Value.int IntKind.i64 4),
                                          SV.raw (Value.int IntKind.i64 0), SV.raw (Value.int IntKind.i64 59),
                                          SV.raw (Value.int IntKind.i64 (-1)), SV.raw (Value.int IntKind.i64 59),
                                          SV.raw (Value.int IntKind.i64 0), SV.raw (Value.int IntKind.i64 1000000000),
                                          SV.raw (Value.int IntKind.i64 0), SV.raw (Value.int IntKind.i64 2000000)]),
                                    some (SV.raw (Value.int IntKind.i64 5)), none, none, none, none, none, none, none, none,
                                    none, none, none, none, none, none, none, none, none, none, none, none, none, none, none,
                                    none, none, none, none, none, none, none, none, none, none, none, none, none, none, none,
                                    none, none, none, none, none],
                                bx :=
                                  [{ elem := 22, row := Row.lst [SV.raw (Value.slice b l c)], total := 1, own := true },
                                    { elem := 24,
                                      row :=
                                        Row.lst
                                          [SV.raw (Value.int IntKind.i64 0), SV.raw (Value.int IntKind.i64 0),
                                            SV.raw (Value.int IntKind.i64 0), SV.raw (Value.int IntKind.i64 0),
                                            SV.raw (Value.int IntKind.i64 0), SV.raw (Value.slice none 0 0)],
                                      total := 6, own := true },
                                    { elem := 3, row := Row.lst [SV.raw (Value.int IntKind.i64 end')], total := 1,
                                      own := true },
                                    { elem := 27, row := Row.lst [SV.raw (Value.int IntKind.i64 3)], total := 1,
                                      own := true },
                                    { elem := 54,
                                      row :=
                                        Row.lst
                                          [SV.raw (Value.int IntKind.i64 k), SV.raw (Value.int IntKind.i64 f),
                                            SV.raw (Value.int IntKind.i64 t), SV.raw (Value.int IntKind.i64 a),
                                            SV.raw (Value.int IntKind.i64 n)],
                                      total := 5, own := true },
                                    { elem := 56,
                                      row :=
                                        Row.lst [SV.raw (Value.int IntKind.i64 0), SV.raw (Value.int IntKind.i64 2000000)],
                                      total := 2, own := true },
                                    { elem := 56,
                                      row :=
                                        Row.lst [SV.raw (Value.int IntKind.i64 0), SV.raw (Value.int IntKind.i64 2000000)],
                                      total := 2, own := true }],
                                E := E' }
                          else
                            Lp WG 6 Try.f23 [1, 1, 1, 1, 0, 1, 0] 0 (pubK E0 K)
                              {
                                fr :=
                                  [none, some (SV.loc 0 0), some (SV.loc 1 0), some (SV.raw (Value.int IntKind.i64 0)),
                                    some (SV.loc 2 0), some (SV.loc 3 0),
                                    some (SV.clo 42 [] [SV.loc 3 0, SV.loc 0 0, SV.loc 2 0]), some (SV.loc 4 0), none, none,
                                    none, none, none, none,
                                    some
                                      (SV.agg
                                        [SV.raw (Value.int IntKind.i64 1), SV.raw (Value.int IntKind.i64 4),
                                          SV.raw (Value.int IntKind.i64 0), SV.raw (Value.int IntKind.i64 59),
                                          SV.raw (Value.int IntKind.i64 (-1)), SV.raw (Value.int IntKind.i64 59),
                                          SV.raw (Value.int IntKind.i64 0), SV.raw (Value.int IntKind.i64 1000000000),
                                          SV.raw (Value.int IntKind.i64 0), SV.raw (Value.int IntKind.i64 2000000)]),
                                    some (SV.raw (Value.int IntKind.i64 5)), none, none, none, none, none, none, none, none,
                                    none, none, none, none, none, none, none, none, none, none, none, none, none, none, none,
                                    none, none, none, none, none, none, none, none, none, none, none, none, none, none, none,
                                    none, none, none, none, none],
                                bx :=
                                  [{ elem := 22, row := Row.lst [SV.raw (Value.slice b l c)], total := 1, own := true },
                                    { elem := 24,
                                      row :=
                                        Row.lst
                                          [SV.raw (Value.int IntKind.i64 0), SV.raw (Value.int IntKind.i64 0),
                                            SV.raw (Value.int IntKind.i64 0), SV.raw (Value.int IntKind.i64 0),
                                            SV.raw (Value.int IntKind.i64 0), SV.raw (Value.slice none 0 0)],
                                      total := 6, own := true },
                                    { elem := 3, row := Row.lst [SV.raw (Value.int IntKind.i64 end')], total := 1,
                                      own := true },
                                    { elem := 27, row := Row.lst [SV.raw (Value.int IntKind.i64 e)], total := 1,
                                      own := true },
                                    { elem := 54,
                                      row :=
                                        Row.lst
                                          [SV.raw (Value.int IntKind.i64 k), SV.raw (Value.int IntKind.i64 f),
                                            SV.raw (Value.int IntKind.i64 t), SV.raw (Value.int IntKind.i64 a),
                                            SV.raw (Value.int IntKind.i64 n)],
                                      total := 5, own := true },
                                    { elem := 56,
                                      row :=
                                        Row.lst [SV.raw (Value.int IntKind.i64 0), SV.raw (Value.int IntKind.i64 2000000)],
                                      total := 2, own := true },
                                    { elem := 56,
                                      row :=
                                        Row.lst [SV.raw (Value.int IntKind.i64 0), SV.raw (Value.int IntKind.i64 2000000)],
                                      total := 2, own := true }],
                                E := E' }
                      else
                        Lp WG 6 Try.f23 [1, 1, 1, 1, 0, 1, 0] 0 (pubK E0 K)
                          {
                            fr :=
                              [none, some (SV.loc 0 0), some (SV.loc 1 0), some (SV.raw (Value.int IntKind.i64 0)),
                                some (SV.loc 2 0), some (SV.loc 3 0),
                                some (SV.clo 42 [] [SV.loc 3 0, SV.loc 0 0, SV.loc 2 0]), some (SV.loc 4 0), none, none, none,
                                none, none, none,
                                some
                                  (SV.agg
                                    [SV.raw (Value.int IntKind.i64 1), SV.raw (Value.int IntKind.i64 4),
                                      SV.raw (Value.int IntKind.i64 0), SV.raw (Value.int IntKind.i64 59),
                                      SV.raw (Value.int IntKind.i64 (-1)), SV.raw (Value.int IntKind.i64 59),
                                      SV.raw (Value.int IntKind.i64 0), SV.raw (Value.int IntKind.i64 1000000000),
                                      SV.raw (Value.int IntKind.i64 0), SV.raw (Value.int IntKind.i64 2000000)]),
                                some (SV.raw (Value.int IntKind.i64 5)), none, none, none, none, none, none, none, none, none,
                                none, none, none, none, none, none, none, none, none, none, none, none, none, none, none,
                                none, none, none, none, none, none, none, none, none, none, none, none, none, none, none,
                                none, none, none, none],
                            bx :=
                              [{ elem := 22, row := Row.lst [SV.raw (Value.slice b l c)], total := 1, own := true },
                                { elem := 24,
                                  row :=
                                    Row.lst
                                      [SV.raw (Value.int IntKind.i64 0), SV.raw (Value.int IntKind.i64 0),
                                        SV.raw (Value.int IntKind.i64 0), SV.raw (Value.int IntKind.i64 0),
                                        SV.raw (Value.int IntKind.i64 0), SV.raw (Value.slice none 0 0)],
                                  total := 6, own := true },
                                { elem := 3, row := Row.lst [SV.raw (Value.int IntKind.i64 end')], total := 1, own := true },
                                { elem := 27, row := Row.lst [SV.raw (Value.int IntKind.i64 e)], total := 1, own := true },
                                { elem := 54,
                                  row :=
                                    Row.lst
                                      [SV.raw (Value.int IntKind.i64 k), SV.raw (Value.int IntKind.i64 f),
                                        SV.raw (Value.int IntKind.i64 t), SV.raw (Value.int IntKind.i64 a),
                                        SV.raw (Value.int IntKind.i64 n)],
                                  total := 5, own := true },
                                { elem := 56,
                                  row := Row.lst [SV.raw (Value.int IntKind.i64 0), SV.raw (Value.int IntKind.i64 2000000)],
                                  total := 2, own := true },
                                { elem := 56,
                                  row := Row.lst [SV.raw (Value.int IntKind.i64 0), SV.raw (Value.int IntKind.i64 2000000)],
                                  total := 2, own := true }],
                            E := E' })
  refine condC (fun g => ?_) (fun g => ?_)
  · have g : er ≠ 0 := by simpa using g
    refine Lp_re [some 0, some 1, some 2, some 3, some 4] (ih p er 0 E (Mem.le_refl _) ?_) ⟨⟨Nat.zero_le _, Nat.zero_le _, fun j h => absurd h (Nat.not_lt_zero _)⟩, rfl, (by repeat' first | exact True.intro | refine And.intro (Or.inl rfl) ?_), (by repeat' first | exact True.intro | exact rfl | exact Or.inl rfl | exact Nat.succ_pos _ | refine And.intro ?_ ?_), (by show List.Nodup [0, 1, 2, 3, 4]; decide), Mem.le_refl _⟩
    rw [stp_e g] at h ⊢
    exact h
  · have g : er = 0 := by simpa using g
    subst g
    rw [stp_0] at h
    refine ⟨zs, hB, hl, fun n e' e2 E1 hE1 hy => ⟨hE1, ?_⟩⟩
    have hy : rd zs p = (n, e', e2) := hy
    refine condC (fun g2 => ?_) (fun g2 => ?_)
    · have g2 : e2 = 0 := by simpa using g2
      subst g2
      refine ⟨Mem.le_refl _, condC (fun g3 => ?_) (fun g3 => ?_)⟩
      · have g3 : ¬ ((0) ≤ n ∧ n ≤ 2000000) := by simp at g3; omega
        refine Lp_re [some 0, some 1, some 2, some 3, some 4] (ih e' 3 n E1 hE1 ?_) ⟨⟨Nat.zero_le _, Nat.zero_le _, fun j h => absurd h (Nat.not_lt_zero _)⟩, rfl, (by repeat' first | exact True.intro | refine And.intro (Or.inl rfl) ?_), (by repeat' first | exact True.intro | exact rfl | exact Or.inl rfl | exact Nat.succ_pos _ | refine And.intro ?_ ?_), (by show List.Nodup [0, 1, 2, 3, 4]; decide), Mem.le_refl _⟩
        rw [uk4_e (fld_r hy g3) (by omega)] at h
        rw [stp_e (by omega)]
        exact fun k1 f1 t1 a1 y1 b1 l1 c1 ys e1 E2 hE2 => h k1 f1 t1 a1 y1 b1 l1 c1 ys e1 E2 (Mem.le_trans hE1 hE2)
      · have g3 : (0) ≤ n ∧ n ≤ 2000000 := by simp at g3; omega
        refine Lp_re [some 0, some 1, some 2, some 3, some 4] (ih e' 0 n E1 hE1 ?_) ⟨⟨Nat.zero_le _, Nat.zero_le _, fun j h => absurd h (Nat.not_lt_zero _)⟩, rfl, (by repeat' first | exact True.intro | refine And.intro (Or.inl rfl) ?_), (by repeat' first | exact True.intro | exact rfl | exact Or.inl rfl | exact Nat.succ_pos _ | refine And.intro ?_ ?_), (by show List.Nodup [0, 1, 2, 3, 4]; decide), Mem.le_refl _⟩
        rw [uk4_o (fld_o hy g3)] at h
        rw [stp_0]
        exact fun k1 f1 t1 a1 y1 b1 l1 c1 ys e1 E2 hE2 => h k1 f1 t1 a1 y1 b1 l1 c1 ys e1 E2 (Mem.le_trans hE1 hE2)
    · have g2 : e2 ≠ 0 := by simpa using g2
      refine Lp_re [some 0, some 1, some 2, some 3, some 4] (ih e' e2 n E1 hE1 ?_) ⟨⟨Nat.zero_le _, Nat.zero_le _, fun j h => absurd h (Nat.not_lt_zero _)⟩, rfl, (by repeat' first | exact True.intro | refine And.intro (Or.inl rfl) ?_), (by repeat' first | exact True.intro | exact rfl | exact Or.inl rfl | exact Nat.succ_pos _ | refine And.intro ?_ ?_), (by show List.Nodup [0, 1, 2, 3, 4]; decide), Mem.le_refl _⟩
      rw [uk4_e (fld_e hy g2) g2] at h
      rw [stp_e g2]
      exact fun k1 f1 t1 a1 y1 b1 l1 c1 ys e1 E2 hE2 => h k1 f1 t1 a1 y1 b1 l1 c1 ys e1 E2 (Mem.le_trans hE1 hE2)
theorem lp23_4 {b : Option Addr} {l c : Nat} {zs : List Int} {p er k f t a : Int} {E0 : Mem} (hB : Bs E b l c zs) (hl : l ≤ 100000) (hE0 : Mem.le E0 E) (h : ∀ (k1 f1 t1 a1 y1 : Int) (b1 : Option Addr) (l1 c1 : Nat) (ys : List Int) (e1 : Int) (E' : Mem), Mem.le E E' → Hyp (stp er (uk4 zs p k f t a) = ([k1, f1, t1, a1, y1], ys, e1)) → Bs E' b1 l1 c1 ys → K (.tup [.agg [I k1, I f1, I t1, I a1, I y1, L b1 l1 c1], I e1]) E') :
    Lp WG 6 Try.f23 [1, 1, 1, 1, 0, 1, 0] 0 (pubK E0 K) (sh23 b l c p er k f t a 0 4 E) :=
  Lp_ind okWG (fun _ : Unit => sh23 b l c p er k f t a 0 4 E) (fun _ => 0) (fun _ _ => rnd23_4 hB hl hE0 h (fun p' e' v E1 hE1 h1 => lp23_5 (hB.mono hE1) hl (Mem.le_trans hE0 hE1) h1)) ()
theorem rnd23_3 {b : Option Addr} {l c : Nat} {zs : List Int} {p er k f t : Int} {E0 : Mem} (hB : Bs E b l c zs) (hl : l ≤ 100000) (hE0 : Mem.le E0 E) (h : ∀ (k1 f1 t1 a1 y1 : Int) (b1 : Option Addr) (l1 c1 : Nat) (ys : List Int) (e1 : Int) (E' : Mem), Mem.le E E' → Hyp (stp er (uk3 zs p k f t) = ([k1, f1, t1, a1, y1], ys, e1)) → Bs E' b1 l1 c1 ys → K (.tup [.agg [I k1, I f1, I t1, I a1, I y1, L b1 l1 c1], I e1]) E')
    (ih : ∀ (p' e' v : Int) (E1 : Mem), Mem.le E E1 → (∀ (k1 f1 t1 a1 y1 : Int) (b1 : Option Addr) (l1 c1 : Nat) (ys : List Int) (e1 : Int) (E' : Mem), Mem.le E1 E' → Hyp (stp e' (uk4 zs p' k f t v) = ([k1, f1, t1, a1, y1], ys, e1)) → Bs E' b1 l1 c1 ys → K (.tup [.agg [I k1, I f1, I t1, I a1, I y1, L b1 l1 c1], I e1]) E') → Lp WG 6 Try.f23 [1, 1, 1, 1, 0, 1, 0] 0 (pubK E0 K) (sh23 b l c p' e' k f t v 0 4 E1)) :
    Rnd WG 6 Try.f23 [1, 1, 1, 1, 0, 1, 0] 0 (pubK E0 K) (sh23 b l c p er k f t 0 0 3 E) := by
  refine same (by kernel_rfl) (?_ : 
      bif er != 0 then
        Lp WG 6 Try.f23 [1, 1, 1, 1, 0, 1, 0] 0 (pubK E0 K)
          {
            fr :=
              [none, some (SV.loc 0 0), some (SV.loc 1 0), some (SV.raw (Value.int IntKind.i64 0)), some (SV.loc 2 0),
                some (SV.loc 3 0), some (SV.clo 42 [] [SV.loc 3 0, SV.loc 0 0, SV.loc 2 0]), some (SV.loc 4 0), none, none,
                none, none, none, none,
                some
                  (SV.agg
                    [SV.raw (Value.int IntKind.i64 1), SV.raw (Value.int IntKind.i64 4), SV.raw (Value.int IntKind.i64 0),
                      SV.raw (Value.int IntKind.i64 59), SV.raw (Value.int IntKind.i64 (-1)),
                      SV.raw (Value.int IntKind.i64 59), SV.raw (Value.int IntKind.i64 0),
                      SV.raw (Value.int IntKind.i64 1000000000), SV.raw (Value.int IntKind.i64 0),
                      SV.raw (Value.int IntKind.i64 2000000)]),
                some (SV.raw (Value.int IntKind.i64 4)), none, none, none, none, none, none, none, none, none, none, none,
                none, none, none, none, none, none, none, none, none, none, none, none, none, none, none, none, none, none,
                none, none, none, none, none, none, none, none, none, none, none, none, none, none],
            bx :=
              [{ elem := 22, row := Row.lst [SV.raw (Value.slice b l c)], total := 1, own := true },
                { elem := 24,
                  row :=
                    Row.lst
                      [SV.raw (Value.int IntKind.i64 0), SV.raw (Value.int IntKind.i64 0), SV.raw (Value.int IntKind.i64 0),
                        SV.raw (Value.int IntKind.i64 0), SV.raw (Value.int IntKind.i64 0), SV.raw (Value.slice none 0 0)],
                  total := 6, own := true },
                { elem := 3, row := Row.lst [SV.raw (Value.int IntKind.i64 p)], total := 1, own := true },
                { elem := 27, row := Row.lst [SV.raw (Value.int IntKind.i64 er)], total := 1, own := true },
                { elem := 54,
                  row :=
                    Row.lst
                      [SV.raw (Value.int IntKind.i64 k), SV.raw (Value.int IntKind.i64 f), SV.raw (Value.int IntKind.i64 t),
                        SV.raw (Value.int IntKind.i64 0), SV.raw (Value.int IntKind.i64 0)],
                  total := 5, own := true },
                { elem := 56, row := Row.lst [SV.raw (Value.int IntKind.i64 0), SV.raw (Value.int IntKind.i64 1000000000)],
                  total := 2, own := true },
                { elem := 56, row := Row.lst [SV.raw (Value.int IntKind.i64 0), SV.raw (Value.int IntKind.i64 1000000000)],
                  total := 2, own := true }],
            E := E }
      else
        ∃ (zs : List Int),
          ((zs = [] ∨ E (Value.slice b l c) (List.map (Value.int IntKind.u8) zs)) ∧
              List.length zs = l ∧ l ≤ c ∧ (∀ (z : Int), List.Mem z zs → 0 ≤ z ∧ z ≤ 255) ∧ (b = none → zs = [])) ∧
            l ≤ 100000 ∧
              ∀ (n end' e : Int) (E' : Mem),
                Mem.le E E' →
                  Hyp (rd zs p = (n, end', e)) →
                    Mem.le E E' ∧
                      bif e == 0 then
                        Mem.le E' E' ∧
                          bif bif true then !decide (0 ≤ n ∧ n ≤ 1000000000) else false then
                            Lp WG 6 Try.f23 [1, 1, 1, 1, 0, 1, 0] 0 (pubK E0 K)
                              {
                                fr :=
                                  [none, some (SV.loc 0 0), some (SV.loc 1 0), some (SV.raw (Value.int IntKind.i64 0)),
                                    some (SV.loc 2 0), some (SV.loc 3 0),
                                    some (SV.clo 42 [] [SV.loc 3 0, SV.loc 0 0, SV.loc 2 0]), some (SV.loc 4 0), none, none,
                                    none, none, none, none,
                                    some
                                      (SV.agg
                                        [SV.raw (Value.int IntKind.i64 1), SV.raw (Value.int IntKind.i64 4),
                                          SV.raw (Value.int IntKind.i64 0), SV.raw (Value.int IntKind.i64 59),
                                          SV.raw (Value.int IntKind.i64 (-1)), SV.raw (Value.int IntKind.i64 59),
                                          SV.raw (Value.int IntKind.i64 0), SV.raw (Value.int IntKind.i64 1000000000),
                                          SV.raw (Value.int IntKind.i64 0), SV.raw (Value.int IntKind.i64 2000000)]),
                                    some (SV.raw (Value.int IntKind.i64 4)), none, none, none, none, none, none, none, none,
                                    none, none, none, none, none, none, none, none, none, none, none, none, none, none, none,
                                    none, none, none, none, none, none, none, none, none, none, none, none, none, none, none,
                                    none, none, none, none, none],
                                bx :=
                                  [{ elem := 22, row := Row.lst [SV.raw (Value.slice b l c)], total := 1, own := true },
                                    { elem := 24,
                                      row :=
                                        Row.lst
                                          [SV.raw (Value.int IntKind.i64 0), SV.raw (Value.int IntKind.i64 0),
                                            SV.raw (Value.int IntKind.i64 0), SV.raw (Value.int IntKind.i64 0),
                                            SV.raw (Value.int IntKind.i64 0), SV.raw (Value.slice none 0 0)],
                                      total := 6, own := true },
                                    { elem := 3, row := Row.lst [SV.raw (Value.int IntKind.i64 end')], total := 1,
                                      own := true },
                                    { elem := 27, row := Row.lst [SV.raw (Value.int IntKind.i64 3)], total := 1,
                                      own := true },
                                    { elem := 54,
                                      row :=
                                        Row.lst
                                          [SV.raw (Value.int IntKind.i64 k), SV.raw (Value.int IntKind.i64 f),
                                            SV.raw (Value.int IntKind.i64 t), SV.raw (Value.int IntKind.i64 n),
                                            SV.raw (Value.int IntKind.i64 0)],
                                      total := 5, own := true },
                                    { elem := 56,
                                      row :=
                                        Row.lst [SV.raw (Value.int IntKind.i64 0), SV.raw (Value.int IntKind.i64 1000000000)],
                                      total := 2, own := true },
                                    { elem := 56,
                                      row :=
                                        Row.lst [SV.raw (Value.int IntKind.i64 0), SV.raw (Value.int IntKind.i64 1000000000)],
                                      total := 2, own := true }],
                                E := E' }
                          else
                            Lp WG 6 Try.f23 [1, 1, 1, 1, 0, 1, 0] 0 (pubK E0 K)
                              {
                                fr :=
                                  [none, some (SV.loc 0 0), some (SV.loc 1 0), some (SV.raw (Value.int IntKind.i64 0)),
                                    some (SV.loc 2 0), some (SV.loc 3 0),
                                    some (SV.clo 42 [] [SV.loc 3 0, SV.loc 0 0, SV.loc 2 0]), some (SV.loc 4 0), none, none,
                                    none, none, none, none,
                                    some
                                      (SV.agg
                                        [SV.raw (Value.int IntKind.i64 1), SV.raw (Value.int IntKind.i64 4),
                                          SV.raw (Value.int IntKind.i64 0), SV.raw (Value.int IntKind.i64 59),
                                          SV.raw (Value.int IntKind.i64 (-1)), SV.raw (Value.int IntKind.i64 59),
                                          SV.raw (Value.int IntKind.i64 0), SV.raw (Value.int IntKind.i64 1000000000),
                                          SV.raw (Value.int IntKind.i64 0), SV.raw (Value.int IntKind.i64 2000000)]),
                                    some (SV.raw (Value.int IntKind.i64 4)), none, none, none, none, none, none, none, none,
                                    none, none, none, none, none, none, none, none, none, none, none, none, none, none, none,
                                    none, none, none, none, none, none, none, none, none, none, none, none, none, none, none,
                                    none, none, none, none, none],
                                bx :=
                                  [{ elem := 22, row := Row.lst [SV.raw (Value.slice b l c)], total := 1, own := true },
                                    { elem := 24,
                                      row :=
                                        Row.lst
                                          [SV.raw (Value.int IntKind.i64 0), SV.raw (Value.int IntKind.i64 0),
                                            SV.raw (Value.int IntKind.i64 0), SV.raw (Value.int IntKind.i64 0),
                                            SV.raw (Value.int IntKind.i64 0), SV.raw (Value.slice none 0 0)],
                                      total := 6, own := true },
                                    { elem := 3, row := Row.lst [SV.raw (Value.int IntKind.i64 end')], total := 1,
                                      own := true },
                                    { elem := 27, row := Row.lst [SV.raw (Value.int IntKind.i64 e)], total := 1,
                                      own := true },
                                    { elem := 54,
                                      row :=
                                        Row.lst
                                          [SV.raw (Value.int IntKind.i64 k), SV.raw (Value.int IntKind.i64 f),
                                            SV.raw (Value.int IntKind.i64 t), SV.raw (Value.int IntKind.i64 n),
                                            SV.raw (Value.int IntKind.i64 0)],
                                      total := 5, own := true },
                                    { elem := 56,
                                      row :=
                                        Row.lst [SV.raw (Value.int IntKind.i64 0), SV.raw (Value.int IntKind.i64 1000000000)],
                                      total := 2, own := true },
                                    { elem := 56,
                                      row :=
                                        Row.lst [SV.raw (Value.int IntKind.i64 0), SV.raw (Value.int IntKind.i64 1000000000)],
                                      total := 2, own := true }],
                                E := E' }
                      else
                        Lp WG 6 Try.f23 [1, 1, 1, 1, 0, 1, 0] 0 (pubK E0 K)
                          {
                            fr :=
                              [none, some (SV.loc 0 0), some (SV.loc 1 0), some (SV.raw (Value.int IntKind.i64 0)),
                                some (SV.loc 2 0), some (SV.loc 3 0),
                                some (SV.clo 42 [] [SV.loc 3 0, SV.loc 0 0, SV.loc 2 0]), some (SV.loc 4 0), none, none, none,
                                none, none, none,
                                some
                                  (SV.agg
                                    [SV.raw (Value.int IntKind.i64 1), SV.raw (Value.int IntKind.i64 4),
                                      SV.raw (Value.int IntKind.i64 0), SV.raw (Value.int IntKind.i64 59),
                                      SV.raw (Value.int IntKind.i64 (-1)), SV.raw (Value.int IntKind.i64 59),
                                      SV.raw (Value.int IntKind.i64 0), SV.raw (Value.int IntKind.i64 1000000000),
                                      SV.raw (Value.int IntKind.i64 0), SV.raw (Value.int IntKind.i64 2000000)]),
                                some (SV.raw (Value.int IntKind.i64 4)), none, none, none, none, none, none, none, none, none,
                                none, none, none, none, none, none, none, none, none, none, none, none, none, none, none,
                                none, none, none, none, none, none, none, none, none, none, none, none, none, none, none,
                                none, none, none, none],
                            bx :=
                              [{ elem := 22, row := Row.lst [SV.raw (Value.slice b l c)], total := 1, own := true },
                                { elem := 24,
                                  row :=
                                    Row.lst
                                      [SV.raw (Value.int IntKind.i64 0), SV.raw (Value.int IntKind.i64 0),
                                        SV.raw (Value.int IntKind.i64 0), SV.raw (Value.int IntKind.i64 0),
                                        SV.raw (Value.int IntKind.i64 0), SV.raw (Value.slice none 0 0)],
                                  total := 6, own := true },
                                { elem := 3, row := Row.lst [SV.raw (Value.int IntKind.i64 end')], total := 1, own := true },
                                { elem := 27, row := Row.lst [SV.raw (Value.int IntKind.i64 e)], total := 1, own := true },
                                { elem := 54,
                                  row :=
                                    Row.lst
                                      [SV.raw (Value.int IntKind.i64 k), SV.raw (Value.int IntKind.i64 f),
                                        SV.raw (Value.int IntKind.i64 t), SV.raw (Value.int IntKind.i64 n),
                                        SV.raw (Value.int IntKind.i64 0)],
                                  total := 5, own := true },
                                { elem := 56,
                                  row :=
                                    Row.lst [SV.raw (Value.int IntKind.i64 0), SV.raw (Value.int IntKind.i64 1000000000)],
                                  total := 2, own := true },
                                { elem := 56,
                                  row :=
                                    Row.lst [SV.raw (Value.int IntKind.i64 0), SV.raw (Value.int IntKind.i64 1000000000)],
                                  total := 2, own := true }],
                            E := E' })
  refine condC (fun g => ?_) (fun g => ?_)
  · have g : er ≠ 0 := by simpa using g
    refine Lp_re [some 0, some 1, some 2, some 3, some 4] (ih p er 0 E (Mem.le_refl _) ?_) ⟨⟨Nat.zero_le _, Nat.zero_le _, fun j h => absurd h (Nat.not_lt_zero _)⟩, rfl, (by repeat' first | exact True.intro | refine And.intro (Or.inl rfl) ?_), (by repeat' first | exact True.intro | exact rfl | exact Or.inl rfl | exact Nat.succ_pos _ | refine And.intro ?_ ?_), (by show List.Nodup [0, 1, 2, 3, 4]; decide), Mem.le_refl _⟩
    rw [stp_e g] at h ⊢
    exact h
  · have g : er = 0 := by simpa using g
    subst g
    rw [stp_0] at h
    refine ⟨zs, hB, hl, fun n e' e2 E1 hE1 hy => ⟨hE1, ?_⟩⟩
    have hy : rd zs p = (n, e', e2) := hy
    refine condC (fun g2 => ?_) (fun g2 => ?_)
    · have g2 : e2 = 0 := by simpa using g2
      subst g2
      refine ⟨Mem.le_refl _, condC (fun g3 => ?_) (fun g3 => ?_)⟩
      · have g3 : ¬ ((0) ≤ n ∧ n ≤ 1000000000) := by simp at g3; omega
        refine Lp_re [some 0, some 1, some 2, some 3, some 4] (ih e' 3 n E1 hE1 ?_) ⟨⟨Nat.zero_le _, Nat.zero_le _, fun j h => absurd h (Nat.not_lt_zero _)⟩, rfl, (by repeat' first | exact True.intro | refine And.intro (Or.inl rfl) ?_), (by repeat' first | exact True.intro | exact rfl | exact Or.inl rfl | exact Nat.succ_pos _ | refine And.intro ?_ ?_), (by show List.Nodup [0, 1, 2, 3, 4]; decide), Mem.le_refl _⟩
        rw [uk3_e (fld_r hy g3) (by omega)] at h
        rw [stp_e (by omega)]
        exact fun k1 f1 t1 a1 y1 b1 l1 c1 ys e1 E2 hE2 => h k1 f1 t1 a1 y1 b1 l1 c1 ys e1 E2 (Mem.le_trans hE1 hE2)
      · have g3 : (0) ≤ n ∧ n ≤ 1000000000 := by simp at g3; omega
        refine Lp_re [some 0, some 1, some 2, some 3, some 4] (ih e' 0 n E1 hE1 ?_) ⟨⟨Nat.zero_le _, Nat.zero_le _, fun j h => absurd h (Nat.not_lt_zero _)⟩, rfl, (by repeat' first | exact True.intro | refine And.intro (Or.inl rfl) ?_), (by repeat' first | exact True.intro | exact rfl | exact Or.inl rfl | exact Nat.succ_pos _ | refine And.intro ?_ ?_), (by show List.Nodup [0, 1, 2, 3, 4]; decide), Mem.le_refl _⟩
        rw [uk3_o (fld_o hy g3)] at h
        rw [stp_0]
        exact fun k1 f1 t1 a1 y1 b1 l1 c1 ys e1 E2 hE2 => h k1 f1 t1 a1 y1 b1 l1 c1 ys e1 E2 (Mem.le_trans hE1 hE2)
    · have g2 : e2 ≠ 0 := by simpa using g2
      refine Lp_re [some 0, some 1, some 2, some 3, some 4] (ih e' e2 n E1 hE1 ?_) ⟨⟨Nat.zero_le _, Nat.zero_le _, fun j h => absurd h (Nat.not_lt_zero _)⟩, rfl, (by repeat' first | exact True.intro | refine And.intro (Or.inl rfl) ?_), (by repeat' first | exact True.intro | exact rfl | exact Or.inl rfl | exact Nat.succ_pos _ | refine And.intro ?_ ?_), (by show List.Nodup [0, 1, 2, 3, 4]; decide), Mem.le_refl _⟩
      rw [uk3_e (fld_e hy g2) g2] at h
      rw [stp_e g2]
      exact fun k1 f1 t1 a1 y1 b1 l1 c1 ys e1 E2 hE2 => h k1 f1 t1 a1 y1 b1 l1 c1 ys e1 E2 (Mem.le_trans hE1 hE2)
theorem lp23_3 {b : Option Addr} {l c : Nat} {zs : List Int} {p er k f t : Int} {E0 : Mem} (hB : Bs E b l c zs) (hl : l ≤ 100000) (hE0 : Mem.le E0 E) (h : ∀ (k1 f1 t1 a1 y1 : Int) (b1 : Option Addr) (l1 c1 : Nat) (ys : List Int) (e1 : Int) (E' : Mem), Mem.le E E' → Hyp (stp er (uk3 zs p k f t) = ([k1, f1, t1, a1, y1], ys, e1)) → Bs E' b1 l1 c1 ys → K (.tup [.agg [I k1, I f1, I t1, I a1, I y1, L b1 l1 c1], I e1]) E') :
    Lp WG 6 Try.f23 [1, 1, 1, 1, 0, 1, 0] 0 (pubK E0 K) (sh23 b l c p er k f t 0 0 3 E) :=
  Lp_ind okWG (fun _ : Unit => sh23 b l c p er k f t 0 0 3 E) (fun _ => 0) (fun _ _ => rnd23_3 hB hl hE0 h (fun p' e' v E1 hE1 h1 => lp23_4 (hB.mono hE1) hl (Mem.le_trans hE0 hE1) h1)) ()
theorem rnd23_2 {b : Option Addr} {l c : Nat} {zs : List Int} {p er k f : Int} {E0 : Mem} (hB : Bs E b l c zs) (hl : l ≤ 100000) (hE0 : Mem.le E0 E) (h : ∀ (k1 f1 t1 a1 y1 : Int) (b1 : Option Addr) (l1 c1 : Nat) (ys : List Int) (e1 : Int) (E' : Mem), Mem.le E E' → Hyp (stp er (uk2 zs p k f) = ([k1, f1, t1, a1, y1], ys, e1)) → Bs E' b1 l1 c1 ys → K (.tup [.agg [I k1, I f1, I t1, I a1, I y1, L b1 l1 c1], I e1]) E')
    (ih : ∀ (p' e' v : Int) (E1 : Mem), Mem.le E E1 → (∀ (k1 f1 t1 a1 y1 : Int) (b1 : Option Addr) (l1 c1 : Nat) (ys : List Int) (e1 : Int) (E' : Mem), Mem.le E1 E' → Hyp (stp e' (uk3 zs p' k f v) = ([k1, f1, t1, a1, y1], ys, e1)) → Bs E' b1 l1 c1 ys → K (.tup [.agg [I k1, I f1, I t1, I a1, I y1, L b1 l1 c1], I e1]) E') → Lp WG 6 Try.f23 [1, 1, 1, 1, 0, 1, 0] 0 (pubK E0 K) (sh23 b l c p' e' k f v 0 0 3 E1)) :
    Rnd WG 6 Try.f23 [1, 1, 1, 1, 0, 1, 0] 0 (pubK E0 K) (sh23 b l c p er k f 0 0 0 2 E) := by
  refine same (by kernel_rfl) (?_ : 
      bif er != 0 then
        Lp WG 6 Try.f23 [1, 1, 1, 1, 0, 1, 0] 0 (pubK E0 K)
          {
            fr :=
              [none, some (SV.loc 0 0), some (SV.loc 1 0), some (SV.raw (Value.int IntKind.i64 0)), some (SV.loc 2 0),
                some (SV.loc 3 0), some (SV.clo 42 [] [SV.loc 3 0, SV.loc 0 0, SV.loc 2 0]), some (SV.loc 4 0), none, none,
                none, none, none, none,
                some
                  (SV.agg
                    [SV.raw (Value.int IntKind.i64 1), SV.raw (Value.int IntKind.i64 4), SV.raw (Value.int IntKind.i64 0),
                      SV.raw (Value.int IntKind.i64 59), SV.raw (Value.int IntKind.i64 (-1)),
                      SV.raw (Value.int IntKind.i64 59), SV.raw (Value.int IntKind.i64 0),
                      SV.raw (Value.int IntKind.i64 1000000000), SV.raw (Value.int IntKind.i64 0),
                      SV.raw (Value.int IntKind.i64 2000000)]),
                some (SV.raw (Value.int IntKind.i64 3)), none, none, none, none, none, none, none, none, none, none, none,
                none, none, none, none, none, none, none, none, none, none, none, none, none, none, none, none, none, none,
                none, none, none, none, none, none, none, none, none, none, none, none, none, none],
            bx :=
              [{ elem := 22, row := Row.lst [SV.raw (Value.slice b l c)], total := 1, own := true },
                { elem := 24,
                  row :=
                    Row.lst
                      [SV.raw (Value.int IntKind.i64 0), SV.raw (Value.int IntKind.i64 0), SV.raw (Value.int IntKind.i64 0),
                        SV.raw (Value.int IntKind.i64 0), SV.raw (Value.int IntKind.i64 0), SV.raw (Value.slice none 0 0)],
                  total := 6, own := true },
                { elem := 3, row := Row.lst [SV.raw (Value.int IntKind.i64 p)], total := 1, own := true },
                { elem := 27, row := Row.lst [SV.raw (Value.int IntKind.i64 er)], total := 1, own := true },
                { elem := 54,
                  row :=
                    Row.lst
                      [SV.raw (Value.int IntKind.i64 k), SV.raw (Value.int IntKind.i64 f), SV.raw (Value.int IntKind.i64 0),
                        SV.raw (Value.int IntKind.i64 0), SV.raw (Value.int IntKind.i64 0)],
                  total := 5, own := true },
                { elem := 56, row := Row.lst [SV.raw (Value.int IntKind.i64 (-1)), SV.raw (Value.int IntKind.i64 59)],
                  total := 2, own := true },
                { elem := 56, row := Row.lst [SV.raw (Value.int IntKind.i64 (-1)), SV.raw (Value.int IntKind.i64 59)],
                  total := 2, own := true }],
            E := E }
      else
        ∃ (zs : List Int),
          ((zs = [] ∨ E (Value.slice b l c) (List.map (Value.int IntKind.u8) zs)) ∧
              List.length zs = l ∧ l ≤ c ∧ (∀ (z : Int), List.Mem z zs → 0 ≤ z ∧ z ≤ 255) ∧ (b = none → zs = [])) ∧
            l ≤ 100000 ∧
              ∀ (n end' e : Int) (E' : Mem),
                Mem.le E E' →
                  Hyp (rd zs p = (n, end', e)) →
                    Mem.le E E' ∧
                      bif e == 0 then
                        Mem.le E' E' ∧
                          bif bif true then !decide (-1 ≤ n ∧ n ≤ 59) else false then
                            Lp WG 6 Try.f23 [1, 1, 1, 1, 0, 1, 0] 0 (pubK E0 K)
                              {
                                fr :=
                                  [none, some (SV.loc 0 0), some (SV.loc 1 0), some (SV.raw (Value.int IntKind.i64 0)),
                                    some (SV.loc 2 0), some (SV.loc 3 0),
                                    some (SV.clo 42 [] [SV.loc 3 0, SV.loc 0 0, SV.loc 2 0]), some (SV.loc 4 0), none, none,
                                    none, none, none, none,
                                    some
                                      (SV.agg
                                        [SV.raw (Value.int IntKind.i64 1), SV.raw (Value.int IntKind.i64 4),
                                          SV.raw (Value.int IntKind.i64 0), SV.raw (Value.int IntKind.i64 59),
                                          SV.raw (Value.int IntKind.i64 (-1)), SV.raw (Value.int IntKind.i64 59),
                                          SV.raw (Value.int IntKind.i64 0), SV.raw (Value.int IntKind.i64 1000000000),
                                          SV.raw (Value.int IntKind.i64 0), SV.raw (Value.int IntKind.i64 2000000)]),
                                    some (SV.raw (Value.int IntKind.i64 3)), none, none, none, none, none, none, none, none,
                                    none, none, none, none, none, none, none, none, none, none, none, none, none, none, none,
                                    none, none, none, none, none, none, none, none, none, none, none, none, none, none, none,
                                    none, none, none, none, none],
                                bx :=
                                  [{ elem := 22, row := Row.lst [SV.raw (Value.slice b l c)], total := 1, own := true },
                                    { elem := 24,
                                      row :=
                                        Row.lst
                                          [SV.raw (Value.int IntKind.i64 0), SV.raw (Value.int IntKind.i64 0),
                                            SV.raw (Value.int IntKind.i64 0), SV.raw (Value.int IntKind.i64 0),
                                            SV.raw (Value.int IntKind.i64 0), SV.raw (Value.slice none 0 0)],
                                      total := 6, own := true },
                                    { elem := 3, row := Row.lst [SV.raw (Value.int IntKind.i64 end')], total := 1,
                                      own := true },
                                    { elem := 27, row := Row.lst [SV.raw (Value.int IntKind.i64 3)], total := 1,
                                      own := true },
                                    { elem := 54,
                                      row :=
                                        Row.lst
                                          [SV.raw (Value.int IntKind.i64 k), SV.raw (Value.int IntKind.i64 f),
                                            SV.raw (Value.int IntKind.i64 n), SV.raw (Value.int IntKind.i64 0),
                                            SV.raw (Value.int IntKind.i64 0)],
                                      total := 5, own := true },
                                    { elem := 56,
                                      row := Row.lst [SV.raw (Value.int IntKind.i64 (-1)), SV.raw (Value.int IntKind.i64 59)],
                                      total := 2, own := true },
                                    { elem := 56,
                                      row := Row.lst [SV.raw (Value.int IntKind.i64 (-1)), SV.raw (Value.int IntKind.i64 59)],
                                      total := 2, own := true }],
                                E := E' }
                          else
                            Lp WG 6 Try.f23 [1, 1, 1, 1, 0, 1, 0] 0 (pubK E0 K)
                              {
                                fr :=
                                  [none, some (SV.loc 0 0), some (SV.loc 1 0), some (SV.raw (Value.int IntKind.i64 0)),
                                    some (SV.loc 2 0), some (SV.loc 3 0),
                                    some (SV.clo 42 [] [SV.loc 3 0, SV.loc 0 0, SV.loc 2 0]), some (SV.loc 4 0), none, none,
                                    none, none, none, none,
                                    some
                                      (SV.agg
                                        [SV.raw (Value.int IntKind.i64 1), SV.raw (Value.int IntKind.i64 4),
                                          SV.raw (Value.int IntKind.i64 0), SV.raw (Value.int IntKind.i64 59),
                                          SV.raw (Value.int IntKind.i64 (-1)), SV.raw (Value.int IntKind.i64 59),
                                          SV.raw (Value.int IntKind.i64 0), SV.raw (Value.int IntKind.i64 1000000000),
                                          SV.raw (Value.int IntKind.i64 0), SV.raw (Value.int IntKind.i64 2000000)]),
                                    some (SV.raw (Value.int IntKind.i64 3)), none, none, none, none, none, none, none, none,
                                    none, none, none, none, none, none, none, none, none, none, none, none, none, none, none,
                                    none, none, none, none, none, none, none, none, none, none, none, none, none, none, none,
                                    none, none, none, none, none],
                                bx :=
                                  [{ elem := 22, row := Row.lst [SV.raw (Value.slice b l c)], total := 1, own := true },
                                    { elem := 24,
                                      row :=
                                        Row.lst
                                          [SV.raw (Value.int IntKind.i64 0), SV.raw (Value.int IntKind.i64 0),
                                            SV.raw (Value.int IntKind.i64 0), SV.raw (Value.int IntKind.i64 0),
                                            SV.raw (Value.int IntKind.i64 0), SV.raw (Value.slice none 0 0)],
                                      total := 6, own := true },
                                    { elem := 3, row := Row.lst [SV.raw (Value.int IntKind.i64 end')], total := 1,
                                      own := true },
                                    { elem := 27, row := Row.lst [SV.raw (Value.int IntKind.i64 e)], total := 1,
                                      own := true },
                                    { elem := 54,
                                      row :=
                                        Row.lst
                                          [SV.raw (Value.int IntKind.i64 k), SV.raw (Value.int IntKind.i64 f),
                                            SV.raw (Value.int IntKind.i64 n), SV.raw (Value.int IntKind.i64 0),
                                            SV.raw (Value.int IntKind.i64 0)],
                                      total := 5, own := true },
                                    { elem := 56,
                                      row := Row.lst [SV.raw (Value.int IntKind.i64 (-1)), SV.raw (Value.int IntKind.i64 59)],
                                      total := 2, own := true },
                                    { elem := 56,
                                      row := Row.lst [SV.raw (Value.int IntKind.i64 (-1)), SV.raw (Value.int IntKind.i64 59)],
                                      total := 2, own := true }],
                                E := E' }
                      else
                        Lp WG 6 Try.f23 [1, 1, 1, 1, 0, 1, 0] 0 (pubK E0 K)
                          {
                            fr :=
                              [none, some (SV.loc 0 0), some (SV.loc 1 0), some (SV.raw (Value.int IntKind.i64 0)),
                                some (SV.loc 2 0), some (SV.loc 3 0),
                                some (SV.clo 42 [] [SV.loc 3 0, SV.loc 0 0, SV.loc 2 0]), some (SV.loc 4 0), none, none, none,
                                none, none, none,
                                some
                                  (SV.agg
                                    [SV.raw (Value.int IntKind.i64 1), SV.raw (Value.int IntKind.i64 4),
                                      SV.raw (Value.int IntKind.i64 0), SV.raw (Value.int IntKind.i64 59),
                                      SV.raw (Value.int IntKind.i64 (-1)), SV.raw (Value.int IntKind.i64 59),
                                      SV.raw (Value.int IntKind.i64 0), SV.raw (Value.int IntKind.i64 1000000000),
                                      SV.raw (Value.int IntKind.i64 0), SV.raw (Value.int IntKind.i64 2000000)]),
                                some (SV.raw (Value.int IntKind.i64 3)), none, none, none, none, none, none, none, none, none,
                                none, none, none, none, none, none, none, none, none, none, none, none, none, none, none,
                                none, none, none, none, none, none, none, none, none, none, none, none, none, none, none,
                                none, none, none, none],
                            bx :=
                              [{ elem := 22, row := Row.lst [SV.raw (Value.slice b l c)], total := 1, own := true },
                                { elem := 24,
                                  row :=
                                    Row.lst
                                      [SV.raw (Value.int IntKind.i64 0), SV.raw (Value.int IntKind.i64 0),
                                        SV.raw (Value.int IntKind.i64 0), SV.raw (Value.int IntKind.i64 0),
                                        SV.raw (Value.int IntKind.i64 0), SV.raw (Value.slice none 0 0)],
                                  total := 6, own := true },
                                { elem := 3, row := Row.lst [SV.raw (Value.int IntKind.i64 end')], total := 1, own := true },
                                { elem := 27, row := Row.lst [SV.raw (Value.int IntKind.i64 e)], total := 1, own := true },
                                { elem := 54,
                                  row :=
                                    Row.lst
                                      [SV.raw (Value.int IntKind.i64 k), SV.raw (Value.int IntKind.i64 f),
                                        SV.raw (Value.int IntKind.i64 n), SV.raw (Value.int IntKind.i64 0),
                                        SV.raw (Value.int IntKind.i64 0)],
                                  total := 5, own := true },
                                { elem := 56,
                                  row := Row.lst [SV.raw (Value.int IntKind.i64 (-1)), SV.raw (Value.int IntKind.i64 59)],
                                  total := 2, own := true },
                                { elem := 56,
                                  row := Row.lst [SV.raw (Value.int IntKind.i64 (-1)), SV.raw (Value.int IntKind.i64 59)],
                                  total := 2, own := true }],
                            E := E' })
  refine condC (fun g => ?_) (fun g => ?_)
  · have g : er ≠ 0 := by simpa using g
    refine Lp_re [some 0, some 1, some 2, some 3, some 4] (ih p er 0 E (Mem.le_refl _) ?_) ⟨⟨Nat.zero_le _, Nat.zero_le _, fun j h => absurd h (Nat.not_lt_zero _)⟩, rfl, (by repeat' first | exact True.intro | refine And.intro (Or.inl rfl) ?_), (by repeat' first | exact True.intro | exact rfl | exact Or.inl rfl | exact Nat.succ_pos _ | refine And.intro ?_ ?_), (by show List.Nodup [0, 1, 2, 3, 4]; decide), Mem.le_refl _⟩
    rw [stp_e g] at h ⊢
    exact h
  · have g : er = 0 := by simpa using g
    subst g
    rw [stp_0] at h
    refine ⟨zs, hB, hl, fun n e' e2 E1 hE1 hy => ⟨hE1, ?_⟩⟩
    have hy : rd zs p = (n, e', e2) := hy
    refine condC (fun g2 => ?_) (fun g2 => ?_)
    · have g2 : e2 = 0 := by simpa using g2
      subst g2
      refine ⟨Mem.le_refl _, condC (fun g3 => ?_) (fun g3 => ?_)⟩
      · have g3 : ¬ ((-1) ≤ n ∧ n ≤ 59) := by simp at g3; omega
        refine Lp_re [some 0, some 1, some 2, some 3, some 4] (ih e' 3 n E1 hE1 ?_) ⟨⟨Nat.zero_le _, Nat.zero_le _, fun j h => absurd h (Nat.not_lt_zero _)⟩, rfl, (by repeat' first | exact True.intro | refine And.intro (Or.inl rfl) ?_), (by repeat' first | exact True.intro | exact rfl | exact Or.inl rfl | exact Nat.succ_pos _ | refine And.intro ?_ ?_), (by show List.Nodup [0, 1, 2, 3, 4]; decide), Mem.le_refl _⟩
        rw [uk2_e (fld_r hy g3) (by omega)] at h
        rw [stp_e (by omega)]
        exact fun k1 f1 t1 a1 y1 b1 l1 c1 ys e1 E2 hE2 => h k1 f1 t1 a1 y1 b1 l1 c1 ys e1 E2 (Mem.le_trans hE1 hE2)
      · have g3 : (-1) ≤ n ∧ n ≤ 59 := by simp at g3; omega
        refine Lp_re [some 0, some 1, some 2, some 3, some 4] (ih e' 0 n E1 hE1 ?_) ⟨⟨Nat.zero_le _, Nat.zero_le _, fun j h => absurd h (Nat.not_lt_zero _)⟩, rfl, (by repeat' first | exact True.intro | refine And.intro (Or.inl rfl) ?_), (by repeat' first | exact True.intro | exact rfl | exact Or.inl rfl | exact Nat.succ_pos _ | refine And.intro ?_ ?_), (by show List.Nodup [0, 1, 2, 3, 4]; decide), Mem.le_refl _⟩
        rw [uk2_o (fld_o hy g3)] at h
        rw [stp_0]
        exact fun k1 f1 t1 a1 y1 b1 l1 c1 ys e1 E2 hE2 => h k1 f1 t1 a1 y1 b1 l1 c1 ys e1 E2 (Mem.le_trans hE1 hE2)
    · have g2 : e2 ≠ 0 := by simpa using g2
      refine Lp_re [some 0, some 1, some 2, some 3, some 4] (ih e' e2 n E1 hE1 ?_) ⟨⟨Nat.zero_le _, Nat.zero_le _, fun j h => absurd h (Nat.not_lt_zero _)⟩, rfl, (by repeat' first | exact True.intro | refine And.intro (Or.inl rfl) ?_), (by repeat' first | exact True.intro | exact rfl | exact Or.inl rfl | exact Nat.succ_pos _ | refine And.intro ?_ ?_), (by show List.Nodup [0, 1, 2, 3, 4]; decide), Mem.le_refl _⟩
      rw [uk2_e (fld_e hy g2) g2] at h
      rw [stp_e g2]
      exact fun k1 f1 t1 a1 y1 b1 l1 c1 ys e1 E2 hE2 => h k1 f1 t1 a1 y1 b1 l1 c1 ys e1 E2 (Mem.le_trans hE1 hE2)
theorem lp23_2 {b : Option Addr} {l c : Nat} {zs : List Int} {p er k f : Int} {E0 : Mem} (hB : Bs E b l c zs) (hl : l ≤ 100000) (hE0 : Mem.le E0 E) (h : ∀ (k1 f1 t1 a1 y1 : Int) (b1 : Option Addr) (l1 c1 : Nat) (ys : List Int) (e1 : Int) (E' : Mem), Mem.le E E' → Hyp (stp er (uk2 zs p k f) = ([k1, f1, t1, a1, y1], ys, e1)) → Bs E' b1 l1 c1 ys → K (.tup [.agg [I k1, I f1, I t1, I a1, I y1, L b1 l1 c1], I e1]) E') :
    Lp WG 6 Try.f23 [1, 1, 1, 1, 0, 1, 0] 0 (pubK E0 K) (sh23 b l c p er k f 0 0 0 2 E) :=
  Lp_ind okWG (fun _ : Unit => sh23 b l c p er k f 0 0 0 2 E) (fun _ => 0) (fun _ _ => rnd23_2 hB hl hE0 h (fun p' e' v E1 hE1 h1 => lp23_3 (hB.mono hE1) hl (Mem.le_trans hE0 hE1) h1)) ()
theorem rnd23_1 {b : Option Addr} {l c : Nat} {zs : List Int} {p er k : Int} {E0 : Mem} (hB : Bs E b l c zs) (hl : l ≤ 100000) (hE0 : Mem.le E0 E) (h : ∀ (k1 f1 t1 a1 y1 : Int) (b1 : Option Addr) (l1 c1 : Nat) (ys : List Int) (e1 : Int) (E' : Mem), Mem.le E E' → Hyp (stp er (uk1 zs p k) = ([k1, f1, t1, a1, y1], ys, e1)) → Bs E' b1 l1 c1 ys → K (.tup [.agg [I k1, I f1, I t1, I a1, I y1, L b1 l1 c1], I e1]) E')
    (ih : ∀ (p' e' v : Int) (E1 : Mem), Mem.le E E1 → (∀ (k1 f1 t1 a1 y1 : Int) (b1 : Option Addr) (l1 c1 : Nat) (ys : List Int) (e1 : Int) (E' : Mem), Mem.le E1 E' → Hyp (stp e' (uk2 zs p' k v) = ([k1, f1, t1, a1, y1], ys, e1)) → Bs E' b1 l1 c1 ys → K (.tup [.agg [I k1, I f1, I t1, I a1, I y1, L b1 l1 c1], I e1]) E') → Lp WG 6 Try.f23 [1, 1, 1, 1, 0, 1, 0] 0 (pubK E0 K) (sh23 b l c p' e' k v 0 0 0 2 E1)) :
    Rnd WG 6 Try.f23 [1, 1, 1, 1, 0, 1, 0] 0 (pubK E0 K) (sh23 b l c p er k 0 0 0 0 1 E) := by
  refine same (by kernel_rfl) (?_ : 
      bif er != 0 then
        Lp WG 6 Try.f23 [1, 1, 1, 1, 0, 1, 0] 0 (pubK E0 K)
          {
            fr :=
              [none, some (SV.loc 0 0), some (SV.loc 1 0), some (SV.raw (Value.int IntKind.i64 0)), some (SV.loc 2 0),
                some (SV.loc 3 0), some (SV.clo 42 [] [SV.loc 3 0, SV.loc 0 0, SV.loc 2 0]), some (SV.loc 4 0), none, none,
                none, none, none, none,
                some
                  (SV.agg
                    [SV.raw (Value.int IntKind.i64 1), SV.raw (Value.int IntKind.i64 4), SV.raw (Value.int IntKind.i64 0),
                      SV.raw (Value.int IntKind.i64 59), SV.raw (Value.int IntKind.i64 (-1)),
                      SV.raw (Value.int IntKind.i64 59), SV.raw (Value.int IntKind.i64 0),
                      SV.raw (Value.int IntKind.i64 1000000000), SV.raw (Value.int IntKind.i64 0),
                      SV.raw (Value.int IntKind.i64 2000000)]),
                some (SV.raw (Value.int IntKind.i64 2)), none, none, none, none, none, none, none, none, none, none, none,
                none, none, none, none, none, none, none, none, none, none, none, none, none, none, none, none, none, none,
                none, none, none, none, none, none, none, none, none, none, none, none, none, none],
            bx :=
              [{ elem := 22, row := Row.lst [SV.raw (Value.slice b l c)], total := 1, own := true },
                { elem := 24,
                  row :=
                    Row.lst
                      [SV.raw (Value.int IntKind.i64 0), SV.raw (Value.int IntKind.i64 0), SV.raw (Value.int IntKind.i64 0),
                        SV.raw (Value.int IntKind.i64 0), SV.raw (Value.int IntKind.i64 0), SV.raw (Value.slice none 0 0)],
                  total := 6, own := true },
                { elem := 3, row := Row.lst [SV.raw (Value.int IntKind.i64 p)], total := 1, own := true },
                { elem := 27, row := Row.lst [SV.raw (Value.int IntKind.i64 er)], total := 1, own := true },
                { elem := 54,
                  row :=
                    Row.lst
                      [SV.raw (Value.int IntKind.i64 k), SV.raw (Value.int IntKind.i64 0), SV.raw (Value.int IntKind.i64 0),
                        SV.raw (Value.int IntKind.i64 0), SV.raw (Value.int IntKind.i64 0)],
                  total := 5, own := true },
                { elem := 56, row := Row.lst [SV.raw (Value.int IntKind.i64 0), SV.raw (Value.int IntKind.i64 59)],
                  total := 2, own := true },
                { elem := 56, row := Row.lst [SV.raw (Value.int IntKind.i64 0), SV.raw (Value.int IntKind.i64 59)],
                  total := 2, own := true }],
            E := E }
      else
        ∃ (zs : List Int),
          ((zs = [] ∨ E (Value.slice b l c) (List.map (Value.int IntKind.u8) zs)) ∧
              List.length zs = l ∧ l ≤ c ∧ (∀ (z : Int), List.Mem z zs → 0 ≤ z ∧ z ≤ 255) ∧ (b = none → zs = [])) ∧
            l ≤ 100000 ∧
              ∀ (n end' e : Int) (E' : Mem),
                Mem.le E E' →
                  Hyp (rd zs p = (n, end', e)) →
                    Mem.le E E' ∧
                      bif e == 0 then
                        Mem.le E' E' ∧
                          bif bif true then !decide (0 ≤ n ∧ n ≤ 59) else false then
                            Lp WG 6 Try.f23 [1, 1, 1, 1, 0, 1, 0] 0 (pubK E0 K)
                              {
                                fr :=
                                  [none, some (SV.loc 0 0), some (SV.loc 1 0), some (SV.raw (Value.int IntKind.i64 0)),
                                    some (SV.loc 2 0), some (SV.loc 3 0),
                                    some (SV.clo 42 [] [SV.loc 3 0, SV.loc 0 0, SV.loc 2 0]), some (SV.loc 4 0), none, none,
                                    none, none, none, none,
                                    some
                                      (SV.agg
                                        [SV.raw (Value.int IntKind.i64 1), SV.raw (Value.int IntKind.i64 4),
                                          SV.raw (Value.int IntKind.i64 0), SV.raw (Value.int IntKind.i64 59),
                                          SV.raw (Value.int IntKind.i64 (-1)), SV.raw (Value.int IntKind.i64 59),
                                          SV.raw (Value.int IntKind.i64 0), SV.raw (Value.int IntKind.i64 1000000000),
                                          SV.raw (Value.int IntKind.i64 0), SV.raw (Value.int IntKind.i64 2000000)]),
                                    some (SV.raw (Value.int IntKind.i64 2)), none, none, none, none, none, none, none, none,
                                    none, none, none, none, none, none, none, none, none, none, none, none, none, none, none,
                                    none, none, none, none, none, none, none, none, none, none, none, none, none, none, none,
                                    none, none, none, none, none],
                                bx :=
                                  [{ elem := 22, row := Row.lst [SV.raw (Value.slice b l c)], total := 1, own := true },
                                    { elem := 24,
                                      row :=
                                        Row.lst
                                          [SV.raw (Value.int IntKind.i64 0), SV.raw (Value.int IntKind.i64 0),
                                            SV.raw (Value.int IntKind.i64 0), SV.raw (Value.int IntKind.i64 0),
                                            SV.raw (Value.int IntKind.i64 0), SV.raw (Value.slice none 0 0)],
                                      total := 6, own := true },
                                    { elem := 3, row := Row.lst [SV.raw (Value.int IntKind.i64 end')], total := 1,
                                      own := true },
                                    { elem := 27, row := Row.lst [SV.raw (Value.int IntKind.i64 3)], total := 1,
                                      own := true },
                                    { elem := 54,
                                      row :=
                                        Row.lst
                                          [SV.raw (Value.int IntKind.i64 k), SV.raw (Value.int IntKind.i64 n),
                                            SV.raw (Value.int IntKind.i64 0), SV.raw (Value.int IntKind.i64 0),
                                            SV.raw (Value.int IntKind.i64 0)],
                                      total := 5, own := true },
                                    { elem := 56,
                                      row := Row.lst [SV.raw (Value.int IntKind.i64 0), SV.raw (Value.int IntKind.i64 59)],
                                      total := 2, own := true },
                                    { elem := 56,
                                      row := Row.lst [SV.raw (Value.int IntKind.i64 0), SV.raw (Value.int IntKind.i64 59)],
                                      total := 2, own := true }],
                                E := E' }
                          else
                            Lp WG 6 Try.f23 [1, 1, 1, 1, 0, 1, 0] 0 (pubK E0 K)
                              {
                                fr :=
                                  [none, some (SV.loc 0 0), some (SV.loc 1 0), some (SV.raw (Value.int IntKind.i64 0)),
                                    some (SV.loc 2 0), some (SV.loc 3 0),
                                    some (SV.clo 42 [] [SV.loc 3 0, SV.loc 0 0, SV.loc 2 0]), some (SV.loc 4 0), none, none,
                                    none, none, none, none,
                                    some
                                      (SV.agg
                                        [SV.raw (Value.int IntKind.i64 1), SV.raw (Value.int IntKind.i64 4),
                                          SV.raw (Value.int IntKind.i64 0), SV.raw (Value.int IntKind.i64 59),
                                          SV.raw (Value.int IntKind.i64 (-1)), SV.raw (Value.int IntKind.i64 59),
                                          SV.raw (Value.int IntKind.i64 0), SV.raw (Value.int IntKind.i64 1000000000),
                                          SV.raw (Value.int IntKind.i64 0), SV.raw (Value.int IntKind.i64 2000000)]),
                                    some (SV.raw (Value.int IntKind.i64 2)), none, none, none, none, none, none, none, none,
                                    none, none, none, none, none, none, none, none, none, none, none, none, none, none, none,
                                    none, none, none, none, none, none, none, none, none, none, none, none, none, none, none,
                                    none, none, none, none, none],
                                bx :=
                                  [{ elem := 22, row := Row.lst [SV.raw (Value.slice b l c)], total := 1, own := true },
                                    { elem := 24,
                                      row :=
                                        Row.lst
                                          [SV.raw (Value.int IntKind.i64 0), SV.raw (Value.int IntKind.i64 0),
                                            SV.raw (Value.int IntKind.i64 0), SV.raw (Value.int IntKind.i64 0),
                                            SV.raw (Value.int IntKind.i64 0), SV.raw (Value.slice none 0 0)],
                                      total := 6, own := true },
                                    { elem := 3, row := Row.lst [SV.raw (Value.int IntKind.i64 end')], total := 1,
                                      own := true },
                                    { elem := 27, row := Row.lst [SV.raw (Value.int IntKind.i64 e)], total := 1,
                                      own := true },
                                    { elem := 54,
                                      row :=
                                        Row.lst
                                          [SV.raw (Value.int IntKind.i64 k), SV.raw (Value.int IntKind.i64 n),
                                            SV.raw (Value.int IntKind.i64 0), SV.raw (Value.int IntKind.i64 0),
                                            SV.raw (Value.int IntKind.i64 0)],
                                      total := 5, own := true },
                                    { elem := 56,
                                      row := Row.lst [SV.raw (Value.int IntKind.i64 0), SV.raw (Value.int IntKind.i64 59)],
                                      total := 2, own := true },
                                    { elem := 56,
                                      row := Row.lst [SV.raw (Value.int IntKind.i64 0), SV.raw (Value.int IntKind.i64 59)],
                                      total := 2, own := true }],
                                E := E' }
                      else
                        Lp WG 6 Try.f23 [1, 1, 1, 1, 0, 1, 0] 0 (pubK E0 K)
                          {
                            fr :=
                              [none, some (SV.loc 0 0), some (SV.loc 1 0), some (SV.raw (Value.int IntKind.i64 0)),
                                some (SV.loc 2 0), some (SV.loc 3 0),
                                some (SV.clo 42 [] [SV.loc 3 0, SV.loc 0 0, SV.loc 2 0]), some (SV.loc 4 0), none, none, none,
                                none, none, none,
                                some
                                  (SV.agg
                                    [SV.raw (Value.int IntKind.i64 1), SV.raw (Value.int IntKind.i64 4),
                                      SV.raw (Value.int IntKind.i64 0), SV.raw (Value.int IntKind.i64 59),
                                      SV.raw (Value.int IntKind.i64 (-1)), SV.raw (Value.int IntKind.i64 59),
                                      SV.raw (Value.int IntKind.i64 0), SV.raw (Value.int IntKind.i64 1000000000),
                                      SV.raw (Value.int IntKind.i64 0), SV.raw (Value.int IntKind.i64 2000000)]),
                                some (SV.raw (Value.int IntKind.i64 2)), none, none, none, none, none, none, none, none, none,
                                none, none, none, none, none, none, none, none, none, none, none, none, none, none, none,
                                none, none, none, none, none, none, none, none, none, none, none, none, none, none, none,
                                none, none, none, none],
                            bx :=
                              [{ elem := 22, row := Row.lst [SV.raw (Value.slice b l c)], total := 1, own := true },
                                { elem := 24,
                                  row :=
                                    Row.lst
                                      [SV.raw (Value.int IntKind.i64 0), SV.raw (Value.int IntKind.i64 0),
                                        SV.raw (Value.int IntKind.i64 0), SV.raw (Value.int IntKind.i64 0),
                                        SV.raw (Value.int IntKind.i64 0), SV.raw (Value.slice none 0 0)],
                                  total := 6, own := true },
                                { elem := 3, row := Row.lst [SV.raw (Value.int IntKind.i64 end')], total := 1, own := true },
                                { elem := 27, row := Row.lst [SV.raw (Value.int IntKind.i64 e)], total := 1, own := true },
                                { elem := 54,
                                  row :=
                                    Row.lst
                                      [SV.raw (Value.int IntKind.i64 k), SV.raw (Value.int IntKind.i64 n),
                                        SV.raw (Value.int IntKind.i64 0), SV.raw (Value.int IntKind.i64 0),
                                        SV.raw (Value.int IntKind.i64 0)],
                                  total := 5, own := true },
                                { elem := 56,
                                  row := Row.lst [SV.raw (Value.int IntKind.i64 0), SV.raw (Value.int IntKind.i64 59)],
                                  total := 2, own := true },
                                { elem := 56,
                                  row := Row.lst [SV.raw (Value.int IntKind.i64 0), SV.raw (Value.int IntKind.i64 59)],
                                  total := 2, own := true }],
                            E := E' })
  refine condC (fun g => ?_) (fun g => ?_)
  · have g : er ≠ 0 := by simpa using g
    refine Lp_re [some 0, some 1, some 2, some 3, some 4] (ih p er 0 E (Mem.le_refl _) ?_) ⟨⟨Nat.zero_le _, Nat.zero_le _, fun j h => absurd h (Nat.not_lt_zero _)⟩, rfl, (by repeat' first | exact True.intro | refine And.intro (Or.inl rfl) ?_), (by repeat' first | exact True.intro | exact rfl | exact Or.inl rfl | exact Nat.succ_pos _ | refine And.intro ?_ ?_), (by show List.Nodup [0, 1, 2, 3, 4]; decide), Mem.le_refl _⟩
    rw [stp_e g] at h ⊢
    exact h
  · have g : er = 0 := by simpa using g
    subst g
    rw [stp_0] at h
    refine ⟨zs, hB, hl, fun n e' e2 E1 hE1 hy => ⟨hE1, ?_⟩⟩
    have hy : rd zs p = (n, e', e2) := hy
    refine condC (fun g2 => ?_) (fun g2 => ?_)
    · have g2 : e2 = 0 := by simpa using g2
      subst g2
      refine ⟨Mem.le_refl _, condC (fun g3 => ?_) (fun g3 => ?_)⟩
      · have g3 : ¬ ((0) ≤ n ∧ n ≤ 59) := by simp at g3; omega
        refine Lp_re [some 0, some 1, some 2, some 3, some 4] (ih e' 3 n E1 hE1 ?_) ⟨⟨Nat.zero_le _, Nat.zero_le _, fun j h => absurd h (Nat.not_lt_zero _)⟩, rfl, (by repeat' first | exact True.intro | refine And.intro (Or.inl rfl) ?_), (by repeat' first | exact True.intro | exact rfl | exact Or.inl rfl | exact Nat.succ_pos _ | refine And.intro ?_ ?_), (by show List.Nodup [0, 1, 2, 3, 4]; decide), Mem.le_refl _⟩
        rw [uk1_e (fld_r hy g3) (by omega)] at h
        rw [stp_e (by omega)]
        exact fun k1 f1 t1 a1 y1 b1 l1 c1 ys e1 E2 hE2 => h k1 f1 t1 a1 y1 b1 l1 c1 ys e1 E2 (Mem.le_trans hE1 hE2)
      · have g3 : (0) ≤ n ∧ n ≤ 59 := by simp at g3; omega
        refine Lp_re [some 0, some 1, some 2, some 3, some 4] (ih e' 0 n E1 hE1 ?_) ⟨⟨Nat.zero_le _, Nat.zero_le _, fun j h => absurd h (Nat.not_lt_zero _)⟩, rfl, (by repeat' first | exact True.intro | refine And.intro (Or.inl rfl) ?_), (by repeat' first | exact True.intro | exact rfl | exact Or.inl rfl | exact Nat.succ_pos _ | refine And.intro ?_ ?_), (by show List.Nodup [0, 1, 2, 3, 4]; decide), Mem.le_refl _⟩
        rw [uk1_o (fld_o hy g3)] at h
        rw [stp_0]
        exact fun k1 f1 t1 a1 y1 b1 l1 c1 ys e1 E2 hE2 => h k1 f1 t1 a1 y1 b1 l1 c1 ys e1 E2 (Mem.le_trans hE1 hE2)
    · have g2 : e2 ≠ 0 := by simpa using g2
      refine Lp_re [some 0, some 1, some 2, some 3, some 4] (ih e' e2 n E1 hE1 ?_) ⟨⟨Nat.zero_le _, Nat.zero_le _, fun j h => absurd h (Nat.not_lt_zero _)⟩, rfl, (by repeat' first | exact True.intro | refine And.intro (Or.inl rfl) ?_), (by repeat' first | exact True.intro | exact rfl | exact Or.inl rfl | exact Nat.succ_pos _ | refine And.intro ?_ ?_), (by show List.Nodup [0, 1, 2, 3, 4]; decide), Mem.le_refl _⟩
      rw [uk1_e (fld_e hy g2) g2] at h
      rw [stp_e g2]
      exact fun k1 f1 t1 a1 y1 b1 l1 c1 ys e1 E2 hE2 => h k1 f1 t1 a1 y1 b1 l1 c1 ys e1 E2 (Mem.le_trans hE1 hE2)
theorem lp23_1 {b : Option Addr} {l c : Nat} {zs : List Int} {p er k : Int} {E0 : Mem} (hB : Bs E b l c zs) (hl : l ≤ 100000) (hE0 : Mem.le E0 E) (h : ∀ (k1 f1 t1 a1 y1 : Int) (b1 : Option Addr) (l1 c1 : Nat) (ys : List Int) (e1 : Int) (E' : Mem), Mem.le E E' → Hyp (stp er (uk1 zs p k) = ([k1, f1, t1, a1, y1], ys, e1)) → Bs E' b1 l1 c1 ys → K (.tup [.agg [I k1, I f1, I t1, I a1, I y1, L b1 l1 c1], I e1]) E') :
    Lp WG 6 Try.f23 [1, 1, 1, 1, 0, 1, 0] 0 (pubK E0 K) (sh23 b l c p er k 0 0 0 0 1 E) :=
  Lp_ind okWG (fun _ : Unit => sh23 b l c p er k 0 0 0 0 1 E) (fun _ => 0) (fun _ _ => rnd23_1 hB hl hE0 h (fun p' e' v E1 hE1 h1 => lp23_2 (hB.mono hE1) hl (Mem.le_trans hE0 hE1) h1)) ()
theorem rnd23_0 {b : Option Addr} {l c : Nat} {zs : List Int} {p er : Int} {E0 : Mem} (hB : Bs E b l c zs) (hl : l ≤ 100000) (hE0 : Mem.le E0 E) (h : ∀ (k1 f1 t1 a1 y1 : Int) (b1 : Option Addr) (l1 c1 : Nat) (ys : List Int) (e1 : Int) (E' : Mem), Mem.le E E' → Hyp (stp er (uk0 zs p) = ([k1, f1, t1, a1, y1], ys, e1)) → Bs E' b1 l1 c1 ys → K (.tup [.agg [I k1, I f1, I t1, I a1, I y1, L b1 l1 c1], I e1]) E')
    (ih : ∀ (p' e' v : Int) (E1 : Mem), Mem.le E E1 → (∀ (k1 f1 t1 a1 y1 : Int) (b1 : Option Addr) (l1 c1 : Nat) (ys : List Int) (e1 : Int) (E' : Mem), Mem.le E1 E' → Hyp (stp e' (uk1 zs p' v) = ([k1, f1, t1, a1, y1], ys, e1)) → Bs E' b1 l1 c1 ys → K (.tup [.agg [I k1, I f1, I t1, I a1, I y1, L b1 l1 c1], I e1]) E') → Lp WG 6 Try.f23 [1, 1, 1, 1, 0, 1, 0] 0 (pubK E0 K) (sh23 b l c p' e' v 0 0 0 0 1 E1)) :
    Rnd WG 6 Try.f23 [1, 1, 1, 1, 0, 1, 0] 0 (pubK E0 K) (sh23 b l c p er 0 0 0 0 0 0 E) := by
  refine same (by kernel_rfl) (?_ : 
      bif er != 0 then
        Lp WG 6 Try.f23 [1, 1, 1, 1, 0, 1, 0] 0 (pubK E0 K)
          {
            fr :=
              [none, some (SV.loc 0 0), some (SV.loc 1 0), some (SV.raw (Value.int IntKind.i64 0)), some (SV.loc 2 0),
                some (SV.loc 3 0), some (SV.clo 42 [] [SV.loc 3 0, SV.loc 0 0, SV.loc 2 0]), some (SV.loc 4 0), none, none,
                none, none, none, none,
                some
                  (SV.agg
                    [SV.raw (Value.int IntKind.i64 1), SV.raw (Value.int IntKind.i64 4), SV.raw (Value.int IntKind.i64 0),
                      SV.raw (Value.int IntKind.i64 59), SV.raw (Value.int IntKind.i64 (-1)),
                      SV.raw (Value.int IntKind.i64 59), SV.raw (Value.int IntKind.i64 0),
                      SV.raw (Value.int IntKind.i64 1000000000), SV.raw (Value.int IntKind.i64 0),
                      SV.raw (Value.int IntKind.i64 2000000)]),
                some (SV.raw (Value.int IntKind.i64 1)), none, none, none, none, none, none, none, none, none, none, none,
                none, none, none, none, none, none, none, none, none, none, none, none, none, none, none, none, none, none,
                none, none, none, none, none, none, none, none, none, none, none, none, none, none],
            bx :=
              [{ elem := 22, row := Row.lst [SV.raw (Value.slice b l c)], total := 1, own := true },
                { elem := 24,
                  row :=
                    Row.lst
                      [SV.raw (Value.int IntKind.i64 0), SV.raw (Value.int IntKind.i64 0), SV.raw (Value.int IntKind.i64 0),
                        SV.raw (Value.int IntKind.i64 0), SV.raw (Value.int IntKind.i64 0), SV.raw (Value.slice none 0 0)],
                  total := 6, own := true },
                { elem := 3, row := Row.lst [SV.raw (Value.int IntKind.i64 p)], total := 1, own := true },
                { elem := 27, row := Row.lst [SV.raw (Value.int IntKind.i64 er)], total := 1, own := true },
                { elem := 54,
                  row :=
                    Row.lst
                      [SV.raw (Value.int IntKind.i64 0), SV.raw (Value.int IntKind.i64 0), SV.raw (Value.int IntKind.i64 0),
                        SV.raw (Value.int IntKind.i64 0), SV.raw (Value.int IntKind.i64 0)],
                  total := 5, own := true },
                { elem := 56, row := Row.lst [SV.raw (Value.int IntKind.i64 1), SV.raw (Value.int IntKind.i64 4)], total := 2,
                  own := true },
                { elem := 56, row := Row.lst [SV.raw (Value.int IntKind.i64 1), SV.raw (Value.int IntKind.i64 4)], total := 2,
                  own := true }],
            E := E }
      else
        ∃ (zs : List Int),
          ((zs = [] ∨ E (Value.slice b l c) (List.map (Value.int IntKind.u8) zs)) ∧
              List.length zs = l ∧ l ≤ c ∧ (∀ (z : Int), List.Mem z zs → 0 ≤ z ∧ z ≤ 255) ∧ (b = none → zs = [])) ∧
            l ≤ 100000 ∧
              ∀ (n end' e : Int) (E' : Mem),
                Mem.le E E' →
                  Hyp (rd zs p = (n, end', e)) →
                    Mem.le E E' ∧
                      bif e == 0 then
                        Mem.le E' E' ∧
                          bif bif true then !decide (1 ≤ n ∧ n ≤ 4) else false then
                            Lp WG 6 Try.f23 [1, 1, 1, 1, 0, 1, 0] 0 (pubK E0 K)
                              {
                                fr :=
                                  [none, some (SV.loc 0 0), some (SV.loc 1 0), some (SV.raw (Value.int IntKind.i64 0)),
                                    some (SV.loc 2 0), some (SV.loc 3 0),
                                    some (SV.clo 42 [] [SV.loc 3 0, SV.loc 0 0, SV.loc 2 0]), some (SV.loc 4 0), none, none,
                                    none, none, none, none,
                                    some
                                      (SV.agg
                                        [SV.raw (Value.int IntKind.i64 1), SV.raw (Value.int IntKind.i64 4),
                                          SV.raw (Value.int IntKind.i64 0), SV.raw (Value.int IntKind.i64 59),
                                          SV.raw (Value.int IntKind.i64 (-1)), SV.raw (Value.int IntKind.i64 59),
                                          SV.raw (Value.int IntKind.i64 0), SV.raw (Value.int IntKind.i64 1000000000),
                                          SV.raw (Value.int IntKind.i64 0), SV.raw (Value.int IntKind.i64 2000000)]),
                                    some (SV.raw (Value.int IntKind.i64 1)), none, none, none, none, none, none, none, none,
                                    none, none, none, none, none, none, none, none, none, none, none, none, none, none, none,
                                    none, none, none, none, none, none, none, none, none, none, none, none, none, none, none,
                                    none, none, none, none, none],
                                bx :=
                                  [{ elem := 22, row := Row.lst [SV.raw (Value.slice b l c)], total := 1, own := true },
                                    { elem := 24,
                                      row :=
                                        Row.lst
                                          [SV.raw (Value.int IntKind.i64 0), SV.raw (Value.int IntKind.i64 0),
                                            SV.raw (Value.int IntKind.i64 0), SV.raw (Value.int IntKind.i64 0),
                                            SV.raw (Value.int IntKind.i64 0), SV.raw (Value.slice none 0 0)],
                                      total := 6, own := true },
                                    { elem := 3, row := Row.lst [SV.raw (Value.int IntKind.i64 end')], total := 1,
                                      own := true },
                                    { elem := 27, row := Row.lst [SV.raw (Value.int IntKind.i64 3)], total := 1,
                                      own := true },
                                    { elem := 54,
                                      row :=
                                        Row.lst
                                          [SV.raw (Value.int IntKind.i64 n), SV.raw (Value.int IntKind.i64 0),
                                            SV.raw (Value.int IntKind.i64 0), SV.raw (Value.int IntKind.i64 0),
                                            SV.raw (Value.int IntKind.i64 0)],
                                      total := 5, own := true },
                                    { elem := 56,
                                      row := Row.lst [SV.raw (Value.int IntKind.i64 1), SV.raw (Value.int IntKind.i64 4)],
                                      total := 2, own := true },
                                    { elem := 56,
                                      row := Row.lst [SV.raw (Value.int IntKind.i64 1), SV.raw (Value.int IntKind.i64 4)],
                                      total := 2, own := true }],
                                E := E' }
                          else
                            Lp WG 6 Try.f23 [1, 1, 1, 1, 0, 1, 0] 0 (pubK E0 K)
                              {
                                fr :=
                                  [none, some (SV.loc 0 0), some (SV.loc 1 0), some (SV.raw (Value.int IntKind.i64 0)),
                                    some (SV.loc 2 0), some (SV.loc 3 0),
                                    some (SV.clo 42 [] [SV.loc 3 0, SV.loc 0 0, SV.loc 2 0]), some (SV.loc 4 0), none, none,
                                    none, none, none, none,
                                    some
                                      (SV.agg
                                        [SV.raw (Value.int IntKind.i64 1), SV.raw (Value.int IntKind.i64 4),
                                          SV.raw (Value.int IntKind.i64 0), SV.raw (Value.int IntKind.i64 59),
                                          SV.raw (Value.int IntKind.i64 (-1)), SV.raw (Value.int IntKind.i64 59),
                                          SV.raw (Value.int IntKind.i64 0), SV.raw (Value.int IntKind.i64 1000000000),
                                          SV.raw (Value.int IntKind.i64 0), SV.raw (Value.int IntKind.i64 2000000)]),
                                    some (SV.raw (Value.int IntKind.i64 1)), none, none, none, none, none, none, none, none,
                                    none, none, none, none, none, none, none, none, none, none, none, none, none, none, none,
                                    none, none, none, none, none, none, none, none, none, none, none, none, none, none, none,
                                    none, none, none, none, none],
                                bx :=
                                  [{ elem := 22, row := Row.lst [SV.raw (Value.slice b l c)], total := 1, own := true },
                                    { elem := 24,
                                      row :=
                                        Row.lst
                                          [SV.raw (Value.int IntKind.i64 0), SV.raw (Value.int IntKind.i64 0),
                                            SV.raw (Value.int IntKind.i64 0), SV.raw (Value.int IntKind.i64 0),
                                            SV.raw (Value.int IntKind.i64 0), SV.raw (Value.slice none 0 0)],
                                      total := 6, own := true },
                                    { elem := 3, row := Row.lst [SV.raw (Value.int IntKind.i64 end')], total := 1,
                                      own := true },
                                    { elem := 27, row := Row.lst [SV.raw (Value.int IntKind.i64 e)], total := 1,
                                      own := true },
                                    { elem := 54,
                                      row :=
                                        Row.lst
                                          [SV.raw (Value.int IntKind.i64 n), SV.raw (Value.int IntKind.i64 0),
                                            SV.raw (Value.int IntKind.i64 0), SV.raw (Value.int IntKind.i64 0),
                                            SV.raw (Value.int IntKind.i64 0)],
                                      total := 5, own := true },
                                    { elem := 56,
                                      row := Row.lst [SV.raw (Value.int IntKind.i64 1), SV.raw (Value.int IntKind.i64 4)],
                                      total := 2, own := true },
                                    { elem := 56,
                                      row := Row.lst [SV.raw (Value.int IntKind.i64 1), SV.raw (Value.int IntKind.i64 4)],
                                      total := 2, own := true }],
                                E := E' }
                      else
                        Lp WG 6 Try.f23 [1, 1, 1, 1, 0, 1, 0] 0 (pubK E0 K)
                          {
                            fr :=
                              [none, some (SV.loc 0 0), some (SV.loc 1 0), some (SV.raw (Value.int IntKind.i64 0)),
                                some (SV.loc 2 0), some (SV.loc 3 0),
                                some (SV.clo 42 [] [SV.loc 3 0, SV.loc 0 0, SV.loc 2 0]), some (SV.loc 4 0), none, none, none,
                                none, none, none,
                                some
                                  (SV.agg
                                    [SV.raw (Value.int IntKind.i64 1), SV.raw (Value.int IntKind.i64 4),
                                      SV.raw (Value.int IntKind.i64 0), SV.raw (Value.int IntKind.i64 59),
                                      SV.raw (Value.int IntKind.i64 (-1)), SV.raw (Value.int IntKind.i64 59),
                                      SV.raw (Value.int IntKind.i64 0), SV.raw (Value.int IntKind.i64 1000000000),
                                      SV.raw (Value.int IntKind.i64 0), SV.raw (Value.int IntKind.i64 2000000)]),
                                some (SV.raw (Value.int IntKind.i64 1)), none, none, none, none, none, none, none, none, none,
                                none, none, none, none, none, none, none, none, none, none, none, none, none, none, none,
                                none, none, none, none, none, none, none, none, none, none, none, none, none, none, none,
                                none, none, none, none],
                            bx :=
                              [{ elem := 22, row := Row.lst [SV.raw (Value.slice b l c)], total := 1, own := true },
                                { elem := 24,
                                  row :=
                                    Row.lst
                                      [SV.raw (Value.int IntKind.i64 0), SV.raw (Value.int IntKind.i64 0),
                                        SV.raw (Value.int IntKind.i64 0), SV.raw (Value.int IntKind.i64 0),
                                        SV.raw (Value.int IntKind.i64 0), SV.raw (Value.slice none 0 0)],
                                  total := 6, own := true },
                                { elem := 3, row := Row.lst [SV.raw (Value.int IntKind.i64 end')], total := 1, own := true },
                                { elem := 27, row := Row.lst [SV.raw (Value.int IntKind.i64 e)], total := 1, own := true },
                                { elem := 54,
                                  row :=
                                    Row.lst
                                      [SV.raw (Value.int IntKind.i64 n), SV.raw (Value.int IntKind.i64 0),
                                        SV.raw (Value.int IntKind.i64 0), SV.raw (Value.int IntKind.i64 0),
                                        SV.raw (Value.int IntKind.i64 0)],
                                  total := 5, own := true },
                                { elem := 56,
                                  row := Row.lst [SV.raw (Value.int IntKind.i64 1), SV.raw (Value.int IntKind.i64 4)],
                                  total := 2, own := true },
                                { elem := 56,
                                  row := Row.lst [SV.raw (Value.int IntKind.i64 1), SV.raw (Value.int IntKind.i64 4)],
                                  total := 2, own := true }],
                            E := E' })
  refine condC (fun g => ?_) (fun g => ?_)
  · have g : er ≠ 0 := by simpa using g
    refine Lp_re [some 0, some 1, some 2, some 3, some 4] (ih p er 0 E (Mem.le_refl _) ?_) ⟨⟨Nat.zero_le _, Nat.zero_le _, fun j h => absurd h (Nat.not_lt_zero _)⟩, rfl, (by repeat' first | exact True.intro | refine And.intro (Or.inl rfl) ?_), (by repeat' first | exact True.intro | exact rfl | exact Or.inl rfl | exact Nat.succ_pos _ | refine And.intro ?_ ?_), (by show List.Nodup [0, 1, 2, 3, 4]; decide), Mem.le_refl _⟩
    rw [stp_e g] at h ⊢
    exact h
  · have g : er = 0 := by simpa using g
    subst g
    rw [stp_0] at h
    refine ⟨zs, hB, hl, fun n e' e2 E1 hE1 hy => ⟨hE1, ?_⟩⟩
    have hy : rd zs p = (n, e', e2) := hy
    refine condC (fun g2 => ?_) (fun g2 => ?_)
    · have g2 : e2 = 0 := by simpa using g2
      subst g2
      refine ⟨Mem.le_refl _, condC (fun g3 => ?_) (fun g3 => ?_)⟩
      · have g3 : ¬ ((1) ≤ n ∧ n ≤ 4) := by simp at g3; omega
        refine Lp_re [some 0, some 1, some 2, some 3, some 4] (ih e' 3 n E1 hE1 ?_) ⟨⟨Nat.zero_le _, Nat.zero_le _, fun j h => absurd h (Nat.not_lt_zero _)⟩, rfl, (by repeat' first | exact True.intro | refine And.intro (Or.inl rfl) ?_), (by repeat' first | exact True.intro | exact rfl | exact Or.inl rfl | exact Nat.succ_pos _ | refine And.intro ?_ ?_), (by show List.Nodup [0, 1, 2, 3, 4]; decide), Mem.le_refl _⟩
        rw [uk0_e (fld_r hy g3) (by omega)] at h
        rw [stp_e (by omega)]
        exact fun k1 f1 t1 a1 y1 b1 l1 c1 ys e1 E2 hE2 => h k1 f1 t1 a1 y1 b1 l1 c1 ys e1 E2 (Mem.le_trans hE1 hE2)
      · have g3 : (1) ≤ n ∧ n ≤ 4 := by simp at g3; omega
        refine Lp_re [some 0, some 1, some 2, some 3, some 4] (ih e' 0 n E1 hE1 ?_) ⟨⟨Nat.zero_le _, Nat.zero_le _, fun j h => absurd h (Nat.not_lt_zero _)⟩, rfl, (by repeat' first | exact True.intro | refine And.intro (Or.inl rfl) ?_), (by repeat' first | exact True.intro | exact rfl | exact Or.inl rfl | exact Nat.succ_pos _ | refine And.intro ?_ ?_), (by show List.Nodup [0, 1, 2, 3, 4]; decide), Mem.le_refl _⟩
        rw [uk0_o (fld_o hy g3)] at h
        rw [stp_0]
        exact fun k1 f1 t1 a1 y1 b1 l1 c1 ys e1 E2 hE2 => h k1 f1 t1 a1 y1 b1 l1 c1 ys e1 E2 (Mem.le_trans hE1 hE2)
    · have g2 : e2 ≠ 0 := by simpa using g2
      refine Lp_re [some 0, some 1, some 2, some 3, some 4] (ih e' e2 n E1 hE1 ?_) ⟨⟨Nat.zero_le _, Nat.zero_le _, fun j h => absurd h (Nat.not_lt_zero _)⟩, rfl, (by repeat' first | exact True.intro | refine And.intro (Or.inl rfl) ?_), (by repeat' first | exact True.intro | exact rfl | exact Or.inl rfl | exact Nat.succ_pos _ | refine And.intro ?_ ?_), (by show List.Nodup [0, 1, 2, 3, 4]; decide), Mem.le_refl _⟩
      rw [uk0_e (fld_e hy g2) g2] at h
      rw [stp_e g2]
      exact fun k1 f1 t1 a1 y1 b1 l1 c1 ys e1 E2 hE2 => h k1 f1 t1 a1 y1 b1 l1 c1 ys e1 E2 (Mem.le_trans hE1 hE2)
theorem lp23_0 {b : Option Addr} {l c : Nat} {zs : List Int} {p er : Int} {E0 : Mem} (hB : Bs E b l c zs) (hl : l ≤ 100000) (hE0 : Mem.le E0 E) (h : ∀ (k1 f1 t1 a1 y1 : Int) (b1 : Option Addr) (l1 c1 : Nat) (ys : List Int) (e1 : Int) (E' : Mem), Mem.le E E' → Hyp (stp er (uk0 zs p) = ([k1, f1, t1, a1, y1], ys, e1)) → Bs E' b1 l1 c1 ys → K (.tup [.agg [I k1, I f1, I t1, I a1, I y1, L b1 l1 c1], I e1]) E') :
    Lp WG 6 Try.f23 [1, 1, 1, 1, 0, 1, 0] 0 (pubK E0 K) (sh23 b l c p er 0 0 0 0 0 0 E) :=
  Lp_ind okWG (fun _ : Unit => sh23 b l c p er 0 0 0 0 0 0 E) (fun _ => 0) (fun _ _ => rnd23_0 hB hl hE0 h (fun p' e' v E1 hE1 h1 => lp23_1 (hB.mono hE1) hl (Mem.le_trans hE0 hE1) h1)) ()
theorem s23 {b1 : Option Addr} {l2 : Nat} {c3 : Nat} {zs : List Int} (h0 : Bs E b1 l2 c3 zs) (h1 : l2 ≤ 100000) (h : ∀ (k1 f1 t1 a1 y1 : Int) (b1 : Option Addr) (l1 c1 : Nat) (ys : List Int) (e1 : Int) (E' : Mem), Mem.le E E' → Hyp (uk0 zs 0 = ([k1, f1, t1, a1, y1], ys, e1)) → Bs E' b1 l1 c1 ys → K (.tup [.agg [I k1, I f1, I t1, I a1, I y1, L b1 l1 c1], I e1]) E') :
    Ent WG 6 Try.f23 [L b1 l2 c3] E K := by
  refine same (by kernel_rfl) (?_ : 
      Mem.le E E ∧
        Lp WG 6 Try.f23 [1, 1, 1, 1, 0, 1, 0] 0 (pubK E K)
          {
            fr :=
              [some (SV.raw (Value.slice b1 l2 c3)), some (SV.loc 0 0), some (SV.loc 1 0),
                some (SV.raw (Value.int IntKind.i64 0)), some (SV.loc 2 0), some (SV.loc 3 0),
                some (SV.clo 42 [] [SV.loc 3 0, SV.loc 0 0, SV.loc 2 0]), some (SV.loc 4 0), none, none, none, none, none,
                some (SV.clo 42 [] [SV.loc 3 0, SV.loc 0 0, SV.loc 2 0]),
                some
                  (SV.agg
                    [SV.raw (Value.int IntKind.i64 1), SV.raw (Value.int IntKind.i64 4), SV.raw (Value.int IntKind.i64 0),
                      SV.raw (Value.int IntKind.i64 59), SV.raw (Value.int IntKind.i64 (-1)),
                      SV.raw (Value.int IntKind.i64 59), SV.raw (Value.int IntKind.i64 0),
                      SV.raw (Value.int IntKind.i64 1000000000), SV.raw (Value.int IntKind.i64 0),
                      SV.raw (Value.int IntKind.i64 2000000)]),
                some (SV.raw (Value.int IntKind.i64 0)), none, none, none, none, none, none, none, none, none, none, none,
                none, none, none, none, none, none, none, none, none, none, none, none, none, none, none, none, none, none,
                none, none, none, none, none, none, none, none, none, none, none, none, none, none],
            bx :=
              [{ elem := 22, row := Row.lst [SV.raw (Value.slice b1 l2 c3)], total := 1, own := true },
                { elem := 24,
                  row :=
                    Row.lst
                      [SV.raw (Value.int IntKind.i64 0), SV.raw (Value.int IntKind.i64 0), SV.raw (Value.int IntKind.i64 0),
                        SV.raw (Value.int IntKind.i64 0), SV.raw (Value.int IntKind.i64 0), SV.raw (Value.slice none 0 0)],
                  total := 6, own := true },
                { elem := 3, row := Row.lst [SV.raw (Value.int IntKind.i64 0)], total := 1, own := true },
                { elem := 27, row := Row.lst [SV.raw (Value.int IntKind.i64 0)], total := 1, own := true },
                { elem := 54,
                  row :=
                    Row.lst
                      [SV.raw (Value.int IntKind.i64 0), SV.raw (Value.int IntKind.i64 0), SV.raw (Value.int IntKind.i64 0),
                        SV.raw (Value.int IntKind.i64 0), SV.raw (Value.int IntKind.i64 0)],
                  total := 5, own := true },
                { elem := 57,
                  row :=
                    Row.lst
                      [SV.raw (Value.int IntKind.i64 1), SV.raw (Value.int IntKind.i64 4), SV.raw (Value.int IntKind.i64 0),
                        SV.raw (Value.int IntKind.i64 59), SV.raw (Value.int IntKind.i64 (-1)),
                        SV.raw (Value.int IntKind.i64 59), SV.raw (Value.int IntKind.i64 0),
                        SV.raw (Value.int IntKind.i64 1000000000), SV.raw (Value.int IntKind.i64 0),
                        SV.raw (Value.int IntKind.i64 2000000)],
                  total := 10, own := true }],
            E := E })
  refine ⟨Mem.le_refl _, ?_⟩
  exact Lp_re [some 0, some 1, some 2, some 3, some 4] (lp23_0 h0 h1 (Mem.le_refl _) (by rw [stp_0]; exact h)) ⟨⟨Nat.zero_le _, Nat.zero_le _, fun j h => absurd h (Nat.not_lt_zero _)⟩, rfl, (by repeat' first | exact True.intro | refine And.intro (Or.inl rfl) ?_), (by repeat' first | exact True.intro | exact rfl | exact Or.inl rfl | exact Nat.succ_pos _ | refine And.intro ?_ ?_), (by show List.Nodup [0, 1, 2, 3, 4]; decide), Mem.le_refl _⟩
def sh24_0 (b : Option Addr) (l c : Nat) (p : Int) (E : Mem) : St := { fr := [some (L b l c), none, some (.loc 0 0), none, some (L none 0 0), some (I p), some (I 0), none, none, none, none, none, none, none, none, none, none, none, none, none, none, none, none, none, none, none, none, none, none, none, none, none, none, none, none, none, none, none, none, none, none, none, none, none, none, none, none, none, none, none, none, none, none, none, none, none, none, none, none, none, none, none, none, none, none, none, none, none, none, none, none, none, none], bx := [⟨24, .lst [I 0, I 0, I 0, I 0, I 0, L none 0 0], 6, true⟩], E := E }
def sh24_1 (b : Option Addr) (l c cap tot : Nat) (p k : Int) (E : Mem) : St := { fr := [some (L b l c), none, some (.loc 0 0), none, some (.slc 1 0 1 cap), some (I p), some (I 1), none, none, none, none, none, none, none, none, none, none, none, none, none, none, none, none, none, none, none, none, none, none, none, none, none, none, none, none, none, none, none, none, none, none, none, none, none, none, none, none, none, none, none, none, none, none, none, none, none, none, none, none, none, none, none, none, none, none, none, none, none, none, none, none, none, none], bx := [⟨24, .lst [I 0, I 0, I 0, I 0, I 0, L none 0 0], 6, true⟩, ⟨3, .lst [I k], tot, true⟩], E := E }
def sh24_2 (b : Option Addr) (l c cap tot : Nat) (p k f : Int) (E : Mem) : St := { fr := [some (L b l c), none, some (.loc 0 0), none, some (.slc 1 0 2 cap), some (I p), some (I 2), none, none, none, none, none, none, none, none, none, none, none, none, none, none, none, none, none, none, none, none, none, none, none, none, none, none, none, none, none, none, none, none, none, none, none, none, none, none, none, none, none, none, none, none, none, none, none, none, none, none, none, none, none, none, none, none, none, none, none, none, none, none, none, none, none, none], bx := [⟨24, .lst [I 0, I 0, I 0, I 0, I 0, L none 0 0], 6, true⟩, ⟨3, .vals [.int .i64 k, .int .i64 f], tot, true⟩], E := E }
def sh24_3 (b : Option Addr) (l c cap tot : Nat) (p k f t : Int) (E : Mem) : St := { fr := [some (L b l c), none, some (.loc 0 0), none, some (.slc 1 0 3 cap), some (I p), some (I 3), none, none, none, none, none, none, none, none, none, none, none, none, none, none, none, none, none, none, none, none, none, none, none, none, none, none, none, none, none, none, none, none, none, none, none, none, none, none, none, none, none, none, none, none, none, none, none, none, none, none, none, none, none, none, none, none, none, none, none, none, none, none, none, none, none, none], bx := [⟨24, .lst [I 0, I 0, I 0, I 0, I 0, L none 0 0], 6, true⟩, ⟨3, .vals [.int .i64 k, .int .i64 f, .int .i64 t], tot, true⟩], E := E }
def sh24_4 (b : Option Addr) (l c cap tot : Nat) (p k f t a : Int) (E : Mem) : St := { fr := [some (L b l c), none, some (.loc 0 0), none, some (.slc 1 0 4 cap), some (I p), some (I 4), none, none, none, none, none, none, none, none, none, none, none, none, none, none, none, none, none, none, none, none, none, none, none, none, none, none, none, none, none, none, none, none, none, none, none, none, none, none, none, none, none, none, none, none, none, none, none, none, none, none, none, none, none, none, none, none, none, none, none, none, none, none, none, none, none, none], bx := [⟨24, .lst [I 0, I 0, I 0, I 0, I 0, L none 0 0], 6, true⟩, ⟨3, .vals [.int .i64 k, .int .i64 f, .int .i64 t, .int .i64 a], tot, true⟩], E := E }
def sh24_5 (b : Option Addr) (l c cap tot : Nat) (p k f t a y : Int) (E : Mem) : St := { fr := [some (L b l c), none, some (.loc 0 0), none, some (.slc 1 0 5 cap), some (I p), some (I 5), none, none, none, none, none, none, none, none, none, none, none, none, none, none, none, none, none, none, none, none, none, none, none, none, none, none, none, none, none, none, none, none, none, none, none, none, none, none, none, none, none, none, none, none, none, none, none, none, none, none, none, none, none, none, none, none, none, none, none, none, none, none, none, none, none, none], bx := [⟨24, .lst [I 0, I 0, I 0, I 0, I 0, L none 0 0], 6, true⟩, ⟨3, .vals [.int .i64 k, .int .i64 f, .int .i64 t, .int .i64 a, .int .i64 y], tot, true⟩], E := E }
theorem rdB_le {zs : List Int} {a : Int} {ys : List Int} {e' : Int} (h : rdB zs a = (ys, e', 0)) : e' ≤ zs.length := by
  unfold rdB at h
  split at h
  rename_i n e'' e he
  split at h
  · rename_i q
    simp only [Prod.mk.injEq] at h
    exact absurd h.2.2 q
  · split at h
    · simp at h
    · split at h
      · simp at h
      · simp only [Prod.mk.injEq] at h
        omega
theorem loadI {P : Program} (hP : P.underlying 3 = some (.int .i64)) {vs : List Value} {i : Nat} {n : Int} (h : vs[i]? = some (.int .i64 n)) : LoadV P 3 vs i (I n) := by
  unfold LoadV loadW
  rw [hP]
  simp [h]
theorem rnd24_5 {b : Option Addr} {l c : Nat} {zs : List Int} {p k f t a y : Int} {E0 : Mem} {cap tot : Nat} (hc : 5 ≤ cap) (ht : cap ≤ tot) (hB : Bs E b l c zs) (hl : l ≤ 100000) (hE0 : Mem.le E0 E) (h : ∀ (k1 f1 t1 a1 y1 : Int) (b1 : Option Addr) (l1 c1 : Nat) (ys : List Int) (e1 : Int) (E' : Mem), Mem.le E E' → Hyp (uk5 zs p k f t a y = ([k1, f1, t1, a1, y1], ys, e1)) → Bs E' b1 l1 c1 ys → K (.tup [.agg [I k1, I f1, I t1, I a1, I y1, L b1 l1 c1], I e1]) E') :
    Rnd WH 6 Try.f24 [1, 1, 1, 0, 1, 0] 0 (pubK E0 K) (sh24_5 b l c cap tot p k f t a y E) := by
  refine same (by kernel_rfl) (?_ : 
      ∃ (zs : List Int),
        ((zs = [] ∨ E (Value.slice b l c) (List.map (Value.int IntKind.u8) zs)) ∧
            List.length zs = l ∧ l ≤ c ∧ (∀ (z : Int), List.Mem z zs → 0 ≤ z ∧ z ≤ 255) ∧ (b = none → zs = [])) ∧
          l ≤ 100000 ∧
            ∀ (b' : Option Addr) (l' c' : Nat) (ys : List Int) (end' e : Int) (E' : Mem),
              Mem.le E E' →
                Hyp (rdB zs p = (ys, end', e)) →
                  (ys = [] ∨ E' (Value.slice b' l' c') (List.map (Value.int IntKind.u8) ys)) ∧
                      List.length ys = l' ∧ l' ≤ c' ∧ (∀ (z : Int), List.Mem z ys → 0 ≤ z ∧ z ≤ 255) ∧ (b' = none → ys = []) →
                    Mem.le E E' ∧
                      bif e != 0 then
                        Mem.le E0 E' ∧
                          K
                            (SV.tup
                              [SV.agg
                                  [SV.raw (Value.int IntKind.i64 0), SV.raw (Value.int IntKind.i64 0),
                                    SV.raw (Value.int IntKind.i64 0), SV.raw (Value.int IntKind.i64 0),
                                    SV.raw (Value.int IntKind.i64 0), SV.raw (Value.slice none 0 0)],
                                SV.raw (Value.int IntKind.i64 e)])
                            E'
                      else
                        bif end' != (↑l : Int) then
                          Mem.le E0 E' ∧
                            K
                              (SV.tup
                                [SV.agg
                                    [SV.raw (Value.int IntKind.i64 0), SV.raw (Value.int IntKind.i64 0),
                                      SV.raw (Value.int IntKind.i64 0), SV.raw (Value.int IntKind.i64 0),
                                      SV.raw (Value.int IntKind.i64 0), SV.raw (Value.slice none 0 0)],
                                  SV.raw (Value.int IntKind.i64 11)])
                              E'
                        else
                          ∃ (n : Int),
                            LoadV WH.P 3
                                [Value.int IntKind.i64 k, Value.int IntKind.i64 f, Value.int IntKind.i64 t,
                                  Value.int IntKind.i64 a, Value.int IntKind.i64 y]
                                0 (SV.raw (Value.int IntKind.i64 n)) ∧
                              ∃ (n_1 : Int),
                                LoadV WH.P 3
                                    [Value.int IntKind.i64 k, Value.int IntKind.i64 f, Value.int IntKind.i64 t,
                                      Value.int IntKind.i64 a, Value.int IntKind.i64 y]
                                    1 (SV.raw (Value.int IntKind.i64 n_1)) ∧
                                  ∃ (n_2 : Int),
                                    LoadV WH.P 3
                                        [Value.int IntKind.i64 k, Value.int IntKind.i64 f, Value.int IntKind.i64 t,
                                          Value.int IntKind.i64 a, Value.int IntKind.i64 y]
                                        2 (SV.raw (Value.int IntKind.i64 n_2)) ∧
                                      ∃ (n_3 : Int),
                                        LoadV WH.P 3
                                            [Value.int IntKind.i64 k, Value.int IntKind.i64 f, Value.int IntKind.i64 t,
                                              Value.int IntKind.i64 a, Value.int IntKind.i64 y]
                                            3 (SV.raw (Value.int IntKind.i64 n_3)) ∧
                                          ∃ (n_4 : Int),
                                            LoadV WH.P 3
                                                [Value.int IntKind.i64 k, Value.int IntKind.i64 f, Value.int IntKind.i64 t,
                                                  Value.int IntKind.i64 a, Value.int IntKind.i64 y]
                                                4 (SV.raw (Value.int IntKind.i64 n_4)) ∧
                                              Mem.le E0 E' ∧
                                                K
                                                  (SV.tup
                                                    [SV.agg
                                                        [SV.raw (Value.int IntKind.i64 n), SV.raw (Value.int IntKind.i64 n_1),
                                                          SV.raw (Value.int IntKind.i64 n_2),
                                                          SV.raw (Value.int IntKind.i64 n_3),
                                                          SV.raw (Value.int IntKind.i64 n_4), SV.raw (Value.slice b' l' c')],
                                                      SV.raw (Value.int IntKind.i64 0)])
                                                  E')
  have hlen := hB.2.1
  refine ⟨zs, hB, hl, fun b2 l2 c2 ys e' e2 E1 hE1 hy hB2 => ⟨hE1, ?_⟩⟩
  have hy : rdB zs p = (ys, e', e2) := hy
  refine condC (fun g2 => ?_) (fun g2 => ?_)
  · have g2 : e2 ≠ 0 := by simpa using g2
    rw [uk5_e hy g2] at h
    exact ⟨Mem.le_trans hE0 hE1, h 0 0 0 0 0 none 0 0 [] e2 E1 hE1 rfl (Bs.nil _)⟩
  · have g2 : e2 = 0 := by simpa using g2
    subst g2
    have hle := rdB_le hy
    refine condC (fun g3 => ?_) (fun g3 => ?_)
    · have g3 : e' ≠ l := by simpa using g3
      rw [uk5_s hy (by omega)] at h
      exact ⟨Mem.le_trans hE0 hE1, h 0 0 0 0 0 none 0 0 [] 11 E1 hE1 rfl (Bs.nil _)⟩
    · have g3 : e' = l := by simpa using g3
      rw [uk5_o hy (by omega)] at h
      exact ⟨k, loadI (by kernel_rfl) rfl, f, loadI (by kernel_rfl) rfl, t, loadI (by kernel_rfl) rfl, a, loadI (by kernel_rfl) rfl, y, loadI (by kernel_rfl) rfl, Mem.le_trans hE0 hE1, h k f t a y b2 l2 c2 ys 0 E1 hE1 rfl hB2⟩
theorem lp24_5 {b : Option Addr} {l c : Nat} {zs : List Int} {p k f t a y : Int} {E0 : Mem} {cap tot : Nat} (hc : 5 ≤ cap) (ht : cap ≤ tot) (hB : Bs E b l c zs) (hl : l ≤ 100000) (hE0 : Mem.le E0 E) (h : ∀ (k1 f1 t1 a1 y1 : Int) (b1 : Option Addr) (l1 c1 : Nat) (ys : List Int) (e1 : Int) (E' : Mem), Mem.le E E' → Hyp (uk5 zs p k f t a y = ([k1, f1, t1, a1, y1], ys, e1)) → Bs E' b1 l1 c1 ys → K (.tup [.agg [I k1, I f1, I t1, I a1, I y1, L b1 l1 c1], I e1]) E') :
    Lp WH 6 Try.f24 [1, 1, 1, 0, 1, 0] 0 (pubK E0 K) (sh24_5 b l c cap tot p k f t a y E) :=
  Lp_ind okWH (fun _ : Unit => sh24_5 b l c cap tot p k f t a y E) (fun _ => 0) (fun _ _ => rnd24_5 hc ht hB hl hE0 h) ()
theorem rnd24_4 {b : Option Addr} {l c : Nat} {zs : List Int} {p k f t a : Int} {E0 : Mem} {cap tot : Nat} (hc : 4 ≤ cap) (ht : cap ≤ tot) (hB : Bs E b l c zs) (hl : l ≤ 100000) (hE0 : Mem.le E0 E) (h : ∀ (k1 f1 t1 a1 y1 : Int) (b1 : Option Addr) (l1 c1 : Nat) (ys : List Int) (e1 : Int) (E' : Mem), Mem.le E E' → Hyp (uk4 zs p k f t a = ([k1, f1, t1, a1, y1], ys, e1)) → Bs E' b1 l1 c1 ys → K (.tup [.agg [I k1, I f1, I t1, I a1, I y1, L b1 l1 c1], I e1]) E')
    (ih : ∀ (p' v : Int) (cap' tot' : Nat) (E1 : Mem), 5 ≤ cap' → cap' ≤ tot' → Mem.le E E1 → (∀ (k1 f1 t1 a1 y1 : Int) (b1 : Option Addr) (l1 c1 : Nat) (ys : List Int) (e1 : Int) (E' : Mem), Mem.le E1 E' → Hyp (uk5 zs p' k f t a v = ([k1, f1, t1, a1, y1], ys, e1)) → Bs E' b1 l1 c1 ys → K (.tup [.agg [I k1, I f1, I t1, I a1, I y1, L b1 l1 c1], I e1]) E') → Lp WH 6 Try.f24 [1, 1, 1, 0, 1, 0] 0 (pubK E0 K) (sh24_5 b l c cap' tot' p' k f t a v E1)) :
    Rnd WH 6 Try.f24 [1, 1, 1, 0, 1, 0] 0 (pubK E0 K) (sh24_4 b l c cap tot p k f t a E) := by
  refine same (by kernel_rfl) (?_ : 
      ∃ (zs : List Int),
        ((zs = [] ∨ E (Value.slice b l c) (List.map (Value.int IntKind.u8) zs)) ∧
            List.length zs = l ∧ l ≤ c ∧ (∀ (z : Int), List.Mem z zs → 0 ≤ z ∧ z ≤ 255) ∧ (b = none → zs = [])) ∧
          l ≤ 100000 ∧
            ∀ (n end' e : Int) (E' : Mem),
              Mem.le E E' →
                Hyp (rd zs p = (n, end', e)) →
                  Mem.le E E' ∧
                    bif e != 0 then
                      Mem.le E0 E' ∧
                        K
                          (SV.tup
                            [SV.agg
                                [SV.raw (Value.int IntKind.i64 0), SV.raw (Value.int IntKind.i64 0),
                                  SV.raw (Value.int IntKind.i64 0), SV.raw (Value.int IntKind.i64 0),
                                  SV.raw (Value.int IntKind.i64 0), SV.raw (Value.slice none 0 0)],
                              SV.raw (Value.int IntKind.i64 e)])
                          E'
                    else
                      bif decide (n ≥ 0) then
                        Mem.le E' E' ∧
                          bif !bif true then decide (n ≤ 2000000) else false then
                            Mem.le E0 E' ∧
                              K
                                (SV.tup
                                  [SV.agg
                                      [SV.raw (Value.int IntKind.i64 0), SV.raw (Value.int IntKind.i64 0),
                                        SV.raw (Value.int IntKind.i64 0), SV.raw (Value.int IntKind.i64 0),
                                        SV.raw (Value.int IntKind.i64 0), SV.raw (Value.slice none 0 0)],
                                    SV.raw (Value.int IntKind.i64 3)])
                                E'
                          else
                            4 ≤ 4 ∧
                              cap * 1 ≤ tot ∧
                                4 ≤ cap ∧
                                  ∀ (cap' tot' : Nat),
                                    5 ≤ cap' →
                                      cap' * 1 ≤ tot' →
                                        Lp WH 6 Try.f24 [1, 1, 1, 0, 1, 0] 0 (pubK E0 K)
                                          {
                                            fr :=
                                              [some (SV.raw (Value.slice b l c)), none, some (SV.loc 0 0), none,
                                                some (SV.slc 3 0 5 cap'), some (SV.raw (Value.int IntKind.i64 end')),
                                                some (SV.raw (Value.int IntKind.i64 5)), none, none, none, none, none, none,
                                                none, none, none, none, none, none, none, none, none, none, none, none, none,
                                                none, none, none, none, none, none, none, none, none, none, none, none, none,
                                                none, none, none, none, none, none, none, none, none, none, none, none, none,
                                                none, none, none, none, none, none, none, none, none, none, none, none, none,
                                                none, none, none, none, none, none, none, none],
                                            bx :=
                                              [{ elem := 24,
                                                  row :=
                                                    Row.lst
                                                      [SV.raw (Value.int IntKind.i64 0), SV.raw (Value.int IntKind.i64 0),
                                                        SV.raw (Value.int IntKind.i64 0), SV.raw (Value.int IntKind.i64 0),
                                                        SV.raw (Value.int IntKind.i64 0), SV.raw (Value.slice none 0 0)],
                                                  total := 6, own := true },
                                                { elem := 3, row := Row.lst [], total := 0, own := false },
                                                { elem := 3, row := Row.lst [SV.raw (Value.int IntKind.i64 n)], total := 1,
                                                  own := true },
                                                { elem := 3,
                                                  row :=
                                                    Row.vals
                                                      [Value.int IntKind.i64 k, Value.int IntKind.i64 f,
                                                        Value.int IntKind.i64 t, Value.int IntKind.i64 a,
                                                        Value.int IntKind.i64 n],
                                                  total := tot', own := true }],
                                            E := E' }
                      else
                        Mem.le E' E' ∧
                          Mem.le E0 E' ∧
                            K
                              (SV.tup
                                [SV.agg
                                    [SV.raw (Value.int IntKind.i64 0), SV.raw (Value.int IntKind.i64 0),
                                      SV.raw (Value.int IntKind.i64 0), SV.raw (Value.int IntKind.i64 0),
                                      SV.raw (Value.int IntKind.i64 0), SV.raw (Value.slice none 0 0)],
                                  SV.raw (Value.int IntKind.i64 3)])
                              E')
  refine ⟨zs, hB, hl, fun n e' e2 E1 hE1 hy => ⟨hE1, ?_⟩⟩
  have hy : rd zs p = (n, e', e2) := hy
  refine condC (fun g2 => ?_) (fun g2 => ?_)
  · have g2 : e2 ≠ 0 := by simpa using g2
    rw [uk4_e (fld_e hy g2) g2] at h
    exact ⟨Mem.le_trans hE0 hE1, h 0 0 0 0 0 none 0 0 [] e2 E1 hE1 rfl (Bs.nil _)⟩
  · have g2 : e2 = 0 := by simpa using g2
    subst g2
    have no : ¬ ((0) ≤ n ∧ n ≤ 2000000) → K (.tup [.agg [I 0, I 0, I 0, I 0, I 0, L none 0 0], I 3]) E1 := fun q => by
      rw [uk4_e (fld_r hy q) (by omega)] at h
      exact h 0 0 0 0 0 none 0 0 [] 3 E1 hE1 rfl (Bs.nil _)
    refine condC (fun g3 => ?_) (fun g3 => ?_)
    · have g3 : (0) ≤ n := by simpa using g3
      refine ⟨Mem.le_refl _, condC (fun g4 => ?_) (fun g4 => ?_)⟩
      · exact ⟨Mem.le_trans hE0 hE1, no (by simp at g4; omega)⟩
      · have g4 : n ≤ 2000000 := by simpa using g4
        refine ⟨Nat.le_refl _, by omega, hc, ?_⟩
        intro cap' tot' q1 q2
        refine Lp_re [some 0, some 3] (ih e' n cap' tot' E1 q1 (by omega) hE1 ?_) ⟨⟨Nat.zero_le _, Nat.zero_le _, fun j h => absurd h (Nat.not_lt_zero _)⟩, rfl, (by repeat' first | exact True.intro | refine And.intro (Or.inl rfl) ?_), (by repeat' first | exact True.intro | exact rfl | exact Or.inl rfl | exact Nat.succ_pos _ | refine And.intro ?_ ?_), (by show List.Nodup [0, 3]; decide), Mem.le_refl _⟩
        rw [uk4_o (fld_o hy ⟨g3, g4⟩)] at h
        exact fun k1 f1 t1 a1 y1 b1 l1 c1 ys e1 E2 hE2 => h k1 f1 t1 a1 y1 b1 l1 c1 ys e1 E2 (Mem.le_trans hE1 hE2)
    · have g3 : ¬ (0) ≤ n := by simpa using g3
      exact ⟨Mem.le_refl _, Mem.le_trans hE0 hE1, no (fun q => g3 q.1)⟩
theorem lp24_4 {b : Option Addr} {l c : Nat} {zs : List Int} {p k f t a : Int} {E0 : Mem} {cap tot : Nat} (hc : 4 ≤ cap) (ht : cap ≤ tot) (hB : Bs E b l c zs) (hl : l ≤ 100000) (hE0 : Mem.le E0 E) (h : ∀ (k1 f1 t1 a1 y1 : Int) (b1 : Option Addr) (l1 c1 : Nat) (ys : List Int) (e1 : Int) (E' : Mem), Mem.le E E' → Hyp (uk4 zs p k f t a = ([k1, f1, t1, a1, y1], ys, e1)) → Bs E' b1 l1 c1 ys → K (.tup [.agg [I k1, I f1, I t1, I a1, I y1, L b1 l1 c1], I e1]) E') :
    Lp WH 6 Try.f24 [1, 1, 1, 0, 1, 0] 0 (pubK E0 K) (sh24_4 b l c cap tot p k f t a E) :=
  Lp_ind okWH (fun _ : Unit => sh24_4 b l c cap tot p k f t a E) (fun _ => 0) (fun _ _ => rnd24_4 hc ht hB hl hE0 h (fun p' v cap' tot' E1 q1 q2 hE1 h1 => lp24_5 q1 q2 (hB.mono hE1) hl (Mem.le_trans hE0 hE1) h1)) ()
theorem rnd24_3 {b : Option Addr} {l c : Nat} {zs : List Int} {p k f t : Int} {E0 : Mem} {cap tot : Nat} (hc : 3 ≤ cap) (ht : cap ≤ tot) (hB : Bs E b l c zs) (hl : l ≤ 100000) (hE0 : Mem.le E0 E) (h : ∀ (k1 f1 t1 a1 y1 : Int) (b1 : Option Addr) (l1 c1 : Nat) (ys : List Int) (e1 : Int) (E' : Mem), Mem.le E E' → Hyp (uk3 zs p k f t = ([k1, f1, t1, a1, y1], ys, e1)) → Bs E' b1 l1 c1 ys → K (.tup [.agg [I k1, I f1, I t1, I a1, I y1, L b1 l1 c1], I e1]) E')
    (ih : ∀ (p' v : Int) (cap' tot' : Nat) (E1 : Mem), 4 ≤ cap' → cap' ≤ tot' → Mem.le E E1 → (∀ (k1 f1 t1 a1 y1 : Int) (b1 : Option Addr) (l1 c1 : Nat) (ys : List Int) (e1 : Int) (E' : Mem), Mem.le E1 E' → Hyp (uk4 zs p' k f t v = ([k1, f1, t1, a1, y1], ys, e1)) → Bs E' b1 l1 c1 ys → K (.tup [.agg [I k1, I f1, I t1, I a1, I y1, L b1 l1 c1], I e1]) E') → Lp WH 6 Try.f24 [1, 1, 1, 0, 1, 0] 0 (pubK E0 K) (sh24_4 b l c cap' tot' p' k f t v E1)) :
    Rnd WH 6 Try.f24 [1, 1, 1, 0, 1, 0] 0 (pubK E0 K) (sh24_3 b l c cap tot p k f t E) := by
  refine same (by kernel_rfl) (?_ : 
      ∃ (zs : List Int),
        ((zs = [] ∨ E (Value.slice b l c) (List.map (Value.int IntKind.u8) zs)) ∧
            List.length zs = l ∧ l ≤ c ∧ (∀ (z : Int), List.Mem z zs → 0 ≤ z ∧ z ≤ 255) ∧ (b = none → zs = [])) ∧
          l ≤ 100000 ∧
            ∀ (n end' e : Int) (E' : Mem),
              Mem.le E E' →
                Hyp (rd zs p = (n, end', e)) →
                  Mem.le E E' ∧
                    bif e != 0 then
                      Mem.le E0 E' ∧
                        K
                          (SV.tup
                            [SV.agg
                                [SV.raw (Value.int IntKind.i64 0), SV.raw (Value.int IntKind.i64 0),
                                  SV.raw (Value.int IntKind.i64 0), SV.raw (Value.int IntKind.i64 0),
                                  SV.raw (Value.int IntKind.i64 0), SV.raw (Value.slice none 0 0)],
                              SV.raw (Value.int IntKind.i64 e)])
                          E'
                    else
                      bif decide (n ≥ 0) then
                        Mem.le E' E' ∧
                          bif !bif true then decide (n ≤ 1000000000) else false then
                            Mem.le E0 E' ∧
                              K
                                (SV.tup
                                  [SV.agg
                                      [SV.raw (Value.int IntKind.i64 0), SV.raw (Value.int IntKind.i64 0),
                                        SV.raw (Value.int IntKind.i64 0), SV.raw (Value.int IntKind.i64 0),
                                        SV.raw (Value.int IntKind.i64 0), SV.raw (Value.slice none 0 0)],
                                    SV.raw (Value.int IntKind.i64 3)])
                                E'
                          else
                            3 ≤ 3 ∧
                              cap * 1 ≤ tot ∧
                                3 ≤ cap ∧
                                  ∀ (cap' tot' : Nat),
                                    4 ≤ cap' →
                                      cap' * 1 ≤ tot' →
                                        Lp WH 6 Try.f24 [1, 1, 1, 0, 1, 0] 0 (pubK E0 K)
                                          {
                                            fr :=
                                              [some (SV.raw (Value.slice b l c)), none, some (SV.loc 0 0), none,
                                                some (SV.slc 3 0 4 cap'), some (SV.raw (Value.int IntKind.i64 end')),
                                                some (SV.raw (Value.int IntKind.i64 4)), none, none, none, none, none, none,
                                                none, none, none, none, none, none, none, none, none, none, none, none, none,
                                                none, none, none, none, none, none, none, none, none, none, none, none, none,
                                                none, none, none, none, none, none, none, none, none, none, none, none, none,
                                                none, none, none, none, none, none, none, none, none, none, none, none, none,
                                                none, none, none, none, none, none, none, none],
                                            bx :=
                                              [{ elem := 24,
                                                  row :=
                                                    Row.lst
                                                      [SV.raw (Value.int IntKind.i64 0), SV.raw (Value.int IntKind.i64 0),
                                                        SV.raw (Value.int IntKind.i64 0), SV.raw (Value.int IntKind.i64 0),
                                                        SV.raw (Value.int IntKind.i64 0), SV.raw (Value.slice none 0 0)],
                                                  total := 6, own := true },
                                                { elem := 3, row := Row.lst [], total := 0, own := false },
                                                { elem := 3, row := Row.lst [SV.raw (Value.int IntKind.i64 n)], total := 1,
                                                  own := true },
                                                { elem := 3,
                                                  row :=
                                                    Row.vals
                                                      [Value.int IntKind.i64 k, Value.int IntKind.i64 f,
                                                        Value.int IntKind.i64 t, Value.int IntKind.i64 n],
                                                  total := tot', own := true }],
                                            E := E' }
                      else
                        Mem.le E' E' ∧
                          Mem.le E0 E' ∧
                            K
                              (SV.tup
                                [SV.agg
                                    [SV.raw (Value.int IntKind.i64 0), SV.raw (Value.int IntKind.i64 0),
                                      SV.raw (Value.int IntKind.i64 0), SV.raw (Value.int IntKind.i64 0),
                                      SV.raw (Value.int IntKind.i64 0), SV.raw (Value.slice none 0 0)],
                                  SV.raw (Value.int IntKind.i64 3)])
                              E')
  refine ⟨zs, hB, hl, fun n e' e2 E1 hE1 hy => ⟨hE1, ?_⟩⟩
  have hy : rd zs p = (n, e', e2) := hy
  refine condC (fun g2 => ?_) (fun g2 => ?_)
  · have g2 : e2 ≠ 0 := by simpa using g2
    rw [uk3_e (fld_e hy g2) g2] at h
    exact ⟨Mem.le_trans hE0 hE1, h 0 0 0 0 0 none 0 0 [] e2 E1 hE1 rfl (Bs.nil _)⟩
  · have g2 : e2 = 0 := by simpa using g2
    subst g2
    have no : ¬ ((0) ≤ n ∧ n ≤ 1000000000) → K (.tup [.agg [I 0, I 0, I 0, I 0, I 0, L none 0 0], I 3]) E1 := fun q => by
      rw [uk3_e (fld_r hy q) (by omega)] at h
      exact h 0 0 0 0 0 none 0 0 [] 3 E1 hE1 rfl (Bs.nil _)
    refine condC (fun g3 => ?_) (fun g3 => ?_)
    · have g3 : (0) ≤ n := by simpa using g3
      refine ⟨Mem.le_refl _, condC (fun g4 => ?_) (fun g4 => ?_)⟩
      · exact ⟨Mem.le_trans hE0 hE1, no (by simp at g4; omega)⟩
      · have g4 : n ≤ 1000000000 := by simpa using g4
        refine ⟨Nat.le_refl _, by omega, hc, ?_⟩
        intro cap' tot' q1 q2
        refine Lp_re [some 0, some 3] (ih e' n cap' tot' E1 q1 (by omega) hE1 ?_) ⟨⟨Nat.zero_le _, Nat.zero_le _, fun j h => absurd h (Nat.not_lt_zero _)⟩, rfl, (by repeat' first | exact True.intro | refine And.intro (Or.inl rfl) ?_), (by repeat' first | exact True.intro | exact rfl | exact Or.inl rfl | exact Nat.succ_pos _ | refine And.intro ?_ ?_), (by show List.Nodup [0, 3]; decide), Mem.le_refl _⟩
        rw [uk3_o (fld_o hy ⟨g3, g4⟩)] at h
        exact fun k1 f1 t1 a1 y1 b1 l1 c1 ys e1 E2 hE2 => h k1 f1 t1 a1 y1 b1 l1 c1 ys e1 E2 (Mem.le_trans hE1 hE2)
    · have g3 : ¬ (0) ≤ n := by simpa using g3
      exact ⟨Mem.le_refl _, Mem.le_trans hE0 hE1, no (fun q => g3 q.1)⟩
theorem lp24_3 {b : Option Addr} {l c : Nat} {zs : List Int} {p k f t : Int} {E0 : Mem} {cap tot : Nat} (hc : 3 ≤ cap) (ht : cap ≤ tot) (hB : Bs E b l c zs) (hl : l ≤ 100000) (hE0 : Mem.le E0 E) (h : ∀ (k1 f1 t1 a1 y1 : Int) (b1 : Option Addr) (l1 c1 : Nat) (ys : List Int) (e1 : Int) (E' : Mem), Mem.le E E' → Hyp (uk3 zs p k f t = ([k1, f1, t1, a1, y1], ys, e1)) → Bs E' b1 l1 c1 ys → K (.tup [.agg [I k1, I f1, I t1, I a1, I y1, L b1 l1 c1], I e1]) E') :
    Lp WH 6 Try.f24 [1, 1, 1, 0, 1, 0] 0 (pubK E0 K) (sh24_3 b l c cap tot p k f t E) :=
  Lp_ind okWH (fun _ : Unit => sh24_3 b l c cap tot p k f t E) (fun _ => 0) (fun _ _ => rnd24_3 hc ht hB hl hE0 h (fun p' v cap' tot' E1 q1 q2 hE1 h1 => lp24_4 q1 q2 (hB.mono hE1) hl (Mem.le_trans hE0 hE1) h1)) ()
theorem rnd24_2 {b : Option Addr} {l c : Nat} {zs : List Int} {p k f : Int} {E0 : Mem} {cap tot : Nat} (hc : 2 ≤ cap) (ht : cap ≤ tot) (hB : Bs E b l c zs) (hl : l ≤ 100000) (hE0 : Mem.le E0 E) (h : ∀ (k1 f1 t1 a1 y1 : Int) (b1 : Option Addr) (l1 c1 : Nat) (ys : List Int) (e1 : Int) (E' : Mem), Mem.le E E' → Hyp (uk2 zs p k f = ([k1, f1, t1, a1, y1], ys, e1)) → Bs E' b1 l1 c1 ys → K (.tup [.agg [I k1, I f1, I t1, I a1, I y1, L b1 l1 c1], I e1]) E')
    (ih : ∀ (p' v : Int) (cap' tot' : Nat) (E1 : Mem), 3 ≤ cap' → cap' ≤ tot' → Mem.le E E1 → (∀ (k1 f1 t1 a1 y1 : Int) (b1 : Option Addr) (l1 c1 : Nat) (ys : List Int) (e1 : Int) (E' : Mem), Mem.le E1 E' → Hyp (uk3 zs p' k f v = ([k1, f1, t1, a1, y1], ys, e1)) → Bs E' b1 l1 c1 ys → K (.tup [.agg [I k1, I f1, I t1, I a1, I y1, L b1 l1 c1], I e1]) E') → Lp WH 6 Try.f24 [1, 1, 1, 0, 1, 0] 0 (pubK E0 K) (sh24_3 b l c cap' tot' p' k f v E1)) :
    Rnd WH 6 Try.f24 [1, 1, 1, 0, 1, 0] 0 (pubK E0 K) (sh24_2 b l c cap tot p k f E) := by
  refine same (by kernel_rfl) (?_ : 
      ∃ (zs : List Int),
        ((zs = [] ∨ E (Value.slice b l c) (List.map (Value.int IntKind.u8) zs)) ∧
            List.length zs = l ∧ l ≤ c ∧ (∀ (z : Int), List.Mem z zs → 0 ≤ z ∧ z ≤ 255) ∧ (b = none → zs = [])) ∧
          l ≤ 100000 ∧
            ∀ (n end' e : Int) (E' : Mem),
              Mem.le E E' →
                Hyp (rd zs p = (n, end', e)) →
                  Mem.le E E' ∧
                    bif e != 0 then
                      Mem.le E0 E' ∧
                        K
                          (SV.tup
                            [SV.agg
                                [SV.raw (Value.int IntKind.i64 0), SV.raw (Value.int IntKind.i64 0),
                                  SV.raw (Value.int IntKind.i64 0), SV.raw (Value.int IntKind.i64 0),
                                  SV.raw (Value.int IntKind.i64 0), SV.raw (Value.slice none 0 0)],
                              SV.raw (Value.int IntKind.i64 e)])
                          E'
                    else
                      bif decide (n ≥ -1) then
                        Mem.le E' E' ∧
                          bif !bif true then decide (n ≤ 59) else false then
                            Mem.le E0 E' ∧
                              K
                                (SV.tup
                                  [SV.agg
                                      [SV.raw (Value.int IntKind.i64 0), SV.raw (Value.int IntKind.i64 0),
                                        SV.raw (Value.int IntKind.i64 0), SV.raw (Value.int IntKind.i64 0),
                                        SV.raw (Value.int IntKind.i64 0), SV.raw (Value.slice none 0 0)],
                                    SV.raw (Value.int IntKind.i64 3)])
                                E'
                          else
                            2 ≤ 2 ∧
                              cap * 1 ≤ tot ∧
                                2 ≤ cap ∧
                                  ∀ (cap' tot' : Nat),
                                    3 ≤ cap' →
                                      cap' * 1 ≤ tot' →
                                        Lp WH 6 Try.f24 [1, 1, 1, 0, 1, 0] 0 (pubK E0 K)
                                          {
                                            fr :=
                                              [some (SV.raw (Value.slice b l c)), none, some (SV.loc 0 0), none,
                                                some (SV.slc 3 0 3 cap'), some (SV.raw (Value.int IntKind.i64 end')),
                                                some (SV.raw (Value.int IntKind.i64 3)), none, none, none, none, none, none,
                                                none, none, none, none, none, none, none, none, none, none, none, none, none,
                                                none, none, none, none, none, none, none, none, none, none, none, none, none,
                                                none, none, none, none, none, none, none, none, none, none, none, none, none,
                                                none, none, none, none, none, none, none, none, none, none, none, none, none,
                                                none, none, none, none, none, none, none, none],
                                            bx :=
                                              [{ elem := 24,
                                                  row :=
                                                    Row.lst
                                                      [SV.raw (Value.int IntKind.i64 0), SV.raw (Value.int IntKind.i64 0),
                                                        SV.raw (Value.int IntKind.i64 0), SV.raw (Value.int IntKind.i64 0),
                                                        SV.raw (Value.int IntKind.i64 0), SV.raw (Value.slice none 0 0)],
                                                  total := 6, own := true },
                                                { elem := 3, row := Row.lst [], total := 0, own := false },
                                                { elem := 3, row := Row.lst [SV.raw (Value.int IntKind.i64 n)], total := 1,
                                                  own := true },
                                                { elem := 3,
                                                  row :=
                                                    Row.vals
                                                      [Value.int IntKind.i64 k, Value.int IntKind.i64 f,
                                                        Value.int IntKind.i64 n],
                                                  total := tot', own := true }],
                                            E := E' }
                      else
                        Mem.le E' E' ∧
                          Mem.le E0 E' ∧
                            K
                              (SV.tup
                                [SV.agg
                                    [SV.raw (Value.int IntKind.i64 0), SV.raw (Value.int IntKind.i64 0),
                                      SV.raw (Value.int IntKind.i64 0), SV.raw (Value.int IntKind.i64 0),
                                      SV.raw (Value.int IntKind.i64 0), SV.raw (Value.slice none 0 0)],
                                  SV.raw (Value.int IntKind.i64 3)])
                              E')
  refine ⟨zs, hB, hl, fun n e' e2 E1 hE1 hy => ⟨hE1, ?_⟩⟩
  have hy : rd zs p = (n, e', e2) := hy
  refine condC (fun g2 => ?_) (fun g2 => ?_)
  · have g2 : e2 ≠ 0 := by simpa using g2
    rw [uk2_e (fld_e hy g2) g2] at h
    exact ⟨Mem.le_trans hE0 hE1, h 0 0 0 0 0 none 0 0 [] e2 E1 hE1 rfl (Bs.nil _)⟩
  · have g2 : e2 = 0 := by simpa using g2
    subst g2
    have no : ¬ ((-1) ≤ n ∧ n ≤ 59) → K (.tup [.agg [I 0, I 0, I 0, I 0, I 0, L none 0 0], I 3]) E1 := fun q => by
      rw [uk2_e (fld_r hy q) (by omega)] at h
      exact h 0 0 0 0 0 none 0 0 [] 3 E1 hE1 rfl (Bs.nil _)
    refine condC (fun g3 => ?_) (fun g3 => ?_)
    · have g3 : (-1) ≤ n := by simpa using g3
      refine ⟨Mem.le_refl _, condC (fun g4 => ?_) (fun g4 => ?_)⟩
      · exact ⟨Mem.le_trans hE0 hE1, no (by simp at g4; omega)⟩
      · have g4 : n ≤ 59 := by simpa using g4
        refine ⟨Nat.le_refl _, by omega, hc, ?_⟩
        intro cap' tot' q1 q2
        refine Lp_re [some 0, some 3] (ih e' n cap' tot' E1 q1 (by omega) hE1 ?_) ⟨⟨Nat.zero_le _, Nat.zero_le _, fun j h => absurd h (Nat.not_lt_zero _)⟩, rfl, (by repeat' first | exact True.intro | refine And.intro (Or.inl rfl) ?_), (by repeat' first | exact True.intro | exact rfl | exact Or.inl rfl | exact Nat.succ_pos _ | refine And.intro ?_ ?_), (by show List.Nodup [0, 3]; decide), Mem.le_refl _⟩
        rw [uk2_o (fld_o hy ⟨g3, g4⟩)] at h
        exact fun k1 f1 t1 a1 y1 b1 l1 c1 ys e1 E2 hE2 => h k1 f1 t1 a1 y1 b1 l1 c1 ys e1 E2 (Mem.le_trans hE1 hE2)
    · have g3 : ¬ (-1) ≤ n := by simpa using g3
      exact ⟨Mem.le_refl _, Mem.le_trans hE0 hE1, no (fun q => g3 q.1)⟩
theorem lp24_2 {b : Option Addr} {l c : Nat} {zs : List Int} {p k f : Int} {E0 : Mem} {cap tot : Nat} (hc : 2 ≤ cap) (ht : cap ≤ tot) (hB : Bs E b l c zs) (hl : l ≤ 100000) (hE0 : Mem.le E0 E) (h : ∀ (k1 f1 t1 a1 y1 : Int) (b1 : Option Addr) (l1 c1 : Nat) (ys : List Int) (e1 : Int) (E' : Mem), Mem.le E E' → Hyp (uk2 zs p k f = ([k1, f1, t1, a1, y1], ys, e1)) → Bs E' b1 l1 c1 ys → K (.tup [.agg [I k1, I f1, I t1, I a1, I y1, L b1 l1 c1], I e1]) E') :
    Lp WH 6 Try.f24 [1, 1, 1, 0, 1, 0] 0 (pubK E0 K) (sh24_2 b l c cap tot p k f E) :=
  Lp_ind okWH (fun _ : Unit => sh24_2 b l c cap tot p k f E) (fun _ => 0) (fun _ _ => rnd24_2 hc ht hB hl hE0 h (fun p' v cap' tot' E1 q1 q2 hE1 h1 => lp24_3 q1 q2 (hB.mono hE1) hl (Mem.le_trans hE0 hE1) h1)) ()
theorem rnd24_1 {b : Option Addr} {l c : Nat} {zs : List Int} {p k : Int} {E0 : Mem} {cap tot : Nat} (hc : 1 ≤ cap) (ht : cap ≤ tot) (hB : Bs E b l c zs) (hl : l ≤ 100000) (hE0 : Mem.le E0 E) (h : ∀ (k1 f1 t1 a1 y1 : Int) (b1 : Option Addr) (l1 c1 : Nat) (ys : List Int) (e1 : Int) (E' : Mem), Mem.le E E' → Hyp (uk1 zs p k = ([k1, f1, t1, a1, y1], ys, e1)) → Bs E' b1 l1 c1 ys → K (.tup [.agg [I k1, I f1, I t1, I a1, I y1, L b1 l1 c1], I e1]) E')
    (ih : ∀ (p' v : Int) (cap' tot' : Nat) (E1 : Mem), 2 ≤ cap' → cap' ≤ tot' → Mem.le E E1 → (∀ (k1 f1 t1 a1 y1 : Int) (b1 : Option Addr) (l1 c1 : Nat) (ys : List Int) (e1 : Int) (E' : Mem), Mem.le E1 E' → Hyp (uk2 zs p' k v = ([k1, f1, t1, a1, y1], ys, e1)) → Bs E' b1 l1 c1 ys → K (.tup [.agg [I k1, I f1, I t1, I a1, I y1, L b1 l1 c1], I e1]) E') → Lp WH 6 Try.f24 [1, 1, 1, 0, 1, 0] 0 (pubK E0 K) (sh24_2 b l c cap' tot' p' k v E1)) :
    Rnd WH 6 Try.f24 [1, 1, 1, 0, 1, 0] 0 (pubK E0 K) (sh24_1 b l c cap tot p k E) := by
  refine same (by kernel_rfl) (?_ : 
      ∃ (zs : List Int),
        ((zs = [] ∨ E (Value.slice b l c) (List.map (Value.int IntKind.u8) zs)) ∧
            List.length zs = l ∧ l ≤ c ∧ (∀ (z : Int), List.Mem z zs → 0 ≤ z ∧ z ≤ 255) ∧ (b = none → zs = [])) ∧
          l ≤ 100000 ∧
            ∀ (n end' e : Int) (E' : Mem),
              Mem.le E E' →
                Hyp (rd zs p = (n, end', e)) →
                  Mem.le E E' ∧
                    bif e != 0 then
                      Mem.le E0 E' ∧
                        K
                          (SV.tup
                            [SV.agg
                                [SV.raw (Value.int IntKind.i64 0), SV.raw (Value.int IntKind.i64 0),
                                  SV.raw (Value.int IntKind.i64 0), SV.raw (Value.int IntKind.i64 0),
                                  SV.raw (Value.int IntKind.i64 0), SV.raw (Value.slice none 0 0)],
                              SV.raw (Value.int IntKind.i64 e)])
                          E'
                    else
                      bif decide (n ≥ 0) then
                        Mem.le E' E' ∧
                          bif !bif true then decide (n ≤ 59) else false then
                            Mem.le E0 E' ∧
                              K
                                (SV.tup
                                  [SV.agg
                                      [SV.raw (Value.int IntKind.i64 0), SV.raw (Value.int IntKind.i64 0),
                                        SV.raw (Value.int IntKind.i64 0), SV.raw (Value.int IntKind.i64 0),
                                        SV.raw (Value.int IntKind.i64 0), SV.raw (Value.slice none 0 0)],
                                    SV.raw (Value.int IntKind.i64 3)])
                                E'
                          else
                            1 ≤ 1 ∧
                              cap * 1 ≤ tot ∧
                                1 ≤ cap ∧
                                  ∀ (cap' tot' : Nat),
                                    2 ≤ cap' →
                                      cap' * 1 ≤ tot' →
                                        Lp WH 6 Try.f24 [1, 1, 1, 0, 1, 0] 0 (pubK E0 K)
                                          {
                                            fr :=
                                              [some (SV.raw (Value.slice b l c)), none, some (SV.loc 0 0), none,
                                                some (SV.slc 3 0 2 cap'), some (SV.raw (Value.int IntKind.i64 end')),
                                                some (SV.raw (Value.int IntKind.i64 2)), none, none, none, none, none, none,
                                                none, none, none, none, none, none, none, none, none, none, none, none, none,
                                                none, none, none, none, none, none, none, none, none, none, none, none, none,
                                                none, none, none, none, none, none, none, none, none, none, none, none, none,
                                                none, none, none, none, none, none, none, none, none, none, none, none, none,
                                                none, none, none, none, none, none, none, none],
                                            bx :=
                                              [{ elem := 24,
                                                  row :=
                                                    Row.lst
                                                      [SV.raw (Value.int IntKind.i64 0), SV.raw (Value.int IntKind.i64 0),
                                                        SV.raw (Value.int IntKind.i64 0), SV.raw (Value.int IntKind.i64 0),
                                                        SV.raw (Value.int IntKind.i64 0), SV.raw (Value.slice none 0 0)],
                                                  total := 6, own := true },
                                                { elem := 3, row := Row.lst [], total := 0, own := false },
                                                { elem := 3, row := Row.lst [SV.raw (Value.int IntKind.i64 n)], total := 1,
                                                  own := true },
                                                { elem := 3,
                                                  row :=
                                                    Row.lst
                                                      [SV.raw (Value.int IntKind.i64 k), SV.raw (Value.int IntKind.i64 n)],
                                                  total := tot', own := true }],
                                            E := E' }
                      else
                        Mem.le E' E' ∧
                          Mem.le E0 E' ∧
                            K
                              (SV.tup
                                [SV.agg
                                    [SV.raw (Value.int IntKind.i64 0), SV.raw (Value.int IntKind.i64 0),
                                      SV.raw (Value.int IntKind.i64 0), SV.raw (Value.int IntKind.i64 0),
                                      SV.raw (Value.int IntKind.i64 0), SV.raw (Value.slice none 0 0)],
                                  SV.raw (Value.int IntKind.i64 3)])
                              E')
  refine ⟨zs, hB, hl, fun n e' e2 E1 hE1 hy => ⟨hE1, ?_⟩⟩
  have hy : rd zs p = (n, e', e2) := hy
  refine condC (fun g2 => ?_) (fun g2 => ?_)
  · have g2 : e2 ≠ 0 := by simpa using g2
    rw [uk1_e (fld_e hy g2) g2] at h
    exact ⟨Mem.le_trans hE0 hE1, h 0 0 0 0 0 none 0 0 [] e2 E1 hE1 rfl (Bs.nil _)⟩
  · have g2 : e2 = 0 := by simpa using g2
    subst g2
    have no : ¬ ((0) ≤ n ∧ n ≤ 59) → K (.tup [.agg [I 0, I 0, I 0, I 0, I 0, L none 0 0], I 3]) E1 := fun q => by
      rw [uk1_e (fld_r hy q) (by omega)] at h
      exact h 0 0 0 0 0 none 0 0 [] 3 E1 hE1 rfl (Bs.nil _)
    refine condC (fun g3 => ?_) (fun g3 => ?_)
    · have g3 : (0) ≤ n := by simpa using g3
      refine ⟨Mem.le_refl _, condC (fun g4 => ?_) (fun g4 => ?_)⟩
      · exact ⟨Mem.le_trans hE0 hE1, no (by simp at g4; omega)⟩
      · have g4 : n ≤ 59 := by simpa using g4
        refine ⟨Nat.le_refl _, by omega, hc, ?_⟩
        intro cap' tot' q1 q2
        refine Lp_re [some 0, some 3] (ih e' n cap' tot' E1 q1 (by omega) hE1 ?_) ⟨⟨Nat.zero_le _, Nat.zero_le _, fun j h => absurd h (Nat.not_lt_zero _)⟩, rfl, (by repeat' first | exact True.intro | refine And.intro (Or.inl rfl) ?_), (by repeat' first | exact True.intro | exact rfl | exact Or.inl rfl | exact Nat.succ_pos _ | refine And.intro ?_ ?_), (by show List.Nodup [0, 3]; decide), Mem.le_refl _⟩
        rw [uk1_o (fld_o hy ⟨g3, g4⟩)] at h
        exact fun k1 f1 t1 a1 y1 b1 l1 c1 ys e1 E2 hE2 => h k1 f1 t1 a1 y1 b1 l1 c1 ys e1 E2 (Mem.le_trans hE1 hE2)
    · have g3 : ¬ (0) ≤ n := by simpa using g3
      exact ⟨Mem.le_refl _, Mem.le_trans hE0 hE1, no (fun q => g3 q.1)⟩
theorem lp24_1 {b : Option Addr} {l c : Nat} {zs : List Int} {p k : Int} {E0 : Mem} {cap tot : Nat} (hc : 1 ≤ cap) (ht : cap ≤ tot) (hB : Bs E b l c zs) (hl : l ≤ 100000) (hE0 : Mem.le E0 E) (h : ∀ (k1 f1 t1 a1 y1 : Int) (b1 : Option Addr) (l1 c1 : Nat) (ys : List Int) (e1 : Int) (E' : Mem), Mem.le E E' → Hyp (uk1 zs p k = ([k1, f1, t1, a1, y1], ys, e1)) → Bs E' b1 l1 c1 ys → K (.tup [.agg [I k1, I f1, I t1, I a1, I y1, L b1 l1 c1], I e1]) E') :
    Lp WH 6 Try.f24 [1, 1, 1, 0, 1, 0] 0 (pubK E0 K) (sh24_1 b l c cap tot p k E) :=
  Lp_ind okWH (fun _ : Unit => sh24_1 b l c cap tot p k E) (fun _ => 0) (fun _ _ => rnd24_1 hc ht hB hl hE0 h (fun p' v cap' tot' E1 q1 q2 hE1 h1 => lp24_2 q1 q2 (hB.mono hE1) hl (Mem.le_trans hE0 hE1) h1)) ()
theorem rnd24_0 {b : Option Addr} {l c : Nat} {zs : List Int} {p : Int} {E0 : Mem} (hB : Bs E b l c zs) (hl : l ≤ 100000) (hE0 : Mem.le E0 E) (h : ∀ (k1 f1 t1 a1 y1 : Int) (b1 : Option Addr) (l1 c1 : Nat) (ys : List Int) (e1 : Int) (E' : Mem), Mem.le E E' → Hyp (uk0 zs p = ([k1, f1, t1, a1, y1], ys, e1)) → Bs E' b1 l1 c1 ys → K (.tup [.agg [I k1, I f1, I t1, I a1, I y1, L b1 l1 c1], I e1]) E')
    (ih : ∀ (p' v : Int) (cap' tot' : Nat) (E1 : Mem), 1 ≤ cap' → cap' ≤ tot' → Mem.le E E1 → (∀ (k1 f1 t1 a1 y1 : Int) (b1 : Option Addr) (l1 c1 : Nat) (ys : List Int) (e1 : Int) (E' : Mem), Mem.le E1 E' → Hyp (uk1 zs p' v = ([k1, f1, t1, a1, y1], ys, e1)) → Bs E' b1 l1 c1 ys → K (.tup [.agg [I k1, I f1, I t1, I a1, I y1, L b1 l1 c1], I e1]) E') → Lp WH 6 Try.f24 [1, 1, 1, 0, 1, 0] 0 (pubK E0 K) (sh24_1 b l c cap' tot' p' v E1)) :
    Rnd WH 6 Try.f24 [1, 1, 1, 0, 1, 0] 0 (pubK E0 K) (sh24_0 b l c p E) := by
  refine same (by kernel_rfl) (?_ : 
      ∃ (zs : List Int),
        ((zs = [] ∨ E (Value.slice b l c) (List.map (Value.int IntKind.u8) zs)) ∧
            List.length zs = l ∧ l ≤ c ∧ (∀ (z : Int), List.Mem z zs → 0 ≤ z ∧ z ≤ 255) ∧ (b = none → zs = [])) ∧
          l ≤ 100000 ∧
            ∀ (n end' e : Int) (E' : Mem),
              Mem.le E E' →
                Hyp (rd zs p = (n, end', e)) →
                  Mem.le E E' ∧
                    bif e != 0 then
                      Mem.le E0 E' ∧
                        K
                          (SV.tup
                            [SV.agg
                                [SV.raw (Value.int IntKind.i64 0), SV.raw (Value.int IntKind.i64 0),
                                  SV.raw (Value.int IntKind.i64 0), SV.raw (Value.int IntKind.i64 0),
                                  SV.raw (Value.int IntKind.i64 0), SV.raw (Value.slice none 0 0)],
                              SV.raw (Value.int IntKind.i64 e)])
                          E'
                    else
                      bif decide (n ≥ 1) then
                        Mem.le E' E' ∧
                          bif !bif true then decide (n ≤ 4) else false then
                            Mem.le E0 E' ∧
                              K
                                (SV.tup
                                  [SV.agg
                                      [SV.raw (Value.int IntKind.i64 0), SV.raw (Value.int IntKind.i64 0),
                                        SV.raw (Value.int IntKind.i64 0), SV.raw (Value.int IntKind.i64 0),
                                        SV.raw (Value.int IntKind.i64 0), SV.raw (Value.slice none 0 0)],
                                    SV.raw (Value.int IntKind.i64 3)])
                                E'
                          else
                            ∀ (cap' tot' : Nat),
                              1 ≤ cap' →
                                cap' * 1 ≤ tot' →
                                  Lp WH 6 Try.f24 [1, 1, 1, 0, 1, 0] 0 (pubK E0 K)
                                    {
                                      fr :=
                                        [some (SV.raw (Value.slice b l c)), none, some (SV.loc 0 0), none,
                                          some (SV.slc 2 0 1 cap'), some (SV.raw (Value.int IntKind.i64 end')),
                                          some (SV.raw (Value.int IntKind.i64 1)), none, none, none, none, none, none, none,
                                          none, none, none, none, none, none, none, none, none, none, none, none, none, none,
                                          none, none, none, none, none, none, none, none, none, none, none, none, none, none,
                                          none, none, none, none, none, none, none, none, none, none, none, none, none, none,
                                          none, none, none, none, none, none, none, none, none, none, none, none, none, none,
                                          none, none, none],
                                      bx :=
                                        [{ elem := 24,
                                            row :=
                                              Row.lst
                                                [SV.raw (Value.int IntKind.i64 0), SV.raw (Value.int IntKind.i64 0),
                                                  SV.raw (Value.int IntKind.i64 0), SV.raw (Value.int IntKind.i64 0),
                                                  SV.raw (Value.int IntKind.i64 0), SV.raw (Value.slice none 0 0)],
                                            total := 6, own := true },
                                          { elem := 3, row := Row.lst [SV.raw (Value.int IntKind.i64 n)], total := 1,
                                            own := true },
                                          { elem := 3, row := Row.lst [SV.raw (Value.int IntKind.i64 n)], total := tot',
                                            own := true }],
                                      E := E' }
                      else
                        Mem.le E' E' ∧
                          Mem.le E0 E' ∧
                            K
                              (SV.tup
                                [SV.agg
                                    [SV.raw (Value.int IntKind.i64 0), SV.raw (Value.int IntKind.i64 0),
                                      SV.raw (Value.int IntKind.i64 0), SV.raw (Value.int IntKind.i64 0),
                                      SV.raw (Value.int IntKind.i64 0), SV.raw (Value.slice none 0 0)],
                                  SV.raw (Value.int IntKind.i64 3)])
                              E')
  refine ⟨zs, hB, hl, fun n e' e2 E1 hE1 hy => ⟨hE1, ?_⟩⟩
  have hy : rd zs p = (n, e', e2) := hy
  refine condC (fun g2 => ?_) (fun g2 => ?_)
  · have g2 : e2 ≠ 0 := by simpa using g2
    rw [uk0_e (fld_e hy g2) g2] at h
    exact ⟨Mem.le_trans hE0 hE1, h 0 0 0 0 0 none 0 0 [] e2 E1 hE1 rfl (Bs.nil _)⟩
  · have g2 : e2 = 0 := by simpa using g2
    subst g2
    have no : ¬ ((1) ≤ n ∧ n ≤ 4) → K (.tup [.agg [I 0, I 0, I 0, I 0, I 0, L none 0 0], I 3]) E1 := fun q => by
      rw [uk0_e (fld_r hy q) (by omega)] at h
      exact h 0 0 0 0 0 none 0 0 [] 3 E1 hE1 rfl (Bs.nil _)
    refine condC (fun g3 => ?_) (fun g3 => ?_)
    · have g3 : (1) ≤ n := by simpa using g3
      refine ⟨Mem.le_refl _, condC (fun g4 => ?_) (fun g4 => ?_)⟩
      · exact ⟨Mem.le_trans hE0 hE1, no (by simp at g4; omega)⟩
      · have g4 : n ≤ 4 := by simpa using g4
        
        intro cap' tot' q1 q2
        refine Lp_re [some 0, some 2] (ih e' n cap' tot' E1 q1 (by omega) hE1 ?_) ⟨⟨Nat.zero_le _, Nat.zero_le _, fun j h => absurd h (Nat.not_lt_zero _)⟩, rfl, (by repeat' first | exact True.intro | refine And.intro (Or.inl rfl) ?_), (by repeat' first | exact True.intro | exact rfl | exact Or.inl rfl | exact Nat.succ_pos _ | refine And.intro ?_ ?_), (by show List.Nodup [0, 2]; decide), Mem.le_refl _⟩
        rw [uk0_o (fld_o hy ⟨g3, g4⟩)] at h
        exact fun k1 f1 t1 a1 y1 b1 l1 c1 ys e1 E2 hE2 => h k1 f1 t1 a1 y1 b1 l1 c1 ys e1 E2 (Mem.le_trans hE1 hE2)
    · have g3 : ¬ (1) ≤ n := by simpa using g3
      exact ⟨Mem.le_refl _, Mem.le_trans hE0 hE1, no (fun q => g3 q.1)⟩
theorem lp24_0 {b : Option Addr} {l c : Nat} {zs : List Int} {p : Int} {E0 : Mem} (hB : Bs E b l c zs) (hl : l ≤ 100000) (hE0 : Mem.le E0 E) (h : ∀ (k1 f1 t1 a1 y1 : Int) (b1 : Option Addr) (l1 c1 : Nat) (ys : List Int) (e1 : Int) (E' : Mem), Mem.le E E' → Hyp (uk0 zs p = ([k1, f1, t1, a1, y1], ys, e1)) → Bs E' b1 l1 c1 ys → K (.tup [.agg [I k1, I f1, I t1, I a1, I y1, L b1 l1 c1], I e1]) E') :
    Lp WH 6 Try.f24 [1, 1, 1, 0, 1, 0] 0 (pubK E0 K) (sh24_0 b l c p E) :=
  Lp_ind okWH (fun _ : Unit => sh24_0 b l c p E) (fun _ => 0) (fun _ _ => rnd24_0 hB hl hE0 h (fun p' v cap' tot' E1 q1 q2 hE1 h1 => lp24_1 q1 q2 (hB.mono hE1) hl (Mem.le_trans hE0 hE1) h1)) ()
theorem s24 {b1 : Option Addr} {l2 : Nat} {c3 : Nat} {zs : List Int} (h0 : Bs E b1 l2 c3 zs) (h1 : l2 ≤ 100000) (h : ∀ (k1 f1 t1 a1 y1 : Int) (b1 : Option Addr) (l1 c1 : Nat) (ys : List Int) (e1 : Int) (E' : Mem), Mem.le E E' → Hyp (uk0 zs 0 = ([k1, f1, t1, a1, y1], ys, e1)) → Bs E' b1 l1 c1 ys → K (.tup [.agg [I k1, I f1, I t1, I a1, I y1, L b1 l1 c1], I e1]) E') :
    Ent WH 6 Try.f24 [L b1 l2 c3] E K := by
  refine same (by kernel_rfl) (?_ : 
      Lp WH 6 Try.f24 [1, 1, 1, 0, 1, 0] 0 (pubK E K)
        {
          fr :=
            [some (SV.raw (Value.slice b1 l2 c3)), none, some (SV.loc 0 0), none, some (SV.raw (Value.slice none 0 0)),
              some (SV.raw (Value.int IntKind.i64 0)), some (SV.raw (Value.int IntKind.i64 0)), none, none, none, none, none,
              none, none, none, none, none, none, none, none, none, none, none, none, none, none, none, none, none, none,
              none, none, none, none, none, none, none, none, none, none, none, none, none, none, none, none, none, none,
              none, none, none, none, none, none, none, none, none, none, none, none, none, none, none, none, none, none,
              none, none, none, none, none, none, none],
          bx :=
            [{ elem := 24,
                row :=
                  Row.lst
                    [SV.raw (Value.int IntKind.i64 0), SV.raw (Value.int IntKind.i64 0), SV.raw (Value.int IntKind.i64 0),
                      SV.raw (Value.int IntKind.i64 0), SV.raw (Value.int IntKind.i64 0), SV.raw (Value.slice none 0 0)],
                total := 6, own := true }],
          E := E })
  exact Lp_re [some 0] (lp24_0 h0 h1 (Mem.le_refl _) h) ⟨⟨Nat.zero_le _, Nat.zero_le _, fun j h => absurd h (Nat.not_lt_zero _)⟩, rfl, (by repeat' first | exact True.intro | refine And.intro (Or.inl rfl) ?_), (by repeat' first | exact True.intro | exact rfl | exact Or.inl rfl | exact Nat.succ_pos _ | refine And.intro ?_ ?_), (by show List.Nodup [0]; decide), Mem.le_refl _⟩

end Go.Proofs.Ytjlpfhekhpebpaa.WireOwn
