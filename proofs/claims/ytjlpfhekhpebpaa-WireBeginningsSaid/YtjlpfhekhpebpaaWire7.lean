/- The wire package: what its functions answer. -/
import Derived.Test.YtjlpfhekhpebpaaWire6
namespace Go.Proofs.Ytjlpfhekhpebpaa.WireOwn
open Go Go.Sx
set_option maxRecDepth 100000
set_option maxHeartbeats 4000000
set_option linter.unusedVariables false
set_option linter.unusedSimpArgs false
variable {E : Mem} {K : SV → Mem → Prop}
noncomputable def tabP1 : FuncId → List SV → Mem → (SV → Mem → Prop) → Prop := fun f args E K => match f with
  | 15 => d2 args fun x0 x1 => dS x0 fun b1 l2 c3 => dI x1 fun a4 => ∃ (zs : List Int), Bs E b1 l2 c3 zs ∧ l2 ≤ 100000 ∧ (∀ (n end' e : Int) (E' : Mem), Mem.le E E' → Hyp (rd zs a4 = (n, end', e)) → K (.tup [I n, I end', I e]) E')
  | _ => False
theorem tabP1_ok : TabOK Try.prog tabP1 := by
  intro f args E K h
  unfold tabP1 at h
  split at h
  · obtain ⟨x0, x1, rfl, h⟩ := d2_elim h
    obtain ⟨b1, l2, c3, rfl, h⟩ := dS_elim h
    obtain ⟨a4, rfl, h⟩ := dI_elim h
    obtain ⟨zs, g0, g1, h⟩ := h
    exact TabSem.congr (valL_cons rfl (valL_cons rfl rfl)) (Ent.sem okW7 Try.func15 ⟨by kernel_rfl, by kernel_rfl⟩ rfl (s15 g0 g1 h))
  · exact h.elim
noncomputable def tabR1 : FuncId → List SV → Mem → (SV → Mem → Prop) → Prop := fun f args E K => match f with
  | 16 => d2 args fun x0 x1 => dS x0 fun b1 l2 c3 => dI x1 fun a4 => ∃ (zs : List Int), Bs E b1 l2 c3 zs ∧ l2 ≤ 100000 ∧ (∀ (n end' e : Int) (E' : Mem), Mem.le E E' → Hyp (rd zs a4 = (n, end', e)) → K (.tup [I n, I end', I e]) E')
  | 33 => d2 args fun x0 x1 => dS x0 fun b1 l2 c3 => dS x1 fun b4 l5 c6 => ∃ (zs : List Int) (xs : List Int), Bs E b1 l2 c3 zs ∧ Bs E b4 l5 c6 xs ∧ l2 ≤ 100000 ∧ l5 ≤ 100000 ∧ (∀ (b' : Option Addr) (l' c' : Nat) (ys : List Int) (E' : Mem), Mem.le E E' → Hyp (zs ++ xs = ys) → Bs E' b' l' c' ys → K (L b' l' c') E')
  | _ => False
theorem tabR1_ok : TabOK Try.prog tabR1 := by
  intro f args E K h
  unfold tabR1 at h
  split at h
  · obtain ⟨x0, x1, rfl, h⟩ := d2_elim h
    obtain ⟨b1, l2, c3, rfl, h⟩ := dS_elim h
    obtain ⟨a4, rfl, h⟩ := dI_elim h
    obtain ⟨zs, g0, g1, h⟩ := h
    exact TabSem.congr (valL_cons rfl (valL_cons rfl rfl)) (Ent.sem okWA Try.func16 ⟨by kernel_rfl, by kernel_rfl⟩ rfl (s16 g0 g1 h))
  · obtain ⟨x0, x1, rfl, h⟩ := d2_elim h
    obtain ⟨b1, l2, c3, rfl, h⟩ := dS_elim h
    obtain ⟨b4, l5, c6, rfl, h⟩ := dS_elim h
    obtain ⟨zs, xs, g0, g1, g2, g3, h⟩ := h
    exact TabSem.congr (valL_cons rfl (valL_cons rfl rfl)) (Ent.sem okW4 Try.func33 ⟨by kernel_rfl, by kernel_rfl⟩ rfl (s33 g0 g1 g2 g3 h))
  · exact h.elim
noncomputable def WP1 : Cx := { P := Try.prog, inl := fun f => List.contains [30] f, tab := tabP1, isB := fun _ => false, tabB := fun _ _ _ _ _ => False, opt := { unroll := 0, carry := [] }, muts := mutsD }
theorem okWP1 : CxOK WP1 := ⟨tabP1_ok, by kernel_rfl, okInl (by kernel_rfl), fun _ _ _ _ _ h => h.elim⟩
noncomputable def WR1 : Cx := { P := Try.prog, inl := fun f => List.contains [] f, tab := tabR1, isB := fun _ => false, tabB := fun _ _ _ _ _ => False, opt := { unroll := 0, carry := [] }, muts := mutsD }
theorem okWR1 : CxOK WR1 := ⟨tabR1_ok, by kernel_rfl, okInl (by kernel_rfl), fun _ _ _ _ _ h => h.elim⟩

def rdB (zs : List Int) (a : Int) : List Int × Int × Int := match rd zs a with
  | (n, e', e) => if e ≠ 0 then ([], 0, e) else if n < 0 ∨ n > 4000 then ([], 0, 3) else if n > zs.length - e' then ([], 0, 11) else ((zs.drop e'.toNat).take n.toNat, e' + n, 0)
theorem rdF_ok {a : Int} {ws : List Int} : ∀ {k i : Nat} {u n e' : Int}, rdF a ws k i u = (n, e', 0) → okN n ∧ (∃ m : Nat, e' = a + m ∧ i < m ∧ m ≤ ws.length ∧ m ≤ i + k)
  | 0, i, u, n, e', h => by simp [rdF] at h
  | k + 1, i, u, n, e', h => by
    unfold rdF at h
    split at h
    · simp at h
    · rename_i h1
      split at h
      · split at h
        · simp at h
        · obtain ⟨g1, m, g2, g3, g4, g5⟩ := rdF_ok h
          exact ⟨g1, m, g2, by omega, g4, by omega⟩
      · split at h
        · rename_i h3
          simp only [Prod.mk.injEq] at h
          obtain ⟨rfl, rfl, _⟩ := h
          exact ⟨h3.1, i + 1, by omega, by omega, by omega, by omega⟩
        · simp at h
theorem rd_ok {zs : List Int} {a n e' : Int} (h : rd zs a = (n, e', 0)) : okN n ∧ 0 ≤ a ∧ a < e' ∧ e' ≤ zs.length ∧ e' ≤ a + 7 := by
  unfold rd at h
  split at h
  · simp at h
  · rename_i h1
    obtain ⟨g1, m, g2, g3, g4, g5⟩ := rdF_ok h
    rw [List.length_drop] at g4
    exact ⟨g1, by omega, by omega, by omega, by omega⟩
theorem Bs.sub {E E' : Mem} {b b' : Option Addr} {l c lo hi : Nat} {zs : List Int} (h : Bs E b l c zs)
    (hF : ∀ cs, E (.slice b l c) cs → E' (.slice b' (hi - lo) (c - lo)) (List.take ((hi - lo) * 1) (List.drop (lo * 1) cs))) (hN : b'.isNone = b.isNone) (h1 : lo ≤ hi) (h2 : hi ≤ l) : Bs E' b' (hi - lo) (c - lo) ((zs.drop lo).take (hi - lo)) := by
  have hlen := h.2.1
  refine ⟨?_, by rw [List.length_take, List.length_drop, hlen]; omega, by have := h.2.2.1; omega, fun z hz => h.2.2.2.1 z (List.drop_subset _ _ (List.take_subset _ _ hz)), fun e => ?_⟩
  · rcases h.1 with q | q
    · exact .inl (by rw [q]; simp)
    · refine .inr ?_
      have := hF _ q
      rw [Nat.mul_one, Nat.mul_one, ← List.map_drop, ← List.map_take] at this
      exact this
  · have : zs = [] := h.2.2.2.2 (by cases b with | none => rfl | some x => rw [e] at hN; cases hN)
    rw [this]; simp
theorem rdB_e {zs : List Int} {a n e' e : Int} (h : rd zs a = (n, e', e)) (he : e ≠ 0) : rdB zs a = ([], 0, e) := by unfold rdB; rw [h]; exact if_pos he
theorem rdB_r {zs : List Int} {a n e' : Int} (h : rd zs a = (n, e', 0)) (hn : n < 0 ∨ n > 4000) : rdB zs a = ([], 0, 3) := by unfold rdB; rw [h]; exact (if_neg (by simp)).trans (if_pos hn)
theorem rdB_s {zs : List Int} {a n e' : Int} (h : rd zs a = (n, e', 0)) (hn : ¬ (n < 0 ∨ n > 4000)) (h2 : n > zs.length - e') : rdB zs a = ([], 0, 11) := by unfold rdB; rw [h]; exact (if_neg (by simp)).trans ((if_neg hn).trans (if_pos h2))
theorem rdB_o {zs : List Int} {a n e' : Int} (h : rd zs a = (n, e', 0)) (hn : ¬ (n < 0 ∨ n > 4000)) (h2 : ¬ n > zs.length - e') : rdB zs a = ((zs.drop e'.toNat).take n.toNat, e' + n, 0) := by unfold rdB; rw [h]; exact (if_neg (by simp)).trans ((if_neg hn).trans (if_neg h2))
theorem s19 {b1 : Option Addr} {l2 : Nat} {c3 : Nat} {a4 : Int} {zs : List Int} (h0 : Bs E b1 l2 c3 zs) (h1 : l2 ≤ 100000) (h : ∀ (b' : Option Addr) (l' c' : Nat) (ys : List Int) (end' e : Int) (E' : Mem), Mem.le E E' → Hyp (rdB zs a4 = (ys, end', e)) → Bs E' b' l' c' ys → K (.tup [L b' l' c', I end', I e]) E') :
    Ent WP1 6 Try.f19 [L b1 l2 c3, I a4] E K := by
  refine same (by kernel_rfl) (?_ : 
      ∃ (zs : List Int),
        ((zs = [] ∨ E (Value.slice b1 l2 c3) (List.map (Value.int IntKind.u8) zs)) ∧
            List.length zs = l2 ∧ l2 ≤ c3 ∧ (∀ (z : Int), List.Mem z zs → 0 ≤ z ∧ z ≤ 255) ∧ (b1 = none → zs = [])) ∧
          l2 ≤ 100000 ∧
            ∀ (n end' e : Int) (E' : Mem),
              Mem.le E E' →
                Hyp (rd zs a4 = (n, end', e)) →
                  Mem.le E E' ∧
                    bif e != 0 then
                      Mem.le E E' ∧
                        K
                          (SV.tup
                            [SV.raw (Value.slice none 0 0), SV.raw (Value.int IntKind.i64 0),
                              SV.raw (Value.int IntKind.i64 e)])
                          E'
                    else
                      bif decide (n < 0) then
                        Mem.le E E' ∧
                          K
                            (SV.tup
                              [SV.raw (Value.slice none 0 0), SV.raw (Value.int IntKind.i64 0),
                                SV.raw (Value.int IntKind.i64 3)])
                            E'
                      else
                        bif bif false then true else decide (n > 4000) then
                          Mem.le E E' ∧
                            K
                              (SV.tup
                                [SV.raw (Value.slice none 0 0), SV.raw (Value.int IntKind.i64 0),
                                  SV.raw (Value.int IntKind.i64 3)])
                              E'
                        else
                          bif decide (n > IntKind.wrap IntKind.i64 ((↑l2 : Int) - end')) then
                            Mem.le E E' ∧
                              K
                                (SV.tup
                                  [SV.raw (Value.slice none 0 0), SV.raw (Value.int IntKind.i64 0),
                                    SV.raw (Value.int IntKind.i64 11)])
                                E'
                          else
                            req (l2 ≤ c3)
                              (req
                                (0 ≤ IntKind.wrap IntKind.i64 (end' + n) ∧
                                  IntKind.wrap IntKind.i64 (end' + n) ≤ (↑(toN none c3) : Int))
                                (req (0 ≤ end' ∧ end' ≤ (↑(toN (some (IntKind.wrap IntKind.i64 (end' + n))) l2) : Int))
                                  (∀ (base' : Option Addr) (E'_1 : Mem),
                                    Mem.le E' E'_1 →
                                      (∀ (cs : List Value),
                                          E' (Value.slice b1 l2 c3) cs →
                                            E'_1
                                              (Value.slice base'
                                                (toN (some (IntKind.wrap IntKind.i64 (end' + n))) l2 - toN (some end') 0)
                                                (toN none c3 - toN (some end') 0))
                                              (List.take
                                                ((toN (some (IntKind.wrap IntKind.i64 (end' + n))) l2 - toN (some end') 0) *
                                                  1)
                                                (List.drop (toN (some end') 0 * 1) cs))) →
                                        Option.isNone base' = Option.isNone b1 →
                                          bif Option.isNone base' then
                                            Mem.le E'_1 E'_1 ∧
                                              Mem.le E E'_1 ∧
                                                K
                                                  (SV.tup
                                                    [SV.raw (Value.slice none 0 0),
                                                      SV.raw (Value.int IntKind.i64 (IntKind.wrap IntKind.i64 (end' + n))),
                                                      SV.raw (Value.int IntKind.i64 0)])
                                                  E'_1
                                          else
                                            ∃ (cs : List Value),
                                              (cs = [] ∨
                                                  E'_1
                                                    (Value.slice base'
                                                      (toN (some (IntKind.wrap IntKind.i64 (end' + n))) l2 -
                                                        toN (some end') 0)
                                                      (toN none c3 - toN (some end') 0))
                                                    cs) ∧
                                                (toN (some (IntKind.wrap IntKind.i64 (end' + n))) l2 - toN (some end') 0) *
                                                      1 ≤
                                                    List.length cs ∧
                                                  (∀ (x : Value), List.Mem x cs → Value.oneCell' x = true) ∧
                                                    0 ≤ 0 ∧
                                                      0 ≤ 0 ∧
                                                        0 ≤ 0 ∧
                                                          req
                                                            ((0 +
                                                                  (toN (some (IntKind.wrap IntKind.i64 (end' + n))) l2 -
                                                                    toN (some end') 0)) *
                                                                1 ≤
                                                              140737488355328)
                                                            (∀ (cap' tot' : Nat),
                                                              0 +
                                                                    (toN (some (IntKind.wrap IntKind.i64 (end' + n))) l2 -
                                                                      toN (some end') 0) ≤
                                                                  cap' →
                                                                cap' * 1 ≤ tot' →
                                                                  Mem.le E'_1 E'_1 ∧
                                                                    ∀ (base : Option Addr) (E' : Mem),
                                                                      Mem.le E'_1 E' →
                                                                        WinE E' base
                                                                            ([] ++
                                                                              List.take
                                                                                ((toN
                                                                                      (some
                                                                                        (IntKind.wrap IntKind.i64 (end' + n)))
                                                                                      l2 -
                                                                                    toN (some end') 0) *
                                                                                  1)
                                                                                cs) →
                                                                          Mem.le E E' ∧
                                                                            K
                                                                              (SV.tup
                                                                                [SV.raw
                                                                                    (Value.slice
                                                                                      (Option.map
                                                                                        (fun (x : Addr) => Addr.add x 0) base)
                                                                                      (0 +
                                                                                        (toN
                                                                                            (some
                                                                                              (IntKind.wrap IntKind.i64
                                                                                                (end' + n)))
                                                                                            l2 -
                                                                                          toN (some end') 0))
                                                                                      cap'),
                                                                                  SV.raw
                                                                                    (Value.int IntKind.i64
                                                                                      (IntKind.wrap IntKind.i64 (end' + n))),
                                                                                  SV.raw (Value.int IntKind.i64 0)])
                                                                              E')))))
  have hB := h0
  have hlen := hB.2.1
  refine ⟨zs, hB, h1, fun n e' e E1 hE1 hy => ⟨hE1, ?_⟩⟩
  have hy : rd zs a4 = (n, e', e) := hy
  refine condC (fun h2 => ?_) (fun h2 => ?_)
  · exact ⟨hE1, h none 0 0 [] 0 e E1 hE1 (rdB_e hy (by simpa using h2)) (Bs.nil _)⟩
  have h2 : e = 0 := by simpa using h2
  subst h2
  obtain ⟨g1, g2, g3, g4, g5⟩ := rd_ok hy
  refine condC (fun h3 => ?_) (fun h3 => ?_)
  · exact ⟨hE1, h none 0 0 [] 0 3 E1 hE1 (rdB_r hy (.inl (by simpa using h3))) (Bs.nil _)⟩
  have h3 : ¬ n < 0 := by simpa using h3
  refine condC (fun h4 => ?_) (fun h4 => ?_)
  · exact ⟨hE1, h none 0 0 [] 0 3 E1 hE1 (rdB_r hy (.inr (by simpa using h4))) (Bs.nil _)⟩
  have h4 : n ≤ 4000 := by simpa using h4
  rw [wrap_i64 (x := (l2 : Int) - e') (by omega), wrap_i64 (x := e' + n) (by omega)]
  refine condC (fun h5 => ?_) (fun h5 => ?_)
  · exact ⟨hE1, h none 0 0 [] 0 11 E1 hE1 (rdB_s hy (by omega) (by simp at h5; omega)) (Bs.nil _)⟩
  have h5 : n ≤ l2 - e' := by simp at h5; omega
  have hv := rdB_o hy (by omega) (by omega)
  have hc := hB.2.2.1
  refine req_intro hc (req_intro ⟨by omega, by show e' + n ≤ c3; omega⟩ (req_intro ⟨by omega, by show e' ≤ ((e' + n).toNat : Int); omega⟩ ?_))
  intro b5 E5 hE5 hF hN
  have hS : Bs E5 b5 ((e' + n).toNat - e'.toNat) (c3 - e'.toNat) ((zs.drop e'.toNat).take ((e' + n).toNat - e'.toNat)) := Bs.sub (hB.mono hE1) hF hN (by omega) (by omega)
  rw [show n.toNat = (e' + n).toNat - e'.toNat by omega] at hv
  refine condC (fun hb => ?_) (fun hb => ?_)
  · have hnil := hS.2.2.2.2 (by simpa using hb)
    exact ⟨Mem.le_refl _, Mem.le_trans hE1 hE5, h none 0 0 [] _ 0 E5 (Mem.le_trans hE1 hE5) (by show rdB zs a4 = _; rw [hv, hnil]) (Bs.nil _)⟩
  · obtain ⟨s1, s2, s3⟩ := hS.src
    refine ⟨_, s1, s2, s3, Nat.le_refl _, Nat.le_refl _, Nat.le_refl _, req_intro (by show (0 + ((e' + n).toNat - e'.toNat)) * 1 ≤ _; omega) ?_⟩
    intro cap1 tot1 q1 q2
    refine ⟨Mem.le_refl _, fun base E6 hE6 hW => ⟨Mem.le_trans hE1 (Mem.le_trans hE5 hE6), ?_⟩⟩
    rw [List.nil_append] at hW
    have hW : WinE E6 base (List.take (((e' + n).toNat - e'.toNat) * 1) (vB ((zs.drop e'.toNat).take ((e' + n).toNat - e'.toNat)))) := hW
    rw [tkB (Nat.le_of_eq hS.2.1)] at hW
    exact h _ _ _ _ _ 0 E6 (Mem.le_trans hE1 (Mem.le_trans hE5 hE6)) hv (Bs.win hW rfl (by rw [hS.2.1]; exact (Nat.zero_add _).symm) q1 (BsB hS))
theorem s20 {b1 : Option Addr} {l2 : Nat} {c3 : Nat} {a4 : Int} {zs : List Int} (h0 : Bs E b1 l2 c3 zs) (h1 : l2 ≤ 100000) (h : ∀ (b' : Option Addr) (l' c' : Nat) (ys : List Int) (end' e : Int) (E' : Mem), Mem.le E E' → Hyp (rdB zs a4 = (ys, end', e)) → Bs E' b' l' c' ys → K (.tup [L b' l' c', I end', I e]) E') :
    Ent WR1 6 Try.f20 [L b1 l2 c3, I a4] E K := by
  refine same (by kernel_rfl) (?_ : 
      ∃ (zs : List Int),
        ((zs = [] ∨ E (Value.slice b1 l2 c3) (List.map (Value.int IntKind.u8) zs)) ∧
            List.length zs = l2 ∧ l2 ≤ c3 ∧ (∀ (z : Int), List.Mem z zs → 0 ≤ z ∧ z ≤ 255) ∧ (b1 = none → zs = [])) ∧
          l2 ≤ 100000 ∧
            ∀ (n end' e : Int) (E' : Mem),
              Mem.le E E' →
                Hyp (rd zs a4 = (n, end', e)) →
                  Mem.le E E' ∧
                    bif e != 0 then
                      Mem.le E E' ∧
                        K
                          (SV.tup
                            [SV.raw (Value.slice none 0 0), SV.raw (Value.int IntKind.i64 0),
                              SV.raw (Value.int IntKind.i64 e)])
                          E'
                    else
                      bif decide (n < 0) then
                        Mem.le E E' ∧
                          K
                            (SV.tup
                              [SV.raw (Value.slice none 0 0), SV.raw (Value.int IntKind.i64 0),
                                SV.raw (Value.int IntKind.i64 3)])
                            E'
                      else
                        bif bif false then true else decide (n > 4000) then
                          Mem.le E E' ∧
                            K
                              (SV.tup
                                [SV.raw (Value.slice none 0 0), SV.raw (Value.int IntKind.i64 0),
                                  SV.raw (Value.int IntKind.i64 3)])
                              E'
                        else
                          bif decide (IntKind.wrap IntKind.i64 (end' + n) > (↑l2 : Int)) then
                            Mem.le E E' ∧
                              K
                                (SV.tup
                                  [SV.raw (Value.slice none 0 0), SV.raw (Value.int IntKind.i64 0),
                                    SV.raw (Value.int IntKind.i64 11)])
                                E'
                          else
                            req (l2 ≤ c3)
                              (req
                                (0 ≤ IntKind.wrap IntKind.i64 (end' + n) ∧
                                  IntKind.wrap IntKind.i64 (end' + n) ≤ (↑(toN none c3) : Int))
                                (req (0 ≤ end' ∧ end' ≤ (↑(toN (some (IntKind.wrap IntKind.i64 (end' + n))) l2) : Int))
                                  (∀ (base' : Option Addr) (E'_1 : Mem),
                                    Mem.le E' E'_1 →
                                      (∀ (cs : List Value),
                                          E' (Value.slice b1 l2 c3) cs →
                                            E'_1
                                              (Value.slice base'
                                                (toN (some (IntKind.wrap IntKind.i64 (end' + n))) l2 - toN (some end') 0)
                                                (toN none c3 - toN (some end') 0))
                                              (List.take
                                                ((toN (some (IntKind.wrap IntKind.i64 (end' + n))) l2 - toN (some end') 0) *
                                                  1)
                                                (List.drop (toN (some end') 0 * 1) cs))) →
                                        Option.isNone base' = Option.isNone b1 →
                                          ∃ (zs : List Int),
                                            ∃ (xs : List Int),
                                              ((zs = [] ∨ E'_1 (Value.slice none 0 0) (List.map (Value.int IntKind.u8) zs)) ∧
                                                  List.length zs = 0 ∧
                                                    0 ≤ 0 ∧
                                                      (∀ (z : Int), List.Mem z zs → 0 ≤ z ∧ z ≤ 255) ∧
                                                        ((none : Option Addr) = none → zs = [])) ∧
                                                ((xs = [] ∨
                                                      E'_1
                                                        (Value.slice base'
                                                          (toN (some (IntKind.wrap IntKind.i64 (end' + n))) l2 -
                                                            toN (some end') 0)
                                                          (toN none c3 - toN (some end') 0))
                                                        (List.map (Value.int IntKind.u8) xs)) ∧
                                                    List.length xs =
                                                        toN (some (IntKind.wrap IntKind.i64 (end' + n))) l2 -
                                                          toN (some end') 0 ∧
                                                      toN (some (IntKind.wrap IntKind.i64 (end' + n))) l2 -
                                                            toN (some end') 0 ≤
                                                          toN none c3 - toN (some end') 0 ∧
                                                        (∀ (z : Int), List.Mem z xs → 0 ≤ z ∧ z ≤ 255) ∧
                                                          (base' = none → xs = [])) ∧
                                                  0 ≤ 100000 ∧
                                                    toN (some (IntKind.wrap IntKind.i64 (end' + n))) l2 - toN (some end') 0 ≤
                                                        100000 ∧
                                                      ∀ (b' : Option Addr) (l' c' : Nat) (ys : List Int) (E' : Mem),
                                                        Mem.le E'_1 E' →
                                                          Hyp (zs ++ xs = ys) →
                                                            (ys = [] ∨
                                                                  E' (Value.slice b' l' c')
                                                                    (List.map (Value.int IntKind.u8) ys)) ∧
                                                                List.length ys = l' ∧
                                                                  l' ≤ c' ∧
                                                                    (∀ (z : Int), List.Mem z ys → 0 ≤ z ∧ z ≤ 255) ∧
                                                                      (b' = none → ys = []) →
                                                              Mem.le E'_1 E' ∧
                                                                Mem.le E E' ∧
                                                                  K
                                                                    (SV.tup
                                                                      [SV.raw (Value.slice b' l' c'),
                                                                        SV.raw
                                                                          (Value.int IntKind.i64
                                                                            (IntKind.wrap IntKind.i64 (end' + n))),
                                                                        SV.raw (Value.int IntKind.i64 0)])
                                                                    E'))))
  have hB := h0
  have hlen := hB.2.1
  refine ⟨zs, hB, h1, fun n e' e E1 hE1 hy => ⟨hE1, ?_⟩⟩
  have hy : rd zs a4 = (n, e', e) := hy
  refine condC (fun h2 => ?_) (fun h2 => ?_)
  · exact ⟨hE1, h none 0 0 [] 0 e E1 hE1 (rdB_e hy (by simpa using h2)) (Bs.nil _)⟩
  have h2 : e = 0 := by simpa using h2
  subst h2
  obtain ⟨g1, g2, g3, g4, g5⟩ := rd_ok hy
  refine condC (fun h3 => ?_) (fun h3 => ?_)
  · exact ⟨hE1, h none 0 0 [] 0 3 E1 hE1 (rdB_r hy (.inl (by simpa using h3))) (Bs.nil _)⟩
  have h3 : ¬ n < 0 := by simpa using h3
  refine condC (fun h4 => ?_) (fun h4 => ?_)
  · exact ⟨hE1, h none 0 0 [] 0 3 E1 hE1 (rdB_r hy (.inr (by simpa using h4))) (Bs.nil _)⟩
  have h4 : n ≤ 4000 := by simpa using h4
  rw [wrap_i64 (x := e' + n) (by omega)]
  refine condC (fun h5 => ?_) (fun h5 => ?_)
  · exact ⟨hE1, h none 0 0 [] 0 11 E1 hE1 (rdB_s hy (by omega) (by simp at h5; omega)) (Bs.nil _)⟩
  have h5 : n ≤ l2 - e' := by simp at h5; omega
  have hv := rdB_o hy (by omega) (by omega)
  have hc := hB.2.2.1
  refine req_intro hc (req_intro ⟨by omega, by show e' + n ≤ c3; omega⟩ (req_intro ⟨by omega, by show e' ≤ ((e' + n).toNat : Int); omega⟩ ?_))
  intro b5 E5 hE5 hF hN
  have hS : Bs E5 b5 ((e' + n).toNat - e'.toNat) (c3 - e'.toNat) ((zs.drop e'.toNat).take ((e' + n).toNat - e'.toNat)) := Bs.sub (hB.mono hE1) hF hN (by omega) (by omega)
  rw [show n.toNat = (e' + n).toNat - e'.toNat by omega] at hv
  refine ⟨[], _, Bs.nil _, hS, by omega, by show (e' + n).toNat - e'.toNat ≤ _; omega, fun b6 l6 c6 ys E6 hE6 hy6 hB6 => ⟨hE6, Mem.le_trans hE1 (Mem.le_trans hE5 hE6), h _ _ _ _ _ 0 E6 (Mem.le_trans hE1 (Mem.le_trans hE5 hE6)) ?_ hB6⟩⟩
  have hy6 : [] ++ _ = ys := hy6
  show rdB zs a4 = _
  rw [hv, ← hy6]; rfl

end Go.Proofs.Ytjlpfhekhpebpaa.WireOwn
