/- The law WireTwoFrames. -/
import Derived.Test.YtjlpfhekhpebpaaWire12
import Derived.Test.YtjlpfhekhpebpaaRows
namespace Go.Proofs.Ytjlpfhekhpebpaa.WireOwn
open Go Go.Sx Go.Proofs.Ytjlpfhekhpebpaa
set_option maxRecDepth 100000
set_option maxHeartbeats 4000000
set_option linter.unusedVariables false
set_option linter.unusedSimpArgs false
variable {E : Mem} {K : SV → Mem → Prop}
theorem pk_inv {k f t a y : Int} {zs ys : List Int} (h : pk k f t a y zs = (ys, 0)) : okF k f t a y ∧ zs.length ≤ 4000 ∧ ys = pkL k f t a y zs := by
  unfold pk at h
  split at h
  · rename_i q
    obtain ⟨rfl, _⟩ := Prod.mk.inj h
    exact ⟨q.1, q.2, rfl⟩
  · simp at h
theorem pkL_len {k f t a y : Int} {zs : List Int} (hz : zs.length ≤ 6000) : 6 ≤ (pkL k f t a y zs).length ∧ (pkL k f t a y zs).length ≤ zs.length + 60 := by
  have h1 := dig_len (zig k); have h2 := dig_len (zig f); have h3 := dig_len (zig t); have h4 := dig_len (zig a); have h5 := dig_len (zig y); have h6 := dig_len (zig zs.length)
  unfold pkL
  simp only [List.length_append]; omega
theorem pk_cancel {k f t a y k' f' t' a' y' : Int} {zs xs : List Int} {n : Nat} (h1 : okF k f t a y) (h2 : okF k' f' t' a' y') (hz : zs.length ≤ 4000) (hx : xs.length ≤ 4000) (hn : n = min (pkL k f t a y zs).length (pkL k' f' t' a' y' xs).length)
    (h : (pkL k f t a y zs).take n = (pkL k' f' t' a' y' xs).take n) : ([k, f, t, a, y], zs) = ([k', f', t', a', y'], xs) := by
  have e1 := uk_pk h1 hz
  have e2 := uk_pk h2 hx
  have key : pkL k f t a y zs = pkL k' f' t' a' y' xs := by
    rcases Nat.lt_trichotomy (pkL k f t a y zs).length (pkL k' f' t' a' y' xs).length with q | q | q
    · have hn' : n = (pkL k f t a y zs).length := by omega
      have h3 := uk_cut (c := n) h2 hx (by omega)
      rw [← h, hn', List.take_length, e1] at h3
      simp [bad] at h3
    · rw [List.take_of_length_le (by omega), List.take_of_length_le (by omega)] at h; exact h
    · have hn' : n = (pkL k' f' t' a' y' xs).length := by omega
      have h3 := uk_cut (c := n) h1 hz (by omega)
      rw [h, hn', List.take_length, e2] at h3
      simp [bad] at h3
  rw [key, e2] at e1
  obtain ⟨g1, g2⟩ := Prod.mk.inj e1
  obtain ⟨g2, _⟩ := Prod.mk.inj g2
  rw [g1, g2]
noncomputable def tabL8 : FuncId → List SV → Mem → (SV → Mem → Prop) → Prop := fun f args E K => match f with
  | 10 => d0 args ((∀ (E' : Mem), Mem.le E E' → K (B true) E'))
  | 21 => d1 args fun x0 => dC x0 fun l1 => d6 l1 fun x0_0 x0_1 x0_2 x0_3 x0_4 x0_5 => dI x0_0 fun a1 => dI x0_1 fun a2 => dI x0_2 fun a3 => dI x0_3 fun a4 => dI x0_4 fun a5 => dS x0_5 fun b6 l7 c8 => ∃ (zs : List Int), Bs E b6 l7 c8 zs ∧ l7 ≤ 100000 ∧ (∀ (b' : Option Addr) (l' c' : Nat) (ys : List Int) (e : Int) (E' : Mem), Mem.le E E' → Hyp (pk a1 a2 a3 a4 a5 zs = (ys, e)) → Bs E' b' l' c' ys → K (.tup [L b' l' c', I e]) E')
  | 25 => d2 args fun x0 x1 => dC x0 fun l1 => d6 l1 fun x0_0 x0_1 x0_2 x0_3 x0_4 x0_5 => dI x0_0 fun a1 => dI x0_1 fun a2 => dI x0_2 fun a3 => dI x0_3 fun a4 => dI x0_4 fun a5 => dS x0_5 fun b6 l7 c8 => dC x1 fun l2 => d6 l2 fun x1_0 x1_1 x1_2 x1_3 x1_4 x1_5 => dI x1_0 fun a9 => dI x1_1 fun a10 => dI x1_2 fun a11 => dI x1_3 fun a12 => dI x1_4 fun a13 => dS x1_5 fun b14 l15 c16 => ∃ (zs : List Int) (xs : List Int), Bs E b6 l7 c8 zs ∧ Bs E b14 l15 c16 xs ∧ l7 ≤ 100000 ∧ (∀ r : Bool, Hyp (decide (([a1, a2, a3, a4, a5], zs) = ([a9, a10, a11, a12, a13], xs)) = r) → K (B r) E)
  | 14 => d2 args fun x0 x1 => dS x0 fun b1 l2 c3 => dS x1 fun b4 l5 c6 => ∃ (zs : List Int) (xs : List Int), Bs E b1 l2 c3 zs ∧ Bs E b4 l5 c6 xs ∧ l2 ≤ 100000 ∧ (∀ r : Bool, Hyp (decide (zs = xs) = r) → K (B r) E)
  | _ => False
theorem tabL8_ok : TabOK Try.prog tabL8 := by
  intro f args E K h
  unfold tabL8 at h
  split at h
  · obtain ⟨rfl, h⟩ := d0_elim h
    exact TabSem.congr rfl (Ent.sem okWJ Try.func10 ⟨by kernel_rfl, by kernel_rfl⟩ rfl (s10 h))
  · obtain ⟨x0, rfl, h⟩ := d1_elim h
    obtain ⟨l1, hl1, h⟩ := dC_elim h
    obtain ⟨x0_0, x0_1, x0_2, x0_3, x0_4, x0_5, rfl, h⟩ := d6_elim h
    obtain ⟨a1, rfl, h⟩ := dI_elim h
    obtain ⟨a2, rfl, h⟩ := dI_elim h
    obtain ⟨a3, rfl, h⟩ := dI_elim h
    obtain ⟨a4, rfl, h⟩ := dI_elim h
    obtain ⟨a5, rfl, h⟩ := dI_elim h
    obtain ⟨b6, l7, c8, rfl, h⟩ := dS_elim h
    obtain ⟨zs, g0, g1, h⟩ := h
    exact TabSem.congr (valL_cons (asCells_val hl1) rfl) (Ent.sem okWE Try.func21 ⟨by kernel_rfl, by kernel_rfl⟩ rfl (s21 g0 g1 h))
  · obtain ⟨x0, x1, rfl, h⟩ := d2_elim h
    obtain ⟨l1, hl1, h⟩ := dC_elim h
    obtain ⟨x0_0, x0_1, x0_2, x0_3, x0_4, x0_5, rfl, h⟩ := d6_elim h
    obtain ⟨a1, rfl, h⟩ := dI_elim h
    obtain ⟨a2, rfl, h⟩ := dI_elim h
    obtain ⟨a3, rfl, h⟩ := dI_elim h
    obtain ⟨a4, rfl, h⟩ := dI_elim h
    obtain ⟨a5, rfl, h⟩ := dI_elim h
    obtain ⟨b6, l7, c8, rfl, h⟩ := dS_elim h
    obtain ⟨l2, hl2, h⟩ := dC_elim h
    obtain ⟨x1_0, x1_1, x1_2, x1_3, x1_4, x1_5, rfl, h⟩ := d6_elim h
    obtain ⟨a9, rfl, h⟩ := dI_elim h
    obtain ⟨a10, rfl, h⟩ := dI_elim h
    obtain ⟨a11, rfl, h⟩ := dI_elim h
    obtain ⟨a12, rfl, h⟩ := dI_elim h
    obtain ⟨a13, rfl, h⟩ := dI_elim h
    obtain ⟨b14, l15, c16, rfl, h⟩ := dS_elim h
    obtain ⟨zs, xs, g0, g1, g2, h⟩ := h
    exact TabSem.congr (valL_cons (asCells_val hl1) (valL_cons (asCells_val hl2) rfl)) (Ent.sem okWC Try.func25 ⟨by kernel_rfl, by kernel_rfl⟩ rfl (s25 g0 g1 g2 h))
  · obtain ⟨x0, x1, rfl, h⟩ := d2_elim h
    obtain ⟨b1, l2, c3, rfl, h⟩ := dS_elim h
    obtain ⟨b4, l5, c6, rfl, h⟩ := dS_elim h
    obtain ⟨zs, xs, g0, g1, g2, h⟩ := h
    exact TabSem.congr (valL_cons rfl (valL_cons rfl rfl)) (Ent.sem okWB Try.func14 ⟨by kernel_rfl, by kernel_rfl⟩ rfl (s14 g0 g1 g2 h))
  · exact h.elim
noncomputable def WL8 : Cx := { P := Try.prog, inl := fun f => List.contains [11] f, tab := tabL8, isB := fun _ => false, tabB := fun _ _ _ _ _ => False, opt := { unroll := 0, carry := [], cuts := [] }, muts := mutsD }
theorem okWL8 : CxOK WL8 := ⟨tabL8_ok, by kernel_rfl, okInl (by kernel_rfl), fun _ _ _ _ _ h => h.elim⟩
theorem e8 {a1 : Int} {a2 : Int} {a3 : Int} {a4 : Int} {a5 : Int} {b1 : Option Addr} {l1 : Nat} {c1 : Nat} {z1 : List Int} {a6 : Int} {a7 : Int} {a8 : Int} {a9 : Int} {a10 : Int} {b2 : Option Addr} {l2 : Nat} {c2 : Nat} {z2 : List Int} (ha1 : (Lit.int .i64 a1).wf = true) (ha2 : (Lit.int .i64 a2).wf = true) (ha3 : (Lit.int .i64 a3).wf = true) (ha4 : (Lit.int .i64 a4).wf = true) (ha5 : (Lit.int .i64 a5).wf = true) (hB1 : Bs E b1 l1 c1 z1) (ha6 : (Lit.int .i64 a6).wf = true) (ha7 : (Lit.int .i64 a7).wf = true) (ha8 : (Lit.int .i64 a8).wf = true) (ha9 : (Lit.int .i64 a9).wf = true) (ha10 : (Lit.int .i64 a10).wf = true) (hB2 : Bs E b2 l2 c2 z2) (h : ∀ E' : Mem, Mem.le E E' → K (B true) E') :
    Ent WL8 6 Try.f8 [.agg [I a1, I a2, I a3, I a4, I a5, L b1 l1 c1], .agg [I a6, I a7, I a8, I a9, I a10, L b2 l2 c2]] E K := by
  refine same (by kernel_rfl) (?_ : 
      ∀ (E' : Mem),
        Mem.le E E' →
          Mem.le E E' ∧
            bif decide ((↑l1 : Int) > 6000) then Mem.le E E' ∧ K (SV.raw (Value.bool true)) E'
            else
              bif bif false then true else decide ((↑l2 : Int) > 6000) then Mem.le E E' ∧ K (SV.raw (Value.bool true)) E'
              else
                ∃ (zs : List Int),
                  ((zs = [] ∨ E' (Value.slice b1 l1 c1) (List.map (Value.int IntKind.u8) zs)) ∧
                      List.length zs = l1 ∧
                        l1 ≤ c1 ∧ (∀ (z : Int), List.Mem z zs → 0 ≤ z ∧ z ≤ 255) ∧ (b1 = none → zs = [])) ∧
                    l1 ≤ 100000 ∧
                      ∀ (b' : Option Addr) (l' c' : Nat) (ys : List Int) (e : Int) (E'_1 : Mem),
                        Mem.le E' E'_1 →
                          Hyp (pk a1 a2 a3 a4 a5 zs = (ys, e)) →
                            (ys = [] ∨ E'_1 (Value.slice b' l' c') (List.map (Value.int IntKind.u8) ys)) ∧
                                List.length ys = l' ∧
                                  l' ≤ c' ∧ (∀ (z : Int), List.Mem z ys → 0 ≤ z ∧ z ≤ 255) ∧ (b' = none → ys = []) →
                              Mem.le E' E'_1 ∧
                                ∃ (zs : List Int),
                                  ((zs = [] ∨ E'_1 (Value.slice b2 l2 c2) (List.map (Value.int IntKind.u8) zs)) ∧
                                      List.length zs = l2 ∧
                                        l2 ≤ c2 ∧ (∀ (z : Int), List.Mem z zs → 0 ≤ z ∧ z ≤ 255) ∧ (b2 = none → zs = [])) ∧
                                    l2 ≤ 100000 ∧
                                      ∀ (b'_1 : Option Addr) (l'_1 c'_1 : Nat) (ys : List Int) (e_1 : Int) (E' : Mem),
                                        Mem.le E'_1 E' →
                                          Hyp (pk a6 a7 a8 a9 a10 zs = (ys, e_1)) →
                                            (ys = [] ∨ E' (Value.slice b'_1 l'_1 c'_1) (List.map (Value.int IntKind.u8) ys)) ∧
                                                List.length ys = l'_1 ∧
                                                  l'_1 ≤ c'_1 ∧
                                                    (∀ (z : Int), List.Mem z ys → 0 ≤ z ∧ z ≤ 255) ∧ (b'_1 = none → ys = []) →
                                              Mem.le E'_1 E' ∧
                                                bif e != 0 then Mem.le E E' ∧ K (SV.raw (Value.bool true)) E'
                                                else
                                                  bif bif false then true else e_1 != 0 then
                                                    Mem.le E E' ∧ K (SV.raw (Value.bool true)) E'
                                                  else
                                                    ∃ (zs : List Int),
                                                      ∃ (xs : List Int),
                                                        ((zs = [] ∨
                                                              E' (Value.slice b1 l1 c1)
                                                                (List.map (Value.int IntKind.u8) zs)) ∧
                                                            List.length zs = l1 ∧
                                                              l1 ≤ c1 ∧
                                                                (∀ (z : Int), List.Mem z zs → 0 ≤ z ∧ z ≤ 255) ∧
                                                                  (b1 = none → zs = [])) ∧
                                                          ((xs = [] ∨
                                                                E' (Value.slice b2 l2 c2)
                                                                  (List.map (Value.int IntKind.u8) xs)) ∧
                                                              List.length xs = l2 ∧
                                                                l2 ≤ c2 ∧
                                                                  (∀ (z : Int), List.Mem z xs → 0 ≤ z ∧ z ≤ 255) ∧
                                                                    (b2 = none → xs = [])) ∧
                                                            l1 ≤ 100000 ∧
                                                              ∀ (r : Bool),
                                                                Hyp
                                                                    (decide
                                                                        (([a1, a2, a3, a4, a5], zs) =
                                                                          ([a6, a7, a8, a9, a10], xs)) =
                                                                      r) →
                                                                  Mem.le E' E' ∧
                                                                    ∃ (zs : List Int),
                                                                      ∃ (xs : List Int),
                                                                        ((zs = [] ∨
                                                                              E' (Value.slice b' l' c')
                                                                                (List.map (Value.int IntKind.u8) zs)) ∧
                                                                            List.length zs = l' ∧
                                                                              l' ≤ c' ∧
                                                                                (∀ (z : Int),
                                                                                    List.Mem z zs → 0 ≤ z ∧ z ≤ 255) ∧
                                                                                  (b' = none → zs = [])) ∧
                                                                          ((xs = [] ∨
                                                                                E' (Value.slice b'_1 l'_1 c'_1)
                                                                                  (List.map (Value.int IntKind.u8) xs)) ∧
                                                                              List.length xs = l'_1 ∧
                                                                                l'_1 ≤ c'_1 ∧
                                                                                  (∀ (z : Int),
                                                                                      List.Mem z xs → 0 ≤ z ∧ z ≤ 255) ∧
                                                                                    (b'_1 = none → xs = [])) ∧
                                                                            l' ≤ 100000 ∧
                                                                              ∀ (r_1 : Bool),
                                                                                Hyp (decide (zs = xs) = r_1) →
                                                                                  Mem.le E' E' ∧
                                                                                    bif bif true then r_1 == r else false then
                                                                                      bif r then
                                                                                        Mem.le E E' ∧
                                                                                          K (SV.raw (Value.bool true)) E'
                                                                                      else
                                                                                        req (l' ≤ c')
                                                                                          (req
                                                                                            ((0 ≤
                                                                                                if
                                                                                                    (↑l'_1 : Int) <
                                                                                                      (↑l' : Int) then
                                                                                                  (↑l'_1 : Int)
                                                                                                else (↑l' : Int)) ∧
                                                                                              (if
                                                                                                    (↑l'_1 : Int) <
                                                                                                      (↑l' : Int) then
                                                                                                  (↑l'_1 : Int)
                                                                                                else (↑l' : Int)) ≤
                                                                                                (↑(toN none c') : Int))
                                                                                            (∀ (base' : Option Addr)
                                                                                              (E'_2 : Mem),
                                                                                              Mem.le E' E'_2 →
                                                                                                (∀ (cs : List Value),
                                                                                                    E' (Value.slice b' l' c')
                                                                                                        cs →
                                                                                                      E'_2
                                                                                                        (Value.slice base'
                                                                                                          (toN
                                                                                                              (some
                                                                                                                (if
                                                                                                                    (↑l'_1 :
                                                                                                                        Int) <
                                                                                                                      (↑l' :
                                                                                                                        Int) then
                                                                                                                  (↑l'_1 :
                                                                                                                    Int)
                                                                                                                else
                                                                                                                  (↑l' :
                                                                                                                    Int)))
                                                                                                              l' -
                                                                                                            0)
                                                                                                          (toN none c' - 0))
                                                                                                        (List.take
                                                                                                          ((toN
                                                                                                                (some
                                                                                                                  (if
                                                                                                                      (↑l'_1 :
                                                                                                                          Int) <
                                                                                                                        (↑l' :
                                                                                                                          Int) then
                                                                                                                    (↑l'_1 :
                                                                                                                      Int)
                                                                                                                  else
                                                                                                                    (↑l' :
                                                                                                                      Int)))
                                                                                                                l' -
                                                                                                              0) *
                                                                                                            1)
                                                                                                          (List.drop 0 cs))) →
                                                                                                  Option.isNone base' =
                                                                                                      Option.isNone b' →
                                                                                                    req (l'_1 ≤ c'_1)
                                                                                                      (req
                                                                                                        ((0 ≤
                                                                                                            if
                                                                                                                (↑l'_1 :
                                                                                                                    Int) <
                                                                                                                  (↑l' :
                                                                                                                    Int) then
                                                                                                              (↑l'_1 : Int)
                                                                                                            else
                                                                                                              (↑l' : Int)) ∧
                                                                                                          (if
                                                                                                                (↑l'_1 :
                                                                                                                    Int) <
                                                                                                                  (↑l' :
                                                                                                                    Int) then
                                                                                                              (↑l'_1 : Int)
                                                                                                            else
                                                                                                              (↑l' : Int)) ≤
                                                                                                            (↑(toN none
                                                                                                                  c'_1) :
                                                                                                              Int))
                                                                                                        (∀
                                                                                                          (base'_1 :
                                                                                                            Option Addr)
                                                                                                          (E' : Mem),
                                                                                                          Mem.le E'_2 E' →
                                                                                                            (∀
                                                                                                                (cs :
                                                                                                                  List Value),
                                                                                                                E'_2
                                                                                                                    (Value.slice
                                                                                                                      b'_1
                                                                                                                      l'_1
                                                                                                                      c'_1)
                                                                                                                    cs →
                                                                                                                  E'
                                                                                                                    (Value.slice
                                                                                                                      base'_1
                                                                                                                      (toN
                                                                                                                          (some
                                                                                                                            (if
                                                                                                                                (↑l'_1 :
                                                                                                                                    Int) <
                                                                                                                                  (↑l' :
                                                                                                                                    Int) then
                                                                                                                              (↑l'_1 :
                                                                                                                                Int)
                                                                                                                            else
                                                                                                                              (↑l' :
                                                                                                                                Int)))
                                                                                                                          l'_1 -
                                                                                                                        0)
                                                                                                                      (toN
                                                                                                                          none
                                                                                                                          c'_1 -
                                                                                                                        0))
                                                                                                                    (List.take
                                                                                                                      ((toN
                                                                                                                            (some
                                                                                                                              (if
                                                                                                                                  (↑l'_1 :
                                                                                                                                      Int) <
                                                                                                                                    (↑l' :
                                                                                                                                      Int) then
                                                                                                                                (↑l'_1 :
                                                                                                                                  Int)
                                                                                                                              else
                                                                                                                                (↑l' :
                                                                                                                                  Int)))
                                                                                                                            l'_1 -
                                                                                                                          0) *
                                                                                                                        1)
                                                                                                                      (List.drop
                                                                                                                        0
                                                                                                                        cs))) →
                                                                                                              Option.isNone
                                                                                                                    base'_1 =
                                                                                                                  Option.isNone
                                                                                                                    b'_1 →
                                                                                                                ∃ (zs :
                                                                                                                  List Int),
                                                                                                                  ∃ (xs :
                                                                                                                    List Int),
                                                                                                                    ((zs =
                                                                                                                            [] ∨
                                                                                                                          E'
                                                                                                                            (Value.slice
                                                                                                                              base'
                                                                                                                              (toN
                                                                                                                                  (some
                                                                                                                                    (if
                                                                                                                                        (↑l'_1 :
                                                                                                                                            Int) <
                                                                                                                                          (↑l' :
                                                                                                                                            Int) then
                                                                                                                                      (↑l'_1 :
                                                                                                                                        Int)
                                                                                                                                    else
                                                                                                                                      (↑l' :
                                                                                                                                        Int)))
                                                                                                                                  l' -
                                                                                                                                0)
                                                                                                                              (toN
                                                                                                                                  none
                                                                                                                                  c' -
                                                                                                                                0))
                                                                                                                            (List.map
                                                                                                                              (Value.int
                                                                                                                                IntKind.u8)
                                                                                                                              zs)) ∧
                                                                                                                        List.length
                                                                                                                              zs =
                                                                                                                            toN
                                                                                                                                (some
                                                                                                                                  (if
                                                                                                                                      (↑l'_1 :
                                                                                                                                          Int) <
                                                                                                                                        (↑l' :
                                                                                                                                          Int) then
                                                                                                                                    (↑l'_1 :
                                                                                                                                      Int)
                                                                                                                                  else
                                                                                                                                    (↑l' :
                                                                                                                                      Int)))
                                                                                                                                l' -
                                                                                                                              0 ∧
                                                                                                                          toN
                                                                                                                                  (some
                                                                                                                                    (if
                                                                                                                                        (↑l'_1 :
                                                                                                                                            Int) <
                                                                                                                                          (↑l' :
                                                                                                                                            Int) then
                                                                                                                                      (↑l'_1 :
                                                                                                                                        Int)
                                                                                                                                    else
                                                                                                                                      (↑l' :
                                                                                                                                        Int)))
                                                                                                                                  l' -
                                                                                                                                0 ≤
                                                                                                                              toN
                                                                                                                                  none
                                                                                                                                  c' -
                                                                                                                                0 ∧
                                                                                                                            (∀
                                                                                                                                (z :
                                                                                                                                  Int),
                                                                                                                                List.Mem
                                                                                                                                    z
                                                                                                                                    zs →
                                                                                                                                  0 ≤
                                                                                                                                      z ∧
                                                                                                                                    z ≤
                                                                                                                                      255) ∧
                                                                                                                              (base' =
                                                                                                                                  none →
                                                                                                                                zs =
                                                                                                                                  [])) ∧
                                                                                                                      ((xs =
                                                                                                                              [] ∨
                                                                                                                            E'
                                                                                                                              (Value.slice
                                                                                                                                base'_1
                                                                                                                                (toN
                                                                                                                                    (some
                                                                                                                                      (if
                                                                                                                                          (↑l'_1 :
                                                                                                                                              Int) <
                                                                                                                                            (↑l' :
                                                                                                                                              Int) then
                                                                                                                                        (↑l'_1 :
                                                                                                                                          Int)
                                                                                                                                      else
                                                                                                                                        (↑l' :
                                                                                                                                          Int)))
                                                                                                                                    l'_1 -
                                                                                                                                  0)
                                                                                                                                (toN
                                                                                                                                    none
                                                                                                                                    c'_1 -
                                                                                                                                  0))
                                                                                                                              (List.map
                                                                                                                                (Value.int
                                                                                                                                  IntKind.u8)
                                                                                                                                xs)) ∧
                                                                                                                          List.length
                                                                                                                                xs =
                                                                                                                              toN
                                                                                                                                  (some
                                                                                                                                    (if
                                                                                                                                        (↑l'_1 :
                                                                                                                                            Int) <
                                                                                                                                          (↑l' :
                                                                                                                                            Int) then
                                                                                                                                      (↑l'_1 :
                                                                                                                                        Int)
                                                                                                                                    else
                                                                                                                                      (↑l' :
                                                                                                                                        Int)))
                                                                                                                                  l'_1 -
                                                                                                                                0 ∧
                                                                                                                            toN
                                                                                                                                    (some
                                                                                                                                      (if
                                                                                                                                          (↑l'_1 :
                                                                                                                                              Int) <
                                                                                                                                            (↑l' :
                                                                                                                                              Int) then
                                                                                                                                        (↑l'_1 :
                                                                                                                                          Int)
                                                                                                                                      else
                                                                                                                                        (↑l' :
                                                                                                                                          Int)))
                                                                                                                                    l'_1 -
                                                                                                                                  0 ≤
                                                                                                                                toN
                                                                                                                                    none
                                                                                                                                    c'_1 -
                                                                                                                                  0 ∧
                                                                                                                              (∀
                                                                                                                                  (z :
                                                                                                                                    Int),
                                                                                                                                  List.Mem
                                                                                                                                      z
                                                                                                                                      xs →
                                                                                                                                    0 ≤
                                                                                                                                        z ∧
                                                                                                                                      z ≤
                                                                                                                                        255) ∧
                                                                                                                                (base'_1 =
                                                                                                                                    none →
                                                                                                                                  xs =
                                                                                                                                    [])) ∧
                                                                                                                        toN
                                                                                                                                (some
                                                                                                                                  (if
                                                                                                                                      (↑l'_1 :
                                                                                                                                          Int) <
                                                                                                                                        (↑l' :
                                                                                                                                          Int) then
                                                                                                                                    (↑l'_1 :
                                                                                                                                      Int)
                                                                                                                                  else
                                                                                                                                    (↑l' :
                                                                                                                                      Int)))
                                                                                                                                l' -
                                                                                                                              0 ≤
                                                                                                                            100000 ∧
                                                                                                                          ∀
                                                                                                                            (r :
                                                                                                                              Bool),
                                                                                                                            Hyp
                                                                                                                                (decide
                                                                                                                                    (zs =
                                                                                                                                      xs) =
                                                                                                                                  r) →
                                                                                                                              Mem.le
                                                                                                                                  E'
                                                                                                                                  E' ∧
                                                                                                                                Mem.le
                                                                                                                                    E
                                                                                                                                    E' ∧
                                                                                                                                  K
                                                                                                                                    (SV.raw
                                                                                                                                      (Value.bool
                                                                                                                                        (bif
                                                                                                                                            true then
                                                                                                                                          bif
                                                                                                                                              false then
                                                                                                                                            true
                                                                                                                                          else
                                                                                                                                            !r
                                                                                                                                        else
                                                                                                                                          false)))
                                                                                                                                    E'))))
                                                                                    else
                                                                                      Mem.le E E' ∧
                                                                                        K (SV.raw (Value.bool false)) E')
  intro E1 hE0
  have hlen := hB1.2.1
  have hlen2 := hB2.2.1
  refine ⟨hE0, condC (fun _ => ⟨hE0, h E1 hE0⟩) (fun g1 => ?_)⟩
  have g1 : l1 ≤ 6000 := by simp at g1; omega
  refine condC (fun _ => ⟨hE0, h E1 hE0⟩) (fun g2 => ?_)
  have g2 : l2 ≤ 6000 := by simp at g2; omega
  refine ⟨_, hB1.mono hE0, by omega, fun b4 l4 c4 ys e E2 q2 hy A => ⟨q2, _, hB2.mono (Mem.le_trans hE0 q2), by omega, fun b5 l5 c5 xs e' E3 q3 hy' A5 => ⟨q3, ?_⟩⟩⟩
  have hy : pk a1 a2 a3 a4 a5 z1 = (ys, e) := hy
  have hy' : pk a6 a7 a8 a9 a10 z2 = (xs, e') := hy'
  have A : Bs E2 b4 l4 c4 ys := A
  have A5 : Bs E3 b5 l5 c5 xs := A5
  have hq := Mem.le_trans hE0 (Mem.le_trans q2 q3)
  refine condC (fun _ => ⟨hq, h E3 hq⟩) (fun g => ?_)
  have g : e = 0 := by simpa using g
  subst g
  refine condC (fun _ => ⟨hq, h E3 hq⟩) (fun g => ?_)
  have g : e' = 0 := by simpa using g
  subst g
  obtain ⟨o1, o2, rfl⟩ := pk_inv hy
  obtain ⟨p1, p2, rfl⟩ := pk_inv hy'
  have hl := pkL_len (k := a1) (f := a2) (t := a3) (a := a4) (y := a5) (zs := z1) (by omega)
  have hl' := pkL_len (k := a6) (f := a7) (t := a8) (a := a9) (y := a10) (zs := z2) (by omega)
  have hl4 := A.2.1
  have hl5 := A5.2.1
  have A := A.mono q3
  refine ⟨_, _, hB1.mono hq, hB2.mono hq, by omega, fun r hr => ⟨Mem.le_refl _, _, _, A, A5, by omega, fun r1 hr1 => ⟨Mem.le_refl _, ?_⟩⟩⟩
  have hr : decide (([a1, a2, a3, a4, a5], z1) = ([a6, a7, a8, a9, a10], z2)) = r := hr
  have hr1 : decide (pkL a1 a2 a3 a4 a5 z1 = pkL a6 a7 a8 a9 a10 z2) = r1 := hr1
  have hrr : r1 = r := by
    rw [← hr, ← hr1]
    apply Bool.eq_iff_iff.2
    simp only [decide_eq_true_eq]
    constructor
    · intro q
      have e1 := uk_pk o1 o2
      rw [q, uk_pk p1 p2] at e1
      obtain ⟨w1, w2⟩ := Prod.mk.inj e1
      obtain ⟨w2, _⟩ := Prod.mk.inj w2
      rw [w1, w2]
    · intro q
      simp only [Prod.mk.injEq, List.cons.injEq, and_true] at q
      obtain ⟨⟨rfl, rfl, rfl, rfl, rfl⟩, rfl⟩ := q
      rfl
  subst hrr
  refine condC (fun _ => ?_) (fun x => absurd x (by simp))
  refine condC (fun _ => ⟨hq, h E3 hq⟩) (fun g3 => ?_)
  have hne : ¬ ([a1, a2, a3, a4, a5], z1) = ([a6, a7, a8, a9, a10], z2) := by rw [g3] at hr; exact of_decide_eq_false hr
  have hmin : (if (l5 : Int) < (l4 : Int) then (l5 : Int) else (l4 : Int)) = ((min l4 l5 : Nat) : Int) := by split <;> omega
  rw [hmin]
  have hc4 := A.2.2.1
  have hc5 := A5.2.2.1
  refine req_intro hc4 (req_intro ⟨by omega, by show ((min l4 l5 : Nat) : Int) ≤ c4; omega⟩ ?_)
  intro b6 E4 q4 hF hN
  refine req_intro hc5 (req_intro ⟨by omega, by show ((min l4 l5 : Nat) : Int) ≤ c5; omega⟩ ?_)
  intro b7 E5 q5 hF2 hN2
  have hS1 : Bs E4 b6 (min l4 l5 - 0) (c4 - 0) (((pkL a1 a2 a3 a4 a5 z1).drop 0).take (min l4 l5 - 0)) := Bs.sub A hF hN (by omega) (by omega)
  have hS2 : Bs E5 b7 (min l4 l5 - 0) (c5 - 0) (((pkL a6 a7 a8 a9 a10 z2).drop 0).take (min l4 l5 - 0)) := Bs.sub (A5.mono q4) hF2 hN2 (by omega) (by omega)
  refine ⟨_, _, hS1.mono q5, hS2, by show min l4 l5 - 0 ≤ _; omega, fun r2 hr2 => ⟨Mem.le_refl _, Mem.le_trans hq (Mem.le_trans q4 q5), ?_⟩⟩
  have hr2 : decide (((pkL a1 a2 a3 a4 a5 z1).drop 0).take (min l4 l5 - 0) = ((pkL a6 a7 a8 a9 a10 z2).drop 0).take (min l4 l5 - 0)) = r2 := hr2
  have hf : r2 = false := by
    rw [← hr2]
    refine decide_eq_false (fun q => hne ?_)
    rw [List.drop_zero, List.drop_zero] at q
    exact pk_cancel o1 p1 o2 p2 (by omega) q
  subst hf
  exact h E5 (Mem.le_trans hq (Mem.le_trans q4 q5))


theorem opn8 (W : World) (K : List SV → Prop) (h : ∀ a1 : Int, (Lit.int .i64 a1).wf = true → ∀ a2 : Int, (Lit.int .i64 a2).wf = true → ∀ a3 : Int, (Lit.int .i64 a3).wf = true → ∀ a4 : Int, (Lit.int .i64 a4).wf = true → ∀ a5 : Int, (Lit.int .i64 a5).wf = true → ∀ (b1 : Option Addr) (l1 c1 : Nat) (z1 : List Int), (l1 ≤ c1) → (c1 ≤ maxLen) → (b1 = none → c1 = 0) → (z1.length = c1) → (∀ x ∈ z1, (Lit.int .u8 x).wf = true) → RowAt W (.slice b1 l1 c1) (z1.map (.int .u8)) → ∀ a6 : Int, (Lit.int .i64 a6).wf = true → ∀ a7 : Int, (Lit.int .i64 a7).wf = true → ∀ a8 : Int, (Lit.int .i64 a8).wf = true → ∀ a9 : Int, (Lit.int .i64 a9).wf = true → ∀ a10 : Int, (Lit.int .i64 a10).wf = true → ∀ (b2 : Option Addr) (l2 c2 : Nat) (z2 : List Int), (l2 ≤ c2) → (c2 ≤ maxLen) → (b2 = none → c2 = 0) → (z2.length = c2) → (∀ x ∈ z2, (Lit.int .u8 x).wf = true) → RowAt W (.slice b2 l2 c2) (z2.map (.int .u8)) → K [.agg [I a1, I a2, I a3, I a4, I a5, L b1 l1 c1], .agg [I a6, I a7, I a8, I a9, I a10, L b2 l2 c2]]) : opnAll Try.prog W Try.f8.params.toList K :=
  same (by kernel_rfl) h

theorem sem8 (W : World) : opnAll Try.prog W Try.f8.params.toList fun ss => TabSem Try.prog 8 ss (fun v cs => RowAt W v cs) fun r _ => r = .raw (.bool true) := by
  refine opn8 W _ ?_
  intro a1 ha1 a2 ha2 a3 ha3 a4 ha4 a5 ha5 b1 l1 c1 z1 hl1 hc1 hb1 hz1 hw1 hE1 a6 ha6 a7 ha7 a8 ha8 a9 ha9 a10 ha10 b2 l2 c2 z2 hl2 hc2 hb2 hz2 hw2 hE2
  exact Ent.sem okWL8 Try.func8 ⟨by kernel_rfl, by kernel_rfl⟩ rfl (e8 ha1 ha2 ha3 ha4 ha5 (Bs.of hl1 hb1 hz1 hw1 hE1) ha6 ha7 ha8 ha9 ha10 (Bs.of hl2 hb2 hz2 hw2 hE2) (fun _ _ => rfl))

theorem lifted8 (os : Os) (started : os.Started) (H : Type) (enc : TypeId × Value → H) :
    ReturnsInHanded {} Try.checked os 8 .any (Rows.wireTwoFramesSpec.pre6 enc Try.prog Try.f8 Rows.wireTwoFramesRow.domain false) (Rows.wireTwoFramesSpec.post enc Try.prog Try.f8 false true false false) :=
  lift_true (C := Try.checked) (by kernel_rfl) (by kernel_rfl) started (by kernel_rfl) Try.func8
    (ChangeSpec.witness6 (enc := enc) (C := Try.checked) false ⟨#[], #[.agg #[.int .i64 0, .int .i64 0, .int .i64 0, .int .i64 0, .int .i64 0, .slice none 0 0], .agg #[.int .i64 0, .int .i64 0, .int .i64 0, .int .i64 0, .int .i64 0, .slice none 0 0]], []⟩ 8 (by kernel_rfl) (by kernel_rfl) (by kernel_rfl) (by kernel_rfl))
    (Tb := 4) (by kernel_rfl) (by kernel_rfl) (by kernel_rfl) rfl
    (fun ds hl => by
      match ds, hl with
      | [d0, d1], _ => exact ⟨rfl, rfl, rfl⟩)
    sem8

theorem over8 : Rows.wireTwoFramesRow.holds Try.pinned (OpenSpec.ofChange Rows.wireTwoFramesSpec) :=
  OpenClaim.holds_of_wide 8 Try.f8 rfl rfl rfl rfl rfl rfl rfl ⟨rfl, rfl, rfl, rfl, rfl⟩ rfl rfl rfl rfl rfl (by kernel_rfl) Try.func8 (by kernel_rfl)
    (of_decide_eq_true (by kernel_rfl)) (by unfold Func.isWrapper; first | (rw [if_pos (by decide +kernel)]; kernel_rfl) | (rw [if_neg (by decide +kernel)]; exact ⟨rfl, rfl⟩))
    (fun os started H enc _ => lifted8 os started H enc)

theorem proved8 : Rows.WireTwoFramesSaid := over8
end Go.Proofs.Ytjlpfhekhpebpaa.WireOwn
