/- The wire package: what its functions answer. -/
import Derived.Test.YtjlpfhekhpebpaaWire3
namespace Go.Proofs.Ytjlpfhekhpebpaa.WireOwn
open Go Go.Sx
set_option maxRecDepth 100000
set_option maxHeartbeats 4000000
set_option linter.unusedVariables false
set_option linter.unusedSimpArgs false
variable {E : Mem} {K : SV → Mem → Prop}
noncomputable def W4 : Cx := { P := Try.prog, inl := fun f => List.contains [] f, tab := tab44 9, isB := fun _ => false, tabB := fun _ _ _ _ _ => False, opt := { unroll := 0, carry := [] }, muts := mutsD }
theorem okW4 : CxOK W4 := ⟨tab44_ok 9 (by omega), by kernel_rfl, okInl (by kernel_rfl), fun _ _ _ _ _ h => h.elim⟩
theorem s34 {a1 : Int} (h0 : okN a1) (h : ∀ (b' : Option Addr) (l' c' : Nat) (ys : List Int) (E' : Mem), Mem.le E E' → Hyp (dig (zig a1) = ys) → Bs E' b' l' c' ys → K (L b' l' c') E') :
    Ent W4 6 Try.f34 [I a1] E K := by
  refine same (by kernel_rfl) (?_ : 
      bif decide (a1 < 0) then
        (0 ≤ IntKind.wrap IntKind.i64 (IntKind.wrap IntKind.i64 (-2 * a1) - 1) ∧
            IntKind.wrap IntKind.i64 (IntKind.wrap IntKind.i64 (-2 * a1) - 1) < 1180591620717411303424 ∧
              IntKind.wrap IntKind.i64 (IntKind.wrap IntKind.i64 (-2 * a1) - 1) < 1152921504606846976) ∧
          ∀ (b' : Option Addr) (l' c' : Nat) (ys : List Int) (E' : Mem),
            Mem.le E E' →
              Hyp (digF 9 (IntKind.wrap IntKind.i64 (IntKind.wrap IntKind.i64 (-2 * a1) - 1)) = ys) →
                (ys = [] ∨ E' (Value.slice b' l' c') (List.map (Value.int IntKind.u8) ys)) ∧
                    List.length ys = l' ∧ l' ≤ c' ∧ (∀ (z : Int), List.Mem z ys → 0 ≤ z ∧ z ≤ 255) ∧ (b' = none → ys = []) →
                  Mem.le E E' ∧ Mem.le E E' ∧ K (SV.raw (Value.slice b' l' c')) E'
      else
        (0 ≤ IntKind.wrap IntKind.i64 (2 * a1) ∧
            IntKind.wrap IntKind.i64 (2 * a1) < 1180591620717411303424 ∧
              IntKind.wrap IntKind.i64 (2 * a1) < 1152921504606846976) ∧
          ∀ (b' : Option Addr) (l' c' : Nat) (ys : List Int) (E' : Mem),
            Mem.le E E' →
              Hyp (digF 9 (IntKind.wrap IntKind.i64 (2 * a1)) = ys) →
                (ys = [] ∨ E' (Value.slice b' l' c') (List.map (Value.int IntKind.u8) ys)) ∧
                    List.length ys = l' ∧ l' ≤ c' ∧ (∀ (z : Int), List.Mem z ys → 0 ≤ z ∧ z ≤ 255) ∧ (b' = none → ys = []) →
                  Mem.le E E' ∧ Mem.le E E' ∧ K (SV.raw (Value.slice b' l' c')) E')
  have hn := h0
  have hz := zig_b hn
  have hn' : -10000000000000 ≤ a1 ∧ a1 ≤ 10000000000000 := hn
  refine condC (fun h1 => ?_) (fun h1 => ?_)
  · have h1 : a1 < 0 := by simpa using h1
    have e : zig a1 = -2 * a1 - 1 := by unfold zig; rw [if_pos h1]
    rw [wrap_i64 (x := -2 * a1) (by omega), wrap_i64 (by omega)]
    rw [e] at hz h
    exact ⟨⟨hz.1, by have := hz.2; simp; omega, hz.2⟩, fun b' l' c' ys E' hE hy hB => ⟨hE, hE, h b' l' c' ys E' hE hy hB⟩⟩
  · have h1 : ¬ a1 < 0 := by simpa using h1
    have e : zig a1 = 2 * a1 := by unfold zig; rw [if_neg h1]
    rw [wrap_i64 (by omega)]
    rw [e] at hz h
    exact ⟨⟨hz.1, by have := hz.2; simp; omega, hz.2⟩, fun b' l' c' ys E' hE hy hB => ⟨hE, hE, h b' l' c' ys E' hE hy hB⟩⟩

theorem mapB (zs xs : List Int) : vB zs ++ vB xs = vB (zs ++ xs) := by simp
theorem app_byte {zs xs : List Int} (h : ∀ z ∈ zs, 0 ≤ z ∧ z ≤ 255) (h' : ∀ z ∈ xs, 0 ≤ z ∧ z ≤ 255) : ∀ z ∈ zs ++ xs, 0 ≤ z ∧ z ≤ 255 := by
  intro z hz
  rcases List.mem_append.1 hz with q | q
  · exact h z q
  · exact h' z q
theorem tkB {l : Nat} {zs : List Int} (h : zs.length ≤ l) : List.take (l * 1) (vB zs) = vB zs := List.take_of_length_le (by simp; omega)
theorem BsB {E : Mem} {b : Option Addr} {l c : Nat} {zs : List Int} (h : Bs E b l c zs) : ∀ z ∈ zs, 0 ≤ z ∧ z ≤ 255 := h.2.2.2.1
theorem s33 {b1 : Option Addr} {l2 : Nat} {c3 : Nat} {b4 : Option Addr} {l5 : Nat} {c6 : Nat} {zs : List Int} {xs : List Int} (h0 : Bs E b1 l2 c3 zs) (h1 : Bs E b4 l5 c6 xs) (h2 : l2 ≤ 100000) (h3 : l5 ≤ 100000) (h : ∀ (b' : Option Addr) (l' c' : Nat) (ys : List Int) (E' : Mem), Mem.le E E' → Hyp (zs ++ xs = ys) → Bs E' b' l' c' ys → K (L b' l' c') E') :
    Ent W4 6 Try.f33 [L b1 l2 c3, L b4 l5 c6] E K := by
  refine same (by kernel_rfl) (?_ : 
      ∃ (cs : List Value),
        (cs = [] ∨ E (Value.slice b1 l2 c3) cs) ∧
          l2 * 1 ≤ List.length cs ∧
            (∀ (x : Value), List.Mem x cs → Value.oneCell' x = true) ∧
              req (l2 * 1 ≤ 140737488355328)
                (∀ (cap' tot' : Nat),
                  l2 ≤ cap' →
                    cap' * 1 ≤ tot' →
                      ∃ (cs_1 : List Value),
                        (cs_1 = [] ∨ E (Value.slice b4 l5 c6) cs_1) ∧
                          l5 * 1 ≤ List.length cs_1 ∧
                            (∀ (x : Value), List.Mem x cs_1 → Value.oneCell' x = true) ∧
                              l2 * 1 ≤ List.length (Row.cells (Row.vals (List.take (l2 * 1) cs))) ∧
                                cap' * 1 ≤ tot' ∧
                                  l2 ≤ cap' ∧
                                    req ((l2 + l5) * 1 ≤ 140737488355328)
                                      (∀ (cap' tot' : Nat),
                                        l2 + l5 ≤ cap' →
                                          cap' * 1 ≤ tot' →
                                            ∀ (base : Option Addr) (E' : Mem),
                                              Mem.le E E' →
                                                WinE E' base
                                                    (List.take (l2 * 1) (List.take (l2 * 1) cs) ++ List.take (l5 * 1) cs_1) →
                                                  Mem.le E E' ∧
                                                    K
                                                      (SV.raw
                                                        (Value.slice (Option.map (fun (x : Addr) => Addr.add x 0) base)
                                                          (l2 + l5) cap'))
                                                      E')))
  obtain ⟨s1, s2, s3⟩ := h0.src
  obtain ⟨t1, t2, t3⟩ := h1.src
  have hl := h0.2.1
  have hk := h1.2.1
  refine ⟨_, s1, s2, s3, req_intro (by omega) ?_⟩
  intro cap1 tot1 g1 g2
  refine ⟨_, t1, t2, t3, ?_, g2, g1, req_intro (by omega) ?_⟩
  · simp [Row.cells, hl]
  intro cap2 tot2 g3 g4 base E' hE hW
  rw [tkB (Nat.le_of_eq hl), tkB (Nat.le_of_eq hl), tkB (Nat.le_of_eq hk), mapB] at hW
  exact ⟨hE, h _ _ _ (zs ++ xs) E' hE rfl (Bs.win hW rfl (by simp [hl, hk]) g3 (app_byte (BsB h0) (BsB h1)))⟩
noncomputable def tab4 : FuncId → List SV → Mem → (SV → Mem → Prop) → Prop := fun f args E K => match f with
  | 34 => d1 args fun x0 => dI x0 fun a1 => okN a1 ∧ (∀ (b' : Option Addr) (l' c' : Nat) (ys : List Int) (E' : Mem), Mem.le E E' → Hyp (dig (zig a1) = ys) → Bs E' b' l' c' ys → K (L b' l' c') E')
  | 33 => d2 args fun x0 x1 => dS x0 fun b1 l2 c3 => dS x1 fun b4 l5 c6 => ∃ (zs : List Int) (xs : List Int), Bs E b1 l2 c3 zs ∧ Bs E b4 l5 c6 xs ∧ l2 ≤ 100000 ∧ l5 ≤ 100000 ∧ (∀ (b' : Option Addr) (l' c' : Nat) (ys : List Int) (E' : Mem), Mem.le E E' → Hyp (zs ++ xs = ys) → Bs E' b' l' c' ys → K (L b' l' c') E')
  | _ => False
theorem tab4_ok : TabOK Try.prog tab4 := by
  intro f args E K h
  unfold tab4 at h
  split at h
  · obtain ⟨x0, rfl, h⟩ := d1_elim h
    obtain ⟨a1, rfl, h⟩ := dI_elim h
    obtain ⟨g0, h⟩ := h
    exact TabSem.congr (valL_cons rfl rfl) (Ent.sem okW4 Try.func34 ⟨by kernel_rfl, by kernel_rfl⟩ rfl (s34 g0 h))
  · obtain ⟨x0, x1, rfl, h⟩ := d2_elim h
    obtain ⟨b1, l2, c3, rfl, h⟩ := dS_elim h
    obtain ⟨b4, l5, c6, rfl, h⟩ := dS_elim h
    obtain ⟨zs, xs, g0, g1, g2, g3, h⟩ := h
    exact TabSem.congr (valL_cons rfl (valL_cons rfl rfl)) (Ent.sem okW4 Try.func33 ⟨by kernel_rfl, by kernel_rfl⟩ rfl (s33 g0 g1 g2 g3 h))
  · exact h.elim
noncomputable def W5 : Cx := { P := Try.prog, inl := fun f => List.contains [32] f, tab := tab4, isB := fun _ => false, tabB := fun _ _ _ _ _ => False, opt := { unroll := 0, carry := [] }, muts := mutsD }
theorem okW5 : CxOK W5 := ⟨tab4_ok, by kernel_rfl, okInl (by kernel_rfl), fun _ _ _ _ _ h => h.elim⟩

def putB (zs xs : List Int) : List Int × Int := if xs.length ≤ 4000 then (zs ++ dig (zig xs.length) ++ xs, 0) else ([], 2)
theorem dig_len7 (n : Int) : (dig n).length ≤ 10 := (dig_len n).2
theorem s13 {b1 : Option Addr} {l2 : Nat} {c3 : Nat} {a4 : Int} {zs : List Int} (h0 : Bs E b1 l2 c3 zs) (h1 : l2 ≤ 10000) (h : ∀ (b' : Option Addr) (l' c' : Nat) (ys : List Int) (e : Int) (E' : Mem), Mem.le E E' → Hyp (putN zs a4 = (ys, e)) → Bs E' b' l' c' ys → K (.tup [L b' l' c', I e]) E') :
    Ent W5 6 Try.f13 [L b1 l2 c3, I a4] E K := by
  refine same (by kernel_rfl) (?_ : 
      bif decide (a4 ≥ -10000000000000) then
        Mem.le E E ∧
          bif !bif true then decide (a4 ≤ 10000000000000) else false then
            Mem.le E E ∧ K (SV.tup [SV.raw (Value.slice none 0 0), SV.raw (Value.int IntKind.i64 3)]) E
          else
            (-10000000000000 ≤ a4 ∧ a4 ≤ 10000000000000) ∧
              ∀ (b' : Option Addr) (l' c' : Nat) (ys : List Int) (E' : Mem),
                Mem.le E E' →
                  Hyp (dig (zig a4) = ys) →
                    (ys = [] ∨ E' (Value.slice b' l' c') (List.map (Value.int IntKind.u8) ys)) ∧
                        List.length ys = l' ∧
                          l' ≤ c' ∧ (∀ (z : Int), List.Mem z ys → 0 ≤ z ∧ z ≤ 255) ∧ (b' = none → ys = []) →
                      Mem.le E E' ∧
                        ∃ (zs : List Int),
                          ∃ (xs : List Int),
                            ((zs = [] ∨ E' (Value.slice b1 l2 c3) (List.map (Value.int IntKind.u8) zs)) ∧
                                List.length zs = l2 ∧
                                  l2 ≤ c3 ∧ (∀ (z : Int), List.Mem z zs → 0 ≤ z ∧ z ≤ 255) ∧ (b1 = none → zs = [])) ∧
                              ((xs = [] ∨ E' (Value.slice b' l' c') (List.map (Value.int IntKind.u8) xs)) ∧
                                  List.length xs = l' ∧
                                    l' ≤ c' ∧ (∀ (z : Int), List.Mem z xs → 0 ≤ z ∧ z ≤ 255) ∧ (b' = none → xs = [])) ∧
                                l2 ≤ 100000 ∧
                                  l' ≤ 100000 ∧
                                    ∀ (b' : Option Addr) (l' c' : Nat) (ys : List Int) (E'_1 : Mem),
                                      Mem.le E' E'_1 →
                                        Hyp (zs ++ xs = ys) →
                                          (ys = [] ∨ E'_1 (Value.slice b' l' c') (List.map (Value.int IntKind.u8) ys)) ∧
                                              List.length ys = l' ∧
                                                l' ≤ c' ∧
                                                  (∀ (z : Int), List.Mem z ys → 0 ≤ z ∧ z ≤ 255) ∧ (b' = none → ys = []) →
                                            Mem.le E' E'_1 ∧
                                              Mem.le E E'_1 ∧
                                                K (SV.tup [SV.raw (Value.slice b' l' c'), SV.raw (Value.int IntKind.i64 0)])
                                                  E'_1
      else Mem.le E E ∧ Mem.le E E ∧ K (SV.tup [SV.raw (Value.slice none 0 0), SV.raw (Value.int IntKind.i64 3)]) E)
  have hB := h0
  have hlen := hB.2.1
  have hbad : ¬ okN a4 → K (.tup [L none 0 0, I 3]) E := fun hn => h none 0 0 [] 3 E (Mem.le_refl _) (by show putN zs a4 = _; unfold putN; rw [if_neg hn]) (Bs.nil E)
  refine condC (fun h2 => ?_) (fun h2 => ?_)
  · refine ⟨Mem.le_refl _, ?_⟩
    refine condC (fun h3 => ?_) (fun h3 => ?_)
    · exact ⟨Mem.le_refl _, hbad (fun hx => by simp at h3; unfold okN at hx; omega)⟩
    · have hok : okN a4 := by simp at h2 h3; exact ⟨h2, h3⟩
      have hp : putN zs a4 = (zs ++ dig (zig a4), 0) := by unfold putN; rw [if_pos hok]
      have hd := dig_len7 (zig a4)
      refine ⟨hok, fun b' l' c' ys E1 hE1 hy hB1 => ⟨hE1, zs, ys, hB.mono hE1, hB1, by omega, ?_, fun b2 l2' c2 ys2 E2 hE2 hy2 hB2 => ⟨hE2, Mem.le_trans hE1 hE2, h b2 l2' c2 ys2 0 E2 (Mem.le_trans hE1 hE2) ?_ hB2⟩⟩⟩
      · have hy : dig (zig a4) = ys := hy
        have hB1 : Bs E1 b' l' c' ys := hB1
        rw [hy, hB1.2.1] at hd; omega
      · have hy : dig (zig a4) = ys := hy
        have hy2 : zs ++ ys = ys2 := hy2
        show putN zs a4 = _
        rw [hp, hy, hy2]
  · exact ⟨Mem.le_refl _, Mem.le_refl _, hbad (fun hx => by simp at h2; unfold okN at hx; omega)⟩
theorem s18 {b1 : Option Addr} {l2 : Nat} {c3 : Nat} {b4 : Option Addr} {l5 : Nat} {c6 : Nat} {zs : List Int} {xs : List Int} (h0 : Bs E b1 l2 c3 zs) (h1 : Bs E b4 l5 c6 xs) (h2 : l2 ≤ 10000) (h : ∀ (b' : Option Addr) (l' c' : Nat) (ys : List Int) (e : Int) (E' : Mem), Mem.le E E' → Hyp (putB zs xs = (ys, e)) → Bs E' b' l' c' ys → K (.tup [L b' l' c', I e]) E') :
    Ent W5 6 Try.f18 [L b1 l2 c3, L b4 l5 c6] E K := by
  refine same (by kernel_rfl) (?_ : 
      bif decide ((↑l5 : Int) > 4000) then
        Mem.le E E ∧ K (SV.tup [SV.raw (Value.slice none 0 0), SV.raw (Value.int IntKind.i64 2)]) E
      else
        (-10000000000000 ≤ (↑l5 : Int) ∧ (↑l5 : Int) ≤ 10000000000000) ∧
          ∀ (b' : Option Addr) (l' c' : Nat) (ys : List Int) (E' : Mem),
            Mem.le E E' →
              Hyp (dig (zig (↑l5 : Int)) = ys) →
                (ys = [] ∨ E' (Value.slice b' l' c') (List.map (Value.int IntKind.u8) ys)) ∧
                    List.length ys = l' ∧ l' ≤ c' ∧ (∀ (z : Int), List.Mem z ys → 0 ≤ z ∧ z ≤ 255) ∧ (b' = none → ys = []) →
                  Mem.le E E' ∧
                    ∃ (zs : List Int),
                      ∃ (xs : List Int),
                        ((zs = [] ∨ E' (Value.slice b1 l2 c3) (List.map (Value.int IntKind.u8) zs)) ∧
                            List.length zs = l2 ∧
                              l2 ≤ c3 ∧ (∀ (z : Int), List.Mem z zs → 0 ≤ z ∧ z ≤ 255) ∧ (b1 = none → zs = [])) ∧
                          ((xs = [] ∨ E' (Value.slice b' l' c') (List.map (Value.int IntKind.u8) xs)) ∧
                              List.length xs = l' ∧
                                l' ≤ c' ∧ (∀ (z : Int), List.Mem z xs → 0 ≤ z ∧ z ≤ 255) ∧ (b' = none → xs = [])) ∧
                            l2 ≤ 100000 ∧
                              l' ≤ 100000 ∧
                                ∀ (b' : Option Addr) (l' c' : Nat) (ys : List Int) (E'_1 : Mem),
                                  Mem.le E' E'_1 →
                                    Hyp (zs ++ xs = ys) →
                                      (ys = [] ∨ E'_1 (Value.slice b' l' c') (List.map (Value.int IntKind.u8) ys)) ∧
                                          List.length ys = l' ∧
                                            l' ≤ c' ∧ (∀ (z : Int), List.Mem z ys → 0 ≤ z ∧ z ≤ 255) ∧ (b' = none → ys = []) →
                                        Mem.le E' E'_1 ∧
                                          ∃ (zs : List Int),
                                            ∃ (xs : List Int),
                                              ((zs = [] ∨ E'_1 (Value.slice b' l' c') (List.map (Value.int IntKind.u8) zs)) ∧
                                                  List.length zs = l' ∧
                                                    l' ≤ c' ∧
                                                      (∀ (z : Int), List.Mem z zs → 0 ≤ z ∧ z ≤ 255) ∧
                                                        (b' = none → zs = [])) ∧
                                                ((xs = [] ∨
                                                      E'_1 (Value.slice b4 l5 c6) (List.map (Value.int IntKind.u8) xs)) ∧
                                                    List.length xs = l5 ∧
                                                      l5 ≤ c6 ∧
                                                        (∀ (z : Int), List.Mem z xs → 0 ≤ z ∧ z ≤ 255) ∧
                                                          (b4 = none → xs = [])) ∧
                                                  l' ≤ 100000 ∧
                                                    l5 ≤ 100000 ∧
                                                      ∀ (b' : Option Addr) (l' c' : Nat) (ys : List Int) (E' : Mem),
                                                        Mem.le E'_1 E' →
                                                          Hyp (zs ++ xs = ys) →
                                                            (ys = [] ∨
                                                                  E' (Value.slice b' l' c')
                                                                    (List.map (Value.int IntKind.u8) ys)) ∧
                                                                List.length ys = l' ∧
                                                                  l' ≤ c' ∧
                                                                    (∀ (z : Int), List.Mem z ys → 0 ≤ z ∧ z ≤ 255) ∧
                                                                      (b' = none → ys = []) →
                                                              Mem.le E'_1 E' ∧
                                                                Mem.le E E' ∧
                                                                  K
                                                                    (SV.tup
                                                                      [SV.raw (Value.slice b' l' c'),
                                                                        SV.raw (Value.int IntKind.i64 0)])
                                                                    E')
  have hB := h0
  have hlen := hB.2.1
  have hX := h1
  have hxl := hX.2.1
  refine condC (fun h2 => ?_) (fun h2 => ?_)
  · exact ⟨Mem.le_refl _, h none 0 0 [] 2 E (Mem.le_refl _) (by show putB zs xs = _; unfold putB; rw [if_neg (by simp at h2; omega)]) (Bs.nil E)⟩
  · have h2 : l5 ≤ 4000 := by simp at h2; omega
    have hp : putB zs xs = (zs ++ dig (zig l5) ++ xs, 0) := by unfold putB; rw [if_pos (by omega), hxl]
    have hd := dig_len7 (zig l5)
    refine ⟨⟨by omega, by omega⟩, fun b' l' c' ys E1 hE1 hy hB1 => ⟨hE1, zs, ys, hB.mono hE1, hB1, by omega, ?_, fun b2 l2' c2 ys2 E2 hE2 hy2 hB2 => ⟨hE2, ys2, xs, hB2, (hX.mono hE1).mono hE2, ?_, by omega, fun b3 l3 c3' ys3 E3 hE3 hy3 hB3 => ⟨hE3, Mem.le_trans hE1 (Mem.le_trans hE2 hE3), h b3 l3 c3' ys3 0 E3 (Mem.le_trans hE1 (Mem.le_trans hE2 hE3)) ?_ hB3⟩⟩⟩⟩
    · have hy : dig (zig l5) = ys := hy
      have hB1 : Bs E1 b' l' c' ys := hB1
      rw [hy, hB1.2.1] at hd; omega
    · have hy : dig (zig l5) = ys := hy
      have hy2 : zs ++ ys = ys2 := hy2
      have hB2 : Bs E2 b2 l2' c2 ys2 := hB2
      rw [hy] at hd
      rw [← hB2.2.1, ← hy2]; simp; omega
    · have hy : dig (zig l5) = ys := hy
      have hy2 : zs ++ ys = ys2 := hy2
      have hy3 : ys2 ++ xs = ys3 := hy3
      show putB zs xs = _
      rw [hp, hy, hy2, hy3]
noncomputable def W6 : Cx := { P := Try.prog, inl := fun f => List.contains [30] f, tab := tab1, isB := fun f => f == 29, tabB := tabB1, opt := { unroll := 0, carry := [] }, muts := mutsD }
theorem okW6 : CxOK W6 := ⟨tab1_ok, by kernel_rfl, okInl (by kernel_rfl), tabB1_ok⟩
theorem s17 {b1 : Option Addr} {l2 : Nat} {c3 : Nat} {b4 : Option Addr} {l5 : Nat} {c6 : Nat} {zs : List Int} {xs : List Int} (h0 : Bs E b1 l2 c3 zs) (h1 : Bs E b4 l5 c6 xs) (h2 : l2 ≤ 10000) (h : ∀ (b' : Option Addr) (l' c' : Nat) (ys : List Int) (e : Int) (E' : Mem), Mem.le E E' → Hyp (putB zs xs = (ys, e)) → Bs E' b' l' c' ys → K (.tup [L b' l' c', I e]) E') :
    Ent W6 6 Try.f17 [L b1 l2 c3, L b4 l5 c6] E K := by
  refine same (by kernel_rfl) (?_ : 
      bif decide ((↑l5 : Int) > 4000) then
        Mem.le E E ∧ K (SV.tup [SV.raw (Value.slice none 0 0), SV.raw (Value.int IntKind.i64 2)]) E
      else
        bif Option.isNone b1 then
          Mem.le E E ∧
            (-10000000000000 ≤ (↑l5 : Int) ∧ (↑l5 : Int) ≤ 10000000000000) ∧
              Mem.le E E ∧
                (0 ≤ zig (↑l5 : Int) ∧ zig (↑l5 : Int) < 1152921504606846976) ∧
                  ∀ (cap' tot' : Nat),
                    List.length (dig (zig (↑l5 : Int))) ≤ cap' →
                      cap' ≤ tot' →
                        Mem.le E E ∧
                          ∃ (cs : List Value),
                            (cs = [] ∨ E (Value.slice b4 l5 c6) cs) ∧
                              l5 * 1 ≤ List.length cs ∧
                                (∀ (x : Value), List.Mem x cs → Value.oneCell' x = true) ∧
                                  List.length (dig (zig (↑l5 : Int))) * 1 ≤
                                      List.length (Row.cells (Row.ren [] 0 (Row.vals (vB (dig (zig (↑l5 : Int))))))) ∧
                                    cap' * 1 ≤ tot' ∧
                                      List.length (dig (zig (↑l5 : Int))) ≤ cap' ∧
                                        req ((List.length (dig (zig (↑l5 : Int))) + l5) * 1 ≤ 140737488355328)
                                          (∀ (cap' tot' : Nat),
                                            List.length (dig (zig (↑l5 : Int))) + l5 ≤ cap' →
                                              cap' * 1 ≤ tot' →
                                                ∀ (base : Option Addr) (E' : Mem),
                                                  Mem.le E E' →
                                                    WinE E' base
                                                        (List.take (List.length (dig (zig (↑l5 : Int))) * 1)
                                                            (vB (dig (zig (↑l5 : Int)))) ++
                                                          List.take (l5 * 1) cs) →
                                                      Mem.le E E' ∧
                                                        K
                                                          (SV.tup
                                                            [SV.raw
                                                                (Value.slice
                                                                  (Option.map (fun (x : Addr) => Addr.add x 0) base)
                                                                  (List.length (dig (zig (↑l5 : Int))) + l5) cap'),
                                                              SV.raw (Value.int IntKind.i64 0)])
                                                          E')
        else
          ∃ (cs : List Value),
            (cs = [] ∨ E (Value.slice b1 l2 c3) cs) ∧
              l2 * 1 ≤ List.length cs ∧
                (∀ (x : Value), List.Mem x cs → Value.oneCell' x = true) ∧
                  0 ≤ 0 ∧
                    0 ≤ 0 ∧
                      0 ≤ 0 ∧
                        req ((0 + l2) * 1 ≤ 140737488355328)
                          (∀ (cap' tot' : Nat),
                            0 + l2 ≤ cap' →
                              cap' * 1 ≤ tot' →
                                Mem.le E E ∧
                                  (-10000000000000 ≤ (↑l5 : Int) ∧ (↑l5 : Int) ≤ 10000000000000) ∧
                                    Mem.le E E ∧
                                      (0 ≤ zig (↑l5 : Int) ∧ zig (↑l5 : Int) < 1152921504606846976) ∧
                                        ∃ (l : List Int),
                                          (5 = 5 ∧
                                              [] ++ List.take (l2 * 1) cs = vB l ∧
                                                List.length l = 0 + l2 ∧ 0 + l2 ≤ cap' ∧ cap' ≤ tot' ∧ 0 + l2 ≤ 1000000) ∧
                                            ∀ (cap' tot' : Nat),
                                              0 + l2 + List.length (dig (zig (↑l5 : Int))) ≤ cap' →
                                                cap' ≤ tot' →
                                                  ∃ (cs : List Value),
                                                    (cs = [] ∨ E (Value.slice b4 l5 c6) cs) ∧
                                                      l5 * 1 ≤ List.length cs ∧
                                                        (∀ (x : Value), List.Mem x cs → Value.oneCell' x = true) ∧
                                                          (0 + l2 + List.length (dig (zig (↑l5 : Int)))) * 1 ≤
                                                              List.length
                                                                (Row.cells (Row.vals (vB (l ++ dig (zig (↑l5 : Int)))))) ∧
                                                            cap' * 1 ≤ tot' ∧
                                                              0 + l2 + List.length (dig (zig (↑l5 : Int))) ≤ cap' ∧
                                                                req
                                                                  ((0 + l2 + List.length (dig (zig (↑l5 : Int))) + l5) * 1 ≤
                                                                    140737488355328)
                                                                  (∀ (cap' tot' : Nat),
                                                                    0 + l2 + List.length (dig (zig (↑l5 : Int))) + l5 ≤ cap' →
                                                                      cap' * 1 ≤ tot' →
                                                                        ∀ (base : Option Addr) (E' : Mem),
                                                                          Mem.le E E' →
                                                                            WinE E' base
                                                                                (List.take
                                                                                    ((0 + l2 +
                                                                                        List.length (dig (zig (↑l5 : Int)))) *
                                                                                      1)
                                                                                    (vB (l ++ dig (zig (↑l5 : Int)))) ++
                                                                                  List.take (l5 * 1) cs) →
                                                                              Mem.le E E' ∧
                                                                                K
                                                                                  (SV.tup
                                                                                    [SV.raw
                                                                                        (Value.slice
                                                                                          (Option.map
                                                                                            (fun (x : Addr) => Addr.add x 0)
                                                                                            base)
                                                                                          (0 + l2 +
                                                                                              List.length
                                                                                                (dig (zig (↑l5 : Int))) +
                                                                                            l5)
                                                                                          cap'),
                                                                                      SV.raw (Value.int IntKind.i64 0)])
                                                                                  E')))
  have hB := h0
  have hlen := hB.2.1
  have hX := h1
  have hxl := hX.2.1
  refine condC (fun h2 => ?_) (fun h2 => ?_)
  · exact ⟨Mem.le_refl _, h none 0 0 [] 2 E (Mem.le_refl _) (by show putB zs xs = _; unfold putB; rw [if_neg (by simp at h2; omega)]) (Bs.nil E)⟩
  · have h2 : l5 ≤ 4000 := by simp at h2; omega
    have hp : putB zs xs = (zs ++ dig (zig l5) ++ xs, 0) := by unfold putB; rw [if_pos (by omega), hxl]
    have hd := dig_len7 (zig l5)
    have hok : okN (l5 : Int) := ⟨by omega, by omega⟩
    have hz := zig_b hok
    obtain ⟨t1, t2, t3⟩ := hX.src
    refine condC (fun hb => ?_) (fun hb => ?_)
    · have hnil : zs = [] := hB.2.2.2.2 (by simpa using hb)
      subst hnil
      refine ⟨Mem.le_refl _, hok, Mem.le_refl _, hz, fun cap1 tot1 g1 g2 => ⟨Mem.le_refl _, _, t1, t2, t3, by simp [Row.cells, Row.ren], by omega, g1, req_intro (by omega) ?_⟩⟩
      intro cap2 tot2 g3 g4 base E' hE hW
      rw [tkB (Nat.le_refl _), tkB (Nat.le_of_eq hxl), mapB] at hW
      exact ⟨hE, h _ _ _ (dig (zig l5) ++ xs) 0 E' hE hp (Bs.win hW rfl (by simp [hxl]) g3 (app_byte (dig_byte hz.1 hz.2) (BsB hX)))⟩
    · obtain ⟨s1, s2, s3⟩ := hB.src
      refine ⟨_, s1, s2, s3, Nat.le_refl _, Nat.le_refl _, Nat.le_refl _, req_intro (by omega) ?_⟩
      intro cap1 tot1 g1 g2
      refine ⟨Mem.le_refl _, hok, Mem.le_refl _, hz, zs, ⟨rfl, ?_, by omega, g1, by omega, by omega⟩, ?_⟩
      · rw [List.nil_append, tkB (Nat.le_of_eq hlen)]
      intro cap2 tot2 g3 g4
      refine ⟨_, t1, t2, t3, by simp [Row.cells, hlen], by omega, g3, req_intro (by omega) ?_⟩
      intro cap3 tot3 g5 g6 base E' hE hW
      rw [tkB (by simp [hlen]), tkB (Nat.le_of_eq hxl), mapB] at hW
      exact ⟨hE, h _ _ _ (zs ++ dig (zig l5) ++ xs) 0 E' hE hp (Bs.win hW rfl (by simp [hlen, hxl]; omega) g5 (app_byte (app_byte (BsB hB) (dig_byte hz.1 hz.2)) (BsB hX)))⟩

end Go.Proofs.Ytjlpfhekhpebpaa.WireOwn
