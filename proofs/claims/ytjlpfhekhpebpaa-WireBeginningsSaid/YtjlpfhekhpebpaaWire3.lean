/- The wire package: what its functions answer. -/
import Derived.Test.YtjlpfhekhpebpaaWire2
namespace Go.Proofs.Ytjlpfhekhpebpaa.WireOwn
open Go Go.Sx
set_option maxRecDepth 100000
set_option maxHeartbeats 4000000
set_option linter.unusedVariables false
set_option linter.unusedSimpArgs false
variable {E : Mem} {K : SV → Mem → Prop}

noncomputable def tab44 (k : Nat) : FuncId → List SV → Mem → (SV → Mem → Prop) → Prop := fun f args E K => match f with
  | 44 => d1 args fun x0 => dI x0 fun u => (0 ≤ u ∧ u < 128 ^ (k + 1) ∧ u < 1152921504606846976) ∧ (∀ (b' : Option Addr) (l' c' : Nat) (ys : List Int) (E' : Mem), Mem.le E E' → Hyp (digF k u = ys) → Bs E' b' l' c' ys → K (L b' l' c') E')
  | _ => False
noncomputable def W44 (k : Nat) : Cx := { P := Try.prog, inl := fun f => List.contains [] f, tab := tab44 k, isB := fun _ => false, tabB := fun _ _ _ _ _ => False, opt := { unroll := 0, carry := [] }, muts := mutsD }
theorem s44 {k : Nat} {u : Int} (h0 : 0 ≤ u) (h1 : u < 128 ^ (k + 1 + 1)) (h2 : u < 1152921504606846976) (hk : k ≤ 9) (h : ∀ (b' : Option Addr) (l' c' : Nat) (ys : List Int) (E' : Mem), Mem.le E E' → Hyp (digF (k + 1) u = ys) → Bs E' b' l' c' ys → K (L b' l' c') E') :
    Ent (W44 k) 6 Try.f44 [I u] E K := by
  refine same (by kernel_rfl) (?_ : 
      bif decide (u < 128) then
        ∀ (base : Option Addr) (E' : Mem),
          Mem.le E E' →
            WinE E' base [Value.int IntKind.u8 (IntKind.wrap IntKind.u8 u)] →
              Mem.le E E' ∧ K (SV.raw (Value.slice (Option.map (fun (x : Addr) => Addr.add x 0) base) 1 1)) E'
      else
        ((128 : Int) = 0 → False) ∧
          ∀ (cap' tot' : Nat),
            1 ≤ cap' →
              cap' * 1 ≤ tot' →
                ((128 : Int) = 0 → False) ∧
                  (0 ≤ IntKind.wrap IntKind.i64 (Int.tdiv u 128) ∧
                      IntKind.wrap IntKind.i64 (Int.tdiv u 128) < 128 ^ (k + 1) ∧
                        IntKind.wrap IntKind.i64 (Int.tdiv u 128) < 1152921504606846976) ∧
                    ∀ (b' : Option Addr) (l' c' : Nat) (ys : List Int) (E' : Mem),
                      Mem.le E E' →
                        Hyp (digF k (IntKind.wrap IntKind.i64 (Int.tdiv u 128)) = ys) →
                          (ys = [] ∨ E' (Value.slice b' l' c') (List.map (Value.int IntKind.u8) ys)) ∧
                              List.length ys = l' ∧
                                l' ≤ c' ∧ (∀ (z : Int), List.Mem z ys → 0 ≤ z ∧ z ≤ 255) ∧ (b' = none → ys = []) →
                            Mem.le E E' ∧
                              ∃ (cs : List Value),
                                (cs = [] ∨ E' (Value.slice b' l' c') cs) ∧
                                  l' * 1 ≤ List.length cs ∧
                                    (∀ (x : Value), List.Mem x cs → Value.oneCell' x = true) ∧
                                      1 ≤ 1 ∧
                                        cap' * 1 ≤ tot' ∧
                                          1 ≤ cap' ∧
                                            req ((1 + l') * 1 ≤ 140737488355328)
                                              (∀ (cap' tot' : Nat),
                                                1 + l' ≤ cap' →
                                                  cap' * 1 ≤ tot' →
                                                    ∀ (base : Option Addr) (E'_1 : Mem),
                                                      Mem.le E' E'_1 →
                                                        WinE E'_1 base
                                                            (Value.int IntKind.u8
                                                                (IntKind.wrap IntKind.u8
                                                                  (IntKind.wrap IntKind.i64 (128 + Int.tmod u 128))) ::
                                                              (List.take (l' * 1) cs)) →
                                                          Mem.le E E'_1 ∧
                                                            K
                                                              (SV.raw
                                                                (Value.slice
                                                                  (Option.map (fun (x : Addr) => Addr.add x 0) base) (1 + l')
                                                                  cap'))
                                                              E'_1))
  refine condC (fun hu => ?_) (fun hu => ?_)
  · have hu : u < 128 := by simpa using hu
    intro base E' hE hW
    refine ⟨hE, h _ _ _ [u] E' hE (by show digF (k + 1) u = _; unfold digF; rw [if_pos hu]) (Bs.win hW (by rw [wu8 (by omega)]; rfl) rfl (Nat.le_refl _) (by intro z hz; rw [List.mem_singleton] at hz; omega))⟩
  · have hu : ¬ u < 128 := by simpa using hu
    refine ⟨by omega, fun cap1 tot1 a1 a2 => ⟨by omega, ?_⟩⟩
    have hq : IntKind.wrap .i64 (Int.tdiv u 128) = u / 128 := by rw [Int.tdiv_eq_ediv_of_nonneg h0, wrap_i64 (by omega)]
    rw [hq]
    refine ⟨⟨by omega, by rw [Int.pow_succ] at h1; omega, by omega⟩, ?_⟩
    intro b' l' c' ys E' hE hy hB
    have hB : Bs E' b' l' c' ys := hB
    obtain ⟨s1, s2, s3⟩ := hB.src
    have hlen := hB.2.1
    have hdl := digF_len k (u / 128)
    have hy : digF k (u / 128) = ys := hy
    rw [hy] at hdl
    refine ⟨hE, _, s1, s2, s3, Nat.le_refl _, a2, a1, req_intro ?_ ?_⟩
    · omega
    intro cap2 tot2 a3 a4 base E2 hE2 hW
    refine ⟨Mem.le_trans hE hE2, h _ _ _ ((u % 128 + 128) :: ys) E2 (Mem.le_trans hE hE2) (by show digF (k + 1) u = _; unfold digF; rw [if_neg hu, hy]) (Bs.win hW ?_ (by simp [hlen]; omega) a3 ?_)⟩
    · rw [List.take_of_length_le (by simp [hlen]), Int.tmod_eq_emod_of_nonneg h0, wrap_i64 (by omega), wu8 (by omega), Int.add_comm]; rfl
    · intro z hz
      rcases List.mem_cons.1 hz with rfl | hz
      · omega
      · exact hB.2.2.2.1 z hz
noncomputable def W44z : Cx := { P := Try.prog, inl := fun f => List.contains [] f, tab := fun _ _ _ _ => False, isB := fun _ => false, tabB := fun _ _ _ _ _ => False, opt := { unroll := 0, carry := [] }, muts := mutsD }
theorem okW44z : CxOK W44z := ⟨fun _ _ _ _ h => h.elim, by kernel_rfl, okInl (by kernel_rfl), fun _ _ _ _ _ h => h.elim⟩
theorem s44z {u : Int} (h0 : 0 ≤ u) (h1 : u < 128) (h : ∀ (b' : Option Addr) (l' c' : Nat) (ys : List Int) (E' : Mem), Mem.le E E' → Hyp (digF 0 u = ys) → Bs E' b' l' c' ys → K (L b' l' c') E') :
    Ent W44z 6 Try.f44 [I u] E K := by
  refine same (by kernel_rfl) (?_ : 
      bif decide (u < 128) then
        ∀ (base : Option Addr) (E' : Mem),
          Mem.le E E' →
            WinE E' base [Value.int IntKind.u8 (IntKind.wrap IntKind.u8 u)] →
              Mem.le E E' ∧ K (SV.raw (Value.slice (Option.map (fun (x : Addr) => Addr.add x 0) base) 1 1)) E'
      else ((128 : Int) = 0 → False) ∧ ∀ (cap' tot' : Nat), 1 ≤ cap' → cap' * 1 ≤ tot' → ((128 : Int) = 0 → False) ∧ False)
  refine condC (fun hu => ?_) (fun hu => absurd h1 (by simpa using hu))
  intro base E' hE hW
  exact ⟨hE, h _ _ _ [u] E' hE rfl (Bs.win hW (by rw [wu8 (by omega)]; rfl) rfl (Nat.le_refl _) (by intro z hz; rw [List.mem_singleton] at hz; omega))⟩
theorem tab44_ok : ∀ k : Nat, k ≤ 10 → TabOK Try.prog (tab44 k)
  | 0, _ => by
    intro f args E K h
    unfold tab44 at h
    split at h
    case h_2 => exact h.elim
    obtain ⟨x0, rfl, h⟩ := d1_elim h
    obtain ⟨u, rfl, h⟩ := dI_elim h
    obtain ⟨⟨h0, h1, h2⟩, h⟩ := h
    exact Ent.sem okW44z Try.func44 ⟨by kernel_rfl, by kernel_rfl⟩ rfl (s44z h0 (by simpa using h1) h)
  | k + 1, hk => by
    intro f args E K h
    unfold tab44 at h
    split at h
    case h_2 => exact h.elim
    obtain ⟨x0, rfl, h⟩ := d1_elim h
    obtain ⟨u, rfl, h⟩ := dI_elim h
    obtain ⟨⟨h0, h1, h2⟩, h⟩ := h
    have ok : CxOK (W44 k) := ⟨tab44_ok k (by omega), by kernel_rfl, okInl (by kernel_rfl), fun _ _ _ _ _ h => h.elim⟩
    exact Ent.sem ok Try.func44 ⟨by kernel_rfl, by kernel_rfl⟩ rfl (s44 h0 h1 h2 (by omega) h)

end Go.Proofs.Ytjlpfhekhpebpaa.WireOwn
