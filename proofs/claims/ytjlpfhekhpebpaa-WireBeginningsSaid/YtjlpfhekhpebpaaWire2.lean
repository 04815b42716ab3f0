/- The wire package: what its functions answer. -/
import Derived.Test.YtjlpfhekhpebpaaWire1
namespace Go.Proofs.Ytjlpfhekhpebpaa.WireOwn
open Go Go.Sx
set_option maxRecDepth 100000
set_option maxHeartbeats 4000000
set_option linter.unusedVariables false
set_option linter.unusedSimpArgs false
variable {E : Mem} {K : SV → Mem → Prop}

noncomputable def tab1 : FuncId → List SV → Mem → (SV → Mem → Prop) → Prop := fun f args E K => match f with
  | 31 => d1 args fun x0 => dI x0 fun a1 => (-10000000000000 ≤ a1 ∧ a1 ≤ 10000000000000) ∧ (K (I (zig a1)) E)
  | _ => False
theorem tab1_ok : TabOK Try.prog tab1 := by
  intro f args E K h
  unfold tab1 at h
  split at h
  · obtain ⟨x0, rfl, h⟩ := d1_elim h
    obtain ⟨a1, rfl, h⟩ := dI_elim h
    obtain ⟨g0, h⟩ := h
    exact TabSem.congr (valL_cons rfl rfl) (Ent.sem okW0 Try.func31 ⟨by kernel_rfl, by kernel_rfl⟩ rfl (s31 g0 h))
  · exact h.elim

noncomputable def tabB1 : CallT := fun f args bx E K => match f with
  | 29 => d2 args fun x0 x1 => dI x1 fun u => (0 ≤ u ∧ u < 1152921504606846976) ∧ (match x0 with
    | .raw (.slice none 0 0) => ∀ cap' tot' : Nat, (dig u).length ≤ cap' → cap' ≤ tot' → K (.slc bx.length 0 (dig u).length cap') (bx ++ [⟨5, .vals (vB (dig u)), tot', true⟩]) E
    | .slc b 0 n cap => match bx[b]? with
      | some ⟨e, .vals vs, tot, true⟩ => ∃ l : List Int, (e = 5 ∧ vs = vB l ∧ l.length = n ∧ n ≤ cap ∧ cap ≤ tot ∧ n ≤ 1000000) ∧
          ∀ cap' tot' : Nat, n + (dig u).length ≤ cap' → cap' ≤ tot' → K (.slc bx.length 0 (n + (dig u).length) cap') (bx.set b deadB ++ [⟨5, .vals (vB (l ++ dig u)), tot', true⟩]) E
      | _ => False
    | _ => False)
  | _ => False
theorem tabB1_ok : ∀ f args bx E K, tabB1 f args bx E K → CallSem Try.prog f args bx E K := by
  intro f args bx E K h
  unfold tabB1 at h
  split at h
  case h_2 => exact h.elim
  obtain ⟨x0, x1, rfl, h⟩ := d2_elim h
  obtain ⟨u, rfl, h⟩ := dI_elim h
  obtain ⟨⟨h0, h1⟩, h⟩ := h
  split at h
  · refine CallSem.own0 (argv := [.slice none 0 0, .int .i64 u]) rfl (EntB.sem okW0 Try.func29 ⟨by kernel_rfl, by kernel_rfl⟩ (b29n h0 h1 ?_))
    rintro s bx' ⟨cap', tot', g1, g2, τ, hw⟩
    exact cloK_intro τ ⟨_, cap', 5, _, tot', rfl, rfl, h cap' tot' g1 g2⟩ hw
  · rename_i b n cap
    split at h
    case h_2 => exact h.elim
    rename_i e vs tot hb
    obtain ⟨l, ⟨rfl, rfl, hl, hnc, hct, hsz⟩, h⟩ := h
    refine CallSem.own1 (rest := [I u]) (restv := [.int .i64 u]) hb rfl (EntB.sem okW0 Try.func29 ⟨by kernel_rfl, by kernel_rfl⟩ (b29 hl hnc hct hsz h0 h1 ?_))
    rintro s bx' ⟨cap', tot', g1, g2, τ, hw⟩
    exact cloK_intro τ ⟨_, cap', _, tot', rfl, rfl, h cap' tot' g1 g2⟩ hw
  · exact h.elim
noncomputable def W1 : Cx := { P := Try.prog, inl := fun f => List.contains [28, 30] f, tab := tab1, isB := fun f => f == 29, tabB := tabB1, opt := { unroll := 0, carry := [] }, muts := mutsD }
theorem okW1 : CxOK W1 := ⟨tab1_ok, by kernel_rfl, okInl (by kernel_rfl), tabB1_ok⟩

def okN (n : Int) : Prop := -10000000000000 ≤ n ∧ n ≤ 10000000000000
instance (n : Int) : Decidable (okN n) := inferInstanceAs (Decidable (_ ∧ _))
def putN (zs : List Int) (n : Int) : List Int × Int := if okN n then (zs ++ dig (zig n), 0) else ([], 3)
theorem zig_b {n : Int} (h : okN n) : 0 ≤ zig n ∧ zig n < 1152921504606846976 := by
  unfold okN at h
  unfold zig
  split <;> omega
theorem s12 {b : Option Addr} {l c : Nat} {zs : List Int} {n : Int} (hB : Bs E b l c zs) (hl : l ≤ 100000)
    (h : ∀ (b' : Option Addr) (l' c' : Nat) (ys : List Int) (e : Int) (E' : Mem), Mem.le E E' → Hyp (putN zs n = (ys, e)) → Bs E' b' l' c' ys → K (.tup [L b' l' c', I e]) E') : Ent W1 6 Try.f12 [L b l c, I n] E K := by
  refine same (by kernel_rfl) (?_ : 
      bif decide (n ≥ -10000000000000) then
        Mem.le E E ∧
          bif !bif true then decide (n ≤ 10000000000000) else false then
            Mem.le E E ∧ K (SV.tup [SV.raw (Value.slice none 0 0), SV.raw (Value.int IntKind.i64 3)]) E
          else
            bif Option.isNone b then
              Mem.le E E ∧
                (-10000000000000 ≤ n ∧ n ≤ 10000000000000) ∧
                  Mem.le E E ∧
                    (0 ≤ zig n ∧ zig n < 1152921504606846976) ∧
                      ∀ (cap' tot' : Nat),
                        List.length (dig (zig n)) ≤ cap' →
                          cap' ≤ tot' →
                            Mem.le E E ∧
                              ∀ (base : Option Addr) (E' : Mem),
                                Mem.le E E' →
                                  WinE E' base (vB (dig (zig n))) →
                                    Mem.le E E' ∧
                                      K
                                        (SV.tup
                                          [SV.raw
                                              (Value.slice (Option.map (fun (x : Addr) => Addr.add x 0) base)
                                                (List.length (dig (zig n))) cap'),
                                            SV.raw (Value.int IntKind.i64 0)])
                                        E'
            else
              ∃ (cs : List Value),
                (cs = [] ∨ E (Value.slice b l c) cs) ∧
                  l * 1 ≤ List.length cs ∧
                    (∀ (x : Value), List.Mem x cs → Value.oneCell' x = true) ∧
                      0 ≤ 0 ∧
                        0 ≤ 0 ∧
                          0 ≤ 0 ∧
                            req ((0 + l) * 1 ≤ 140737488355328)
                              (∀ (cap' tot' : Nat),
                                0 + l ≤ cap' →
                                  cap' * 1 ≤ tot' →
                                    Mem.le E E ∧
                                      (-10000000000000 ≤ n ∧ n ≤ 10000000000000) ∧
                                        Mem.le E E ∧
                                          (0 ≤ zig n ∧ zig n < 1152921504606846976) ∧
                                            ∃ (l_1 : List Int),
                                              (5 = 5 ∧
                                                  [] ++ List.take (l * 1) cs = vB l_1 ∧
                                                    List.length l_1 = 0 + l ∧ 0 + l ≤ cap' ∧ cap' ≤ tot' ∧ 0 + l ≤ 1000000) ∧
                                                ∀ (cap' tot' : Nat),
                                                  0 + l + List.length (dig (zig n)) ≤ cap' →
                                                    cap' ≤ tot' →
                                                      ∀ (base : Option Addr) (E' : Mem),
                                                        Mem.le E E' →
                                                          WinE E' base (vB (l_1 ++ dig (zig n))) →
                                                            Mem.le E E' ∧
                                                              K
                                                                (SV.tup
                                                                  [SV.raw
                                                                      (Value.slice
                                                                        (Option.map (fun (x : Addr) => Addr.add x 0) base)
                                                                        (0 + l + List.length (dig (zig n))) cap'),
                                                                    SV.raw (Value.int IntKind.i64 0)])
                                                                E')
      else Mem.le E E ∧ Mem.le E E ∧ K (SV.tup [SV.raw (Value.slice none 0 0), SV.raw (Value.int IntKind.i64 3)]) E)
  have hbad : ¬ okN n → K (.tup [L none 0 0, I 3]) E := fun hn => h none 0 0 [] 3 E (Mem.le_refl _) (by show putN zs n = _; unfold putN; rw [if_neg hn]) (Bs.nil E)
  refine condC (fun h1 => ?_) (fun h1 => ?_)
  · refine ⟨Mem.le_refl _, ?_⟩
    refine condC (fun h2 => ?_) (fun h2 => ?_)
    · exact ⟨Mem.le_refl _, hbad (fun hx => by simp at h2; unfold okN at hx; omega)⟩
    · have hok : okN n := by simp at h1 h2; exact ⟨h1, h2⟩
      have hz := zig_b hok
      have hp : putN zs n = (zs ++ dig (zig n), 0) := by unfold putN; rw [if_pos hok]
      refine condC (fun hb => ?_) (fun hb => ?_)
      · have hnil : zs = [] := hB.2.2.2.2 (by simpa using hb)
        subst hnil
        refine ⟨Mem.le_refl _, hok, Mem.le_refl _, hz, fun cap' tot' g1 g2 => ⟨Mem.le_refl _, fun base E' hE hW => ⟨hE, ?_⟩⟩⟩
        exact h _ _ _ (dig (zig n)) 0 E' hE hp (Bs.win hW rfl rfl g1 (dig_byte hz.1 hz.2))
      · obtain ⟨s1, s2, s3⟩ := hB.src
        have hlen := hB.2.1
        refine ⟨_, s1, s2, s3, Nat.le_refl _, Nat.le_refl _, Nat.le_refl _, req_intro (by omega) ?_⟩
        intro cap' tot' g1 g2
        refine ⟨Mem.le_refl _, hok, Mem.le_refl _, hz, zs, ⟨rfl, ?_, by omega, g1, by omega, by omega⟩, ?_⟩
        · rw [List.nil_append, List.take_of_length_le (by simp [hlen])]
        · intro cap'' tot'' g3 g4 base E' hE hW
          refine ⟨hE, h _ _ _ (zs ++ dig (zig n)) 0 E' hE hp (Bs.win hW rfl (by simp [hlen]) g3 ?_)⟩
          intro z hz'
          rcases List.mem_append.1 hz' with q | q
          · exact hB.2.2.2.1 z q
          · exact dig_byte hz.1 hz.2 z q
  · exact ⟨Mem.le_refl _, Mem.le_refl _, hbad (fun hx => by simp at h1; unfold okN at hx; omega)⟩

end Go.Proofs.Ytjlpfhekhpebpaa.WireOwn
