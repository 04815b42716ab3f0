/- The package seen: what its functions answer. -/
import Derived.Test.YtjibgfihfbdcaaaSeen8
namespace Go.Proofs.Ytjibgfihfbdcaaa.SeenOwn
open Go Go.Sx
set_option maxRecDepth 100000
set_option maxHeartbeats 4000000
set_option linter.unusedVariables false
set_option linter.unusedSimpArgs false
variable {E : Mem} {K : SV → Mem → Prop}
noncomputable def Q1 : Cx := { P := Try.prog, inl := fun f => List.contains [] f, tab := fun _ _ _ _ => False, isB := fun _ => false, tabB := fun _ _ _ _ _ => False, opt := { unroll := 0, carry := [] }, muts := mutsD }
theorem okQ1 : CxOK Q1 := CxOK.four (fun _ _ _ _ h => h.elim) (by kernel_rfl) (okInl (by kernel_rfl)) (fun _ _ _ _ _ h => h.elim)
theorem ent28 {b : Option Addr} {n c : Nat} {xs} {K : KT} (hx : SL SR E b n c xs) (hn : n ≤ 1000000)
    (hN : b = none → K (.raw (.slice none 0 0)) [] E)
    (hS : ∀ (rs : List (List Value)) (cap' tot' : Nat), SLr SR E rs xs → n ≤ cap' → cap' * 2 ≤ tot' → K (.slc 1 0 n cap') [⟨45, .lst [], 0, false⟩, ⟨45, .vals rs.flatten, tot', true⟩] E) :
    EntB Q1 8 Try.f28 [L b n c] [] E K := by
  refine same (by kernel_rfl) (?_ : 
      bif Option.isNone b then K (SV.raw (Value.slice none 0 0)) [] E
      else
        ∃ (cs : List Value),
          (cs = [] ∨ E (Value.slice b n c) cs) ∧
            n * 2 ≤ List.length cs ∧
              (∀ (x : Value), List.Mem x cs → Value.oneCell' x = true) ∧
                0 ≤ 0 ∧
                  0 ≤ 0 ∧
                    0 ≤ 0 ∧
                      req ((0 + n) * 32 ≤ 140737488355328)
                        (∀ (cap' tot' : Nat),
                          0 + n ≤ cap' →
                            cap' * 2 ≤ tot' →
                              K (SV.slc 1 0 (0 + n) cap')
                                [{ elem := 45, row := Row.lst [], total := 0, own := false : Box },
                                  { elem := 45, row := Row.vals ([] ++ List.take (n * 2) cs), total := tot',
                                    own := true : Box }]
                                E))
  obtain ⟨rs, q1, q2, q3, q4, q5⟩ := SL.src SR_ok hx
  have hl := q1.flat SR_ok
  have hxl := hx.len
  refine condC (fun g => hN (by simpa using g)) (fun g => ⟨rs.flatten, q2, q3, q4, Nat.le_refl _, Nat.le_refl _, Nat.le_refl _, req_intro (by omega) (fun cap' tot' c1 c2 => ?_)⟩)
  have := hS rs cap' tot' q1 (by omega) c2
  rw [List.nil_append, List.take_of_length_le (by omega), Nat.zero_add]
  exact this
theorem cln28 {bx : List Box} {b : Option Addr} {n c : Nat} {xs} {K : KT} (hx : SL SR E b n c xs) (hn : n ≤ 1000000)
    (h : ∀ (rs : List (List Value)) (cap' tot' : Nat), SLr SR E rs xs → n ≤ cap' → cap' * 2 ≤ tot' → K (.slc bx.length 0 n cap') (bx ++ [⟨45, .vals rs.flatten, tot', true⟩]) E) : CallSem Try.prog 28 [L b n c] bx E K := by
  refine frame0 (K' := fun s bx' E' => ∃ (rs : List (List Value)) (cap' tot' : Nat), (SLr SR E rs xs ∧ n ≤ cap' ∧ cap' * 2 ≤ tot') ∧ s = .slc 0 0 n cap' ∧ bx' = [⟨45, .vals rs.flatten, tot', true⟩] ∧ E' = E) (vs := [.slice b n c]) rfl (EntB.sem okQ1 Try.func28 ⟨by kernel_rfl, by kernel_rfl⟩ (ent28 hx hn ?_ ?_)).clo ?_
  · rintro rfl
    show cloK 0 _ _ _ _
    have e0 := hx.none
    have e1 := hx.len
    subst e0
    subst e1
    exact cloK_intro [none] ⟨[], 0, 0, ⟨SLr.nil, Nat.le_refl _, Nat.le_refl _⟩, rfl, rfl, rfl⟩ ⟨⟨by simp, by simp, fun j h => absurd h (Nat.not_lt_zero _)⟩, rfl, (by repeat' first | exact True.intro | refine And.intro (Or.inl rfl) ?_ | refine And.intro (Or.inr ⟨rfl, rfl⟩) ?_), (by repeat' first | exact True.intro | exact rfl | exact Or.inl rfl | fail | refine And.intro ?_ ?_), (show List.Nodup [] from by decide), Mem.le_refl _⟩
  · intro rs cap' tot' h1 c1 c2
    show cloK 0 _ _ _ _
    exact cloK_intro [some 1] ⟨rs, cap', tot', ⟨h1, c1, c2⟩, rfl, rfl, rfl⟩ ⟨⟨by simp, by simp, fun j h => absurd h (Nat.not_lt_zero _)⟩, rfl, (by repeat' first | exact True.intro | refine And.intro (Or.inl rfl) ?_ | refine And.intro (Or.inr ⟨rfl, rfl⟩) ?_), (by repeat' first | exact True.intro | exact rfl | exact Or.inl rfl | fail | refine And.intro ?_ ?_), (show List.Nodup [1] from by decide), Mem.le_refl _⟩
  · rintro s bxs' E' ⟨rs, cap', tot', ⟨h1, c1, c2⟩, rfl, rfl, rfl⟩
    have := h rs cap' tot' h1 c1 c2
    simpa [SV.ren, renF, Box.ren, Row.ren, SV.renL] using this
theorem ent35 {b : Option Addr} {n c : Nat} {xs} {K : KT} (hx : SL RR E b n c xs) (hn : n ≤ 1000000)
    (hN : b = none → K (.raw (.slice none 0 0)) [] E)
    (hS : ∀ (rs : List (List Value)) (cap' tot' : Nat), SLr RR E rs xs → n ≤ cap' → cap' * 2 ≤ tot' → K (.slc 1 0 n cap') [⟨47, .lst [], 0, false⟩, ⟨47, .vals rs.flatten, tot', true⟩] E) :
    EntB Q1 8 Try.f35 [L b n c] [] E K := by
  refine same (by kernel_rfl) (?_ : 
      bif Option.isNone b then K (SV.raw (Value.slice none 0 0)) [] E
      else
        ∃ (cs : List Value),
          (cs = [] ∨ E (Value.slice b n c) cs) ∧
            n * 2 ≤ List.length cs ∧
              (∀ (x : Value), List.Mem x cs → Value.oneCell' x = true) ∧
                0 ≤ 0 ∧
                  0 ≤ 0 ∧
                    0 ≤ 0 ∧
                      req ((0 + n) * 16 ≤ 140737488355328)
                        (∀ (cap' tot' : Nat),
                          0 + n ≤ cap' →
                            cap' * 2 ≤ tot' →
                              K (SV.slc 1 0 (0 + n) cap')
                                [{ elem := 47, row := Row.lst [], total := 0, own := false : Box },
                                  { elem := 47, row := Row.vals ([] ++ List.take (n * 2) cs), total := tot',
                                    own := true : Box }]
                                E))
  obtain ⟨rs, q1, q2, q3, q4, q5⟩ := SL.src RR_ok hx
  have hl := q1.flat RR_ok
  have hxl := hx.len
  refine condC (fun g => hN (by simpa using g)) (fun g => ⟨rs.flatten, q2, q3, q4, Nat.le_refl _, Nat.le_refl _, Nat.le_refl _, req_intro (by omega) (fun cap' tot' c1 c2 => ?_)⟩)
  have := hS rs cap' tot' q1 (by omega) c2
  rw [List.nil_append, List.take_of_length_le (by omega), Nat.zero_add]
  exact this
theorem cln35 {bx : List Box} {b : Option Addr} {n c : Nat} {xs} {K : KT} (hx : SL RR E b n c xs) (hn : n ≤ 1000000)
    (h : ∀ (rs : List (List Value)) (cap' tot' : Nat), SLr RR E rs xs → n ≤ cap' → cap' * 2 ≤ tot' → K (.slc bx.length 0 n cap') (bx ++ [⟨47, .vals rs.flatten, tot', true⟩]) E) : CallSem Try.prog 35 [L b n c] bx E K := by
  refine frame0 (K' := fun s bx' E' => ∃ (rs : List (List Value)) (cap' tot' : Nat), (SLr RR E rs xs ∧ n ≤ cap' ∧ cap' * 2 ≤ tot') ∧ s = .slc 0 0 n cap' ∧ bx' = [⟨47, .vals rs.flatten, tot', true⟩] ∧ E' = E) (vs := [.slice b n c]) rfl (EntB.sem okQ1 Try.func35 ⟨by kernel_rfl, by kernel_rfl⟩ (ent35 hx hn ?_ ?_)).clo ?_
  · rintro rfl
    show cloK 0 _ _ _ _
    have e0 := hx.none
    have e1 := hx.len
    subst e0
    subst e1
    exact cloK_intro [none] ⟨[], 0, 0, ⟨SLr.nil, Nat.le_refl _, Nat.le_refl _⟩, rfl, rfl, rfl⟩ ⟨⟨by simp, by simp, fun j h => absurd h (Nat.not_lt_zero _)⟩, rfl, (by repeat' first | exact True.intro | refine And.intro (Or.inl rfl) ?_ | refine And.intro (Or.inr ⟨rfl, rfl⟩) ?_), (by repeat' first | exact True.intro | exact rfl | exact Or.inl rfl | fail | refine And.intro ?_ ?_), (show List.Nodup [] from by decide), Mem.le_refl _⟩
  · intro rs cap' tot' h1 c1 c2
    show cloK 0 _ _ _ _
    exact cloK_intro [some 1] ⟨rs, cap', tot', ⟨h1, c1, c2⟩, rfl, rfl, rfl⟩ ⟨⟨by simp, by simp, fun j h => absurd h (Nat.not_lt_zero _)⟩, rfl, (by repeat' first | exact True.intro | refine And.intro (Or.inl rfl) ?_ | refine And.intro (Or.inr ⟨rfl, rfl⟩) ?_), (by repeat' first | exact True.intro | exact rfl | exact Or.inl rfl | fail | refine And.intro ?_ ?_), (show List.Nodup [1] from by decide), Mem.le_refl _⟩
  · rintro s bxs' E' ⟨rs, cap', tot', ⟨h1, c1, c2⟩, rfl, rfl, rfl⟩
    have := h rs cap' tot' h1 c1 c2
    simpa [SV.ren, renF, Box.ren, Row.ren, SV.renL] using this

end Go.Proofs.Ytjibgfihfbdcaaa.SeenOwn
