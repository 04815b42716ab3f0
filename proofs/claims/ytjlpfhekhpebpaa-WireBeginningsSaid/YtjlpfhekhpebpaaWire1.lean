/- The wire package: what its functions answer. -/
import Derived.Test.YtjlpfhekhpebpaaProg
import Derived.Test.YtjlpfhekhpebpaaSyW
namespace Go.Proofs.Ytjlpfhekhpebpaa.WireOwn
open Go Go.Sx
set_option maxRecDepth 100000
set_option maxHeartbeats 4000000
set_option linter.unusedVariables false
set_option linter.unusedSimpArgs false
variable {E : Mem} {K : SV → Mem → Prop}

theorem condC {c : Bool} {p q : Prop} (h1 : c = true → p) (h0 : c = false → q) : bif c then p else q := by cases c; exact h0 rfl; exact h1 rfl
def zig (n : Int) : Int := if n < 0 then -2 * n - 1 else 2 * n
def digF : Nat → Int → List Int
  | 0, u => [u]
  | k + 1, u => if u < 128 then [u] else (u % 128 + 128) :: digF k (u / 128)
def dig (u : Int) : List Int := digF 9 u
abbrev vB (l : List Int) : List Value := l.map (.int .u8)
abbrev deadB : Box := ⟨5, .lst [], 0, false⟩
noncomputable def W0 : Cx := { P := Try.prog, inl := fun f => List.contains [28, 30, 35] f, tab := fun _ _ _ _ => False, isB := fun _ => false, tabB := fun _ _ _ _ _ => False, opt := { unroll := 1, carry := [0, 1] }, muts := mutsD }
theorem okW0 : CxOK W0 := ⟨fun _ _ _ _ h => h.elim, by kernel_rfl, okInl (by kernel_rfl), fun _ _ _ _ _ h => h.elim⟩

theorem s31 {n : Int} (hn : -10000000000000 ≤ n ∧ n ≤ 10000000000000) (h : K (I (zig n)) E) : Ent W0 6 Try.f31 [I n] E K := by
  refine same (by kernel_rfl) (?_ : 
      bif decide (n < 0) then
        Mem.le E E ∧ K (SV.raw (Value.int IntKind.i64 (IntKind.wrap IntKind.i64 (IntKind.wrap IntKind.i64 (-2 * n) - 1)))) E
      else Mem.le E E ∧ K (SV.raw (Value.int IntKind.i64 (IntKind.wrap IntKind.i64 (2 * n)))) E)
  unfold zig at h
  refine condC (fun h1 => ?_) (fun h1 => ?_)
  · rw [if_pos (by simpa using h1)] at h
    rw [wrap_i64 (x := -2 * n) (by omega), wrap_i64 (by omega)]
    exact ⟨Mem.le_refl _, h⟩
  · rw [if_neg (by simpa using h1)] at h
    rw [wrap_i64 (by omega)]
    exact ⟨Mem.le_refl _, h⟩
theorem digF_eq : ∀ (k k' : Nat) (u : Int), 0 ≤ u → u < 128 ^ (k + 1) → u < 128 ^ (k' + 1) → digF k u = digF k' u
  | 0, 0, _, _, _, _ => rfl
  | 0, k + 1, u, _, h, _ => by simp only [digF]; rw [if_pos (by simpa using h)]
  | k + 1, 0, u, _, _, h => by simp only [digF]; rw [if_pos (by simpa using h)]
  | k + 1, k' + 1, u, h0, h1, h2 => by
    simp only [digF]
    by_cases h : u < 128
    · rw [if_pos h, if_pos h]
    · rw [if_neg h, if_neg h, digF_eq k k' (u / 128) (by omega) (by rw [Int.pow_succ] at h1; omega) (by rw [Int.pow_succ] at h2; omega)]
theorem dig_last {u : Int} (h : u < 128) : dig u = [u] := by unfold dig digF; rw [if_pos h]
theorem dig_step {u : Int} (h : ¬ u < 128) (h1 : u < 1152921504606846976) : dig u = (u % 128 + 128) :: dig (u / 128) := by
  unfold dig
  rw [show digF 9 u = (u % 128 + 128) :: digF 8 (u / 128) from by unfold digF; rw [if_neg h]; rfl]
  rw [digF_eq 8 9 (u / 128) (by omega) (by simp; omega) (by simp; omega)]
theorem digF_len : ∀ (k : Nat) (u : Int), 1 ≤ (digF k u).length ∧ (digF k u).length ≤ k + 1
  | 0, u => by simp [digF]
  | k + 1, u => by
    have := digF_len k (u / 128)
    simp only [digF]
    split
    · simp
    · simp; omega
theorem digF_byte : ∀ (k : Nat) (u : Int), 0 ≤ u → u < 128 ^ (k + 1) → ∀ z ∈ digF k u, 0 ≤ z ∧ z ≤ 255
  | 0, u, h0, h1, z, hz => by simp only [digF, List.mem_singleton] at hz; subst hz; simp at h1; omega
  | k + 1, u, h0, h1, z, hz => by
    simp only [digF] at hz
    split at hz
    · simp only [List.mem_singleton] at hz; subst hz; omega
    · rcases List.mem_cons.1 hz with rfl | hz
      · omega
      · exact digF_byte k (u / 128) (by omega) (by rw [Int.pow_succ] at h1; omega) z hz
theorem dig_byte {u : Int} (h0 : 0 ≤ u) (h1 : u < 1152921504606846976) : ∀ z ∈ dig u, 0 ≤ z ∧ z ≤ 255 := digF_byte 9 u h0 (by simp; omega)
theorem dig_len (u : Int) : 1 ≤ (dig u).length ∧ (dig u).length ≤ 10 := digF_len 9 u
theorem wu8 {x : Int} (h : 0 ≤ x ∧ x ≤ 255) : IntKind.wrap .u8 x = x := by
  rw [show IntKind.wrap .u8 x = x % 256 from rfl]; omega
theorem byteW {u : Int} (h0 : 0 ≤ u) : IntKind.wrap .u8 (IntKind.wrap .i64 (Int.tmod u 128 + 128)) = u % 128 + 128 := by
  rw [Int.tmod_eq_emod_of_nonneg h0, wrap_i64 (by omega), wu8 (by omega)]
theorem fdivW {u : Int} : Int.fdiv u 128 = u / 128 := Int.fdiv_eq_ediv_of_nonneg _ (by omega)

def sh29 (u : Int) (m cap tot : Nat) (l : List Int) (E : Mem) : St := ⟨[some (.slc 1 0 m cap), some (I u)] ++ List.replicate 19 none, [deadB, ⟨5, .vals (vB l), tot, true⟩], E⟩
structure P29 (full l : List Int) (m cap tot : Nat) (u : Int) : Prop where
  u0 : 0 ≤ u
  u1 : u < 1152921504606846976
  len : l.length = m
  mc : m ≤ cap
  ct : cap ≤ tot
  full : l ++ dig u = full
theorem rnd29 {full l : List Int} {m cap tot : Nat} {u : Int} {Q : KT} (hP : P29 full l m cap tot u) (hf : full.length ≤ 1000010)
    (hQ : ∀ cap' tot' : Nat, full.length ≤ cap' → cap' ≤ tot' → ∀ x : SV, Q (.slc 3 0 full.length cap') [deadB, deadB, ⟨5, .lst [x], 1, true⟩, ⟨5, .vals (vB full), tot', true⟩] E)
    (ih : ∀ (l : List Int) (m cap tot : Nat) (u' : Int), u' < u → P29 full l m cap tot u' → Lp W0 6 Try.f29 [1, 0, 0] 1 Q (sh29 u' m cap tot l E)) : Rnd W0 6 Try.f29 [1, 0, 0] 1 Q (sh29 u m cap tot l E) := by
  obtain ⟨h0, h1, hlen, hmc, hct, hfull⟩ := hP
  refine same (by kernel_rfl) (?_ : 
      bif decide (u ≥ 128) then
        ((128 : Int) = 0 → False) ∧
          m * 1 ≤ List.length (Row.cells (Row.vals (vB l))) ∧
            cap * 1 ≤ tot ∧
              m ≤ cap ∧
                req ((m + 1) * 1 ≤ 140737488355328)
                  (∀ (cap' tot' : Nat),
                    m + 1 ≤ cap' →
                      cap' * 1 ≤ tot' →
                        Lp W0 6 Try.f29 [1, 0, 0] 1 Q
                          {
                            fr :=
                              [some (SV.slc 3 0 (m + 1) cap'), some (SV.raw (Value.int IntKind.i64 (Int.fdiv u 128))), none,
                                none, none, none, none, none, none, none, none, none, none, none, none, none, none, none,
                                none, none, none],
                            bx :=
                              [{ elem := 5, row := Row.lst [], total := 0, own := false },
                                { elem := 5, row := Row.lst [], total := 0, own := false },
                                { elem := 5,
                                  row :=
                                    Row.lst
                                      [SV.raw
                                          (Value.int IntKind.u8
                                            (IntKind.wrap IntKind.u8 (IntKind.wrap IntKind.i64 (Int.tmod u 128 + 128))))],
                                  total := 1, own := true },
                                { elem := 5,
                                  row :=
                                    Row.vals
                                      (List.take (m * 1) (vB l) ++
                                        [Value.int IntKind.u8
                                            (IntKind.wrap IntKind.u8 (IntKind.wrap IntKind.i64 (Int.tmod u 128 + 128)))]),
                                  total := tot', own := true }],
                            E := E })
      else
        m * 1 ≤ List.length (Row.cells (Row.vals (vB l))) ∧
          cap * 1 ≤ tot ∧
            m ≤ cap ∧
              req ((m + 1) * 1 ≤ 140737488355328)
                (∀ (cap' tot' : Nat),
                  m + 1 ≤ cap' →
                    cap' * 1 ≤ tot' →
                      Q (SV.slc 3 0 (m + 1) cap')
                        [{ elem := 5, row := Row.lst [], total := 0, own := false },
                          { elem := 5, row := Row.lst [], total := 0, own := false },
                          { elem := 5, row := Row.lst [SV.raw (Value.int IntKind.u8 (IntKind.wrap IntKind.u8 u))], total := 1,
                            own := true },
                          { elem := 5,
                            row := Row.vals (List.take (m * 1) (vB l) ++ [Value.int IntKind.u8 (IntKind.wrap IntKind.u8 u)]),
                            total := tot', own := true }]
                        E))
  have hl : (Row.cells (Row.vals (vB l))).length = m := by simp [Row.cells, hlen]
  have hlf : l.length + (dig u).length = full.length := by rw [← hfull]; simp
  have hdl := dig_len u
  have htk : List.take (m * 1) (vB l) = vB l := List.take_of_length_le (by simp [hlen])
  refine condC (fun hu => ?_) (fun hu => ?_)
  · have hu : 128 ≤ u := by simpa using hu
    refine ⟨by omega, by omega, by omega, hmc, req_intro (by omega) ?_⟩
    intro cap' tot' g1 g2
    have hst := dig_step (show ¬ u < 128 by omega) h1
    rw [byteW h0, fdivW, htk, ← List.map_singleton (f := Value.int .u8), ← List.map_append]
    exact Lp_re [some 0, some 3] (ih (l ++ [u % 128 + 128]) (m + 1) cap' tot' (u / 128) (by omega) ⟨by omega, by omega, by simp [hlen], g1, by omega, by rw [← hfull, hst]; simp⟩) ⟨⟨by simp, by simp, fun j h => (by have e : j = 0 := (by omega); subst e; rfl)⟩, rfl, (by repeat' first | exact True.intro | refine And.intro (Or.inl rfl) ?_), (by repeat' first | exact True.intro | exact rfl | exact Or.inl rfl | exact Nat.succ_pos _ | refine And.intro ?_ ?_), (List.pairwise_singleton _ _), Mem.le_refl _⟩
  · have hu : u < 128 := by simpa using hu
    have hst := dig_last hu
    refine ⟨by omega, by omega, hmc, req_intro (by omega) ?_⟩
    intro cap' tot' g1 g2
    rw [hst] at hfull hlf
    have e : m + 1 = full.length := by simp at hlf; omega
    rw [wu8 (by omega), htk, ← List.map_singleton (f := Value.int .u8), ← List.map_append, hfull, e]
    exact hQ cap' tot' (by omega) (by omega) _
theorem b29 {l : List Int} {n cap tot : Nat} {u : Int} {Q : KT} (hn : l.length = n) (hnc : n ≤ cap) (hct : cap ≤ tot) (hsz : n ≤ 1000000) (h0 : 0 ≤ u) (h1 : u < 1152921504606846976)
    (hQ : ∀ s bx, (∃ cap' tot' : Nat, n + (dig u).length ≤ cap' ∧ cap' ≤ tot' ∧ ∃ τ, St.wk 1 τ ⟨[some s], bx, E⟩ ⟨[some (.slc 1 0 (n + (dig u).length) cap')], [deadB, ⟨5, .vals (vB (l ++ dig u)), tot', true⟩], E⟩) → Q s bx E) :
    EntB W0 6 Try.f29 [.slc 0 0 n cap, I u] [⟨5, .vals (vB l), tot, true⟩] E Q := by
  refine same (by kernel_rfl) (?_ : 
      bif decide (u ≥ 128) then
        ((128 : Int) = 0 → False) ∧
          n * 1 ≤ List.length (Row.cells (Row.vals (vB l))) ∧
            cap * 1 ≤ tot ∧
              n ≤ cap ∧
                req ((n + 1) * 1 ≤ 140737488355328)
                  (∀ (cap' tot' : Nat),
                    n + 1 ≤ cap' →
                      cap' * 1 ≤ tot' →
                        Lp W0 6 Try.f29 [1, 0, 0] 1 Q
                          {
                            fr :=
                              [some (SV.slc 2 0 (n + 1) cap'), some (SV.raw (Value.int IntKind.i64 (Int.fdiv u 128))), none,
                                none, some (SV.raw (Value.slice none 0 0)), none, none, none, none, none, none, none, none,
                                none, none, none, none, none, none, none, none],
                            bx :=
                              [{ elem := 5, row := Row.lst [], total := 0, own := false },
                                { elem := 5,
                                  row :=
                                    Row.lst
                                      [SV.raw
                                          (Value.int IntKind.u8
                                            (IntKind.wrap IntKind.u8 (IntKind.wrap IntKind.i64 (Int.tmod u 128 + 128))))],
                                  total := 1, own := true },
                                { elem := 5,
                                  row :=
                                    Row.vals
                                      (List.take (n * 1) (vB l) ++
                                        [Value.int IntKind.u8
                                            (IntKind.wrap IntKind.u8 (IntKind.wrap IntKind.i64 (Int.tmod u 128 + 128)))]),
                                  total := tot', own := true }],
                            E := E })
      else
        n * 1 ≤ List.length (Row.cells (Row.vals (vB l))) ∧
          cap * 1 ≤ tot ∧
            n ≤ cap ∧
              req ((n + 1) * 1 ≤ 140737488355328)
                (∀ (cap' tot' : Nat),
                  n + 1 ≤ cap' →
                    cap' * 1 ≤ tot' →
                      Q (SV.slc 2 0 (n + 1) cap')
                        [{ elem := 5, row := Row.lst [], total := 0, own := false },
                          { elem := 5, row := Row.lst [SV.raw (Value.int IntKind.u8 (IntKind.wrap IntKind.u8 u))], total := 1,
                            own := true },
                          { elem := 5,
                            row := Row.vals (List.take (n * 1) (vB l) ++ [Value.int IntKind.u8 (IntKind.wrap IntKind.u8 u)]),
                            total := tot', own := true }]
                        E))
  have hl : (Row.cells (Row.vals (vB l))).length = n := by simp [Row.cells, hn]
  have hdl := dig_len u
  have htk : List.take (n * 1) (vB l) = vB l := List.take_of_length_le (by simp [hn])
  refine condC (fun hu => ?_) (fun hu => ?_)
  · have hu : 128 ≤ u := by simpa using hu
    refine ⟨by omega, by omega, by omega, hnc, req_intro (by omega) ?_⟩
    intro cap' tot' g1 g2
    have hst := dig_step (show ¬ u < 128 by omega) h1
    rw [byteW h0, fdivW, htk, ← List.map_singleton (f := Value.int .u8), ← List.map_append]
    have key := Lp_ind okW0 (n := 6) (fn := Try.f29) (p := [1, 0, 0]) (n0 := 1) (K := Q) (fun x : {x : Int × Nat × Nat × Nat × List Int // P29 (l ++ dig u) x.2.2.2.2 x.2.1 x.2.2.1 x.2.2.2.1 x.1} => sh29 x.1.1 x.1.2.1 x.1.2.2.1 x.1.2.2.2.1 x.1.2.2.2.2 E) (fun x => x.1.1.toNat) (by
      rintro ⟨⟨u', m, c, t, l'⟩, hP⟩ ih
      refine rnd29 hP (by simp; omega) ?_ (fun l2 m2 c2 t2 u2 hlt hP2 => ih ⟨⟨u2, m2, c2, t2, l2⟩, hP2⟩ ?_)
      · intro cap' tot' g1 g2 x
        refine hQ _ _ ⟨cap', tot', by simpa [hn] using g1, g2, [some 0, some 3], ?_⟩
        rw [show (l ++ dig u).length = n + (dig u).length by simp [hn]]
        exact ⟨⟨by simp, by simp, fun j h => (by have e : j = 0 := (by omega); subst e; rfl)⟩, rfl, (by repeat' first | exact True.intro | refine And.intro (Or.inl rfl) ?_), (by repeat' first | exact True.intro | exact rfl | exact Or.inl rfl | exact Nat.succ_pos _ | refine And.intro ?_ ?_), (List.pairwise_singleton _ _), Mem.le_refl _⟩
      · have h0' : 0 ≤ u2 := hP2.u0
        have hlt' : u2 < u' := hlt
        show u2.toNat < u'.toNat
        omega)
    exact Lp_re [some 0, some 2] (key ⟨⟨u / 128, n + 1, cap', tot', l ++ [u % 128 + 128]⟩, ⟨by show 0 ≤ u / 128; omega, by show u / 128 < _; omega, by simp [hn], g1, by show cap' ≤ tot'; omega, by rw [hst]; simp⟩⟩) ⟨⟨by simp, by simp, fun j h => (by have e : j = 0 := (by omega); subst e; rfl)⟩, rfl, (by repeat' first | exact True.intro | refine And.intro (Or.inl rfl) ?_), (by repeat' first | exact True.intro | exact rfl | exact Or.inl rfl | exact Nat.succ_pos _ | refine And.intro ?_ ?_), (List.pairwise_singleton _ _), Mem.le_refl _⟩
  · have hu : u < 128 := by simpa using hu
    have hst := dig_last hu
    refine ⟨by omega, by omega, hnc, req_intro (by omega) ?_⟩
    intro cap' tot' g1 g2
    rw [wu8 (by omega), htk, ← List.map_singleton (f := Value.int .u8), ← List.map_append]
    rw [hst] at hQ
    exact hQ _ _ ⟨cap', tot', g1, by omega, [some 0, some 2], ⟨⟨by simp, by simp, fun j h => (by have e : j = 0 := (by omega); subst e; rfl)⟩, rfl, (by repeat' first | exact True.intro | refine And.intro (Or.inl rfl) ?_), (by repeat' first | exact True.intro | exact rfl | exact Or.inl rfl | exact Nat.succ_pos _ | refine And.intro ?_ ?_), (List.pairwise_singleton _ _), Mem.le_refl _⟩⟩
def sh29n (u : Int) (m cap tot : Nat) (l : List Int) (E : Mem) : St := ⟨[some (.slc 0 0 m cap), some (I u)] ++ List.replicate 19 none, [⟨5, .vals (vB l), tot, true⟩], E⟩
theorem rnd29n {full l : List Int} {m cap tot : Nat} {u : Int} {Q : KT} (hP : P29 full l m cap tot u) (hf : full.length ≤ 1000010)
    (hQ : ∀ cap' tot' : Nat, full.length ≤ cap' → cap' ≤ tot' → ∀ x : SV, Q (.slc 2 0 full.length cap') [deadB, ⟨5, .lst [x], 1, true⟩, ⟨5, .vals (vB full), tot', true⟩] E)
    (ih : ∀ (l : List Int) (m cap tot : Nat) (u' : Int), u' < u → P29 full l m cap tot u' → Lp W0 6 Try.f29 [1, 0, 0] 0 Q (sh29n u' m cap tot l E)) : Rnd W0 6 Try.f29 [1, 0, 0] 0 Q (sh29n u m cap tot l E) := by
  obtain ⟨h0, h1, hlen, hmc, hct, hfull⟩ := hP
  refine same (by kernel_rfl) (?_ : 
      bif decide (u ≥ 128) then
        ((128 : Int) = 0 → False) ∧
          m * 1 ≤ List.length (Row.cells (Row.vals (vB l))) ∧
            cap * 1 ≤ tot ∧
              m ≤ cap ∧
                req ((m + 1) * 1 ≤ 140737488355328)
                  (∀ (cap' tot' : Nat),
                    m + 1 ≤ cap' →
                      cap' * 1 ≤ tot' →
                        Lp W0 6 Try.f29 [1, 0, 0] 0 Q
                          {
                            fr :=
                              [some (SV.slc 2 0 (m + 1) cap'), some (SV.raw (Value.int IntKind.i64 (Int.fdiv u 128))), none,
                                none, none, none, none, none, none, none, none, none, none, none, none, none, none, none,
                                none, none, none],
                            bx :=
                              [{ elem := 5, row := Row.lst [], total := 0, own := false },
                                { elem := 5,
                                  row :=
                                    Row.lst
                                      [SV.raw
                                          (Value.int IntKind.u8
                                            (IntKind.wrap IntKind.u8 (IntKind.wrap IntKind.i64 (Int.tmod u 128 + 128))))],
                                  total := 1, own := true },
                                { elem := 5,
                                  row :=
                                    Row.vals
                                      (List.take (m * 1) (vB l) ++
                                        [Value.int IntKind.u8
                                            (IntKind.wrap IntKind.u8 (IntKind.wrap IntKind.i64 (Int.tmod u 128 + 128)))]),
                                  total := tot', own := true }],
                            E := E })
      else
        m * 1 ≤ List.length (Row.cells (Row.vals (vB l))) ∧
          cap * 1 ≤ tot ∧
            m ≤ cap ∧
              req ((m + 1) * 1 ≤ 140737488355328)
                (∀ (cap' tot' : Nat),
                  m + 1 ≤ cap' →
                    cap' * 1 ≤ tot' →
                      Q (SV.slc 2 0 (m + 1) cap')
                        [{ elem := 5, row := Row.lst [], total := 0, own := false },
                          { elem := 5, row := Row.lst [SV.raw (Value.int IntKind.u8 (IntKind.wrap IntKind.u8 u))], total := 1,
                            own := true },
                          { elem := 5,
                            row := Row.vals (List.take (m * 1) (vB l) ++ [Value.int IntKind.u8 (IntKind.wrap IntKind.u8 u)]),
                            total := tot', own := true }]
                        E))
  have hl : (Row.cells (Row.vals (vB l))).length = m := by simp [Row.cells, hlen]
  have hlf : l.length + (dig u).length = full.length := by rw [← hfull]; simp
  have hdl := dig_len u
  have htk : List.take (m * 1) (vB l) = vB l := List.take_of_length_le (by simp [hlen])
  refine condC (fun hu => ?_) (fun hu => ?_)
  · have hu : 128 ≤ u := by simpa using hu
    refine ⟨by omega, by omega, by omega, hmc, req_intro (by omega) ?_⟩
    intro cap' tot' g1 g2
    have hst := dig_step (show ¬ u < 128 by omega) h1
    rw [byteW h0, fdivW, htk, ← List.map_singleton (f := Value.int .u8), ← List.map_append]
    exact Lp_re [some 2] (ih (l ++ [u % 128 + 128]) (m + 1) cap' tot' (u / 128) (by omega) ⟨by omega, by omega, by simp [hlen], g1, by omega, by rw [← hfull, hst]; simp⟩) ⟨⟨by simp, by simp, fun j h => absurd h (Nat.not_lt_zero _)⟩, rfl, (by repeat' first | exact True.intro | refine And.intro (Or.inl rfl) ?_), (by repeat' first | exact True.intro | exact rfl | exact Or.inl rfl | exact Nat.succ_pos _ | refine And.intro ?_ ?_), (List.pairwise_singleton _ _), Mem.le_refl _⟩
  · have hu : u < 128 := by simpa using hu
    have hst := dig_last hu
    refine ⟨by omega, by omega, hmc, req_intro (by omega) ?_⟩
    intro cap' tot' g1 g2
    rw [hst] at hfull hlf
    have e : m + 1 = full.length := by simp at hlf; omega
    rw [wu8 (by omega), htk, ← List.map_singleton (f := Value.int .u8), ← List.map_append, hfull, e]
    exact hQ cap' tot' (by omega) (by omega) _
theorem b29n {u : Int} {Q : KT} (h0 : 0 ≤ u) (h1 : u < 1152921504606846976)
    (hQ : ∀ s bx, (∃ cap' tot' : Nat, (dig u).length ≤ cap' ∧ cap' ≤ tot' ∧ ∃ τ, St.wk 0 τ ⟨[some s], bx, E⟩ ⟨[some (.slc 0 0 (dig u).length cap')], [⟨5, .vals (vB (dig u)), tot', true⟩], E⟩) → Q s bx E) :
    EntB W0 6 Try.f29 [.raw (.slice none 0 0), I u] [] E Q := by
  refine same (by kernel_rfl) (?_ : 
      bif decide (u ≥ 128) then
        ((128 : Int) = 0 → False) ∧
          ∀ (cap' tot' : Nat),
            1 ≤ cap' →
              cap' * 1 ≤ tot' →
                Lp W0 6 Try.f29 [1, 0, 0] 0 Q
                  {
                    fr :=
                      [some (SV.slc 1 0 1 cap'), some (SV.raw (Value.int IntKind.i64 (Int.fdiv u 128))), none, none,
                        some (SV.raw (Value.slice none 0 0)), none, none, none, none, none, none, none, none, none, none,
                        none, none, none, none, none, none],
                    bx :=
                      [{ elem := 5,
                          row :=
                            Row.lst
                              [SV.raw
                                  (Value.int IntKind.u8
                                    (IntKind.wrap IntKind.u8 (IntKind.wrap IntKind.i64 (Int.tmod u 128 + 128))))],
                          total := 1, own := true },
                        { elem := 5,
                          row :=
                            Row.lst
                              [SV.raw
                                  (Value.int IntKind.u8
                                    (IntKind.wrap IntKind.u8 (IntKind.wrap IntKind.i64 (Int.tmod u 128 + 128))))],
                          total := tot', own := true }],
                    E := E }
      else
        ∀ (cap' tot' : Nat),
          1 ≤ cap' →
            cap' * 1 ≤ tot' →
              Q (SV.slc 1 0 1 cap')
                [{ elem := 5, row := Row.lst [SV.raw (Value.int IntKind.u8 (IntKind.wrap IntKind.u8 u))], total := 1,
                    own := true },
                  { elem := 5, row := Row.lst [SV.raw (Value.int IntKind.u8 (IntKind.wrap IntKind.u8 u))], total := tot',
                    own := true }]
                E)
  have hdl := dig_len u
  refine condC (fun hu => ?_) (fun hu => ?_)
  · have hu : 128 ≤ u := by simpa using hu
    refine ⟨by omega, ?_⟩
    intro cap' tot' g1 g2
    have hst := dig_step (show ¬ u < 128 by omega) h1
    rw [byteW h0, fdivW]
    have key := Lp_ind okW0 (n := 6) (fn := Try.f29) (p := [1, 0, 0]) (n0 := 0) (K := Q) (fun x : {x : Int × Nat × Nat × Nat × List Int // P29 (dig u) x.2.2.2.2 x.2.1 x.2.2.1 x.2.2.2.1 x.1} => sh29n x.1.1 x.1.2.1 x.1.2.2.1 x.1.2.2.2.1 x.1.2.2.2.2 E) (fun x => x.1.1.toNat) (by
      rintro ⟨⟨u', m, c, t, l'⟩, hP⟩ ih
      refine rnd29n hP (by omega) ?_ (fun l2 m2 c2 t2 u2 hlt hP2 => ih ⟨⟨u2, m2, c2, t2, l2⟩, hP2⟩ ?_)
      · intro cap' tot' g1 g2 x
        exact hQ _ _ ⟨cap', tot', g1, g2, [some 2], ⟨⟨by simp, by simp, fun j h => absurd h (Nat.not_lt_zero _)⟩, rfl, (by repeat' first | exact True.intro | refine And.intro (Or.inl rfl) ?_), (by repeat' first | exact True.intro | exact rfl | exact Or.inl rfl | exact Nat.succ_pos _ | refine And.intro ?_ ?_), (List.pairwise_singleton _ _), Mem.le_refl _⟩⟩
      · have h0' : 0 ≤ u2 := hP2.u0
        have hlt' : u2 < u' := hlt
        show u2.toNat < u'.toNat
        omega)
    exact Lp_re [some 1] (key ⟨⟨u / 128, 1, cap', tot', [u % 128 + 128]⟩, ⟨by show 0 ≤ u / 128; omega, by show u / 128 < _; omega, rfl, g1, by show cap' ≤ tot'; omega, by rw [hst]; rfl⟩⟩) ⟨⟨by simp, by simp, fun j h => absurd h (Nat.not_lt_zero _)⟩, rfl, (by repeat' first | exact True.intro | refine And.intro (Or.inl rfl) ?_), (by repeat' first | exact True.intro | exact rfl | exact Or.inl rfl | exact Nat.succ_pos _ | refine And.intro ?_ ?_), (List.pairwise_singleton _ _), Mem.le_refl _⟩
  · have hu : u < 128 := by simpa using hu
    have hst := dig_last hu
    intro cap' tot' g1 g2
    rw [wu8 (by omega)]
    rw [hst] at hQ
    exact hQ _ _ ⟨cap', tot', g1, by omega, [some 1], ⟨⟨by simp, by simp, fun j h => absurd h (Nat.not_lt_zero _)⟩, rfl, (by repeat' first | exact True.intro | refine And.intro (Or.inl rfl) ?_), (by repeat' first | exact True.intro | exact rfl | exact Or.inl rfl | exact Nat.succ_pos _ | refine And.intro ?_ ?_), (List.pairwise_singleton _ _), Mem.le_refl _⟩⟩

end Go.Proofs.Ytjlpfhekhpebpaa.WireOwn
