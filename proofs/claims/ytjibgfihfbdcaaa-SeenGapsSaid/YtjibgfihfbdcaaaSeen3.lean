/- The package seen: what its functions answer. -/
import Derived.Test.YtjibgfihfbdcaaaSeen2
namespace Go.Proofs.Ytjibgfihfbdcaaa.SeenOwn
open Go Go.Sx
set_option maxRecDepth 100000
set_option maxHeartbeats 4000000
set_option linter.unusedVariables false
set_option linter.unusedSimpArgs false
variable {E : Mem} {K : SV → Mem → Prop}

def inP (n : Int) (x : Rg) : Bool := decide (x.1 ≤ n ∧ n ≤ x.2)
def gtP (n : Int) (x : Rg) : Bool := decide (x.1 > n)
def idxP (p : Rg → Bool) (rs : List Rg) : Int := match rs.findIdx? p with | some i => (i : Int) | none => -1
def noneP (p : Rg → Bool) (rs : List Rg) (i : Nat) : Prop := ∀ (j : Nat) (y : Rg), j < i → rs[j]? = some y → p y = false
theorem noneP_step {p : Rg → Bool} {rs : List Rg} {i : Nat} {x : Rg} (h : noneP p rs i) (hx : rs[i]? = some x) (hp : p x = false) : noneP p rs (i + 1) := fun j y hj hy => by
  by_cases e : j = i
  · subst e; rw [hx] at hy; cases hy; exact hp
  · exact h j y (by omega) hy
theorem idxP_at {p : Rg → Bool} {rs : List Rg} {i : Nat} {x : Rg} (hx : rs[i]? = some x) (hp : p x = true) (h : noneP p rs i) : idxP p rs = i := by
  unfold idxP
  have : rs.findIdx? p = some i := by
    rw [List.findIdx?_eq_some_iff_getElem]
    obtain ⟨hi, e⟩ := List.getElem?_eq_some_iff.1 hx
    exact ⟨hi, by rw [e]; exact hp, fun j hj => by simpa using h j _ hj (List.getElem?_eq_getElem (by omega))⟩
  rw [this]
theorem idxP_no {p : Rg → Bool} {rs : List Rg} (h : noneP p rs rs.length) : idxP p rs = -1 := by
  unfold idxP
  have : rs.findIdx? p = none := by
    rw [List.findIdx?_eq_none_iff]
    intro x hx
    obtain ⟨i, hi, rfl⟩ := List.getElem_of_mem hx
    exact h i _ hi (List.getElem?_eq_getElem hi)
  rw [this]
def holdsP (rs : List Rg) (n : Int) : Prop := rs.any (inP n) = true
instance (rs : List Rg) (n : Int) : Decidable (holdsP rs n) := by unfold holdsP; infer_instance
theorem holdsP_iff {rs : List Rg} {n : Int} : holdsP rs n ↔ ∃ (i : Nat) (x : Rg), rs[i]? = some x ∧ x.1 ≤ n ∧ n ≤ x.2 := by
  unfold holdsP
  rw [List.any_eq_true]
  constructor
  · rintro ⟨x, hx, h⟩
    obtain ⟨i, hi, rfl⟩ := List.getElem_of_mem hx
    exact ⟨i, _, List.getElem?_eq_getElem hi, by simpa [inP] using h⟩
  · rintro ⟨i, x, hx, h⟩
    exact ⟨x, List.mem_of_getElem? hx, by simpa [inP] using h⟩
theorem idx_holds {rs : List Rg} {n : Int} : (idxP (inP n) rs ≥ 0) ↔ holdsP rs n := by
  unfold idxP
  cases h : rs.findIdx? (inP n) with
  | none =>
    rw [List.findIdx?_eq_none_iff] at h
    unfold holdsP
    simp only [List.any_eq_true]
    constructor
    · intro q; simp at q
    · rintro ⟨x, hx, q⟩; rw [h x hx] at q; cases q
  | some i =>
    rw [List.findIdx?_eq_some_iff_getElem] at h
    obtain ⟨hi, hp, _⟩ := h
    unfold holdsP
    simp only [List.any_eq_true]
    exact ⟨fun _ => ⟨_, List.getElem_mem hi, hp⟩, fun _ => by simp⟩
/-- A truth value or a number behind which a box and whatever others are left. -/
theorem cloB1 {K : KT} {r : SV} {v : Value} (hr : r = .raw v) {E : Mem} {n : Int} (h : K r [⟨3, .lst [I n], 1, true⟩] E) (bx : List Box) : cloK 1 K r (⟨3, .lst [I n], 1, true⟩ :: bx) E := by
  subst hr
  exact cloK_intro [some 0] h ⟨⟨by simp, by simp, fun j hj => (by have e : j = 0 := (by omega); subst e; rfl)⟩, rfl, ⟨.inl rfl, trivial⟩, ⟨⟨rfl, rfl, rfl, .inl rfl, trivial⟩, trivial⟩, (show List.Nodup [0] from by decide), Mem.le_refl _⟩
noncomputable def D1 : Cx := { P := Try.prog, inl := fun f => List.contains [47, 26] f, tab := fun _ _ _ _ => False, isB := fun _ => false, tabB := fun _ _ _ _ _ => False, opt := { unroll := 0, carry := [8] }, muts := mutsD }
theorem okD1 : CxOK D1 := CxOK.four (fun _ _ _ _ h => h.elim) (by kernel_rfl) (okInl (by kernel_rfl)) (fun _ _ _ _ _ h => h.elim)
def sh31a (b : Option Addr) (l : Nat) (c : Nat) (n : Int) (i : Nat) (E : Mem) : St := ⟨[some (L b l c), some (.clo 47 [] [.loc 0 0]), none, none, none, none, none, some (I (l : Nat)), some (I (i : Nat)), none, none, none, none, none, none, none, none, none, none], [⟨3, .lst [I n], 1, true⟩], E⟩
theorem rnd31a {b : Option Addr} {l : Nat} {c : Nat} {n : Int} {i : Nat} {E0 : Mem} {rs : List Rg} {K : KT} (hx : RS E b l c rs) (hl : l ≤ 9223372036854775807) (hi : i ≤ l ∧ noneP (inP n) rs i) (hE : Mem.le E0 E) (h : ∀ bx, K (I (idxP (inP n) rs)) (⟨3, .lst [I n], 1, true⟩ :: bx) E)
    (ih : (i < l ∧ noneP (inP n) rs (i + 1)) → Lp D1 8 Try.f31 [1, 0, 1, 0] 1 K (sh31a b l c n (i + 1) E)) : Rnd D1 8 Try.f31 [1, 0, 1, 0] 1 K (sh31a b l c n i E) := by
  refine same (by kernel_rfl) (?_ : 
      bif decide ((↑i : Int) < (↑l : Int)) then
        req ((0 : Int) ≤ (↑i : Int) ∧ (↑i : Int) < (↑l : Int))
          ((∃ (cs : List Value), E (Value.slice b l c) cs ∧ (cs = [] → False)) ∧
            ∃ (n_1 : Int),
              ∃ (n_2 : Int),
                LoadE D1.P E 47 (Value.slice b l c) (Int.toNat (↑i : Int) * 2)
                    (SV.agg [SV.raw (Value.int IntKind.i64 n_1), SV.raw (Value.int IntKind.i64 n_2)]) ∧
                  bif decide (n_1 ≤ n) then
                    Mem.le E E ∧
                      bif bif true then decide (n ≤ n_2) else false then
                        K (SV.raw (Value.int IntKind.i64 (↑i : Int)))
                          [{ elem := 3, row := Row.lst [SV.raw (Value.int IntKind.i64 n)], total := 1,
                              own := true : Box },
                            { elem := 47,
                              row := Row.lst [SV.raw (Value.int IntKind.i64 n_1), SV.raw (Value.int IntKind.i64 n_2)],
                              total := 2, own := true : Box }]
                          E
                      else
                        Lp D1 8 Try.f31 [1, 0, 1, 0] 1 K
                          {
                            fr :=
                              [some (SV.raw (Value.slice b l c)), some (SV.clo 47 [] [SV.loc 0 0]), none, none, none, none, none, some (SV.raw (Value.int IntKind.i64 (↑l : Int))), some (SV.raw (Value.int IntKind.i64 (IntKind.wrap IntKind.i64 ((↑i : Int) + (1 : Int))))), none, none, none, none, none, none, none, none, none, none],
                            bx :=
                              [{ elem := 3, row := Row.lst [SV.raw (Value.int IntKind.i64 n)], total := 1,
                                  own := true : Box },
                                { elem := 47,
                                  row := Row.lst [SV.raw (Value.int IntKind.i64 n_1), SV.raw (Value.int IntKind.i64 n_2)],
                                  total := 2, own := true : Box }],
                            E := E : St }
                  else
                    Mem.le E E ∧
                      Lp D1 8 Try.f31 [1, 0, 1, 0] 1 K
                        {
                          fr :=
                            [some (SV.raw (Value.slice b l c)), some (SV.clo 47 [] [SV.loc 0 0]), none, none, none, none, none, some (SV.raw (Value.int IntKind.i64 (↑l : Int))), some (SV.raw (Value.int IntKind.i64 (IntKind.wrap IntKind.i64 ((↑i : Int) + (1 : Int))))), none, none, none, none, none, none, none, none, none, none],
                          bx :=
                            [{ elem := 3, row := Row.lst [SV.raw (Value.int IntKind.i64 n)], total := 1,
                                own := true : Box },
                              { elem := 47,
                                row := Row.lst [SV.raw (Value.int IntKind.i64 n_1), SV.raw (Value.int IntKind.i64 n_2)],
                                total := 2, own := true : Box }],
                          E := E : St })
      else
        K (SV.raw (Value.int IntKind.i64 (-1 : Int)))
          [{ elem := 3, row := Row.lst [SV.raw (Value.int IntKind.i64 n)], total := 1, own := true : Box }] E)
  have hn := hx.len
  refine condC (fun g => ?_) (fun g => ?_)
  · have g : i < l := by simpa using g
    obtain ⟨x, ex⟩ : ∃ x, rs[i]? = some x := ⟨_, List.getElem?_eq_getElem (by omega)⟩
    have w1 : IntKind.wrap .i64 ((i : Int) + 1) = ((i + 1 : Nat) : Int) := by rw [wrap_i64 (by omega)]; simp
    have nx : inP n x = false → _ := fun q => ih ⟨g, noneP_step hi.2 ex q⟩
    have yes : inP n x = true → ∀ bx, K (I (i : Nat)) (⟨3, .lst [I n], 1, true⟩ :: bx) E := fun q bx => by have := h bx; rwa [idxP_at ex q hi.2] at this
    unfold inP at nx yes
    rw [w1]
    exact req_intro (by omega) ⟨SL.nex RR_ok hx ex, x.1, x.2, hx.load ex, condC (fun a => ⟨Mem.le_refl _, condC (fun b => yes (decide_eq_true ⟨by simpa using a, by simpa using b⟩) _) (fun b => Lp_re [some 0] (nx (decide_eq_false (fun q => by simp at b; omega))) ⟨⟨by simp, by simp, fun j h => (by have e : j = 0 := (by omega); subst e; rfl)⟩, rfl, (by repeat' first | exact True.intro | refine And.intro (Or.inl rfl) ?_ | refine And.intro (Or.inr ⟨rfl, rfl⟩) ?_), (by repeat' first | exact True.intro | exact rfl | exact Or.inl rfl | fail | refine And.intro ?_ ?_), (show List.Nodup [0] from by decide), Mem.le_refl _⟩)⟩) (fun a => ⟨Mem.le_refl _, Lp_re [some 0] (nx (decide_eq_false (fun q => by simp at a; omega))) ⟨⟨by simp, by simp, fun j h => (by have e : j = 0 := (by omega); subst e; rfl)⟩, rfl, (by repeat' first | exact True.intro | refine And.intro (Or.inl rfl) ?_ | refine And.intro (Or.inr ⟨rfl, rfl⟩) ?_), (by repeat' first | exact True.intro | exact rfl | exact Or.inl rfl | fail | refine And.intro ?_ ?_), (show List.Nodup [0] from by decide), Mem.le_refl _⟩⟩)⟩
  · have g : i = l := by simp at g; omega
    have := h []
    rwa [idxP_no (by rw [hn, ← g]; exact hi.2)] at this
theorem lp31a {b : Option Addr} {l : Nat} {c : Nat} {n : Int} {i : Nat} {E0 : Mem} {rs : List Rg} {K : KT} (hx : RS E b l c rs) (hl : l ≤ 9223372036854775807) (hi : i ≤ l ∧ noneP (inP n) rs i) (hE : Mem.le E0 E) (h : ∀ bx, K (I (idxP (inP n) rs)) (⟨3, .lst [I n], 1, true⟩ :: bx) E) : Lp D1 8 Try.f31 [1, 0, 1, 0] 1 K (sh31a b l c n i E) :=
  Lp_ind okD1 (fun q0 : {i : Nat // i ≤ l ∧ noneP (inP n) rs i} => sh31a b l c n q0.1 E) (fun q0 => l - q0.1) (fun q0 ih => rnd31a hx hl q0.2 hE h fun g => ih ⟨q0.1 + 1, by omega, g.2⟩ (by show l - (_ + 1) < l - _; have := q0.2; omega)) ⟨i, hi⟩
noncomputable def D2 : Cx := { P := Try.prog, inl := fun f => List.contains [32] f, tab := fun _ _ _ _ => False, isB := fun _ => false, tabB := fun _ _ _ _ _ => False, opt := { unroll := 0, carry := [8] }, muts := mutsD }
theorem okD2 : CxOK D2 := CxOK.four (fun _ _ _ _ h => h.elim) (by kernel_rfl) (okInl (by kernel_rfl)) (fun _ _ _ _ _ h => h.elim)
def sh31b (b : Option Addr) (l : Nat) (c : Nat) (n : Int) (i : Nat) (E : Mem) : St := ⟨[some (L b l c), some (.clo 32 [] [.loc 0 0]), none, none, none, none, none, some (I (l : Nat)), some (I (i : Nat)), none, none, none, none, none, none, none, none, none, none], [⟨3, .lst [I n], 1, true⟩], E⟩
theorem rnd31b {b : Option Addr} {l : Nat} {c : Nat} {n : Int} {i : Nat} {E0 : Mem} {rs : List Rg} {K : KT} (hx : RS E b l c rs) (hl : l ≤ 9223372036854775807) (hi : i ≤ l ∧ noneP (gtP n) rs i) (hE : Mem.le E0 E) (h : ∀ bx, K (I (idxP (gtP n) rs)) (⟨3, .lst [I n], 1, true⟩ :: bx) E)
    (ih : (i < l ∧ noneP (gtP n) rs (i + 1)) → Lp D2 8 Try.f31 [1, 0, 1, 0] 1 K (sh31b b l c n (i + 1) E)) : Rnd D2 8 Try.f31 [1, 0, 1, 0] 1 K (sh31b b l c n i E) := by
  refine same (by kernel_rfl) (?_ : 
      bif decide ((↑i : Int) < (↑l : Int)) then
        req ((0 : Int) ≤ (↑i : Int) ∧ (↑i : Int) < (↑l : Int))
          ((∃ (cs : List Value), E (Value.slice b l c) cs ∧ (cs = [] → False)) ∧
            ∃ (n_1 : Int),
              ∃ (n_2 : Int),
                LoadE D2.P E 47 (Value.slice b l c) (Int.toNat (↑i : Int) * 2)
                    (SV.agg [SV.raw (Value.int IntKind.i64 n_1), SV.raw (Value.int IntKind.i64 n_2)]) ∧
                  bif decide (n_1 > n) then
                    K (SV.raw (Value.int IntKind.i64 (↑i : Int)))
                      [{ elem := 3, row := Row.lst [SV.raw (Value.int IntKind.i64 n)], total := 1,
                          own := true : Box },
                        { elem := 47,
                          row := Row.lst [SV.raw (Value.int IntKind.i64 n_1), SV.raw (Value.int IntKind.i64 n_2)],
                          total := 2, own := true : Box }]
                      E
                  else
                    Lp D2 8 Try.f31 [1, 0, 1, 0] 1 K
                      {
                        fr :=
                          [some (SV.raw (Value.slice b l c)), some (SV.clo 32 [] [SV.loc 0 0]), none, none, none, none, none, some (SV.raw (Value.int IntKind.i64 (↑l : Int))), some (SV.raw (Value.int IntKind.i64 (IntKind.wrap IntKind.i64 ((↑i : Int) + (1 : Int))))), none, none, none, none, none, none, none, none, none, none],
                        bx :=
                          [{ elem := 3, row := Row.lst [SV.raw (Value.int IntKind.i64 n)], total := 1,
                              own := true : Box },
                            { elem := 47,
                              row := Row.lst [SV.raw (Value.int IntKind.i64 n_1), SV.raw (Value.int IntKind.i64 n_2)],
                              total := 2, own := true : Box }],
                        E := E : St })
      else
        K (SV.raw (Value.int IntKind.i64 (-1 : Int)))
          [{ elem := 3, row := Row.lst [SV.raw (Value.int IntKind.i64 n)], total := 1, own := true : Box }] E)
  have hn := hx.len
  refine condC (fun g => ?_) (fun g => ?_)
  · have g : i < l := by simpa using g
    obtain ⟨x, ex⟩ : ∃ x, rs[i]? = some x := ⟨_, List.getElem?_eq_getElem (by omega)⟩
    have w1 : IntKind.wrap .i64 ((i : Int) + 1) = ((i + 1 : Nat) : Int) := by rw [wrap_i64 (by omega)]; simp
    have nx : gtP n x = false → _ := fun q => ih ⟨g, noneP_step hi.2 ex q⟩
    have yes : gtP n x = true → ∀ bx, K (I (i : Nat)) (⟨3, .lst [I n], 1, true⟩ :: bx) E := fun q bx => by have := h bx; rwa [idxP_at ex q hi.2] at this
    unfold gtP at nx yes
    rw [w1]
    exact req_intro (by omega) ⟨SL.nex RR_ok hx ex, x.1, x.2, hx.load ex, condC (fun a => yes (decide_eq_true (by simpa using a)) _) (fun a => Lp_re [some 0] (nx (decide_eq_false (fun q => by simp at a; omega))) ⟨⟨by simp, by simp, fun j h => (by have e : j = 0 := (by omega); subst e; rfl)⟩, rfl, (by repeat' first | exact True.intro | refine And.intro (Or.inl rfl) ?_ | refine And.intro (Or.inr ⟨rfl, rfl⟩) ?_), (by repeat' first | exact True.intro | exact rfl | exact Or.inl rfl | fail | refine And.intro ?_ ?_), (show List.Nodup [0] from by decide), Mem.le_refl _⟩)⟩
  · have g : i = l := by simp at g; omega
    have := h []
    rwa [idxP_no (by rw [hn, ← g]; exact hi.2)] at this
theorem lp31b {b : Option Addr} {l : Nat} {c : Nat} {n : Int} {i : Nat} {E0 : Mem} {rs : List Rg} {K : KT} (hx : RS E b l c rs) (hl : l ≤ 9223372036854775807) (hi : i ≤ l ∧ noneP (gtP n) rs i) (hE : Mem.le E0 E) (h : ∀ bx, K (I (idxP (gtP n) rs)) (⟨3, .lst [I n], 1, true⟩ :: bx) E) : Lp D2 8 Try.f31 [1, 0, 1, 0] 1 K (sh31b b l c n i E) :=
  Lp_ind okD2 (fun q0 : {i : Nat // i ≤ l ∧ noneP (gtP n) rs i} => sh31b b l c n q0.1 E) (fun q0 => l - q0.1) (fun q0 ih => rnd31b hx hl q0.2 hE h fun g => ih ⟨q0.1 + 1, by omega, g.2⟩ (by show l - (_ + 1) < l - _; have := q0.2; omega)) ⟨i, hi⟩
theorem ent31a {b : Option Addr} {l c : Nat} {n : Int} {rs : List Rg} {K : KT} (hx : RS E b l c rs) (hl : l ≤ 9223372036854775807) (h : ∀ bx, K (I (idxP (inP n) rs)) (⟨3, .lst [I n], 1, true⟩ :: bx) E) : EntB D1 8 Try.f31 [L b l c, .clo 47 [] [.loc 0 0]] [⟨3, .lst [I n], 1, true⟩] E K := by
  refine same (by kernel_rfl) (?_ : 
      Lp D1 8 Try.f31 [1, 0, 1, 0] 1 K
        {
          fr :=
            [some (SV.raw (Value.slice b l c)), some (SV.clo 47 [] [SV.loc 0 0]), none, none, none, none, some (SV.raw (Value.slice b l c)), some (SV.raw (Value.int IntKind.i64 (↑l : Int))), some (SV.raw (Value.int IntKind.i64 (0 : Int))), none, none, none, none, none, none, none, none, none, none],
          bx :=
            [{ elem := 3, row := Row.lst [SV.raw (Value.int IntKind.i64 n)], total := 1, own := true : Box }],
          E := E : St })
  exact Lp_re [some 0] (lp31a (i := 0) hx hl ⟨Nat.zero_le _, fun j y hj => absurd hj (Nat.not_lt_zero _)⟩ (Mem.le_refl _) h) ⟨⟨by simp, by simp, fun j h => (by have e : j = 0 := (by omega); subst e; rfl)⟩, rfl, (by repeat' first | exact True.intro | refine And.intro (Or.inl rfl) ?_ | refine And.intro (Or.inr ⟨rfl, rfl⟩) ?_), (by repeat' first | exact True.intro | exact rfl | exact Or.inl rfl | fail | refine And.intro ?_ ?_), (show List.Nodup [0] from by decide), Mem.le_refl _⟩
theorem sem31a {b : Option Addr} {l c k : Nat} {n : Int} {rs : List Rg} {bx : List Box} {K : KT} (hb : bx[k]? = some ⟨3, .lst [I n], 1, true⟩) (hx : RS E b l c rs) (hl : l ≤ 9223372036854775807) (h : K (I (idxP (inP n) rs)) bx E) : CallSem Try.prog 31 [L b l c, .clo 47 [] [.loc k 0]] bx E K := by
  refine frame (σ := [k]) (bxs := [⟨3, .lst [I n], 1, true⟩]) (args' := [L b l c, .clo 47 [] [.loc 0 0]]) (K' := fun s bxs' E' => s = I (idxP (inP n) rs) ∧ bxs' = [⟨3, .lst [I n], 1, true⟩] ∧ E' = E) ⟨by simp, rfl, fun i b hi => ?_⟩ rfl (CallSem.clo (EntB.sem okD1 Try.func31 ⟨by kernel_rfl, by kernel_rfl⟩ (ent31a hx hl (fun bx => cloB1 rfl ⟨rfl, rfl, rfl⟩ bx)))) (fun s bxs' E' hh => ?_)
  · cases i with
    | zero => simp only [List.getElem?_cons_zero, Option.some.injEq] at hi; subst hi; exact ⟨rfl, k, rfl, hb⟩
    | succ i => simp at hi
  · obtain ⟨rfl, rfl, rfl⟩ := hh
    have e : merge [k] bx [⟨3, .lst [I n], 1, true⟩] = bx.set k ⟨3, .lst [I n], 1, true⟩ := by simp [merge, setAll, Box.ren, Row.ren, SV.renL, SV.ren]
    have e2 : bx.set k ⟨3, .lst [I n], 1, true⟩ = bx := by
      apply List.ext_getElem?
      intro j
      rw [List.getElem?_set]
      by_cases hj : k = j
      · subst hj
        have := (List.getElem?_eq_some_iff.1 hb).1
        rw [if_pos rfl, if_pos this, hb]
      · rw [if_neg hj]
    rw [e2] at e
    rw [e]; exact h
theorem ent31b {b : Option Addr} {l c : Nat} {n : Int} {rs : List Rg} {K : KT} (hx : RS E b l c rs) (hl : l ≤ 9223372036854775807) (h : ∀ bx, K (I (idxP (gtP n) rs)) (⟨3, .lst [I n], 1, true⟩ :: bx) E) : EntB D2 8 Try.f31 [L b l c, .clo 32 [] [.loc 0 0]] [⟨3, .lst [I n], 1, true⟩] E K := by
  refine same (by kernel_rfl) (?_ : 
      Lp D2 8 Try.f31 [1, 0, 1, 0] 1 K
        {
          fr :=
            [some (SV.raw (Value.slice b l c)), some (SV.clo 32 [] [SV.loc 0 0]), none, none, none, none, some (SV.raw (Value.slice b l c)), some (SV.raw (Value.int IntKind.i64 (↑l : Int))), some (SV.raw (Value.int IntKind.i64 (0 : Int))), none, none, none, none, none, none, none, none, none, none],
          bx :=
            [{ elem := 3, row := Row.lst [SV.raw (Value.int IntKind.i64 n)], total := 1, own := true : Box }],
          E := E : St })
  exact Lp_re [some 0] (lp31b (i := 0) hx hl ⟨Nat.zero_le _, fun j y hj => absurd hj (Nat.not_lt_zero _)⟩ (Mem.le_refl _) h) ⟨⟨by simp, by simp, fun j h => (by have e : j = 0 := (by omega); subst e; rfl)⟩, rfl, (by repeat' first | exact True.intro | refine And.intro (Or.inl rfl) ?_ | refine And.intro (Or.inr ⟨rfl, rfl⟩) ?_), (by repeat' first | exact True.intro | exact rfl | exact Or.inl rfl | fail | refine And.intro ?_ ?_), (show List.Nodup [0] from by decide), Mem.le_refl _⟩
theorem sem31b {b : Option Addr} {l c k : Nat} {n : Int} {rs : List Rg} {bx : List Box} {K : KT} (hb : bx[k]? = some ⟨3, .lst [I n], 1, true⟩) (hx : RS E b l c rs) (hl : l ≤ 9223372036854775807) (h : K (I (idxP (gtP n) rs)) bx E) : CallSem Try.prog 31 [L b l c, .clo 32 [] [.loc k 0]] bx E K := by
  refine frame (σ := [k]) (bxs := [⟨3, .lst [I n], 1, true⟩]) (args' := [L b l c, .clo 32 [] [.loc 0 0]]) (K' := fun s bxs' E' => s = I (idxP (gtP n) rs) ∧ bxs' = [⟨3, .lst [I n], 1, true⟩] ∧ E' = E) ⟨by simp, rfl, fun i b hi => ?_⟩ rfl (CallSem.clo (EntB.sem okD2 Try.func31 ⟨by kernel_rfl, by kernel_rfl⟩ (ent31b hx hl (fun bx => cloB1 rfl ⟨rfl, rfl, rfl⟩ bx)))) (fun s bxs' E' hh => ?_)
  · cases i with
    | zero => simp only [List.getElem?_cons_zero, Option.some.injEq] at hi; subst hi; exact ⟨rfl, k, rfl, hb⟩
    | succ i => simp at hi
  · obtain ⟨rfl, rfl, rfl⟩ := hh
    have e : merge [k] bx [⟨3, .lst [I n], 1, true⟩] = bx.set k ⟨3, .lst [I n], 1, true⟩ := by simp [merge, setAll, Box.ren, Row.ren, SV.renL, SV.ren]
    have e2 : bx.set k ⟨3, .lst [I n], 1, true⟩ = bx := by
      apply List.ext_getElem?
      intro j
      rw [List.getElem?_set]
      by_cases hj : k = j
      · subst hj
        have := (List.getElem?_eq_some_iff.1 hb).1
        rw [if_pos rfl, if_pos this, hb]
      · rw [if_neg hj]
    rw [e2] at e
    rw [e]; exact h
def tab31 : CallT := fun f args bx E K => match f, args with
  | 31, [x, .clo 47 [] [.loc k 0]] => dS x fun b l c => ∃ (rs : List Rg) (n : Int), bx[k]? = some ⟨3, .lst [I n], 1, true⟩ ∧ RS E b l c rs ∧ l ≤ 9223372036854775807 ∧ K (I (idxP (inP n) rs)) bx E
  | 31, [x, .clo 32 [] [.loc k 0]] => dS x fun b l c => ∃ (rs : List Rg) (n : Int), bx[k]? = some ⟨3, .lst [I n], 1, true⟩ ∧ RS E b l c rs ∧ l ≤ 9223372036854775807 ∧ K (I (idxP (gtP n) rs)) bx E
  | _, _ => False
theorem tab31_ok (f : FuncId) (args : List SV) (bx : List Box) (E : Mem) (K : KT) (h : tab31 f args bx E K) : CallSem Try.prog f args bx E K := by
  unfold tab31 at h
  split at h
  · obtain ⟨b, l, c, rfl, rs, n, h1, h2, h3, h4⟩ := dS_elim h
    exact sem31a h1 h2 h3 h4
  · obtain ⟨b, l, c, rfl, rs, n, h1, h2, h3, h4⟩ := dS_elim h
    exact sem31b h1 h2 h3 h4
  · exact h.elim
noncomputable def D3 : Cx := { P := Try.prog, inl := fun f => List.contains [46] f, tab := fun _ _ _ _ => False, isB := fun f => f == 31, tabB := tab31, opt := { unroll := 0, carry := [] }, muts := mutsD }
theorem okD3 : CxOK D3 := CxOK.four (fun _ _ _ _ h => h.elim) (by kernel_rfl) (okInl (by kernel_rfl)) tab31_ok
theorem s30 {b1 : Option Addr} {l2 : Nat} {c3 : Nat} {a4 : Int} {rs : List Rg} (h0 : RS E b1 l2 c3 rs) (h1 : l2 ≤ 9223372036854775807) (h : K (B (decide (holdsP rs a4))) E) :
    Ent D3 8 Try.f30 [L b1 l2 c3, I a4] E K := by
  refine same (by kernel_rfl) (?_ : 
      ∃ (rs : List Rg),
        ∃ (n : Int),
          some
                { elem := 3, row := Row.lst [SV.raw (Value.int IntKind.i64 a4)], total := 1, own := true :
                  Box } =
              some
                { elem := 3, row := Row.lst [SV.raw (Value.int IntKind.i64 n)], total := 1, own := true :
                  Box } ∧
            RS E b1 l2 c3 rs ∧
              l2 ≤ 9223372036854775807 ∧ Mem.le E E ∧ K (SV.raw (Value.bool (decide (idxP (inP n) rs ≥ (0 : Int))))) E)
  refine ⟨rs, a4, rfl, h0, h1, Mem.le_refl _, ?_⟩
  have e : decide (idxP (inP a4) rs ≥ 0) = decide (holdsP rs a4) := by rw [decide_eq_decide]; exact idx_holds
  show K (B (decide (idxP (inP a4) rs ≥ 0))) E
  rw [e]; exact h
noncomputable def D4 : Cx := { P := Try.prog, inl := fun f => List.contains [] f, tab := fun _ _ _ _ => False, isB := fun _ => false, tabB := fun _ _ _ _ _ => False, opt := { unroll := 0, carry := [5] }, muts := mutsD }
theorem okD4 : CxOK D4 := CxOK.four (fun _ _ _ _ h => h.elim) (by kernel_rfl) (okInl (by kernel_rfl)) (fun _ _ _ _ _ h => h.elim)
def sh41 (b : Option Addr) (l : Nat) (c : Nat) (n : Int) (i : Nat) (E : Mem) : St := ⟨[some (L b l c), some (I n), none, none, none, some (I (i : Nat)), none, none, none, none, none, none, none, none, none, none, none, none, none, none, none, none, none, none, none, none, none, none], [], E⟩
theorem rnd41 {b : Option Addr} {l : Nat} {c : Nat} {n : Int} {i : Nat} {E0 : Mem} {rs : List Rg} (hx : RS E b l c rs) (hl : l ≤ 9223372036854775807) (hi : i ≤ l ∧ noneP (inP n) rs i) (hE : Mem.le E0 E) (h : K (B (decide (holdsP rs n))) E)
    (ih : (i < l ∧ noneP (inP n) rs (i + 1)) → Lp D4 8 Try.f41 [1, 0, 1, 0] 0 (pubK E0 K) (sh41 b l c n (i + 1) E)) : Rnd D4 8 Try.f41 [1, 0, 1, 0] 0 (pubK E0 K) (sh41 b l c n i E) := by
  refine same (by kernel_rfl) (?_ : 
      bif decide ((↑i : Int) < (↑l : Int)) then
        req ((0 : Int) ≤ (↑i : Int) ∧ (↑i : Int) < (↑l : Int))
          ((∃ (cs : List Value), E (Value.slice b l c) cs ∧ (cs = [] → False)) ∧
            ∃ (n_1 : Int),
              LoadE D4.P E 3 (Value.slice b l c) (Int.toNat (↑i : Int) * 2 + 0)
                  (SV.raw (Value.int IntKind.i64 n_1)) ∧
                bif decide (n ≥ n_1) then
                  req ((0 : Int) ≤ (↑i : Int) ∧ (↑i : Int) < (↑l : Int))
                    ((∃ (cs : List Value), E (Value.slice b l c) cs ∧ (cs = [] → False)) ∧
                      ∃ (n_2 : Int),
                        LoadE D4.P E 3 (Value.slice b l c) (Int.toNat (↑i : Int) * 2 + 1)
                            (SV.raw (Value.int IntKind.i64 n_2)) ∧
                          bif bif true then decide (n ≤ n_2) else false then Mem.le E0 E ∧ K (SV.raw (Value.bool true)) E
                          else
                            Lp D4 8 Try.f41 [1, 0, 1, 0] 0 (pubK E0 K)
                              {
                                fr :=
                                  [some (SV.raw (Value.slice b l c)), some (SV.raw (Value.int IntKind.i64 n)), none, none, none, some (SV.raw (Value.int IntKind.i64 (IntKind.wrap IntKind.i64 ((↑i : Int) + (1 : Int))))), none, none, none, none, none, none, none, none, none, none, none, none, none, none, none, none, none, none, none, none, none, none],
                                bx := [], E := E : St })
                else
                  Lp D4 8 Try.f41 [1, 0, 1, 0] 0 (pubK E0 K)
                    {
                      fr :=
                        [some (SV.raw (Value.slice b l c)), some (SV.raw (Value.int IntKind.i64 n)), none, none, none, some (SV.raw (Value.int IntKind.i64 (IntKind.wrap IntKind.i64 ((↑i : Int) + (1 : Int))))), none, none, none, none, none, none, none, none, none, none, none, none, none, none, none, none, none, none, none, none, none, none],
                      bx := [], E := E : St })
      else Mem.le E0 E ∧ K (SV.raw (Value.bool false)) E)
  have hn := hx.len
  refine condC (fun g => ?_) (fun g => ?_)
  · have g : i < l := by simpa using g
    obtain ⟨x, ex⟩ : ∃ x, rs[i]? = some x := ⟨_, List.getElem?_eq_getElem (by omega)⟩
    have w1 : IntKind.wrap .i64 ((i : Int) + 1) = ((i + 1 : Nat) : Int) := by rw [wrap_i64 (by omega)]; simp
    have nx : inP n x = false → _ := fun q => ih ⟨g, noneP_step hi.2 ex q⟩
    unfold inP at nx
    rw [w1]
    refine req_intro (by omega) ⟨SL.nex RR_ok hx ex, x.1, hx.loadA ex, condC (fun a => req_intro (by omega) ⟨SL.nex RR_ok hx ex, x.2, hx.loadB ex, condC (fun b => ⟨hE, ?_⟩) (fun b => Lp_re [] (nx (decide_eq_false (fun q => by simp at b; omega))) ⟨⟨by simp, by simp, fun j h => absurd h (Nat.not_lt_zero _)⟩, rfl, (by repeat' first | exact True.intro | refine And.intro (Or.inl rfl) ?_ | refine And.intro (Or.inr ⟨rfl, rfl⟩) ?_), (by repeat' first | exact True.intro | exact rfl | exact Or.inl rfl | fail | refine And.intro ?_ ?_), (show List.Nodup [] from by decide), Mem.le_refl _⟩)⟩) (fun a => Lp_re [] (nx (decide_eq_false (fun q => by simp at a; omega))) ⟨⟨by simp, by simp, fun j h => absurd h (Nat.not_lt_zero _)⟩, rfl, (by repeat' first | exact True.intro | refine And.intro (Or.inl rfl) ?_ | refine And.intro (Or.inr ⟨rfl, rfl⟩) ?_), (by repeat' first | exact True.intro | exact rfl | exact Or.inl rfl | fail | refine And.intro ?_ ?_), (show List.Nodup [] from by decide), Mem.le_refl _⟩)⟩
    rwa [decide_eq_true (holdsP_iff.2 ⟨i, x, ex, by simpa using a, by simpa using b⟩)] at h
  · have g : i = l := by simp at g; omega
    refine ⟨hE, ?_⟩
    rwa [decide_eq_false (fun q => by
      obtain ⟨j, y, hy, q1, q2⟩ := holdsP_iff.1 q
      have := hi.2 j y (by rw [g, ← hn]; exact (List.getElem?_eq_some_iff.1 hy).1) hy
      unfold inP at this
      rw [decide_eq_true ⟨q1, q2⟩] at this; cases this)] at h
theorem lp41 {b : Option Addr} {l : Nat} {c : Nat} {n : Int} {i : Nat} {E0 : Mem} {rs : List Rg} (hx : RS E b l c rs) (hl : l ≤ 9223372036854775807) (hi : i ≤ l ∧ noneP (inP n) rs i) (hE : Mem.le E0 E) (h : K (B (decide (holdsP rs n))) E) : Lp D4 8 Try.f41 [1, 0, 1, 0] 0 (pubK E0 K) (sh41 b l c n i E) :=
  Lp_ind okD4 (fun q0 : {i : Nat // i ≤ l ∧ noneP (inP n) rs i} => sh41 b l c n q0.1 E) (fun q0 => l - q0.1) (fun q0 ih => rnd41 hx hl q0.2 hE h fun g => ih ⟨q0.1 + 1, by omega, g.2⟩ (by show l - (_ + 1) < l - _; have := q0.2; omega)) ⟨i, hi⟩
theorem s41 {b1 : Option Addr} {l2 : Nat} {c3 : Nat} {a4 : Int} {rs : List Rg} (h0 : RS E b1 l2 c3 rs) (h1 : l2 ≤ 9223372036854775807) (h : K (B (decide (holdsP rs a4))) E) :
    Ent D4 8 Try.f41 [L b1 l2 c3, I a4] E K := by
  refine same (by kernel_rfl) (?_ : 
      Lp D4 8 Try.f41 [1, 0, 1, 0] 0 (pubK E K)
        {
          fr :=
            [some (SV.raw (Value.slice b1 l2 c3)), some (SV.raw (Value.int IntKind.i64 a4)), none, none, none, some (SV.raw (Value.int IntKind.i64 (0 : Int))), none, none, none, none, none, none, none, none, none, none, none, none, none, none, none, none, none, none, none, none, none, none],
          bx := [], E := E : St })
  exact Lp_re [] (lp41 (i := 0) h0 h1 ⟨Nat.zero_le _, fun j y hj => absurd hj (Nat.not_lt_zero _)⟩ (Mem.le_refl _) h) ⟨⟨by simp, by simp, fun j h => absurd h (Nat.not_lt_zero _)⟩, rfl, (by repeat' first | exact True.intro | refine And.intro (Or.inl rfl) ?_ | refine And.intro (Or.inr ⟨rfl, rfl⟩) ?_), (by repeat' first | exact True.intro | exact rfl | exact Or.inl rfl | fail | refine And.intro ?_ ?_), (show List.Nodup [] from by decide), Mem.le_refl _⟩

end Go.Proofs.Ytjibgfihfbdcaaa.SeenOwn
