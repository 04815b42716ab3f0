/- The package seen: what its functions answer. -/
import Derived.Test.YtjibgfihfbdcaaaSeen1
namespace Go.Proofs.Ytjibgfihfbdcaaa.SeenOwn
open Go Go.Sx
set_option maxRecDepth 100000
set_option maxHeartbeats 4000000
set_option linter.unusedVariables false
set_option linter.unusedSimpArgs false
variable {E : Mem} {K : SV → Mem → Prop}

/-- An interval behind another one, of which the greatest number is p. -/
def okE (p : Int) (x : Rg) : Prop := 1 ≤ x.1 ∧ x.1 ≤ x.2 ∧ x.2 ≤ 1000000000 ∧ p + 1 < x.1
instance (p : Int) (x : Rg) : Decidable (okE p x) := by unfold okE; infer_instance
def chkR : Int → List Rg → Prop
  | _, [] => True
  | p, x :: xs => okE p x ∧ chkR x.2 xs
instance decChkR : ∀ (p : Int) (l : List Rg), Decidable (chkR p l)
  | _, [] => .isTrue trivial
  | p, x :: xs => by have := decChkR x.2 xs; unfold chkR; infer_instance
def lastH (p : Int) (l : List Rg) : Int := match l.getLast? with | some x => x.2 | none => p
theorem chkR_app : ∀ {p : Int} {l m : List Rg}, chkR p (l ++ m) ↔ chkR p l ∧ chkR (lastH p l) m
  | p, [], m => by simp [chkR, lastH]
  | p, x :: l, m => by
    show okE p x ∧ chkR x.2 (l ++ m) ↔ (okE p x ∧ chkR x.2 l) ∧ chkR (lastH p (x :: l)) m
    rw [chkR_app (p := x.2)]
    have : lastH x.2 l = lastH p (x :: l) := by
      unfold lastH
      cases l with
      | nil => rfl
      | cons y l => rw [List.getLast?_cons_cons]; cases h : (y :: l).getLast? with | none => simp at h | some z => rfl
    rw [this]; exact and_assoc.symm
theorem lastH_take {p : Int} {l : List Rg} {i : Nat} {x : Rg} (h : l[i]? = some x) : lastH p (l.take (i + 1)) = x.2 := by
  unfold lastH; rw [take_get' h]; simp
theorem chkR_take {l : List Rg} {p : Int} {i : Nat} {x : Rg} (h : l[i]? = some x) : chkR p (l.take (i + 1)) ↔ chkR p (l.take i) ∧ okE (lastH p (l.take i)) x := by
  rw [take_get' h, chkR_app]; simp [chkR]
theorem chkR_pre {l : List Rg} {p : Int} {i : Nat} (h : chkR p l) : chkR p (l.take i) := by
  rw [← List.take_append_drop i l, chkR_app] at h; exact h.1
def setsOK (l : List Rg) : Prop := l ≠ [] ∧ chkR (-1) l
instance (l : List Rg) : Decidable (setsOK l) := by unfold setsOK; infer_instance
def okS (p : Int) (x : Sn) : Prop := 0 ≤ x.1 ∧ x.1 ≤ 59 ∧ setsOK x.2 ∧ p < x.1
instance (p : Int) (x : Sn) : Decidable (okS p x) := by unfold okS; infer_instance
def chkS : Int → List Sn → Prop
  | _, [] => True
  | p, x :: xs => okS p x ∧ chkS x.1 xs
instance decChkS : ∀ (p : Int) (l : List Sn), Decidable (chkS p l)
  | _, [] => .isTrue trivial
  | p, x :: xs => by have := decChkS x.1 xs; unfold chkS; infer_instance
def lastO (p : Int) (l : List Sn) : Int := match l.getLast? with | some x => x.1 | none => p
theorem chkS_app : ∀ {p : Int} {l m : List Sn}, chkS p (l ++ m) ↔ chkS p l ∧ chkS (lastO p l) m
  | p, [], m => by simp [chkS, lastO]
  | p, x :: l, m => by
    show okS p x ∧ chkS x.1 (l ++ m) ↔ (okS p x ∧ chkS x.1 l) ∧ chkS (lastO p (x :: l)) m
    rw [chkS_app (p := x.1)]
    have : lastO x.1 l = lastO p (x :: l) := by
      unfold lastO
      cases l with
      | nil => rfl
      | cons y l => rw [List.getLast?_cons_cons]; cases h : (y :: l).getLast? with | none => simp at h | some z => rfl
    rw [this]; exact and_assoc.symm
theorem lastO_take {p : Int} {l : List Sn} {i : Nat} {x : Sn} (h : l[i]? = some x) : lastO p (l.take (i + 1)) = x.1 := by
  unfold lastO; rw [take_get' h]; simp
theorem chkS_take {l : List Sn} {p : Int} {i : Nat} {x : Sn} (h : l[i]? = some x) : chkS p (l.take (i + 1)) ↔ chkS p (l.take i) ∧ okS (lastO p (l.take i)) x := by
  rw [take_get' h, chkS_app]; simp [chkS]
theorem chkS_pre {l : List Sn} {p : Int} {i : Nat} (h : chkS p l) : chkS p (l.take i) := by
  rw [← List.take_append_drop i l, chkS_app] at h; exact h.1
theorem chkR_len : ∀ {rs : List Rg} {p : Int}, chkR p rs → -1 ≤ p → p ≤ 1000000000 → (rs.length : Int) ≤ 1000000000 - p
  | [], _, _, h0, h1 => by simp; omega
  | x :: rs, p, h, h0, h1 => by
    have e := h.1
    unfold okE at e
    have := chkR_len (p := x.2) h.2 (by omega) (by omega)
    simp only [List.length_cons]; omega
theorem chkS_bd : ∀ {xs : List Sn} {p : Int}, chkS p xs → -1 ≤ p → p ≤ 59 → (manyF xs : Int) ≤ 2000000000 * (59 - p)
  | [], _, _, h0, h1 => by simp [manyF]; omega
  | x :: xs, p, h, h0, h1 => by
    obtain ⟨e1, e2, e3, e4⟩ := h.1
    have h3 := chkR_len e3.2 (by omega) (by omega)
    have := chkS_bd (p := x.1) h.2 (by omega) (by omega)
    have e : manyF (x :: xs) = x.2.length + manyF xs := by simp [manyF]
    rw [e]; omega
theorem chkS_many {xs : List Sn} (h : chkS (-1) xs) : manyI xs = (manyF xs : Nat) := manyI_eq (by have := chkS_bd h (by omega) (by omega); omega)
def validS (l : List Sn) : Prop := manyF l ≤ 64 ∧ chkS (-1) l
instance (l : List Sn) : Decidable (validS l) := by unfold validS; infer_instance
/-- A truth value behind which whatever boxes are left. -/
theorem cloB {K : KT} {r : SV} {v : Value} (hr : r = .raw v) {E : Mem} (h : K r [] E) (bx : List Box) : cloK 0 K r bx E := by
  subst hr
  exact cloK_intro [] h ⟨⟨Nat.zero_le _, Nat.zero_le _, fun j hj => absurd hj (Nat.not_lt_zero _)⟩, rfl, ⟨.inl rfl, trivial⟩, trivial, List.nodup_nil, Mem.le_refl _⟩
noncomputable def C3 : Cx := { P := Try.prog, inl := fun f => List.contains [26, 51] f, tab := fun _ _ _ _ => False, isB := fun _ => false, tabB := fun _ _ _ _ _ => False, opt := { unroll := 0, carry := [9] }, muts := mutsD }
theorem okC3 : CxOK C3 := CxOK.four (fun _ _ _ _ h => h.elim) (by kernel_rfl) (okInl (by kernel_rfl)) (fun _ _ _ _ _ h => h.elim)
def sh50 (b : Option Addr) (l : Nat) (c : Nat) (i : Nat) (E : Mem) : St := ⟨[some (L b l c), some (.clo 51 [] []), none, none, none, none, none, some (L b l c), some (I (l : Nat)), some (I (i : Nat)), none, none, none, none, none, none, none, none, none, none, none, none, none, none, none, none, none], [], E⟩
theorem rnd50 {b : Option Addr} {l : Nat} {c : Nat} {i : Nat} {E0 : Mem} {rs : List Rg} {K : KT} (hx : RS E b l c rs) (hl : l ≤ 9223372036854775807) (hi : i ≤ l ∧ chkR (-1) (rs.take i)) (hE : Mem.le E0 E) (h : ∀ bx, K (B (decide (chkR (-1) rs))) bx E)
    (ih : (i < l ∧ chkR (-1) (rs.take (i + 1))) → Lp C3 8 Try.f50 [1, 0, 1, 0] 0 K (sh50 b l c (i + 1) E)) : Rnd C3 8 Try.f50 [1, 0, 1, 0] 0 K (sh50 b l c i E) := by
  refine same (by kernel_rfl) (?_ : 
      bif decide ((↑i : Int) < (↑l : Int)) then
        bif decide ((↑i : Int) > (0 : Int)) then
          req
            ((0 : Int) ≤ IntKind.wrap IntKind.i64 ((↑i : Int) - (1 : Int)) ∧
              IntKind.wrap IntKind.i64 ((↑i : Int) - (1 : Int)) < (↑l : Int))
            ((∃ (cs : List Value), E (Value.slice b l c) cs ∧ (cs = [] → False)) ∧
              req ((0 : Int) ≤ (↑i : Int) ∧ (↑i : Int) < (↑l : Int))
                ((∃ (cs : List Value), E (Value.slice b l c) cs ∧ (cs = [] → False)) ∧
                  ∃ (n : Int),
                    ∃ (n_1 : Int),
                      LoadE C3.P E 47 (Value.slice b l c) (Int.toNat (↑i : Int) * 2)
                          (SV.agg [SV.raw (Value.int IntKind.i64 n), SV.raw (Value.int IntKind.i64 n_1)]) ∧
                        bif decide ((1 : Int) ≤ n) then
                          Mem.le E E ∧
                            bif bif true then decide (n ≤ n_1) else false then
                              bif bif true then decide (n_1 ≤ (1000000000 : Int)) else false then
                                ∃ (n_2 : Int),
                                  LoadE C3.P E 3 (Value.slice b l c)
                                      (Int.toNat (IntKind.wrap IntKind.i64 ((↑i : Int) - (1 : Int))) * 2 + 1)
                                      (SV.raw (Value.int IntKind.i64 n_2)) ∧
                                    bif
                                        !bif true then
                                            bif false then true else decide (n > IntKind.wrap IntKind.i64 (n_2 + (1 : Int)))
                                          else false then
                                      K (SV.raw (Value.bool false))
                                        [{ elem := 47,
                                            row :=
                                              Row.lst [SV.raw (Value.int IntKind.i64 n), SV.raw (Value.int IntKind.i64 n_1)],
                                            total := 2, own := true : Box }]
                                        E
                                    else
                                      Lp C3 8 Try.f50 [1, 0, 1, 0] 0 K
                                        {
                                          fr :=
                                            [some (SV.raw (Value.slice b l c)), some (SV.clo 51 [] []), none, none, none, none, none, some (SV.raw (Value.slice b l c)), some (SV.raw (Value.int IntKind.i64 (↑l : Int))), some (SV.raw (Value.int IntKind.i64 (IntKind.wrap IntKind.i64 ((↑i : Int) + (1 : Int))))), none, none, none, none, none, none, none, none, none, none, none, none, none, none, none, none, none],
                                          bx :=
                                            [{ elem := 47,
                                                row :=
                                                  Row.lst
                                                    [SV.raw (Value.int IntKind.i64 n), SV.raw (Value.int IntKind.i64 n_1)],
                                                total := 2, own := true : Box }],
                                          E := E : St }
                              else
                                K (SV.raw (Value.bool false))
                                  [{ elem := 47,
                                      row := Row.lst [SV.raw (Value.int IntKind.i64 n), SV.raw (Value.int IntKind.i64 n_1)],
                                      total := 2, own := true : Box }]
                                  E
                            else
                              K (SV.raw (Value.bool false))
                                [{ elem := 47,
                                    row := Row.lst [SV.raw (Value.int IntKind.i64 n), SV.raw (Value.int IntKind.i64 n_1)],
                                    total := 2, own := true : Box }]
                                E
                        else
                          Mem.le E E ∧
                            K (SV.raw (Value.bool false))
                              [{ elem := 47,
                                  row := Row.lst [SV.raw (Value.int IntKind.i64 n), SV.raw (Value.int IntKind.i64 n_1)],
                                  total := 2, own := true : Box }]
                              E))
        else
          req ((0 : Int) ≤ (↑i : Int) ∧ (↑i : Int) < (↑l : Int))
            ((∃ (cs : List Value), E (Value.slice b l c) cs ∧ (cs = [] → False)) ∧
              ∃ (n : Int),
                ∃ (n_1 : Int),
                  LoadE C3.P E 47 (Value.slice b l c) (Int.toNat (↑i : Int) * 2)
                      (SV.agg [SV.raw (Value.int IntKind.i64 n), SV.raw (Value.int IntKind.i64 n_1)]) ∧
                    bif decide ((1 : Int) ≤ n) then
                      Mem.le E E ∧
                        bif bif true then decide (n ≤ n_1) else false then
                          bif bif true then decide (n_1 ≤ (1000000000 : Int)) else false then
                            Mem.le E E ∧
                              Lp C3 8 Try.f50 [1, 0, 1, 0] 0 K
                                {
                                  fr :=
                                    [some (SV.raw (Value.slice b l c)), some (SV.clo 51 [] []), none, none, none, none, none, some (SV.raw (Value.slice b l c)), some (SV.raw (Value.int IntKind.i64 (↑l : Int))), some (SV.raw (Value.int IntKind.i64 (IntKind.wrap IntKind.i64 ((↑i : Int) + (1 : Int))))), none, none, none, none, none, none, none, none, none, none, none, none, none, none, none, none, none],
                                  bx :=
                                    [{ elem := 47,
                                        row := Row.lst [SV.raw (Value.int IntKind.i64 n), SV.raw (Value.int IntKind.i64 n_1)],
                                        total := 2, own := true : Box }],
                                  E := E : St }
                          else
                            Mem.le E E ∧
                              K (SV.raw (Value.bool false))
                                [{ elem := 47,
                                    row := Row.lst [SV.raw (Value.int IntKind.i64 n), SV.raw (Value.int IntKind.i64 n_1)],
                                    total := 2, own := true : Box }]
                                E
                        else
                          Mem.le E E ∧
                            K (SV.raw (Value.bool false))
                              [{ elem := 47,
                                  row := Row.lst [SV.raw (Value.int IntKind.i64 n), SV.raw (Value.int IntKind.i64 n_1)],
                                  total := 2, own := true : Box }]
                              E
                    else
                      Mem.le E E ∧
                        Mem.le E E ∧
                          K (SV.raw (Value.bool false))
                            [{ elem := 47,
                                row := Row.lst [SV.raw (Value.int IntKind.i64 n), SV.raw (Value.int IntKind.i64 n_1)],
                                total := 2, own := true : Box }]
                            E)
      else K (SV.raw (Value.bool true)) [] E)
  have hn := hx.len
  refine condC (fun g => ?_) (fun g => ?_)
  · have g : i < l := by simpa using g
    obtain ⟨x, ex⟩ : ∃ x, rs[i]? = some x := ⟨_, List.getElem?_eq_getElem (by omega)⟩
    have no : ¬ okE (lastH (-1) (rs.take i)) x → ∀ bx, K (B false) bx E := fun q bx => by
      have := h bx
      rwa [decide_eq_false (fun hc => q ((chkR_take ex).1 (chkR_pre hc)).2)] at this
    have nx : okE (lastH (-1) (rs.take i)) x → _ := fun q => ih ⟨g, (chkR_take ex).2 ⟨hi.2, q⟩⟩
    have w1 : IntKind.wrap .i64 ((i : Int) + 1) = ((i + 1 : Nat) : Int) := by rw [wrap_i64 (by omega)]; simp
    rw [w1]
    unfold okE at no nx
    refine condC (fun g0 => ?_) (fun g0 => ?_)
    · have g0 : 0 < i := by simpa using g0
      obtain ⟨y, ey⟩ : ∃ y, rs[i - 1]? = some y := ⟨_, List.getElem?_eq_getElem (by omega)⟩
      have hl1 : lastH (-1) (rs.take i) = y.2 := by have := lastH_take (p := -1) ey; rwa [show i - 1 + 1 = i by omega] at this
      have hy := hi.2
      rw [show i = i - 1 + 1 by omega, chkR_take ey] at hy
      obtain ⟨_, y1, y2, y3, _⟩ := hy
      rw [wrap_i64 (x := (i : Int) - 1) (by omega), show (i : Int) - 1 = ((i - 1 : Nat) : Int) by omega]
      rw [hl1] at no nx
      refine req_intro (by omega) ⟨SL.nex RR_ok hx ey, req_intro (by omega) ⟨SL.nex RR_ok hx ex, x.1, x.2, hx.load ex, condC (fun a => ⟨Mem.le_refl _, condC (fun b => condC (fun c => ⟨y.2, hx.loadB ey, ?_⟩) (fun c => no (by simp at c; omega) _)) (fun b => no (by simp at b; omega) _)⟩) (fun a => ⟨Mem.le_refl _, no (by simp at a; omega) _⟩)⟩⟩
      rw [wrap_i64 (x := y.2 + 1) (by omega)]
      exact condC (fun d => no (by simp at d; omega) _) (fun d => Lp_re [] (nx (by simp at a b c d; omega)) ⟨⟨by simp, by simp, fun j h => absurd h (Nat.not_lt_zero _)⟩, rfl, (by repeat' first | exact True.intro | refine And.intro (Or.inl rfl) ?_ | refine And.intro (Or.inr ⟨rfl, rfl⟩) ?_), (by repeat' first | exact True.intro | exact rfl | exact Or.inl rfl | fail | refine And.intro ?_ ?_), (show List.Nodup [] from by decide), Mem.le_refl _⟩)
    · have g0 : i = 0 := by simp at g0; omega
      subst g0
      have hl1 : lastH (-1) (rs.take 0) = -1 := rfl
      rw [hl1] at no nx
      exact req_intro (by omega) ⟨SL.nex RR_ok hx ex, x.1, x.2, hx.load ex, condC (fun a => ⟨Mem.le_refl _, condC (fun b => condC (fun c => ⟨Mem.le_refl _, Lp_re [] (nx (by simp at a b c; omega)) ⟨⟨by simp, by simp, fun j h => absurd h (Nat.not_lt_zero _)⟩, rfl, (by repeat' first | exact True.intro | refine And.intro (Or.inl rfl) ?_ | refine And.intro (Or.inr ⟨rfl, rfl⟩) ?_), (by repeat' first | exact True.intro | exact rfl | exact Or.inl rfl | fail | refine And.intro ?_ ?_), (show List.Nodup [] from by decide), Mem.le_refl _⟩⟩) (fun c => ⟨Mem.le_refl _, no (by simp at c; omega) _⟩)) (fun b => ⟨Mem.le_refl _, no (by simp at b; omega) _⟩)⟩) (fun a => ⟨Mem.le_refl _, Mem.le_refl _, no (by simp at a; omega) _⟩)⟩
  · have g : i = l := by simp at g; omega
    have hc := hi.2
    rw [List.take_of_length_le (by omega)] at hc
    have := h []
    rwa [decide_eq_true hc] at this
theorem lp50 {b : Option Addr} {l : Nat} {c : Nat} {i : Nat} {E0 : Mem} {rs : List Rg} {K : KT} (hx : RS E b l c rs) (hl : l ≤ 9223372036854775807) (hi : i ≤ l ∧ chkR (-1) (rs.take i)) (hE : Mem.le E0 E) (h : ∀ bx, K (B (decide (chkR (-1) rs))) bx E) : Lp C3 8 Try.f50 [1, 0, 1, 0] 0 K (sh50 b l c i E) :=
  Lp_ind okC3 (fun q0 : {i : Nat // i ≤ l ∧ chkR (-1) (rs.take i)} => sh50 b l c q0.1 E) (fun q0 => l - q0.1) (fun q0 ih => rnd50 hx hl q0.2 hE h fun g => ih ⟨q0.1 + 1, by omega, g.2⟩ (by show l - (_ + 1) < l - _; have := q0.2; omega)) ⟨i, hi⟩
theorem ent50 {b : Option Addr} {l c : Nat} {rs : List Rg} {K : KT} (hx : RS E b l c rs) (hl : l ≤ 9223372036854775807) (h : ∀ bx, K (B (decide (chkR (-1) rs))) bx E) : EntB C3 8 Try.f50 [L b l c, .clo 51 [] []] [] E K := by
  refine same (by kernel_rfl) (?_ : 
      Lp C3 8 Try.f50 [1, 0, 1, 0] 0 K
        {
          fr :=
            [some (SV.raw (Value.slice b l c)), some (SV.clo 51 [] []), none, none, none, none, none, some (SV.raw (Value.slice b l c)), some (SV.raw (Value.int IntKind.i64 (↑l : Int))), some (SV.raw (Value.int IntKind.i64 (0 : Int))), none, none, none, none, none, none, none, none, none, none, none, none, none, none, none, none, none],
          bx := [], E := E : St })
  exact Lp_re [] (lp50 (i := 0) hx hl ⟨Nat.zero_le _, trivial⟩ (Mem.le_refl _) h) ⟨⟨by simp, by simp, fun j h => absurd h (Nat.not_lt_zero _)⟩, rfl, (by repeat' first | exact True.intro | refine And.intro (Or.inl rfl) ?_ | refine And.intro (Or.inr ⟨rfl, rfl⟩) ?_), (by repeat' first | exact True.intro | exact rfl | exact Or.inl rfl | fail | refine And.intro ?_ ?_), (show List.Nodup [] from by decide), Mem.le_refl _⟩
def tab50 : CallT := fun f args bx E K => match f, args, bx with
  | 50, [x, .clo 51 [] []], [] => dS x fun b l c => ∃ rs : List Rg, RS E b l c rs ∧ l ≤ 9223372036854775807 ∧ K (B (decide (chkR (-1) rs))) [] E
  | _, _, _ => False
theorem tab50_ok (f : FuncId) (args : List SV) (bx : List Box) (E : Mem) (K : KT) (h : tab50 f args bx E K) : CallSem Try.prog f args bx E K := by
  unfold tab50 at h
  split at h
  case h_2 => exact h.elim
  obtain ⟨b, l, c, rfl, rs, h1, h2, h3⟩ := dS_elim h
  exact CallSem.clo (EntB.sem okC3 Try.func50 ⟨by kernel_rfl, by kernel_rfl⟩ (ent50 h1 h2 (fun bx => cloB rfl h3 bx)))
noncomputable def C4 : Cx := { P := Try.prog, inl := fun f => List.contains [] f, tab := fun _ _ _ _ => False, isB := fun f => f == 50, tabB := tab50, opt := { unroll := 0, carry := [] }, muts := mutsD }
theorem okC4 : CxOK C4 := CxOK.four (fun _ _ _ _ h => h.elim) (by kernel_rfl) (okInl (by kernel_rfl)) tab50_ok
theorem s40 {b1 : Option Addr} {l2 : Nat} {c3 : Nat} {rs : List Rg} (h0 : RS E b1 l2 c3 rs) (h1 : l2 ≤ 9223372036854775807) (h : K (B (decide (setsOK rs))) E) :
    Ent C4 8 Try.f40 [L b1 l2 c3] E K := by
  refine same (by kernel_rfl) (?_ : 
      bif decide ((↑l2 : Int) > (0 : Int)) then
        ∃ (rs : List Rg),
          RS E b1 l2 c3 rs ∧
            l2 ≤ 9223372036854775807 ∧
              Mem.le E E ∧ K (SV.raw (Value.bool (bif true then decide (chkR (-1 : Int) rs) else false))) E
      else Mem.le E E ∧ K (SV.raw (Value.bool false)) E)
  have hn := h0.len
  refine condC (fun g => ⟨rs, h0, h1, Mem.le_refl _, ?_⟩) (fun g => ⟨Mem.le_refl _, ?_⟩)
  · have g : 0 < l2 := by simpa using g
    show K (B (decide (chkR (-1) rs))) E
    have e : decide (setsOK rs) = decide (chkR (-1) rs) := by
      unfold setsOK
      have : rs ≠ [] := fun q => by rw [q] at hn; simp at hn; omega
      simp [this]
    rwa [e] at h
  · have g : l2 = 0 := by simp at g; omega
    have e : rs = [] := List.eq_nil_of_length_eq_zero (by omega)
    rw [decide_eq_false (fun q => q.1 e)] at h
    exact h
noncomputable def t40 : FuncId → List SV → Mem → (SV → Mem → Prop) → Prop := fun f args E K => match f with
  | 40 => d1 args fun x0 => dS x0 fun b1 l2 c3 => ∃ (rs : List Rg), RS E b1 l2 c3 rs ∧ l2 ≤ 9223372036854775807 ∧ (K (B (decide (setsOK rs))) E)
  | _ => False
theorem t40_ok : TabOK Try.prog t40 := by
  intro f args E K h
  unfold t40 at h
  split at h
  · replace h := d1_elim h
    obtain ⟨x0, rfl, h⟩ := h
    replace h := dS_elim h
    obtain ⟨b1, l2, c3, rfl, h⟩ := h
    obtain ⟨rs, g0, g1, h⟩ := h
    exact TabSem.congr (valL_cons rfl rfl) (Ent.sem okC4 Try.func40 ⟨by kernel_rfl, by kernel_rfl⟩ rfl (s40 g0 g1 h))
  · exact h.elim
noncomputable def C5 : Cx := { P := Try.prog, inl := fun f => List.contains [26, 39] f, tab := t40, isB := fun _ => false, tabB := fun _ _ _ _ _ => False, opt := { unroll := 0, carry := [9] }, muts := mutsD }
theorem okC5 : CxOK C5 := CxOK.four t40_ok (by kernel_rfl) (okInl (by kernel_rfl)) (fun _ _ _ _ _ h => h.elim)
def sh38 (b : Option Addr) (l : Nat) (c : Nat) (i : Nat) (E : Mem) : St := ⟨[some (L b l c), some (.clo 39 [] []), none, none, none, none, none, some (L b l c), some (I (l : Nat)), some (I (i : Nat)), none, none, none, none, none, none, none, none, none, none, none, none, none, none, none, none, none], [], E⟩
theorem rnd38 {b : Option Addr} {l : Nat} {c : Nat} {i : Nat} {E0 : Mem} {xs : List Sn} {K : KT} (hx : SS E b l c xs) (hs : Sm xs) (hi : i ≤ l ∧ chkS (-1) (xs.take i)) (hE : Mem.le E0 E) (h : ∀ bx, K (B (decide (chkS (-1) xs))) bx E)
    (ih : (i < l ∧ chkS (-1) (xs.take (i + 1))) → Lp C5 8 Try.f38 [1, 0, 1, 0] 0 K (sh38 b l c (i + 1) E)) : Rnd C5 8 Try.f38 [1, 0, 1, 0] 0 K (sh38 b l c i E) := by
  refine same (by kernel_rfl) (?_ : 
      bif decide ((↑i : Int) < (↑l : Int)) then
        bif decide ((↑i : Int) > (0 : Int)) then
          req
            ((0 : Int) ≤ IntKind.wrap IntKind.i64 ((↑i : Int) - (1 : Int)) ∧
              IntKind.wrap IntKind.i64 ((↑i : Int) - (1 : Int)) < (↑l : Int))
            ((∃ (cs : List Value), E (Value.slice b l c) cs ∧ (cs = [] → False)) ∧
              req ((0 : Int) ≤ (↑i : Int) ∧ (↑i : Int) < (↑l : Int))
                ((∃ (cs : List Value), E (Value.slice b l c) cs ∧ (cs = [] → False)) ∧
                  ∃ (n : Int),
                    ∃ (base : Option Addr),
                      ∃ (len : Nat),
                        ∃ (cap : Nat),
                          LoadE C5.P E 45 (Value.slice b l c) (Int.toNat (↑i : Int) * 2)
                              (SV.agg [SV.raw (Value.int IntKind.i64 n), SV.raw (Value.slice base len cap)]) ∧
                            bif decide ((0 : Int) ≤ n) then
                              Mem.le E E ∧
                                bif bif true then decide (n ≤ (59 : Int)) else false then
                                  ∃ (rs : List Rg),
                                    RS E base len cap rs ∧
                                      len ≤ 9223372036854775807 ∧
                                        Mem.le E E ∧
                                          bif bif true then decide (setsOK rs) else false then
                                            ∃ (n_1 : Int),
                                              LoadE C5.P E 3 (Value.slice b l c)
                                                  (Int.toNat (IntKind.wrap IntKind.i64 ((↑i : Int) - (1 : Int))) * 2 +
                                                    0)
                                                  (SV.raw (Value.int IntKind.i64 n_1)) ∧
                                                bif !bif true then bif false then true else decide (n > n_1) else false then
                                                  K (SV.raw (Value.bool false))
                                                    [{ elem := 45,
                                                        row :=
                                                          Row.lst
                                                            [SV.raw (Value.int IntKind.i64 n),
                                                              SV.raw (Value.slice base len cap)],
                                                        total := 2, own := true : Box }]
                                                    E
                                                else
                                                  Lp C5 8 Try.f38 [1, 0, 1, 0]
                                                    0 K
                                                    {
                                                      fr :=
                                                        [some (SV.raw (Value.slice b l c)), some (SV.clo 39 [] []), none, none, none, none, none, some (SV.raw (Value.slice b l c)), some (SV.raw (Value.int IntKind.i64 (↑l : Int))), some (SV.raw (Value.int IntKind.i64 (IntKind.wrap IntKind.i64 ((↑i : Int) + (1 : Int))))), none, none, none, none, none, none, none, none, none, none, none, none, none, none, none, none, none],
                                                      bx :=
                                                        [{ elem := 45,
                                                            row :=
                                                              Row.lst
                                                                [SV.raw (Value.int IntKind.i64 n),
                                                                  SV.raw (Value.slice base len cap)],
                                                            total := 2, own := true : Box }],
                                                      E := E : St }
                                          else
                                            K (SV.raw (Value.bool false))
                                              [{ elem := 45,
                                                  row :=
                                                    Row.lst
                                                      [SV.raw (Value.int IntKind.i64 n), SV.raw (Value.slice base len cap)],
                                                  total := 2, own := true : Box }]
                                              E
                                else
                                  K (SV.raw (Value.bool false))
                                    [{ elem := 45,
                                        row := Row.lst [SV.raw (Value.int IntKind.i64 n), SV.raw (Value.slice base len cap)],
                                        total := 2, own := true : Box }]
                                    E
                            else
                              Mem.le E E ∧
                                K (SV.raw (Value.bool false))
                                  [{ elem := 45,
                                      row := Row.lst [SV.raw (Value.int IntKind.i64 n), SV.raw (Value.slice base len cap)],
                                      total := 2, own := true : Box }]
                                  E))
        else
          req ((0 : Int) ≤ (↑i : Int) ∧ (↑i : Int) < (↑l : Int))
            ((∃ (cs : List Value), E (Value.slice b l c) cs ∧ (cs = [] → False)) ∧
              ∃ (n : Int),
                ∃ (base : Option Addr),
                  ∃ (len : Nat),
                    ∃ (cap : Nat),
                      LoadE C5.P E 45 (Value.slice b l c) (Int.toNat (↑i : Int) * 2)
                          (SV.agg [SV.raw (Value.int IntKind.i64 n), SV.raw (Value.slice base len cap)]) ∧
                        bif decide ((0 : Int) ≤ n) then
                          Mem.le E E ∧
                            bif bif true then decide (n ≤ (59 : Int)) else false then
                              ∃ (rs : List Rg),
                                RS E base len cap rs ∧
                                  len ≤ 9223372036854775807 ∧
                                    Mem.le E E ∧
                                      bif bif true then decide (setsOK rs) else false then
                                        Mem.le E E ∧
                                          Lp C5 8 Try.f38 [1, 0, 1, 0] 0 K
                                            {
                                              fr :=
                                                [some (SV.raw (Value.slice b l c)), some (SV.clo 39 [] []), none, none, none, none, none, some (SV.raw (Value.slice b l c)), some (SV.raw (Value.int IntKind.i64 (↑l : Int))), some (SV.raw (Value.int IntKind.i64 (IntKind.wrap IntKind.i64 ((↑i : Int) + (1 : Int))))), none, none, none, none, none, none, none, none, none, none, none, none, none, none, none, none, none],
                                              bx :=
                                                [{ elem := 45,
                                                    row :=
                                                      Row.lst
                                                        [SV.raw (Value.int IntKind.i64 n), SV.raw (Value.slice base len cap)],
                                                    total := 2, own := true : Box }],
                                              E := E : St }
                                      else
                                        Mem.le E E ∧
                                          K (SV.raw (Value.bool false))
                                            [{ elem := 45,
                                                row :=
                                                  Row.lst
                                                    [SV.raw (Value.int IntKind.i64 n), SV.raw (Value.slice base len cap)],
                                                total := 2, own := true : Box }]
                                            E
                            else
                              Mem.le E E ∧
                                K (SV.raw (Value.bool false))
                                  [{ elem := 45,
                                      row := Row.lst [SV.raw (Value.int IntKind.i64 n), SV.raw (Value.slice base len cap)],
                                      total := 2, own := true : Box }]
                                  E
                        else
                          Mem.le E E ∧
                            Mem.le E E ∧
                              K (SV.raw (Value.bool false))
                                [{ elem := 45,
                                    row := Row.lst [SV.raw (Value.int IntKind.i64 n), SV.raw (Value.slice base len cap)],
                                    total := 2, own := true : Box }]
                                E)
      else K (SV.raw (Value.bool true)) [] E)
  have hn := hx.len
  refine condC (fun g => ?_) (fun g => ?_)
  · have g : i < l := by simpa using g
    obtain ⟨x, ex⟩ : ∃ x, xs[i]? = some x := ⟨_, List.getElem?_eq_getElem (by omega)⟩
    have no : ¬ okS (lastO (-1) (xs.take i)) x → ∀ bx, K (B false) bx E := fun q bx => by
      have := h bx
      rwa [decide_eq_false (fun hc => q ((chkS_take ex).1 (chkS_pre hc)).2)] at this
    have nx : okS (lastO (-1) (xs.take i)) x → _ := fun q => ih ⟨g, (chkS_take ex).2 ⟨hi.2, q⟩⟩
    have w1 : IntKind.wrap .i64 ((i : Int) + 1) = ((i + 1 : Nat) : Int) := by have := hs.1; rw [wrap_i64 (by omega)]; simp
    rw [w1]
    unfold okS at no nx
    obtain ⟨e1, b', l', c', e2, e3⟩ := hx.load ex
    have hl' : l' ≤ 9223372036854775807 := by rw [← e3.len]; exact hs.2 x (List.mem_of_getElem? ex)
    refine condC (fun g0 => ?_) (fun g0 => ?_)
    · have g0 : 0 < i := by simpa using g0
      obtain ⟨y, ey⟩ : ∃ y, xs[i - 1]? = some y := ⟨_, List.getElem?_eq_getElem (by omega)⟩
      have hl1 : lastO (-1) (xs.take i) = y.1 := by have := lastO_take (p := -1) ey; rwa [show i - 1 + 1 = i by omega] at this
      have := hs.1
      rw [wrap_i64 (x := (i : Int) - 1) (by omega), show (i : Int) - 1 = ((i - 1 : Nat) : Int) by omega]
      rw [hl1] at no nx
      refine req_intro (by omega) ⟨SL.nex SR_ok hx ey, req_intro (by omega) ⟨e1, x.1, b', l', c', e2, condC (fun a => ⟨Mem.le_refl _, condC (fun b => ⟨x.2, e3, hl', Mem.le_refl _, condC (fun c => ⟨y.1, hx.loadO ey, ?_⟩) (fun c => no (by simp at c; exact fun q => c q.2.2.1) _)⟩) (fun b => no (by simp at b; omega) _)⟩) (fun a => ⟨Mem.le_refl _, no (by simp at a; omega) _⟩)⟩⟩
      have c : setsOK x.2 := by simpa using c
      exact condC (fun d => no (by simp at d; omega) _) (fun d => Lp_re [] (nx ⟨by simp at a; omega, by simp at b; omega, c, by simp at d; omega⟩) ⟨⟨by simp, by simp, fun j h => absurd h (Nat.not_lt_zero _)⟩, rfl, (by repeat' first | exact True.intro | refine And.intro (Or.inl rfl) ?_ | refine And.intro (Or.inr ⟨rfl, rfl⟩) ?_), (by repeat' first | exact True.intro | exact rfl | exact Or.inl rfl | fail | refine And.intro ?_ ?_), (show List.Nodup [] from by decide), Mem.le_refl _⟩)
    · have g0 : i = 0 := by simp at g0; omega
      subst g0
      have hl1 : lastO (-1) (xs.take 0) = -1 := rfl
      rw [hl1] at no nx
      exact req_intro (by omega) ⟨e1, x.1, b', l', c', e2, condC (fun a => ⟨Mem.le_refl _, condC (fun b => ⟨x.2, e3, hl', Mem.le_refl _, condC (fun c => ⟨Mem.le_refl _, Lp_re [] (nx ⟨by simp at a; omega, by simp at b; omega, by simpa using c, by simp at a; omega⟩) ⟨⟨by simp, by simp, fun j h => absurd h (Nat.not_lt_zero _)⟩, rfl, (by repeat' first | exact True.intro | refine And.intro (Or.inl rfl) ?_ | refine And.intro (Or.inr ⟨rfl, rfl⟩) ?_), (by repeat' first | exact True.intro | exact rfl | exact Or.inl rfl | fail | refine And.intro ?_ ?_), (show List.Nodup [] from by decide), Mem.le_refl _⟩⟩) (fun c => ⟨Mem.le_refl _, no (by simp at c; exact fun q => c q.2.2.1) _⟩)⟩) (fun b => ⟨Mem.le_refl _, no (by simp at b; omega) _⟩)⟩) (fun a => ⟨Mem.le_refl _, Mem.le_refl _, no (by simp at a; omega) _⟩)⟩
  · have g : i = l := by simp at g; omega
    have hc := hi.2
    rw [List.take_of_length_le (by omega)] at hc
    have := h []
    rwa [decide_eq_true hc] at this
theorem lp38 {b : Option Addr} {l : Nat} {c : Nat} {i : Nat} {E0 : Mem} {xs : List Sn} {K : KT} (hx : SS E b l c xs) (hs : Sm xs) (hi : i ≤ l ∧ chkS (-1) (xs.take i)) (hE : Mem.le E0 E) (h : ∀ bx, K (B (decide (chkS (-1) xs))) bx E) : Lp C5 8 Try.f38 [1, 0, 1, 0] 0 K (sh38 b l c i E) :=
  Lp_ind okC5 (fun q0 : {i : Nat // i ≤ l ∧ chkS (-1) (xs.take i)} => sh38 b l c q0.1 E) (fun q0 => l - q0.1) (fun q0 ih => rnd38 hx hs q0.2 hE h fun g => ih ⟨q0.1 + 1, by omega, g.2⟩ (by show l - (_ + 1) < l - _; have := q0.2; omega)) ⟨i, hi⟩
theorem ent38 {b : Option Addr} {l c : Nat} {xs : List Sn} {K : KT} (hx : SS E b l c xs) (hs : Sm xs) (h : ∀ bx, K (B (decide (chkS (-1) xs))) bx E) : EntB C5 8 Try.f38 [L b l c, .clo 39 [] []] [] E K := by
  refine same (by kernel_rfl) (?_ : 
      Lp C5 8 Try.f38 [1, 0, 1, 0] 0 K
        {
          fr :=
            [some (SV.raw (Value.slice b l c)), some (SV.clo 39 [] []), none, none, none, none, none, some (SV.raw (Value.slice b l c)), some (SV.raw (Value.int IntKind.i64 (↑l : Int))), some (SV.raw (Value.int IntKind.i64 (0 : Int))), none, none, none, none, none, none, none, none, none, none, none, none, none, none, none, none, none],
          bx := [], E := E : St })
  exact Lp_re [] (lp38 (i := 0) hx hs ⟨Nat.zero_le _, trivial⟩ (Mem.le_refl _) h) ⟨⟨by simp, by simp, fun j h => absurd h (Nat.not_lt_zero _)⟩, rfl, (by repeat' first | exact True.intro | refine And.intro (Or.inl rfl) ?_ | refine And.intro (Or.inr ⟨rfl, rfl⟩) ?_), (by repeat' first | exact True.intro | exact rfl | exact Or.inl rfl | fail | refine And.intro ?_ ?_), (show List.Nodup [] from by decide), Mem.le_refl _⟩
def tab38 : CallT := fun f args bx E K => match f, args, bx with
  | 38, [x, .clo 39 [] []], [] => dS x fun b l c => ∃ xs : List Sn, SS E b l c xs ∧ Sm xs ∧ K (B (decide (chkS (-1) xs))) [] E
  | _, _, _ => False
theorem tab38_ok (f : FuncId) (args : List SV) (bx : List Box) (E : Mem) (K : KT) (h : tab38 f args bx E K) : CallSem Try.prog f args bx E K := by
  unfold tab38 at h
  split at h
  case h_2 => exact h.elim
  obtain ⟨b, l, c, rfl, rs, h1, h2, h3⟩ := dS_elim h
  exact CallSem.clo (EntB.sem okC5 Try.func38 ⟨by kernel_rfl, by kernel_rfl⟩ (ent38 h1 h2 (fun bx => cloB rfl h3 bx)))
noncomputable def t36 : FuncId → List SV → Mem → (SV → Mem → Prop) → Prop := fun f args E K => match f with
  | 36 => d1 args fun x0 => dS x0 fun b1 l2 c3 => ∃ (xs : List Sn), SS E b1 l2 c3 xs ∧ Sm xs ∧ (K (I (manyI xs)) E)
  | _ => False
theorem t36_ok : TabOK Try.prog t36 := by
  intro f args E K h
  unfold t36 at h
  split at h
  · replace h := d1_elim h
    obtain ⟨x0, rfl, h⟩ := h
    replace h := dS_elim h
    obtain ⟨b1, l2, c3, rfl, h⟩ := h
    obtain ⟨xs, g0, g1, h⟩ := h
    exact TabSem.congr (valL_cons rfl rfl) (Ent.sem okC1 Try.func36 ⟨by kernel_rfl, by kernel_rfl⟩ rfl (s36 g0 g1 h))
  · exact h.elim
noncomputable def C6 : Cx := { P := Try.prog, inl := fun f => List.contains [] f, tab := t36, isB := fun f => f == 38, tabB := tab38, opt := { unroll := 0, carry := [] }, muts := mutsD }
theorem okC6 : CxOK C6 := CxOK.four t36_ok (by kernel_rfl) (okInl (by kernel_rfl)) tab38_ok
theorem s13 {b1 : Option Addr} {l2 : Nat} {c3 : Nat} {xs : List Sn} (h0 : SS E b1 l2 c3 xs) (h1 : Sm xs) (h : K (B (decide (validS xs))) E) :
    Ent C6 8 Try.f13 [L b1 l2 c3] E K := by
  refine same (by kernel_rfl) (?_ : 
      ∃ (xs : List Sn),
        SS E b1 l2 c3 xs ∧
          Sm xs ∧
            Mem.le E E ∧
              bif decide (manyI xs ≤ (64 : Int)) then
                ∃ (xs : List Sn),
                  SS E b1 l2 c3 xs ∧
                    Sm xs ∧ Mem.le E E ∧ K (SV.raw (Value.bool (bif true then decide (chkS (-1 : Int) xs) else false))) E
              else Mem.le E E ∧ K (SV.raw (Value.bool false)) E)
  refine ⟨xs, h0, h1, Mem.le_refl _, condC (fun g => ⟨xs, h0, h1, Mem.le_refl _, ?_⟩) (fun g => ⟨Mem.le_refl _, ?_⟩)⟩
  · have g : manyI xs ≤ 64 := by simpa using g
    show K (B (decide (chkS (-1) xs))) E
    have e : decide (validS xs) = decide (chkS (-1) xs) := by
      rw [decide_eq_decide]
      exact ⟨fun q => q.2, fun q => ⟨by rw [chkS_many q] at g; omega, q⟩⟩
    rwa [e] at h
  · have g : ¬ manyI xs ≤ 64 := by simpa using g
    rwa [decide_eq_false (fun q => g (by rw [chkS_many q.2]; have := q.1; omega))] at h
noncomputable def t25 : FuncId → List SV → Mem → (SV → Mem → Prop) → Prop := fun f args E K => match f with
  | 25 => d1 args fun x0 => dS x0 fun b1 l2 c3 => ∃ (xs : List Sn), SS E b1 l2 c3 xs ∧ Sm xs ∧ (K (I (manyI xs)) E)
  | _ => False
theorem t25_ok : TabOK Try.prog t25 := by
  intro f args E K h
  unfold t25 at h
  split at h
  · replace h := d1_elim h
    obtain ⟨x0, rfl, h⟩ := h
    replace h := dS_elim h
    obtain ⟨b1, l2, c3, rfl, h⟩ := h
    obtain ⟨xs, g0, g1, h⟩ := h
    exact TabSem.congr (valL_cons rfl rfl) (Ent.sem okC2 Try.func25 ⟨by kernel_rfl, by kernel_rfl⟩ rfl (s25 g0 g1 h))
  · exact h.elim
noncomputable def C7 : Cx := { P := Try.prog, inl := fun f => List.contains [] f, tab := t25, isB := fun _ => false, tabB := fun _ _ _ _ _ => False, opt := { unroll := 0, carry := [3, 5], cuts := [7] }, muts := mutsD }
theorem okC7 : CxOK C7 := CxOK.four t25_ok (by kernel_rfl) (okInl (by kernel_rfl)) (fun _ _ _ _ _ h => h.elim)
def sh14 (b : Option Addr) (l : Nat) (c : Nat) (i : Nat) (E : Mem) : St := ⟨[some (L b l c), none, none, some (I (i : Nat)), none, none, none, none, none, none, none, none, none, none, none, none, none, none, none, none, none, none, none, none, none, none, none, none, none, none, none, none, none, none, none, none, none, none, none, none, none, none, none, none, none, none, none, none, none, none, none, none, none, none, none, none, none, none, none, none, none, none, none, none, none, none, none, none, none, none, none, none, none, none, none, none, none, none, none, none, none, none, none, none, none, none, none, none, none, none, none, none, none], [], E⟩
def sh14i (b : Option Addr) (l : Nat) (c : Nat) (o : Int) (b' : Option Addr) (l' : Nat) (c' : Nat) (j : Nat) (i : Nat) (E : Mem) : St := ⟨[some (L b l c), none, none, some (I (j : Nat)), some (.loc 0 0), some (I (i : Nat)), none, none, none, none, none, none, none, none, none, none, none, none, none, none, none, none, none, none, none, none, none, none, none, none, none, none, none, none, none, none, none, none, none, none, none, none, none, none, none, none, none, none, none, none, none, none, none, none, none, none, none, none, none, none, none, none, none, none, none, none, none, none, none, none, none, none, none, none, none, none, none, none, none, none, none, none, none, none, none, none, none, none, none, none, none, none, none], [⟨45, .lst [I o, L b' l' c'], 2, true⟩], E⟩
theorem rnd14i {b : Option Addr} {l : Nat} {c : Nat} {o : Int} {b' : Option Addr} {l' : Nat} {c' : Nat} {j : Nat} {i : Nat} {E0 : Mem} {rs : List Rg} (hr : RS E b' l' c' rs) (hl : l' ≤ 9223372036854775807) (hj : j ≤ 1000) (hi : i ≤ l' ∧ chkR (-1) (rs.take i)) (hE : Mem.le E0 E) (no : ¬ chkR (-1) rs → K (B false) E) (nx : chkR (-1) rs → Lp C7 8 Try.f14 [1, 0, 1, 0] 0 (pubK E0 K) (sh14 b l c (j + 1) E))
    (ih : (i < l' ∧ chkR (-1) (rs.take (i + 1))) → Lp C7 8 Try.f14 [1, 0, 1, 0, 0, 1, 0, 0, 1, 1, 1, 0] 0 (pubK E0 K) (sh14i b l c o b' l' c' j (i + 1) E)) : Rnd C7 8 Try.f14 [1, 0, 1, 0, 0, 1, 0, 0, 1, 1, 1, 0] 0 (pubK E0 K) (sh14i b l c o b' l' c' j i E) := by
  refine same (by kernel_rfl) (?_ : 
      bif decide ((↑i : Int) < (↑l' : Int)) then
        req ((0 : Int) ≤ (↑i : Int) ∧ (↑i : Int) < (↑l' : Int))
          ((∃ (cs : List Value), E (Value.slice b' l' c') cs ∧ (cs = [] → False)) ∧
            ∃ (n : Int),
              ∃ (n_1 : Int),
                LoadE C7.P E 47 (Value.slice b' l' c') (Int.toNat (↑i : Int) * 2)
                    (SV.agg [SV.raw (Value.int IntKind.i64 n), SV.raw (Value.int IntKind.i64 n_1)]) ∧
                  bif decide (n < (1 : Int)) then Mem.le E0 E ∧ K (SV.raw (Value.bool false)) E
                  else
                    bif bif false then true else decide (n > n_1) then Mem.le E0 E ∧ K (SV.raw (Value.bool false)) E
                    else
                      bif bif false then true else decide (n_1 > (1000000000 : Int)) then
                        Mem.le E0 E ∧ K (SV.raw (Value.bool false)) E
                      else
                        bif decide ((↑i : Int) > (0 : Int)) then
                          req
                            ((0 : Int) ≤ IntKind.wrap IntKind.i64 ((↑i : Int) - (1 : Int)) ∧
                              IntKind.wrap IntKind.i64 ((↑i : Int) - (1 : Int)) < (↑l' : Int))
                            ((∃ (cs : List Value), E (Value.slice b' l' c') cs ∧ (cs = [] → False)) ∧
                              ∃ (n_2 : Int),
                                LoadE C7.P E 3 (Value.slice b' l' c')
                                    (Int.toNat (IntKind.wrap IntKind.i64 ((↑i : Int) - (1 : Int))) * 2 + 1)
                                    (SV.raw (Value.int IntKind.i64 n_2)) ∧
                                  bif
                                      bif false then true
                                      else
                                        bif true then decide (n < IntKind.wrap IntKind.i64 (n_2 + (2 : Int))) else false then
                                    Mem.le E0 E ∧ K (SV.raw (Value.bool false)) E
                                  else
                                    Lp C7 8 Try.f14
                                      [1, 0, 1, 0, 0, 1, 0, 0,
                                        1, 1, 1, 0]
                                      0 (pubK E0 K)
                                      {
                                        fr :=
                                          [some (SV.raw (Value.slice b l c)), none, none, some (SV.raw (Value.int IntKind.i64 (↑j : Int))), some (SV.loc 0 0), some (SV.raw (Value.int IntKind.i64 (IntKind.wrap IntKind.i64 ((↑i : Int) + (1 : Int))))), none, none, none, none, none, none, none, none, none, none, none, none, none, none, none, none, none, none, none, none, none, none, none, none, none, none, none, none, none, none, none, none, none, none, none, none, none, none, none, none, none, none, none, none, none, none, none, none, none, none, none, none, none, none, none, none, none, none, none, none, none, none, none, none, none, none, none, none, none, none, none, none, none, none, none, none, none, none, none, none, none, none, none, none, none, none, none],
                                        bx :=
                                          [{ elem := 45,
                                              row :=
                                                Row.lst [SV.raw (Value.int IntKind.i64 o), SV.raw (Value.slice b' l' c')],
                                              total := 2, own := true : Box },
                                            { elem := 47,
                                              row :=
                                                Row.lst
                                                  [SV.raw (Value.int IntKind.i64 n), SV.raw (Value.int IntKind.i64 n_1)],
                                              total := 2, own := true : Box }],
                                        E := E : St })
                        else
                          Lp C7 8 Try.f14
                            [1, 0, 1, 0, 0, 1, 0, 0,
                              1, 1, 1, 0]
                            0 (pubK E0 K)
                            {
                              fr :=
                                [some (SV.raw (Value.slice b l c)), none, none, some (SV.raw (Value.int IntKind.i64 (↑j : Int))), some (SV.loc 0 0), some (SV.raw (Value.int IntKind.i64 (IntKind.wrap IntKind.i64 ((↑i : Int) + (1 : Int))))), none, none, none, none, none, none, none, none, none, none, none, none, none, none, none, none, none, none, none, none, none, none, none, none, none, none, none, none, none, none, none, none, none, none, none, none, none, none, none, none, none, none, none, none, none, none, none, none, none, none, none, none, none, none, none, none, none, none, none, none, none, none, none, none, none, none, none, none, none, none, none, none, none, none, none, none, none, none, none, none, none, none, none, none, none, none, none],
                              bx :=
                                [{ elem := 45,
                                    row := Row.lst [SV.raw (Value.int IntKind.i64 o), SV.raw (Value.slice b' l' c')],
                                    total := 2, own := true : Box },
                                  { elem := 47,
                                    row := Row.lst [SV.raw (Value.int IntKind.i64 n), SV.raw (Value.int IntKind.i64 n_1)],
                                    total := 2, own := true : Box }],
                              E := E : St })
      else
        Lp C7 8 Try.f14 [1, 0, 1, 0] 0 (pubK E0 K)
          {
            fr :=
              [some (SV.raw (Value.slice b l c)), none, none, some (SV.raw (Value.int IntKind.i64 (IntKind.wrap IntKind.i64 ((↑j : Int) + (1 : Int))))), none, some (SV.raw (Value.int IntKind.i64 (↑i : Int))), none, none, none, none, none, none, none, none, none, none, none, none, none, none, none, none, none, none, none, none, none, none, none, none, none, none, none, none, none, none, none, none, none, none, none, none, none, none, none, none, none, none, none, none, none, none, none, none, none, none, none, none, none, none, none, none, none, none, none, none, none, none, none, none, none, none, none, none, none, none, none, none, none, none, none, none, none, none, none, none, none, none, none, none, none, none, none],
            bx :=
              [{ elem := 45, row := Row.lst [SV.raw (Value.int IntKind.i64 o), SV.raw (Value.slice b' l' c')],
                  total := 2, own := true : Box }],
            E := E : St })
  have hn := hr.len
  refine condC (fun g => ?_) (fun g => ?_)
  · have g : i < l' := by simpa using g
    obtain ⟨x, ex⟩ : ∃ x, rs[i]? = some x := ⟨_, List.getElem?_eq_getElem (by omega)⟩
    have no' : ¬ okE (lastH (-1) (rs.take i)) x → K (B false) E := fun q => no (fun hc => q ((chkR_take ex).1 (chkR_pre hc)).2)
    have nx' : okE (lastH (-1) (rs.take i)) x → _ := fun q => ih ⟨g, (chkR_take ex).2 ⟨hi.2, q⟩⟩
    have w1 : IntKind.wrap .i64 ((i : Int) + 1) = ((i + 1 : Nat) : Int) := by rw [wrap_i64 (by omega)]; simp
    rw [w1]
    unfold okE at no' nx'
    refine req_intro (by omega) ⟨SL.nex RR_ok hr ex, x.1, x.2, hr.load ex, condC (fun a => ⟨hE, no' (by simp at a; omega)⟩) (fun a => condC (fun b => ⟨hE, no' (by simp at b; omega)⟩) (fun b => condC (fun c => ⟨hE, no' (by simp at c; omega)⟩) (fun c => condC (fun g0 => ?_) (fun g0 => ?_))))⟩
    · have g0 : 0 < i := by simpa using g0
      obtain ⟨y, ey⟩ : ∃ y, rs[i - 1]? = some y := ⟨_, List.getElem?_eq_getElem (by omega)⟩
      have hl1 : lastH (-1) (rs.take i) = y.2 := by have := lastH_take (p := -1) ey; rwa [show i - 1 + 1 = i by omega] at this
      have hy := hi.2
      rw [show i = i - 1 + 1 by omega, chkR_take ey] at hy
      obtain ⟨_, y1, y2, y3, _⟩ := hy
      rw [wrap_i64 (x := (i : Int) - 1) (by omega), show (i : Int) - 1 = ((i - 1 : Nat) : Int) by omega]
      rw [hl1] at no' nx'
      refine req_intro (by omega) ⟨SL.nex RR_ok hr ey, y.2, hr.loadB ey, ?_⟩
      rw [wrap_i64 (x := y.2 + 2) (by omega)]
      exact condC (fun d => ⟨hE, no' (by simp at d; omega)⟩) (fun d => Lp_re [some 0] (nx' (by simp at a b c d; omega)) ⟨⟨by simp, by simp, fun j h => absurd h (Nat.not_lt_zero _)⟩, rfl, (by repeat' first | exact True.intro | refine And.intro (Or.inl rfl) ?_ | refine And.intro (Or.inr ⟨rfl, rfl⟩) ?_), (by repeat' first | exact True.intro | exact rfl | exact Or.inl rfl | fail | refine And.intro ?_ ?_), (show List.Nodup [0] from by decide), Mem.le_refl _⟩)
    · have g0 : i = 0 := by simp at g0; omega
      subst g0
      have hl1 : lastH (-1) (rs.take 0) = -1 := rfl
      rw [hl1] at no' nx'
      exact Lp_re [some 0] (nx' (by simp at a b c; omega)) ⟨⟨by simp, by simp, fun j h => absurd h (Nat.not_lt_zero _)⟩, rfl, (by repeat' first | exact True.intro | refine And.intro (Or.inl rfl) ?_ | refine And.intro (Or.inr ⟨rfl, rfl⟩) ?_), (by repeat' first | exact True.intro | exact rfl | exact Or.inl rfl | fail | refine And.intro ?_ ?_), (show List.Nodup [0] from by decide), Mem.le_refl _⟩
  · have g : i = l' := by simp at g; omega
    have hc := hi.2
    rw [List.take_of_length_le (by omega)] at hc
    have w2 : IntKind.wrap .i64 ((j : Int) + 1) = ((j + 1 : Nat) : Int) := by rw [wrap_i64 (by omega)]; simp
    rw [w2]
    exact Lp_re [] (nx hc) ⟨⟨by simp, by simp, fun j h => absurd h (Nat.not_lt_zero _)⟩, rfl, (by repeat' first | exact True.intro | refine And.intro (Or.inl rfl) ?_ | refine And.intro (Or.inr ⟨rfl, rfl⟩) ?_), (by repeat' first | exact True.intro | exact rfl | exact Or.inl rfl | fail | refine And.intro ?_ ?_), (show List.Nodup [] from by decide), Mem.le_refl _⟩
theorem lp14i {b : Option Addr} {l : Nat} {c : Nat} {o : Int} {b' : Option Addr} {l' : Nat} {c' : Nat} {j : Nat} {i : Nat} {E0 : Mem} {rs : List Rg} (hr : RS E b' l' c' rs) (hl : l' ≤ 9223372036854775807) (hj : j ≤ 1000) (hi : i ≤ l' ∧ chkR (-1) (rs.take i)) (hE : Mem.le E0 E) (no : ¬ chkR (-1) rs → K (B false) E) (nx : chkR (-1) rs → Lp C7 8 Try.f14 [1, 0, 1, 0] 0 (pubK E0 K) (sh14 b l c (j + 1) E)) : Lp C7 8 Try.f14 [1, 0, 1, 0, 0, 1, 0, 0, 1, 1, 1, 0] 0 (pubK E0 K) (sh14i b l c o b' l' c' j i E) :=
  Lp_ind okC7 (fun q0 : {i : Nat // i ≤ l' ∧ chkR (-1) (rs.take i)} => sh14i b l c o b' l' c' j q0.1 E) (fun q0 => l' - q0.1) (fun q0 ih => rnd14i hr hl hj q0.2 hE no nx fun g => ih ⟨q0.1 + 1, by omega, g.2⟩ (by show l' - (_ + 1) < l' - _; have := q0.2; omega)) ⟨i, hi⟩
def shc14 (b : Option Addr) (l c : Nat) (o : Int) (b' : Option Addr) (l' c' j : Nat) (E : Mem) : St := ⟨[some (L b l c), none, none, some (I (j : Nat)), some (.loc 0 0), none, none, none, none, none, none, none, none, none, none, none, none, none, none, none, none, none, none, none, none, none, none, none, none, none, none, none, none, none, none, none, none, none, none, none, none, none, none, none, none, none, none, none, none, none, none, none, none, none, none, none, none, none, none, none, none, none, none, none, none, none, none, none, none, none, none, none, none, none, none, none, none, none, none, none, none, none, none, none, none, none, none, none, none, none, none, none, none], [⟨45, .lst [I o, L b' l' c'], 2, true⟩], E⟩
theorem pc14 {b : Option Addr} {l c : Nat} {o : Int} {b' : Option Addr} {l' c' j : Nat} {E0 : Mem} {rs : List Rg} (hr : RS E b' l' c' rs) (hl : l' ≤ 9223372036854775807) (hj : j ≤ 1000) (hE : Mem.le E0 E) (no : ¬ chkR (-1) rs → K (B false) E) (nx : chkR (-1) rs → Lp C7 8 Try.f14 [1, 0, 1, 0] 0 (pubK E0 K) (sh14 b l c (j + 1) E)) : Pc C7 8 Try.f14 [1, 0, 1, 0, 0, 1, 0, 0, 1, 1] 0 (pubK E0 K) (shc14 b l c o b' l' c' j E) := by
  refine same (by kernel_rfl) (?_ : 
      Lp C7 8 Try.f14
        [1, 0, 1, 0, 0, 1, 0, 0, 1, 1,
          1, 0]
        0 (pubK E0 K)
        {
          fr :=
            [some (SV.raw (Value.slice b l c)), none, none, some (SV.raw (Value.int IntKind.i64 (↑j : Int))), some (SV.loc 0 0), some (SV.raw (Value.int IntKind.i64 (0 : Int))), none, none, none, none, none, none, none, none, none, none, none, none, none, none, none, none, none, none, none, none, none, none, none, none, none, none, none, none, none, none, none, none, none, none, none, none, none, none, none, none, none, none, none, none, none, none, none, none, none, none, none, none, none, none, none, none, none, none, none, none, none, none, none, none, none, none, none, none, none, none, none, none, none, none, none, none, none, none, none, none, none, none, none, none, none, none, none],
          bx :=
            [{ elem := 45, row := Row.lst [SV.raw (Value.int IntKind.i64 o), SV.raw (Value.slice b' l' c')],
                total := 2, own := true : Box }],
          E := E : St })
  exact Lp_re [some 0] (lp14i (i := 0) hr hl hj ⟨Nat.zero_le _, trivial⟩ hE no nx) ⟨⟨by simp, by simp, fun j h => absurd h (Nat.not_lt_zero _)⟩, rfl, (by repeat' first | exact True.intro | refine And.intro (Or.inl rfl) ?_ | refine And.intro (Or.inr ⟨rfl, rfl⟩) ?_), (by repeat' first | exact True.intro | exact rfl | exact Or.inl rfl | fail | refine And.intro ?_ ?_), (show List.Nodup [0] from by decide), Mem.le_refl _⟩
theorem rnd14 {b : Option Addr} {l : Nat} {c : Nat} {i : Nat} {E0 : Mem} {xs : List Sn} (hx : SS E b l c xs) (hs : Sm xs) (hi : i ≤ l ∧ chkS (-1) (xs.take i)) (hE : Mem.le E0 E) (h : K (B (decide (validS xs))) E)
    (ih : (i < l ∧ chkS (-1) (xs.take (i + 1))) → Lp C7 8 Try.f14 [1, 0, 1, 0] 0 (pubK E0 K) (sh14 b l c (i + 1) E)) : Rnd C7 8 Try.f14 [1, 0, 1, 0] 0 (pubK E0 K) (sh14 b l c i E) := by
  refine same (by kernel_rfl) (?_ : 
      bif decide ((↑i : Int) < (↑l : Int)) then
        req ((0 : Int) ≤ (↑i : Int) ∧ (↑i : Int) < (↑l : Int))
          ((∃ (cs : List Value), E (Value.slice b l c) cs ∧ (cs = [] → False)) ∧
            ∃ (n : Int),
              ∃ (base : Option Addr),
                ∃ (len : Nat),
                  ∃ (cap : Nat),
                    LoadE C7.P E 45 (Value.slice b l c) (Int.toNat (↑i : Int) * 2)
                        (SV.agg [SV.raw (Value.int IntKind.i64 n), SV.raw (Value.slice base len cap)]) ∧
                      bif decide (n < (0 : Int)) then Mem.le E0 E ∧ K (SV.raw (Value.bool false)) E
                      else
                        bif bif false then true else decide (n ≥ (60 : Int)) then
                          Mem.le E0 E ∧ K (SV.raw (Value.bool false)) E
                        else
                          bif decide ((↑i : Int) > (0 : Int)) then
                            req
                              ((0 : Int) ≤ IntKind.wrap IntKind.i64 ((↑i : Int) - (1 : Int)) ∧
                                IntKind.wrap IntKind.i64 ((↑i : Int) - (1 : Int)) < (↑l : Int))
                              ((∃ (cs : List Value), E (Value.slice b l c) cs ∧ (cs = [] → False)) ∧
                                ∃ (n_1 : Int),
                                  LoadE C7.P E 3 (Value.slice b l c)
                                      (Int.toNat (IntKind.wrap IntKind.i64 ((↑i : Int) - (1 : Int))) * 2 + 0)
                                      (SV.raw (Value.int IntKind.i64 n_1)) ∧
                                    bif bif false then true else bif true then decide (n ≤ n_1) else false then
                                      Mem.le E0 E ∧ K (SV.raw (Value.bool false)) E
                                    else
                                      bif bif false then true else (↑len : Int) == (0 : Int) then
                                        Mem.le E0 E ∧ K (SV.raw (Value.bool false)) E
                                      else
                                        Ct C7 8 Try.f14
                                          [1, 0, 1, 0, 0, 1, 0,
                                            0, 1, 1]
                                          0 (pubK E0 K)
                                          {
                                            fr :=
                                              [some (SV.raw (Value.slice b l c)), none, none, some (SV.raw (Value.int IntKind.i64 (↑i : Int))), some (SV.loc 0 0), none, none, some (SV.raw (Value.int IntKind.i64 (↑i : Int))), some (SV.raw (Value.slice b l c)), some (SV.raw (Value.int IntKind.i64 (↑l : Int))), some (SV.raw (Value.bool (decide ((↑i : Int) < (↑l : Int))))), none, none, some (SV.raw (Value.slice b l c)), some (SV.raw (Value.int IntKind.i64 (↑i : Int))), some (SV.rp (Value.slice b l c) (Int.toNat (↑i : Int) * 2)), some (SV.agg [SV.raw (Value.int IntKind.i64 n), SV.raw (Value.slice base len cap)]), some (SV.loc 0 0), some (SV.raw (Value.int IntKind.i64 n)), some (SV.raw (Value.bool (decide (n < (0 : Int))))), some (SV.raw (Value.bool false)), some (SV.loc 0 0), some (SV.raw (Value.int IntKind.i64 n)), some (SV.raw (Value.bool (decide (n ≥ (60 : Int))))), some (SV.raw (Value.bool (bif false then true else decide (n ≥ (60 : Int))))), some (SV.raw (Value.bool false)), some (SV.raw (Value.int IntKind.i64 (↑i : Int))), some (SV.raw (Value.bool (decide ((↑i : Int) > (0 : Int))))), some (SV.raw (Value.bool true)), some (SV.loc 0 0), some (SV.raw (Value.int IntKind.i64 n)), some (SV.raw (Value.slice b l c)), some (SV.raw (Value.int IntKind.i64 (↑i : Int))), some (SV.raw (Value.int IntKind.i64 (IntKind.wrap IntKind.i64 ((↑i : Int) - (1 : Int))))), some (SV.rp (Value.slice b l c) (Int.toNat (IntKind.wrap IntKind.i64 ((↑i : Int) - (1 : Int))) * 2)), some (SV.rp (Value.slice b l c) (Int.toNat (IntKind.wrap IntKind.i64 ((↑i : Int) - (1 : Int))) * 2 + 0)), some (SV.raw (Value.int IntKind.i64 n_1)), some (SV.raw (Value.bool (decide (n ≤ n_1)))), some (SV.raw (Value.bool (bif true then decide (n ≤ n_1) else false))), some (SV.raw (Value.bool (bif false then true else bif true then decide (n ≤ n_1) else false))), some (SV.raw (Value.bool false)), some (SV.loc 0 1), some (SV.raw (Value.slice base len cap)), some (SV.raw (Value.int IntKind.i64 (↑len : Int))), some (SV.raw (Value.bool ((↑len : Int) == (0 : Int)))), some (SV.raw (Value.bool (bif false then true else (↑len : Int) == (0 : Int)))), none, none, none, none, none, none, none, none, none, none, none, none, none, none, none, none, none, none, none, none, none, none, none, none, none, none, none, none, none, none, none, none, none, none, none, none, none, none, none, none, none, none, none, none, none, none, none],
                                            bx :=
                                              [{ elem := 45,
                                                  row :=
                                                    Row.lst
                                                      [SV.raw (Value.int IntKind.i64 n), SV.raw (Value.slice base len cap)],
                                                  total := 2, own := true : Box }],
                                            E := E : St })
                          else
                            bif bif false then true else (↑len : Int) == (0 : Int) then
                              Mem.le E0 E ∧ K (SV.raw (Value.bool false)) E
                            else
                              Ct C7 8 Try.f14
                                [1, 0, 1, 0, 0, 1, 0, 0,
                                  1, 1]
                                0 (pubK E0 K)
                                {
                                  fr :=
                                    [some (SV.raw (Value.slice b l c)), none, none, some (SV.raw (Value.int IntKind.i64 (↑i : Int))), some (SV.loc 0 0), none, none, some (SV.raw (Value.int IntKind.i64 (↑i : Int))), some (SV.raw (Value.slice b l c)), some (SV.raw (Value.int IntKind.i64 (↑l : Int))), some (SV.raw (Value.bool (decide ((↑i : Int) < (↑l : Int))))), none, none, some (SV.raw (Value.slice b l c)), some (SV.raw (Value.int IntKind.i64 (↑i : Int))), some (SV.rp (Value.slice b l c) (Int.toNat (↑i : Int) * 2)), some (SV.agg [SV.raw (Value.int IntKind.i64 n), SV.raw (Value.slice base len cap)]), some (SV.loc 0 0), some (SV.raw (Value.int IntKind.i64 n)), some (SV.raw (Value.bool (decide (n < (0 : Int))))), some (SV.raw (Value.bool false)), some (SV.loc 0 0), some (SV.raw (Value.int IntKind.i64 n)), some (SV.raw (Value.bool (decide (n ≥ (60 : Int))))), some (SV.raw (Value.bool (bif false then true else decide (n ≥ (60 : Int))))), some (SV.raw (Value.bool false)), some (SV.raw (Value.int IntKind.i64 (↑i : Int))), some (SV.raw (Value.bool (decide ((↑i : Int) > (0 : Int))))), some (SV.raw (Value.bool false)), some (SV.raw (Value.tuple { toList := [] : Array Value })), some (SV.raw (Value.tuple { toList := [] : Array Value })), some (SV.raw (Value.tuple { toList := [] : Array Value })), some (SV.raw (Value.tuple { toList := [] : Array Value })), some (SV.raw (Value.tuple { toList := [] : Array Value })), some (SV.raw (Value.tuple { toList := [] : Array Value })), some (SV.raw (Value.tuple { toList := [] : Array Value })), some (SV.raw (Value.tuple { toList := [] : Array Value })), some (SV.raw (Value.tuple { toList := [] : Array Value })), some (SV.raw (Value.bool false)), some (SV.raw (Value.bool false)), some (SV.raw (Value.bool false)), some (SV.loc 0 1), some (SV.raw (Value.slice base len cap)), some (SV.raw (Value.int IntKind.i64 (↑len : Int))), some (SV.raw (Value.bool ((↑len : Int) == (0 : Int)))), some (SV.raw (Value.bool (bif false then true else (↑len : Int) == (0 : Int)))), none, none, none, none, none, none, none, none, none, none, none, none, none, none, none, none, none, none, none, none, none, none, none, none, none, none, none, none, none, none, none, none, none, none, none, none, none, none, none, none, none, none, none, none, none, none, none],
                                  bx :=
                                    [{ elem := 45,
                                        row := Row.lst [SV.raw (Value.int IntKind.i64 n), SV.raw (Value.slice base len cap)],
                                        total := 2, own := true : Box }],
                                  E := E : St })
      else
        ∃ (xs : List Sn),
          SS E b l c xs ∧ Sm xs ∧ Mem.le E E ∧ Mem.le E0 E ∧ K (SV.raw (Value.bool (decide (manyI xs ≤ (64 : Int))))) E)
  have hn := hx.len
  have hlen := hs.1
  refine condC (fun g => ?_) (fun g => ?_)
  · have g : i < l := by simpa using g
    obtain ⟨x, ex⟩ : ∃ x, xs[i]? = some x := ⟨_, List.getElem?_eq_getElem (by omega)⟩
    have no : ¬ okS (lastO (-1) (xs.take i)) x → K (B false) E := fun q => by
      rwa [decide_eq_false (fun hc => q ((chkS_take ex).1 (chkS_pre hc.2)).2)] at h
    have nx : okS (lastO (-1) (xs.take i)) x → _ := fun q => ih ⟨g, (chkS_take ex).2 ⟨hi.2, q⟩⟩
    unfold okS setsOK at no nx
    obtain ⟨e1, b', l', c', e2, e3⟩ := hx.load ex
    have hl' : l' ≤ 9223372036854775807 := by rw [← e3.len]; exact hs.2 x (List.mem_of_getElem? ex)
    have hne := e3.len
    refine req_intro (by omega) ⟨e1, x.1, b', l', c', e2, condC (fun a => ⟨hE, no (by simp at a; omega)⟩) (fun a => condC (fun b => ⟨hE, no (by simp at b; omega)⟩) (fun b => condC (fun g0 => ?_) (fun g0 => ?_)))⟩
    · have g0 : 0 < i := by simpa using g0
      obtain ⟨y, ey⟩ : ∃ y, xs[i - 1]? = some y := ⟨_, List.getElem?_eq_getElem (by omega)⟩
      have hl1 : lastO (-1) (xs.take i) = y.1 := by have := lastO_take (p := -1) ey; rwa [show i - 1 + 1 = i by omega] at this
      rw [wrap_i64 (x := (i : Int) - 1) (by omega), show (i : Int) - 1 = ((i - 1 : Nat) : Int) by omega]
      rw [hl1] at no nx
      refine req_intro (by omega) ⟨SL.nex SR_ok hx ey, y.1, hx.loadO ey, condC (fun c => ⟨hE, no (by simp at c; omega)⟩) (fun c => condC (fun d => ⟨hE, no (fun q => q.2.2.1.1 (List.eq_nil_of_length_eq_zero (by simp at d; omega)))⟩) (fun d => ?_))⟩
      have d : x.2 ≠ [] := fun q => by rw [q] at hne; simp at hne d; omega
      exact Ct_re [some 0] (Ct_intro okC7 (pc14 e3 hl' (by omega) hE (fun q => no (fun w => q w.2.2.1.2)) (fun q => nx ⟨by simp at a; omega, by simp at b; omega, ⟨d, q⟩, by simp at c; omega⟩))) ⟨⟨by simp, by simp, fun j h => absurd h (Nat.not_lt_zero _)⟩, rfl, (by repeat' first | exact True.intro | refine And.intro (Or.inl rfl) ?_ | refine And.intro (Or.inr ⟨rfl, rfl⟩) ?_), (by repeat' first | exact True.intro | exact rfl | exact Or.inl rfl | fail | refine And.intro ?_ ?_), (show List.Nodup [0] from by decide), Mem.le_refl _⟩
    · have g0 : i = 0 := by simp at g0; omega
      subst g0
      have hl1 : lastO (-1) (xs.take 0) = -1 := rfl
      rw [hl1] at no nx
      refine condC (fun d => ⟨hE, no (fun q => q.2.2.1.1 (List.eq_nil_of_length_eq_zero (by simp at d; omega)))⟩) (fun d => ?_)
      have d : x.2 ≠ [] := fun q => by rw [q] at hne; simp at hne d; omega
      exact Ct_re [some 0] (Ct_intro okC7 (pc14 e3 hl' (by omega) hE (fun q => no (fun w => q w.2.2.1.2)) (fun q => nx ⟨by simp at a; omega, by simp at b; omega, ⟨d, q⟩, by simp at a; omega⟩))) ⟨⟨by simp, by simp, fun j h => absurd h (Nat.not_lt_zero _)⟩, rfl, (by repeat' first | exact True.intro | refine And.intro (Or.inl rfl) ?_ | refine And.intro (Or.inr ⟨rfl, rfl⟩) ?_), (by repeat' first | exact True.intro | exact rfl | exact Or.inl rfl | fail | refine And.intro ?_ ?_), (show List.Nodup [0] from by decide), Mem.le_refl _⟩
  · have g : i = l := by simp at g; omega
    have hc := hi.2
    rw [List.take_of_length_le (by omega)] at hc
    refine ⟨xs, hx, hs, Mem.le_refl _, hE, ?_⟩
    have e : decide (validS xs) = decide (manyI xs ≤ 64) := by
      rw [chkS_many hc]
      unfold validS
      simp only [hc, and_true]
      congr 1
      simp; omega
    rwa [e] at h
theorem lp14 {b : Option Addr} {l : Nat} {c : Nat} {i : Nat} {E0 : Mem} {xs : List Sn} (hx : SS E b l c xs) (hs : Sm xs) (hi : i ≤ l ∧ chkS (-1) (xs.take i)) (hE : Mem.le E0 E) (h : K (B (decide (validS xs))) E) : Lp C7 8 Try.f14 [1, 0, 1, 0] 0 (pubK E0 K) (sh14 b l c i E) :=
  Lp_ind okC7 (fun q0 : {i : Nat // i ≤ l ∧ chkS (-1) (xs.take i)} => sh14 b l c q0.1 E) (fun q0 => l - q0.1) (fun q0 ih => rnd14 hx hs q0.2 hE h fun g => ih ⟨q0.1 + 1, by omega, g.2⟩ (by show l - (_ + 1) < l - _; have := q0.2; omega)) ⟨i, hi⟩
theorem s14 {b1 : Option Addr} {l2 : Nat} {c3 : Nat} {xs : List Sn} (h0 : SS E b1 l2 c3 xs) (h1 : Sm xs) (h : K (B (decide (validS xs))) E) :
    Ent C7 8 Try.f14 [L b1 l2 c3] E K := by
  refine same (by kernel_rfl) (?_ : 
      Lp C7 8 Try.f14 [1, 0, 1, 0] 0 (pubK E K)
        {
          fr :=
            [some (SV.raw (Value.slice b1 l2 c3)), none, none, some (SV.raw (Value.int IntKind.i64 (0 : Int))), none, none, none, none, none, none, none, none, none, none, none, none, none, none, none, none, none, none, none, none, none, none, none, none, none, none, none, none, none, none, none, none, none, none, none, none, none, none, none, none, none, none, none, none, none, none, none, none, none, none, none, none, none, none, none, none, none, none, none, none, none, none, none, none, none, none, none, none, none, none, none, none, none, none, none, none, none, none, none, none, none, none, none, none, none, none, none, none, none],
          bx := [], E := E : St })
  exact Lp_re [] (lp14 (i := 0) h0 h1 ⟨Nat.zero_le _, trivial⟩ (Mem.le_refl _) h) ⟨⟨by simp, by simp, fun j h => absurd h (Nat.not_lt_zero _)⟩, rfl, (by repeat' first | exact True.intro | refine And.intro (Or.inl rfl) ?_ | refine And.intro (Or.inr ⟨rfl, rfl⟩) ?_), (by repeat' first | exact True.intro | exact rfl | exact Or.inl rfl | fail | refine And.intro ?_ ?_), (show List.Nodup [] from by decide), Mem.le_refl _⟩

end Go.Proofs.Ytjibgfihfbdcaaa.SeenOwn
