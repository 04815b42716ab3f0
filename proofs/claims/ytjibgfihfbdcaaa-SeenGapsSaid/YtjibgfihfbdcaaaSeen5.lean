/- The package seen: what its functions answer. -/
import Derived.Test.YtjibgfihfbdcaaaSeen4
namespace Go.Proofs.Ytjibgfihfbdcaaa.SeenOwn
open Go Go.Sx
set_option maxRecDepth 100000
set_option maxHeartbeats 4000000
set_option linter.unusedVariables false
set_option linter.unusedSimpArgs false
variable {E : Mem} {K : SV → Mem → Prop}

def NR : RowR Int := fun _ x r => r = [.int .i64 x]
theorem NR_ok : RowOK 1 NR := ⟨fun _ h => h, fun h => by cases h; rfl, fun h v hv => by cases h; simp only [List.mem_cons, List.not_mem_nil, or_false] at hv; subst hv; rfl, by decide⟩
abbrev NL (E : Mem) (b : Option Addr) (n c : Nat) (zs : List Int) : Prop := SL NR E b n c zs
theorem NL.load {b : Option Addr} {n c : Nat} {zs : List Int} (h : NL E b n c zs) {i : Nat} {x : Int} (hx : zs[i]? = some x) : LoadE Try.prog E 3 (.slice b n c) (i * 1) (I x) := by
  obtain ⟨r, v, rfl, h3, h4⟩ := h.loadC NR_ok (P := Try.prog) (T := 3) (d := .int .i64) (by kernel_rfl) rfl (j := 0) hx (by decide)
  cases h3; exact h4
theorem take_eq_of {α : Type} {xs ys : List α} {n : Nat} (hl : xs.length = n) (hm : ys.length = n) (h : xs.take n = ys.take n) : xs = ys := by
  rwa [List.take_of_length_le (by omega), List.take_of_length_le (by omega)] at h
theorem ne_at {α : Type} {xs ys : List α} {i : Nat} {x y : α} (hx : xs[i]? = some x) (hy : ys[i]? = some y) (h : x ≠ y) : xs ≠ ys := fun e => by rw [e, hy] at hx; cases hx; exact h rfl
theorem take_st {α : Type} {xs ys : List α} {i : Nat} {x : α} (h : xs.take i = ys.take i) (hx : xs[i]? = some x) (hy : ys[i]? = some x) : xs.take (i + 1) = ys.take (i + 1) := by rw [take_get' hx, take_get' hy, h]
noncomputable def G1 : Cx := { P := Try.prog, inl := fun f => List.contains [] f, tab := fun _ _ _ _ => False, isB := fun _ => false, tabB := fun _ _ _ _ _ => False, opt := { unroll := 0, carry := [5] }, muts := mutsD }
theorem okG1 : CxOK G1 := CxOK.four (fun _ _ _ _ h => h.elim) (by kernel_rfl) (okInl (by kernel_rfl)) (fun _ _ _ _ _ h => h.elim)
def sh18 (b : Option Addr) (l : Nat) (c : Nat) (d : Option Addr) (m : Nat) (e : Nat) (i : Nat) (E : Mem) : St := ⟨[some (L b l c), some (L d m e), none, none, none, some (I (i : Nat)), none, none, none, none, none, none, none, none, none, none, none, none, none, none, none, none, none, none, none, none], [], E⟩
theorem rnd18 {b : Option Addr} {l : Nat} {c : Nat} {d : Option Addr} {m : Nat} {e : Nat} {i : Nat} {E0 : Mem} {zs ys : List Int} (hx : NL E b l c zs) (hy : NL E d m e ys) (hl : l ≤ 100000) (hm : l = m) (hi : i ≤ l ∧ zs.take i = ys.take i) (hE : Mem.le E0 E) (h : K (B (decide (zs = ys))) E)
    (ih : (i < l ∧ zs.take (i + 1) = ys.take (i + 1)) → Lp G1 8 Try.f18 [1, 1, 0, 1, 0] 0 (pubK E0 K) (sh18 b l c d m e (i + 1) E)) : Rnd G1 8 Try.f18 [1, 1, 0, 1, 0] 0 (pubK E0 K) (sh18 b l c d m e i E) := by
  refine same (by kernel_rfl) (?_ : 
      bif decide ((↑i : Int) < (↑l : Int)) then
        req ((0 : Int) ≤ (↑i : Int) ∧ (↑i : Int) < (↑l : Int))
          ((∃ (cs : List Value), E (Value.slice b l c) cs ∧ (cs = [] → False)) ∧
            ∃ (n : Int),
              LoadE G1.P E 3 (Value.slice b l c) (Int.toNat (↑i : Int) * 1)
                  (SV.raw (Value.int IntKind.i64 n)) ∧
                req ((0 : Int) ≤ (↑i : Int) ∧ (↑i : Int) < (↑m : Int))
                  ((∃ (cs : List Value), E (Value.slice d m e) cs ∧ (cs = [] → False)) ∧
                    ∃ (n_1 : Int),
                      LoadE G1.P E 3 (Value.slice d m e) (Int.toNat (↑i : Int) * 1)
                          (SV.raw (Value.int IntKind.i64 n_1)) ∧
                        bif n != n_1 then Mem.le E0 E ∧ K (SV.raw (Value.bool false)) E
                        else
                          Lp G1 8 Try.f18 [1, 1, 0, 1, 0] 0
                            (pubK E0 K)
                            {
                              fr :=
                                [some (SV.raw (Value.slice b l c)), some (SV.raw (Value.slice d m e)), none, none, none, some (SV.raw (Value.int IntKind.i64 (IntKind.wrap IntKind.i64 ((↑i : Int) + (1 : Int))))), none, none, none, none, none, none, none, none, none, none, none, none, none, none, none, none, none, none, none, none],
                              bx := [], E := E : St }))
      else Mem.le E0 E ∧ K (SV.raw (Value.bool true)) E)
  have hn := hx.len
  have hn2 := hy.len
  refine condC (fun g => ?_) (fun g => ?_)
  · have g : i < l := by simpa using g
    obtain ⟨x, ex⟩ : ∃ x, zs[i]? = some x := ⟨_, List.getElem?_eq_getElem (by omega)⟩
    obtain ⟨y, ey⟩ : ∃ y, ys[i]? = some y := ⟨_, List.getElem?_eq_getElem (by omega)⟩
    have w1 : IntKind.wrap .i64 ((i : Int) + 1) = ((i + 1 : Nat) : Int) := by rw [wrap_i64 (by omega)]; simp
    rw [w1]
    refine req_intro (by omega) ⟨SL.nex NR_ok hx ex, x, hx.load ex, req_intro (by omega) ⟨SL.nex NR_ok hy ey, y, hy.load ey, condC (fun a => ⟨hE, ?_⟩) (fun a => ?_)⟩⟩
    · rwa [decide_eq_false (ne_at ex ey (by simpa using a))] at h
    · have a : x = y := by simpa using a
      subst a
      exact Lp_re [] (ih ⟨g, take_st hi.2 ex ey⟩) ⟨⟨by simp, by simp, fun j h => absurd h (Nat.not_lt_zero _)⟩, rfl, (by repeat' first | exact True.intro | refine And.intro (Or.inl rfl) ?_ | refine And.intro (Or.inr ⟨rfl, rfl⟩) ?_), (by repeat' first | exact True.intro | exact rfl | exact Or.inl rfl | fail | refine And.intro ?_ ?_), (show List.Nodup [] from by decide), Mem.le_refl _⟩
  · have g : i = l := by simp at g; omega
    refine ⟨hE, ?_⟩
    rwa [decide_eq_true (take_eq_of (n := i) (by omega) (by omega) hi.2)] at h
theorem lp18 {b : Option Addr} {l : Nat} {c : Nat} {d : Option Addr} {m : Nat} {e : Nat} {i : Nat} {E0 : Mem} {zs ys : List Int} (hx : NL E b l c zs) (hy : NL E d m e ys) (hl : l ≤ 100000) (hm : l = m) (hi : i ≤ l ∧ zs.take i = ys.take i) (hE : Mem.le E0 E) (h : K (B (decide (zs = ys))) E) : Lp G1 8 Try.f18 [1, 1, 0, 1, 0] 0 (pubK E0 K) (sh18 b l c d m e i E) :=
  Lp_ind okG1 (fun q0 : {i : Nat // i ≤ l ∧ zs.take i = ys.take i} => sh18 b l c d m e q0.1 E) (fun q0 => l - q0.1) (fun q0 ih => rnd18 hx hy hl hm q0.2 hE h fun g => ih ⟨q0.1 + 1, by omega, g.2⟩ (by show l - (_ + 1) < l - _; have := q0.2; omega)) ⟨i, hi⟩
theorem s18 {b1 : Option Addr} {l2 : Nat} {c3 : Nat} {b4 : Option Addr} {l5 : Nat} {c6 : Nat} {zs : List Int} {ys : List Int} (h0 : NL E b1 l2 c3 zs) (h1 : NL E b4 l5 c6 ys) (h2 : l2 ≤ 100000) (h : K (B (decide (zs = ys))) E) :
    Ent G1 8 Try.f18 [L b1 l2 c3, L b4 l5 c6] E K := by
  refine same (by kernel_rfl) (?_ : 
      bif (↑l2 : Int) != (↑l5 : Int) then Mem.le E E ∧ K (SV.raw (Value.bool false)) E
      else
        Lp G1 8 Try.f18 [1, 1, 0, 1, 0] 0 (pubK E K)
          {
            fr :=
              [some (SV.raw (Value.slice b1 l2 c3)), some (SV.raw (Value.slice b4 l5 c6)), none, none, none, some (SV.raw (Value.int IntKind.i64 (0 : Int))), some (SV.raw (Value.slice b1 l2 c3)), some (SV.raw (Value.int IntKind.i64 (↑l2 : Int))), some (SV.raw (Value.slice b4 l5 c6)), some (SV.raw (Value.int IntKind.i64 (↑l5 : Int))), some (SV.raw (Value.bool ((↑l2 : Int) != (↑l5 : Int)))), none, none, none, none, none, none, none, none, none, none, none, none, none, none, none],
            bx := [], E := E : St })
  have hn := h0.len
  have hn2 := h1.len
  refine condC (fun g => ⟨Mem.le_refl _, ?_⟩) (fun g => ?_)
  · have g : ¬ l2 = l5 := by simp at g; omega
    rwa [decide_eq_false (fun e => g (by rw [← hn, ← hn2, e]))] at h
  · have g : l2 = l5 := by simp at g; omega
    exact Lp_re [] (lp18 (i := 0) h0 h1 h2 g ⟨Nat.zero_le _, rfl⟩ (Mem.le_refl _) h) ⟨⟨by simp, by simp, fun j h => absurd h (Nat.not_lt_zero _)⟩, rfl, (by repeat' first | exact True.intro | refine And.intro (Or.inl rfl) ?_ | refine And.intro (Or.inr ⟨rfl, rfl⟩) ?_), (by repeat' first | exact True.intro | exact rfl | exact Or.inl rfl | fail | refine And.intro ?_ ?_), (show List.Nodup [] from by decide), Mem.le_refl _⟩
noncomputable def G2 : Cx := { P := Try.prog, inl := fun f => List.contains [] f, tab := fun _ _ _ _ => False, isB := fun _ => false, tabB := fun _ _ _ _ _ => False, opt := { unroll := 0, carry := [5, 6], cuts := [8] }, muts := mutsD }
theorem okG2 : CxOK G2 := CxOK.four (fun _ _ _ _ h => h.elim) (by kernel_rfl) (okInl (by kernel_rfl)) (fun _ _ _ _ _ h => h.elim)
def sh17 (b : Option Addr) (l : Nat) (c : Nat) (d : Option Addr) (m : Nat) (e : Nat) (i : Nat) (E : Mem) : St := ⟨[some (L b l c), some (L d m e), none, none, none, some (I (i : Nat)), none, none, none, none, none, none, none, none, none, none, none, none, none, none, none, none, none, none, none, none, none, none, none, none, none, none, none, none, none, none, none, none, none, none, none, none, none, none, none, none, none, none, none, none, none, none, none, none, none, none, none, none, none, none, none, none, none, none, none, none, none, none, none, none, none], [], E⟩
def sh17i (b : Option Addr) (l : Nat) (c : Nat) (d : Option Addr) (m : Nat) (e : Nat) (j : Nat) (i : Nat) (E : Mem) : St := ⟨[some (L b l c), some (L d m e), none, none, none, some (I (j : Nat)), some (I (i : Nat)), none, none, none, none, none, none, none, none, none, none, none, none, none, none, none, none, none, none, none, none, none, none, none, none, none, none, none, none, none, none, none, none, none, none, none, none, none, none, none, none, none, none, none, none, none, none, none, none, none, none, none, none, none, none, none, none, none, none, none, none, none, none, none, none], [], E⟩
theorem rnd17i {b : Option Addr} {l : Nat} {c : Nat} {d : Option Addr} {m : Nat} {e : Nat} {j : Nat} {i : Nat} {E0 : Mem} {xs ys : List Sn} {x y : Sn} (hx : SS E b l c xs) (hy : SS E d m e ys) (hj : j ≤ 1000) (ex : xs[j]? = some x) (ey : ys[j]? = some y) (hl : x.2.length ≤ 9223372036854775807) (hlen : x.2.length = y.2.length) (hi : i ≤ x.2.length ∧ x.2.take i = y.2.take i) (hE : Mem.le E0 E) (no : x.2 ≠ y.2 → K (B false) E) (nx : x.2 = y.2 → Lp G2 8 Try.f17 [1, 1, 0, 1, 0] 0 (pubK E0 K) (sh17 b l c d m e (j + 1) E))
    (ih : (i < x.2.length ∧ x.2.take (i + 1) = y.2.take (i + 1)) → Lp G2 8 Try.f17 [1, 1, 0, 1, 0, 0, 1, 0, 0, 1, 1, 0] 0 (pubK E0 K) (sh17i b l c d m e j (i + 1) E)) : Rnd G2 8 Try.f17 [1, 1, 0, 1, 0, 0, 1, 0, 0, 1, 1, 0] 0 (pubK E0 K) (sh17i b l c d m e j i E) := by
  refine same (by kernel_rfl) (?_ : 
      req ((0 : Int) ≤ (↑j : Int) ∧ (↑j : Int) < (↑l : Int))
        ((∃ (cs : List Value), E (Value.slice b l c) cs ∧ (cs = [] → False)) ∧
          ∃ (base : Option Addr),
            ∃ (len : Nat),
              ∃ (cap : Nat),
                LoadE G2.P E 43 (Value.slice b l c) (Int.toNat (↑j : Int) * 2 + 1)
                    (SV.raw (Value.slice base len cap)) ∧
                  bif decide ((↑i : Int) < (↑len : Int)) then
                    req ((0 : Int) ≤ (↑j : Int) ∧ (↑j : Int) < (↑l : Int))
                      ((∃ (cs : List Value), E (Value.slice b l c) cs ∧ (cs = [] → False)) ∧
                        ∃ (base : Option Addr),
                          ∃ (len : Nat),
                            ∃ (cap : Nat),
                              LoadE G2.P E 43 (Value.slice b l c) (Int.toNat (↑j : Int) * 2 + 1)
                                  (SV.raw (Value.slice base len cap)) ∧
                                req ((0 : Int) ≤ (↑i : Int) ∧ (↑i : Int) < (↑len : Int))
                                  ((∃ (cs : List Value), E (Value.slice base len cap) cs ∧ (cs = [] → False)) ∧
                                    ∃ (n : Int),
                                      ∃ (n_1 : Int),
                                        LoadE G2.P E 47 (Value.slice base len cap) (Int.toNat (↑i : Int) * 2)
                                            (SV.agg [SV.raw (Value.int IntKind.i64 n), SV.raw (Value.int IntKind.i64 n_1)]) ∧
                                          req ((0 : Int) ≤ (↑j : Int) ∧ (↑j : Int) < (↑m : Int))
                                            ((∃ (cs : List Value), E (Value.slice d m e) cs ∧ (cs = [] → False)) ∧
                                              ∃ (base : Option Addr),
                                                ∃ (len : Nat),
                                                  ∃ (cap : Nat),
                                                    LoadE G2.P E 43 (Value.slice d m e)
                                                        (Int.toNat (↑j : Int) * 2 + 1)
                                                        (SV.raw (Value.slice base len cap)) ∧
                                                      req ((0 : Int) ≤ (↑i : Int) ∧ (↑i : Int) < (↑len : Int))
                                                        ((∃ (cs : List Value),
                                                            E (Value.slice base len cap) cs ∧ (cs = [] → False)) ∧
                                                          ∃ (n_2 : Int),
                                                            ∃ (n_3 : Int),
                                                              LoadE G2.P E 47 (Value.slice base len cap)
                                                                  (Int.toNat (↑i : Int) * 2)
                                                                  (SV.agg
                                                                    [SV.raw (Value.int IntKind.i64 n_2),
                                                                      SV.raw (Value.int IntKind.i64 n_3)]) ∧
                                                                bif !(n == n_2 && (n_1 == n_3 && true)) then
                                                                  Mem.le E0 E ∧ K (SV.raw (Value.bool false)) E
                                                                else
                                                                  Lp G2 8 Try.f17
                                                                    [1, 1, 0, 1, 0,
                                                                      0, 1, 0, 0, 1,
                                                                      1, 0]
                                                                    0 (pubK E0 K)
                                                                    {
                                                                      fr :=
                                                                        [some (SV.raw (Value.slice b l c)), some (SV.raw (Value.slice d m e)), none, none, none, some (SV.raw (Value.int IntKind.i64 (↑j : Int))), some (SV.raw (Value.int IntKind.i64 (IntKind.wrap IntKind.i64 ((↑i : Int) + (1 : Int))))), none, none, none, none, none, none, none, none, none, none, none, none, none, none, none, none, none, none, none, none, none, none, none, none, none, none, none, none, none, none, none, none, none, none, none, none, none, none, none, none, none, none, none, none, none, none, none, none, none, none, none, none, none, none, none, none, none, none, none, none, none, none, none, none],
                                                                      bx := [], E := E : St }))))
                  else
                    Lp G2 8 Try.f17 [1, 1, 0, 1, 0] 0 (pubK E0 K)
                      {
                        fr :=
                          [some (SV.raw (Value.slice b l c)), some (SV.raw (Value.slice d m e)), none, none, none, some (SV.raw (Value.int IntKind.i64 (IntKind.wrap IntKind.i64 ((↑j : Int) + (1 : Int))))), some (SV.raw (Value.int IntKind.i64 (↑i : Int))), none, none, none, none, none, none, none, none, none, none, none, none, none, none, none, none, none, none, none, none, none, none, none, none, none, none, none, none, none, none, none, none, none, none, none, none, none, none, none, none, none, none, none, none, none, none, none, none, none, none, none, none, none, none, none, none, none, none, none, none, none, none, none, none],
                        bx := [], E := E : St }))
  have hn := hx.len
  have hn2 := hy.len
  have j1 := (List.getElem?_eq_some_iff.1 ex).1
  have j2 := (List.getElem?_eq_some_iff.1 ey).1
  obtain ⟨b', l', c', e2, e3⟩ := hx.loadL ex
  obtain ⟨d', m', f', e4, e5⟩ := hy.loadL ey
  have n1 := e3.len
  have n2 := e5.len
  refine req_intro (by omega) ⟨SL.nex SR_ok hx ex, b', l', c', e2, condC (fun g => ?_) (fun g => ?_)⟩
  · have g : i < l' := by simpa using g
    obtain ⟨u, eu⟩ : ∃ u, x.2[i]? = some u := ⟨_, List.getElem?_eq_getElem (by omega)⟩
    obtain ⟨v, ev⟩ : ∃ v, y.2[i]? = some v := ⟨_, List.getElem?_eq_getElem (by omega)⟩
    have w1 : IntKind.wrap .i64 ((i : Int) + 1) = ((i + 1 : Nat) : Int) := by rw [wrap_i64 (by omega)]; simp
    rw [w1]
    refine req_intro (by omega) ⟨SL.nex SR_ok hx ex, b', l', c', e2, req_intro (by omega) ⟨SL.nex RR_ok e3 eu, u.1, u.2, e3.load eu, req_intro (by omega) ⟨SL.nex SR_ok hy ey, d', m', f', e4, req_intro (by omega) ⟨SL.nex RR_ok e5 ev, v.1, v.2, e5.load ev, condC (fun a => ⟨hE, no (ne_at eu ev (fun w => by subst w; simp at a))⟩) (fun a => ?_)⟩⟩⟩⟩
    have a : u = v := by simp at a; exact Prod.ext a.1 a.2
    subst a
    exact Lp_re [] (ih ⟨by omega, take_st hi.2 eu ev⟩) ⟨⟨by simp, by simp, fun j h => absurd h (Nat.not_lt_zero _)⟩, rfl, (by repeat' first | exact True.intro | refine And.intro (Or.inl rfl) ?_ | refine And.intro (Or.inr ⟨rfl, rfl⟩) ?_), (by repeat' first | exact True.intro | exact rfl | exact Or.inl rfl | fail | refine And.intro ?_ ?_), (show List.Nodup [] from by decide), Mem.le_refl _⟩
  · have g : i = x.2.length := by simp at g; omega
    have w2 : IntKind.wrap .i64 ((j : Int) + 1) = ((j + 1 : Nat) : Int) := by rw [wrap_i64 (by omega)]; simp
    rw [w2]
    exact Lp_re [] (nx (take_eq_of (n := i) (by omega) (by omega) hi.2)) ⟨⟨by simp, by simp, fun j h => absurd h (Nat.not_lt_zero _)⟩, rfl, (by repeat' first | exact True.intro | refine And.intro (Or.inl rfl) ?_ | refine And.intro (Or.inr ⟨rfl, rfl⟩) ?_), (by repeat' first | exact True.intro | exact rfl | exact Or.inl rfl | fail | refine And.intro ?_ ?_), (show List.Nodup [] from by decide), Mem.le_refl _⟩
theorem lp17i {b : Option Addr} {l : Nat} {c : Nat} {d : Option Addr} {m : Nat} {e : Nat} {j : Nat} {i : Nat} {E0 : Mem} {xs ys : List Sn} {x y : Sn} (hx : SS E b l c xs) (hy : SS E d m e ys) (hj : j ≤ 1000) (ex : xs[j]? = some x) (ey : ys[j]? = some y) (hl : x.2.length ≤ 9223372036854775807) (hlen : x.2.length = y.2.length) (hi : i ≤ x.2.length ∧ x.2.take i = y.2.take i) (hE : Mem.le E0 E) (no : x.2 ≠ y.2 → K (B false) E) (nx : x.2 = y.2 → Lp G2 8 Try.f17 [1, 1, 0, 1, 0] 0 (pubK E0 K) (sh17 b l c d m e (j + 1) E)) : Lp G2 8 Try.f17 [1, 1, 0, 1, 0, 0, 1, 0, 0, 1, 1, 0] 0 (pubK E0 K) (sh17i b l c d m e j i E) :=
  Lp_ind okG2 (fun q0 : {i : Nat // i ≤ x.2.length ∧ x.2.take i = y.2.take i} => sh17i b l c d m e j q0.1 E) (fun q0 => x.2.length - q0.1) (fun q0 ih => rnd17i hx hy hj ex ey hl hlen q0.2 hE no nx fun g => ih ⟨q0.1 + 1, by omega, g.2⟩ (by show x.2.length - (_ + 1) < x.2.length - _; have := q0.2; omega)) ⟨i, hi⟩
def shc17 (b : Option Addr) (l : Nat) (c : Nat) (d : Option Addr) (m : Nat) (e : Nat) (j : Nat) (E : Mem) : St := ⟨[some (L b l c), some (L d m e), none, none, none, some (I (j : Nat)), none, none, none, none, none, none, none, none, none, none, none, none, none, none, none, none, none, none, none, none, none, none, none, none, none, none, none, none, none, none, none, none, none, none, none, none, none, none, none, none, none, none, none, none, none, none, none, none, none, none, none, none, none, none, none, none, none, none, none, none, none, none, none, none, none], [], E⟩
theorem pc17 {b : Option Addr} {l : Nat} {c : Nat} {d : Option Addr} {m : Nat} {e : Nat} {j : Nat} {E0 : Mem} {xs ys : List Sn} {x y : Sn} (hx : SS E b l c xs) (hy : SS E d m e ys) (hj : j ≤ 1000) (ex : xs[j]? = some x) (ey : ys[j]? = some y) (hl : x.2.length ≤ 9223372036854775807) (hlen : x.2.length = y.2.length) (hE : Mem.le E0 E) (no : x.2 ≠ y.2 → K (B false) E) (nx : x.2 = y.2 → Lp G2 8 Try.f17 [1, 1, 0, 1, 0] 0 (pubK E0 K) (sh17 b l c d m e (j + 1) E)) : Pc G2 8 Try.f17 [1, 1, 0, 1, 0, 0, 1, 0, 0, 1] 0 (pubK E0 K) (shc17 b l c d m e j E) := by
  refine same (by kernel_rfl) (?_ : 
      Lp G2 8 Try.f17
        [1, 1, 0, 1, 0, 0, 1, 0, 0, 1,
          1, 0]
        0 (pubK E0 K)
        {
          fr :=
            [some (SV.raw (Value.slice b l c)), some (SV.raw (Value.slice d m e)), none, none, none, some (SV.raw (Value.int IntKind.i64 (↑j : Int))), some (SV.raw (Value.int IntKind.i64 (0 : Int))), none, none, none, none, none, none, none, none, none, none, none, none, none, none, none, none, none, none, none, none, none, none, none, none, none, none, none, none, none, none, none, none, none, none, none, none, none, none, none, none, none, none, none, none, none, none, none, none, none, none, none, none, none, none, none, none, none, none, none, none, none, none, none, none],
          bx := [], E := E : St })
  exact Lp_re [] (lp17i (i := 0) hx hy hj ex ey hl hlen ⟨Nat.zero_le _, rfl⟩ hE no nx) ⟨⟨by simp, by simp, fun j h => absurd h (Nat.not_lt_zero _)⟩, rfl, (by repeat' first | exact True.intro | refine And.intro (Or.inl rfl) ?_ | refine And.intro (Or.inr ⟨rfl, rfl⟩) ?_), (by repeat' first | exact True.intro | exact rfl | exact Or.inl rfl | fail | refine And.intro ?_ ?_), (show List.Nodup [] from by decide), Mem.le_refl _⟩
theorem rnd17 {b : Option Addr} {l : Nat} {c : Nat} {d : Option Addr} {m : Nat} {e : Nat} {i : Nat} {E0 : Mem} {xs ys : List Sn} (hx : SS E b l c xs) (hy : SS E d m e ys) (hs : Sm xs) (hm : l = m) (hi : i ≤ l ∧ xs.take i = ys.take i) (hE : Mem.le E0 E) (h : K (B (decide (xs = ys))) E)
    (ih : (i < l ∧ xs.take (i + 1) = ys.take (i + 1)) → Lp G2 8 Try.f17 [1, 1, 0, 1, 0] 0 (pubK E0 K) (sh17 b l c d m e (i + 1) E)) : Rnd G2 8 Try.f17 [1, 1, 0, 1, 0] 0 (pubK E0 K) (sh17 b l c d m e i E) := by
  refine same (by kernel_rfl) (?_ : 
      bif decide ((↑i : Int) < (↑l : Int)) then
        req ((0 : Int) ≤ (↑i : Int) ∧ (↑i : Int) < (↑l : Int))
          ((∃ (cs : List Value), E (Value.slice b l c) cs ∧ (cs = [] → False)) ∧
            ∃ (n : Int),
              LoadE G2.P E 3 (Value.slice b l c) (Int.toNat (↑i : Int) * 2 + 0)
                  (SV.raw (Value.int IntKind.i64 n)) ∧
                req ((0 : Int) ≤ (↑i : Int) ∧ (↑i : Int) < (↑m : Int))
                  ((∃ (cs : List Value), E (Value.slice d m e) cs ∧ (cs = [] → False)) ∧
                    ∃ (n_1 : Int),
                      LoadE G2.P E 3 (Value.slice d m e) (Int.toNat (↑i : Int) * 2 + 0)
                          (SV.raw (Value.int IntKind.i64 n_1)) ∧
                        bif n != n_1 then Mem.le E0 E ∧ K (SV.raw (Value.bool false)) E
                        else
                          req ((0 : Int) ≤ (↑i : Int) ∧ (↑i : Int) < (↑l : Int))
                            ((∃ (cs : List Value), E (Value.slice b l c) cs ∧ (cs = [] → False)) ∧
                              ∃ (base : Option Addr),
                                ∃ (len : Nat),
                                  ∃ (cap : Nat),
                                    LoadE G2.P E 43 (Value.slice b l c) (Int.toNat (↑i : Int) * 2 + 1)
                                        (SV.raw (Value.slice base len cap)) ∧
                                      req ((0 : Int) ≤ (↑i : Int) ∧ (↑i : Int) < (↑m : Int))
                                        ((∃ (cs : List Value), E (Value.slice d m e) cs ∧ (cs = [] → False)) ∧
                                          ∃ (base_1 : Option Addr),
                                            ∃ (len_1 : Nat),
                                              ∃ (cap_1 : Nat),
                                                LoadE G2.P E 43 (Value.slice d m e)
                                                    (Int.toNat (↑i : Int) * 2 + 1)
                                                    (SV.raw (Value.slice base_1 len_1 cap_1)) ∧
                                                  bif bif false then true else (↑len : Int) != (↑len_1 : Int) then
                                                    Mem.le E0 E ∧ K (SV.raw (Value.bool false)) E
                                                  else
                                                    Ct G2 8 Try.f17
                                                      [1, 1, 0, 1, 0, 0,
                                                        1, 0, 0, 1]
                                                      0 (pubK E0 K)
                                                      {
                                                        fr :=
                                                          [some (SV.raw (Value.slice b l c)), some (SV.raw (Value.slice d m e)), none, none, none, some (SV.raw (Value.int IntKind.i64 (↑i : Int))), none, none, none, none, none, none, some (SV.raw (Value.int IntKind.i64 (↑i : Int))), some (SV.raw (Value.slice b l c)), some (SV.raw (Value.int IntKind.i64 (↑l : Int))), some (SV.raw (Value.bool (decide ((↑i : Int) < (↑l : Int))))), none, none, some (SV.raw (Value.slice b l c)), some (SV.raw (Value.int IntKind.i64 (↑i : Int))), some (SV.rp (Value.slice b l c) (Int.toNat (↑i : Int) * 2)), some (SV.rp (Value.slice b l c) (Int.toNat (↑i : Int) * 2 + 0)), some (SV.raw (Value.int IntKind.i64 n)), some (SV.raw (Value.slice d m e)), some (SV.raw (Value.int IntKind.i64 (↑i : Int))), some (SV.rp (Value.slice d m e) (Int.toNat (↑i : Int) * 2)), some (SV.rp (Value.slice d m e) (Int.toNat (↑i : Int) * 2 + 0)), some (SV.raw (Value.int IntKind.i64 n_1)), some (SV.raw (Value.bool (n != n_1))), some (SV.raw (Value.bool false)), some (SV.raw (Value.slice b l c)), some (SV.raw (Value.int IntKind.i64 (↑i : Int))), some (SV.rp (Value.slice b l c) (Int.toNat (↑i : Int) * 2)), some (SV.rp (Value.slice b l c) (Int.toNat (↑i : Int) * 2 + 1)), some (SV.raw (Value.slice base len cap)), some (SV.raw (Value.int IntKind.i64 (↑len : Int))), some (SV.raw (Value.slice d m e)), some (SV.raw (Value.int IntKind.i64 (↑i : Int))), some (SV.rp (Value.slice d m e) (Int.toNat (↑i : Int) * 2)), some (SV.rp (Value.slice d m e) (Int.toNat (↑i : Int) * 2 + 1)), some (SV.raw (Value.slice base_1 len_1 cap_1)), some (SV.raw (Value.int IntKind.i64 (↑len_1 : Int))), some (SV.raw (Value.bool ((↑len : Int) != (↑len_1 : Int)))), some (SV.raw (Value.bool (bif false then true else (↑len : Int) != (↑len_1 : Int)))), none, none, none, none, none, none, none, none, none, none, none, none, none, none, none, none, none, none, none, none, none, none, none, none, none, none, none],
                                                        bx := [], E := E : St }))))
      else Mem.le E0 E ∧ K (SV.raw (Value.bool true)) E)
  have hn := hx.len
  have hn2 := hy.len
  have hb := hs.1
  refine condC (fun g => ?_) (fun g => ?_)
  · have g : i < l := by simpa using g
    obtain ⟨x, ex⟩ : ∃ x, xs[i]? = some x := ⟨_, List.getElem?_eq_getElem (by omega)⟩
    obtain ⟨y, ey⟩ : ∃ y, ys[i]? = some y := ⟨_, List.getElem?_eq_getElem (by omega)⟩
    obtain ⟨b', l', c', e2, e3⟩ := hx.loadL ex
    obtain ⟨d', m', f', e4, e5⟩ := hy.loadL ey
    have n1 := e3.len
    have n2 := e5.len
    have no : x ≠ y → K (B false) E := fun q => by rwa [decide_eq_false (ne_at ex ey q)] at h
    refine req_intro (by omega) ⟨SL.nex SR_ok hx ex, x.1, hx.loadO ex, req_intro (by omega) ⟨SL.nex SR_ok hy ey, y.1, hy.loadO ey, condC (fun a => ⟨hE, no (fun w => by subst w; simp at a)⟩) (fun a => req_intro (by omega) ⟨SL.nex SR_ok hx ex, b', l', c', e2, req_intro (by omega) ⟨SL.nex SR_ok hy ey, d', m', f', e4, condC (fun q => ⟨hE, no (fun w => by subst w; simp at q; omega)⟩) (fun q => ?_)⟩⟩)⟩⟩
    have a : x.1 = y.1 := by simpa using a
    have q : l' = m' := by simp at q; omega
    have K0 := Ct_intro okG2 (pc17 (E0 := E0) hx hy (by omega) ex ey (hs.2 x (List.mem_of_getElem? ex)) (by omega) hE (fun w => no (fun r => w (by rw [r]))) (fun w => ih ⟨g, take_st hi.2 ex (by rw [ey, ← (Prod.ext a w : x = y)])⟩))
    exact Ct_re [] (K0) ⟨⟨by simp, by simp, fun j h => absurd h (Nat.not_lt_zero _)⟩, rfl, (by repeat' first | exact True.intro | refine And.intro (Or.inl rfl) ?_ | refine And.intro (Or.inr ⟨rfl, rfl⟩) ?_), (by repeat' first | exact True.intro | exact rfl | exact Or.inl rfl | fail | refine And.intro ?_ ?_), (show List.Nodup [] from by decide), Mem.le_refl _⟩
  · have g : i = l := by simp at g; omega
    refine ⟨hE, ?_⟩
    rwa [decide_eq_true (take_eq_of (n := i) (by omega) (by omega) hi.2)] at h
theorem lp17 {b : Option Addr} {l : Nat} {c : Nat} {d : Option Addr} {m : Nat} {e : Nat} {i : Nat} {E0 : Mem} {xs ys : List Sn} (hx : SS E b l c xs) (hy : SS E d m e ys) (hs : Sm xs) (hm : l = m) (hi : i ≤ l ∧ xs.take i = ys.take i) (hE : Mem.le E0 E) (h : K (B (decide (xs = ys))) E) : Lp G2 8 Try.f17 [1, 1, 0, 1, 0] 0 (pubK E0 K) (sh17 b l c d m e i E) :=
  Lp_ind okG2 (fun q0 : {i : Nat // i ≤ l ∧ xs.take i = ys.take i} => sh17 b l c d m e q0.1 E) (fun q0 => l - q0.1) (fun q0 ih => rnd17 hx hy hs hm q0.2 hE h fun g => ih ⟨q0.1 + 1, by omega, g.2⟩ (by show l - (_ + 1) < l - _; have := q0.2; omega)) ⟨i, hi⟩
theorem s17 {b1 : Option Addr} {l2 : Nat} {c3 : Nat} {b4 : Option Addr} {l5 : Nat} {c6 : Nat} {xs : List Sn} {ys : List Sn} (h0 : SS E b1 l2 c3 xs) (h1 : SS E b4 l5 c6 ys) (h2 : Sm xs) (h : K (B (decide (xs = ys))) E) :
    Ent G2 8 Try.f17 [L b1 l2 c3, L b4 l5 c6] E K := by
  refine same (by kernel_rfl) (?_ : 
      bif (↑l2 : Int) != (↑l5 : Int) then Mem.le E E ∧ K (SV.raw (Value.bool false)) E
      else
        Lp G2 8 Try.f17 [1, 1, 0, 1, 0] 0 (pubK E K)
          {
            fr :=
              [some (SV.raw (Value.slice b1 l2 c3)), some (SV.raw (Value.slice b4 l5 c6)), none, none, none, some (SV.raw (Value.int IntKind.i64 (0 : Int))), none, some (SV.raw (Value.slice b1 l2 c3)), some (SV.raw (Value.int IntKind.i64 (↑l2 : Int))), some (SV.raw (Value.slice b4 l5 c6)), some (SV.raw (Value.int IntKind.i64 (↑l5 : Int))), some (SV.raw (Value.bool ((↑l2 : Int) != (↑l5 : Int)))), none, none, none, none, none, none, none, none, none, none, none, none, none, none, none, none, none, none, none, none, none, none, none, none, none, none, none, none, none, none, none, none, none, none, none, none, none, none, none, none, none, none, none, none, none, none, none, none, none, none, none, none, none, none, none, none, none, none, none],
            bx := [], E := E : St })
  have hn := h0.len
  have hn2 := h1.len
  refine condC (fun g => ⟨Mem.le_refl _, ?_⟩) (fun g => ?_)
  · have g : ¬ l2 = l5 := by simp at g; omega
    rwa [decide_eq_false (fun e => g (by rw [← hn, ← hn2, e]))] at h
  · have g : l2 = l5 := by simp at g; omega
    exact Lp_re [] (lp17 (i := 0) h0 h1 h2 g ⟨Nat.zero_le _, rfl⟩ (Mem.le_refl _) h) ⟨⟨by simp, by simp, fun j h => absurd h (Nat.not_lt_zero _)⟩, rfl, (by repeat' first | exact True.intro | refine And.intro (Or.inl rfl) ?_ | refine And.intro (Or.inr ⟨rfl, rfl⟩) ?_), (by repeat' first | exact True.intro | exact rfl | exact Or.inl rfl | fail | refine And.intro ?_ ?_), (show List.Nodup [] from by decide), Mem.le_refl _⟩

end Go.Proofs.Ytjibgfihfbdcaaa.SeenOwn
