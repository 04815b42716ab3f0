/- The package seen: what its functions answer. -/
import Derived.Test.YtjibgfihfbdcaaaProg
import Derived.Test.YtjibgfihfbdcaaaSyZ
namespace Go.Proofs.Ytjibgfihfbdcaaa.SeenOwn
open Go Go.Sx
set_option maxRecDepth 100000
set_option maxHeartbeats 4000000
set_option linter.unusedVariables false
set_option linter.unusedSimpArgs false
variable {E : Mem} {K : SV → Mem → Prop}

theorem condC {c : Bool} {p q : Prop} (h1 : c = true → p) (h0 : c = false → q) : bif c then p else q := by cases c; exact h0 rfl; exact h1 rfl
/-- Intervals, and lists of them by origin. -/
abbrev Rg := Int × Int
abbrev Sn := Int × List Rg
def RR : RowR Rg := fun _ x r => r = [.int .i64 x.1, .int .i64 x.2]
theorem RR_ok : RowOK 2 RR := ⟨fun _ h => h, fun h => by cases h; rfl, fun h v hv => by cases h; simp only [List.mem_cons, List.not_mem_nil, or_false] at hv; rcases hv with rfl | rfl <;> rfl, by decide⟩
abbrev RS (E : Mem) (b : Option Addr) (n c : Nat) (rs : List Rg) : Prop := SL RR E b n c rs
def SR : RowR Sn := fun E x r => ∃ b l c, r = [.int .i64 x.1, .slice b l c] ∧ RS E b l c x.2
theorem SR_ok : RowOK 2 SR := ⟨fun he h => let ⟨b, l, c, h1, h2⟩ := h; ⟨b, l, c, h1, h2.mono RR_ok he⟩, fun h => by obtain ⟨b, l, c, rfl, _⟩ := h; rfl, fun h v hv => by
  obtain ⟨b, l, c, rfl, _⟩ := h
  simp only [List.mem_cons, List.not_mem_nil, or_false] at hv
  rcases hv with rfl | rfl <;> rfl, by decide⟩
abbrev SS (E : Mem) (b : Option Addr) (n c : Nat) (xs : List Sn) : Prop := SL SR E b n c xs
/-- Short lists. -/
def Sm (xs : List Sn) : Prop := xs.length ≤ 1000 ∧ ∀ x ∈ xs, x.2.length ≤ 9223372036854775807
def manyF (xs : List Sn) : Nat := (xs.map (·.2.length)).sum
theorem manyF_take {xs : List Sn} {i : Nat} {x : Sn} (h : xs[i]? = some x) : manyF (xs.take (i + 1)) = manyF (xs.take i) + x.2.length := by
  unfold manyF; rw [take_get' h]; simp
/-- The same, as the program counts. -/
def manyI (xs : List Sn) : Int := xs.foldl (fun n x => IntKind.wrap .i64 (n + (x.2.length : Int))) 0
theorem manyI_take {xs : List Sn} {i : Nat} {x : Sn} (h : xs[i]? = some x) : manyI (xs.take (i + 1)) = IntKind.wrap .i64 (manyI (xs.take i) + (x.2.length : Int)) := by
  unfold manyI; rw [take_get' h, List.foldl_append]; rfl
theorem manyI_eq {xs : List Sn} (h : manyF xs ≤ 9223372036854775807) : manyI xs = (manyF xs : Nat) := by
  have key : ∀ (ys : List Sn) (k : Nat), k + manyF ys ≤ 9223372036854775807 → ys.foldl (fun n x => IntKind.wrap .i64 (n + (x.2.length : Int))) (k : Int) = ((k + manyF ys : Nat) : Int) := by
    intro ys
    induction ys with
    | nil => intro k _; simp [manyF]
    | cons y ys ih =>
      intro k hk
      have e : manyF (y :: ys) = y.2.length + manyF ys := by simp [manyF]
      rw [e] at hk ⊢
      rw [List.foldl_cons, wrap_i64 (by omega), show (k : Int) + (y.2.length : Int) = ((k + y.2.length : Nat) : Int) from by simp, ih _ (by omega)]
      congr 1; omega
  have := key xs 0 (by omega)
  simpa [manyI] using this
/-- What lies at an element of a list. -/
theorem SS.load {b : Option Addr} {n c : Nat} {xs : List Sn} (h : SS E b n c xs) {i : Nat} {x : Sn} (hx : xs[i]? = some x) : (∃ cs, E (.slice b n c) cs ∧ (cs = [] → False)) ∧ ∃ (b' : Option Addr) (l' c' : Nat), LoadE Try.prog E 45 (.slice b n c) (i * 2) (.agg [I x.1, L b' l' c']) ∧ RS E b' l' c' x.2 := by
  have hn := h.len
  obtain ⟨r, ⟨b', l', c', rfl, h2⟩, h3⟩ := h.loadE SR_ok (P := Try.prog) (T := 45) (by kernel_rfl) (by kernel_rfl) hx
  exact ⟨h.ne SR_ok (by rw [← hn]; exact (List.getElem?_eq_some_iff.1 hx).1), b', l', c', h3, h2⟩
theorem SS.loadO {b : Option Addr} {n c : Nat} {xs : List Sn} (h : SS E b n c xs) {i : Nat} {x : Sn} (hx : xs[i]? = some x) : LoadE Try.prog E 3 (.slice b n c) (i * 2) (I x.1) := by
  obtain ⟨r, v, ⟨b', l', c', rfl, h2⟩, h3, h4⟩ := h.loadC SR_ok (P := Try.prog) (T := 3) (d := .int .i64) (by kernel_rfl) rfl (j := 0) hx (by decide)
  cases h3; exact h4
theorem SS.loadL {b : Option Addr} {n c : Nat} {xs : List Sn} (h : SS E b n c xs) {i : Nat} {x : Sn} (hx : xs[i]? = some x) : ∃ (b' : Option Addr) (l' c' : Nat), LoadE Try.prog E 43 (.slice b n c) (i * 2 + 1) (L b' l' c') ∧ RS E b' l' c' x.2 := by
  obtain ⟨r, v, ⟨b', l', c', rfl, h2⟩, h3, h4⟩ := h.loadC SR_ok (P := Try.prog) (T := 43) (d := .slice 47) (by kernel_rfl) rfl (j := 1) hx (by decide)
  cases h3; exact ⟨b', l', c', h4, h2⟩
theorem SL.nex {α : Type} {k : Nat} {R : RowR α} (ok : RowOK k R) {b : Option Addr} {n c : Nat} {xs : List α} (h : SL R E b n c xs) {i : Nat} {x : α} (hx : xs[i]? = some x) : (∃ cs, E (.slice b n c) cs ∧ (cs = [] → False)) := h.ne ok (by rw [← h.len]; exact (List.getElem?_eq_some_iff.1 hx).1)
theorem RS.load {b : Option Addr} {n c : Nat} {rs : List Rg} (h : RS E b n c rs) {i : Nat} {x : Rg} (hx : rs[i]? = some x) : LoadE Try.prog E 47 (.slice b n c) (i * 2) (.agg [I x.1, I x.2]) := by
  obtain ⟨r, rfl, h3⟩ := h.loadE RR_ok (P := Try.prog) (T := 47) (by kernel_rfl) (by kernel_rfl) hx
  exact h3
theorem RS.loadA {b : Option Addr} {n c : Nat} {rs : List Rg} (h : RS E b n c rs) {i : Nat} {x : Rg} (hx : rs[i]? = some x) : LoadE Try.prog E 3 (.slice b n c) (i * 2) (I x.1) := by
  obtain ⟨r, v, rfl, h3, h4⟩ := h.loadC RR_ok (P := Try.prog) (T := 3) (d := .int .i64) (by kernel_rfl) rfl (j := 0) hx (by decide)
  cases h3; exact h4
theorem RS.loadB {b : Option Addr} {n c : Nat} {rs : List Rg} (h : RS E b n c rs) {i : Nat} {x : Rg} (hx : rs[i]? = some x) : LoadE Try.prog E 3 (.slice b n c) (i * 2 + 1) (I x.2) := by
  obtain ⟨r, v, rfl, h3, h4⟩ := h.loadC RR_ok (P := Try.prog) (T := 3) (d := .int .i64) (by kernel_rfl) rfl (j := 1) hx (by decide)
  cases h3; exact h4
noncomputable def C1 : Cx := { P := Try.prog, inl := fun f => List.contains [] f, tab := fun _ _ _ _ => False, isB := fun _ => false, tabB := fun _ _ _ _ _ => False, opt := { unroll := 0, carry := [3, 8] }, muts := mutsD }
theorem okC1 : CxOK C1 := CxOK.four (fun _ _ _ _ h => h.elim) (by kernel_rfl) (okInl (by kernel_rfl)) (fun _ _ _ _ _ h => h.elim)
noncomputable def C2 : Cx := { P := Try.prog, inl := fun f => List.contains [] f, tab := fun _ _ _ _ => False, isB := fun _ => false, tabB := fun _ _ _ _ _ => False, opt := { unroll := 0, carry := [3, 4] }, muts := mutsD }
theorem okC2 : CxOK C2 := CxOK.four (fun _ _ _ _ h => h.elim) (by kernel_rfl) (okInl (by kernel_rfl)) (fun _ _ _ _ _ h => h.elim)
def sh36 (b : Option Addr) (l : Nat) (c : Nat) (xs : List Sn) (i : Nat) (E : Mem) : St := ⟨[none, none, none, some (I (manyI (xs.take i))), none, none, some (L b l c), some (I (l : Nat)), some (I (i : Nat)), none, none, none, none, none, none, none, none, none, none], [], E⟩
theorem rnd36 {b : Option Addr} {l : Nat} {c : Nat} {xs : List Sn} {i : Nat} {E0 : Mem}  (hx : SS E b l c xs) (hs : Sm xs) (hi : i ≤ l) (hE : Mem.le E0 E) (h : K (I (manyI xs)) E)
    (ih : (i < l) → Lp C1 8 Try.f36 [1, 1, 0, 1, 0] 0 (pubK E0 K) (sh36 b l c xs (i + 1) E)) : Rnd C1 8 Try.f36 [1, 1, 0, 1, 0] 0 (pubK E0 K) (sh36 b l c xs i E) := by
  refine same (by kernel_rfl) (?_ : 
      bif decide ((↑i : Int) < (↑l : Int)) then
        req ((0 : Int) ≤ (↑i : Int) ∧ (↑i : Int) < (↑l : Int))
          ((∃ (cs : List Value), E (Value.slice b l c) cs ∧ (cs = [] → False)) ∧
            ∃ (n : Int),
              ∃ (base : Option Addr),
                ∃ (len : Nat),
                  ∃ (cap : Nat),
                    LoadE C1.P E 45 (Value.slice b l c) (Int.toNat (↑i : Int) * 2)
                        (SV.agg [SV.raw (Value.int IntKind.i64 n), SV.raw (Value.slice base len cap)]) ∧
                      Lp C1 8 Try.f36 [1, 1, 0, 1, 0] 0 (pubK E0 K)
                        {
                          fr :=
                            [none, none, none, some (SV.raw (Value.int IntKind.i64 (IntKind.wrap IntKind.i64 (manyI (List.take i xs) + (↑len : Int))))), none, none, some (SV.raw (Value.slice b l c)), some (SV.raw (Value.int IntKind.i64 (↑l : Int))), some (SV.raw (Value.int IntKind.i64 (IntKind.wrap IntKind.i64 ((↑i : Int) + (1 : Int))))), none, none, none, none, none, none, none, none, none, none],
                          bx :=
                            [{ elem := 45,
                                row := Row.lst [SV.raw (Value.int IntKind.i64 n), SV.raw (Value.slice base len cap)],
                                total := 2, own := true : Box }],
                          E := E : St })
      else Mem.le E0 E ∧ K (SV.raw (Value.int IntKind.i64 (manyI (List.take i xs)))) E)
  have hn := hx.len
  refine condC (fun g => ?_) (fun g => ?_)
  · have g : i < l := by simpa using g
    obtain ⟨x, ex⟩ : ∃ x, xs[i]? = some x := ⟨_, List.getElem?_eq_getElem (by omega)⟩
    have w1 : IntKind.wrap .i64 ((i : Int) + 1) = ((i + 1 : Nat) : Int) := by have := hs.1; rw [wrap_i64 (by omega)]; simp
    have nx := ih g
    obtain ⟨_, b', l', c', h1, h2⟩ := hx.load ex
    have hl := h2.len
    refine req_intro (by omega) ⟨SL.nex SR_ok hx ex, x.1, b', l', c', h1, ?_⟩
    have w2 : IntKind.wrap .i64 (manyI (xs.take i) + (l' : Int)) = manyI (xs.take (i + 1)) := by rw [manyI_take ex, hl]
    rw [w1, w2]
    exact Lp_re [] (nx) ⟨⟨by simp, by simp, fun j h => absurd h (Nat.not_lt_zero _)⟩, rfl, (by repeat' first | exact True.intro | refine And.intro (Or.inl rfl) ?_ | refine And.intro (Or.inr ⟨rfl, rfl⟩) ?_), (by repeat' first | exact True.intro | exact rfl | exact Or.inl rfl | fail | refine And.intro ?_ ?_), (show List.Nodup [] from by decide), Mem.le_refl _⟩
  · have g : i = l := by simp at g; omega
    rw [List.take_of_length_le (by omega)]
    exact ⟨hE, h⟩
theorem lp36 {b : Option Addr} {l : Nat} {c : Nat} {xs : List Sn} {i : Nat} {E0 : Mem}  (hx : SS E b l c xs) (hs : Sm xs) (hi : i ≤ l) (hE : Mem.le E0 E) (h : K (I (manyI xs)) E) : Lp C1 8 Try.f36 [1, 1, 0, 1, 0] 0 (pubK E0 K) (sh36 b l c xs i E) :=
  Lp_ind okC1 (fun q0 : {i : Nat // i ≤ l} => sh36 b l c xs q0.1 E) (fun q0 => l - q0.1) (fun q0 ih => rnd36 hx hs q0.2 hE h fun g => ih ⟨q0.1 + 1, by have := q0.2; omega⟩ (by show l - (_ + 1) < l - _; have := q0.2; omega)) ⟨i, hi⟩
def sh22 (b : Option Addr) (l : Nat) (c : Nat) (xs : List Sn) (i : Nat) (E : Mem) : St := ⟨[none, none, none, some (I (manyI (xs.take i))), none, none, some (L b l c), some (I (l : Nat)), some (I (i : Nat)), none, none, none, none, none, none, none, none, none, none], [], E⟩
theorem rnd22 {b : Option Addr} {l : Nat} {c : Nat} {xs : List Sn} {i : Nat} {E0 : Mem}  (hx : SS E b l c xs) (hs : Sm xs) (hi : i ≤ l) (hE : Mem.le E0 E) (h : K (I (manyI xs)) E)
    (ih : (i < l) → Lp C1 8 Try.f22 [1, 1, 0, 1, 0] 0 (pubK E0 K) (sh22 b l c xs (i + 1) E)) : Rnd C1 8 Try.f22 [1, 1, 0, 1, 0] 0 (pubK E0 K) (sh22 b l c xs i E) := by
  refine same (by kernel_rfl) (?_ : 
      bif decide ((↑i : Int) < (↑l : Int)) then
        req ((0 : Int) ≤ (↑i : Int) ∧ (↑i : Int) < (↑l : Int))
          ((∃ (cs : List Value), E (Value.slice b l c) cs ∧ (cs = [] → False)) ∧
            ∃ (n : Int),
              ∃ (base : Option Addr),
                ∃ (len : Nat),
                  ∃ (cap : Nat),
                    LoadE C1.P E 45 (Value.slice b l c) (Int.toNat (↑i : Int) * 2)
                        (SV.agg [SV.raw (Value.int IntKind.i64 n), SV.raw (Value.slice base len cap)]) ∧
                      Lp C1 8 Try.f22 [1, 1, 0, 1, 0] 0 (pubK E0 K)
                        {
                          fr :=
                            [none, none, none, some (SV.raw (Value.int IntKind.i64 (IntKind.wrap IntKind.i64 (manyI (List.take i xs) + (↑len : Int))))), none, none, some (SV.raw (Value.slice b l c)), some (SV.raw (Value.int IntKind.i64 (↑l : Int))), some (SV.raw (Value.int IntKind.i64 (IntKind.wrap IntKind.i64 ((↑i : Int) + (1 : Int))))), none, none, none, none, none, none, none, none, none, none],
                          bx :=
                            [{ elem := 45,
                                row := Row.lst [SV.raw (Value.int IntKind.i64 n), SV.raw (Value.slice base len cap)],
                                total := 2, own := true : Box }],
                          E := E : St })
      else Mem.le E0 E ∧ K (SV.raw (Value.int IntKind.i64 (manyI (List.take i xs)))) E)
  have hn := hx.len
  refine condC (fun g => ?_) (fun g => ?_)
  · have g : i < l := by simpa using g
    obtain ⟨x, ex⟩ : ∃ x, xs[i]? = some x := ⟨_, List.getElem?_eq_getElem (by omega)⟩
    have w1 : IntKind.wrap .i64 ((i : Int) + 1) = ((i + 1 : Nat) : Int) := by have := hs.1; rw [wrap_i64 (by omega)]; simp
    have nx := ih g
    obtain ⟨_, b', l', c', h1, h2⟩ := hx.load ex
    have hl := h2.len
    refine req_intro (by omega) ⟨SL.nex SR_ok hx ex, x.1, b', l', c', h1, ?_⟩
    have w2 : IntKind.wrap .i64 (manyI (xs.take i) + (l' : Int)) = manyI (xs.take (i + 1)) := by rw [manyI_take ex, hl]
    rw [w1, w2]
    exact Lp_re [] (nx) ⟨⟨by simp, by simp, fun j h => absurd h (Nat.not_lt_zero _)⟩, rfl, (by repeat' first | exact True.intro | refine And.intro (Or.inl rfl) ?_ | refine And.intro (Or.inr ⟨rfl, rfl⟩) ?_), (by repeat' first | exact True.intro | exact rfl | exact Or.inl rfl | fail | refine And.intro ?_ ?_), (show List.Nodup [] from by decide), Mem.le_refl _⟩
  · have g : i = l := by simp at g; omega
    rw [List.take_of_length_le (by omega)]
    exact ⟨hE, h⟩
theorem lp22 {b : Option Addr} {l : Nat} {c : Nat} {xs : List Sn} {i : Nat} {E0 : Mem}  (hx : SS E b l c xs) (hs : Sm xs) (hi : i ≤ l) (hE : Mem.le E0 E) (h : K (I (manyI xs)) E) : Lp C1 8 Try.f22 [1, 1, 0, 1, 0] 0 (pubK E0 K) (sh22 b l c xs i E) :=
  Lp_ind okC1 (fun q0 : {i : Nat // i ≤ l} => sh22 b l c xs q0.1 E) (fun q0 => l - q0.1) (fun q0 ih => rnd22 hx hs q0.2 hE h fun g => ih ⟨q0.1 + 1, by have := q0.2; omega⟩ (by show l - (_ + 1) < l - _; have := q0.2; omega)) ⟨i, hi⟩
def sh25 (b : Option Addr) (l : Nat) (c : Nat) (xs : List Sn) (i : Nat) (E : Mem) : St := ⟨[some (L b l c), none, none, some (I (manyI (xs.take i))), some (I (i : Nat)), none, none, none, none, none, none, none, none, none, none, none, none, none, none, none], [], E⟩
theorem rnd25 {b : Option Addr} {l : Nat} {c : Nat} {xs : List Sn} {i : Nat} {E0 : Mem}  (hx : SS E b l c xs) (hs : Sm xs) (hi : i ≤ l) (hE : Mem.le E0 E) (h : K (I (manyI xs)) E)
    (ih : (i < l) → Lp C2 8 Try.f25 [1, 1, 0, 1, 0] 0 (pubK E0 K) (sh25 b l c xs (i + 1) E)) : Rnd C2 8 Try.f25 [1, 1, 0, 1, 0] 0 (pubK E0 K) (sh25 b l c xs i E) := by
  refine same (by kernel_rfl) (?_ : 
      bif decide ((↑i : Int) < (↑l : Int)) then
        req ((0 : Int) ≤ (↑i : Int) ∧ (↑i : Int) < (↑l : Int))
          ((∃ (cs : List Value), E (Value.slice b l c) cs ∧ (cs = [] → False)) ∧
            ∃ (base : Option Addr),
              ∃ (len : Nat),
                ∃ (cap : Nat),
                  LoadE C2.P E 43 (Value.slice b l c) (Int.toNat (↑i : Int) * 2 + 1)
                      (SV.raw (Value.slice base len cap)) ∧
                    Lp C2 8 Try.f25 [1, 1, 0, 1, 0] 0 (pubK E0 K)
                      {
                        fr :=
                          [some (SV.raw (Value.slice b l c)), none, none, some (SV.raw (Value.int IntKind.i64 (IntKind.wrap IntKind.i64 (manyI (List.take i xs) + (↑len : Int))))), some (SV.raw (Value.int IntKind.i64 (IntKind.wrap IntKind.i64 ((↑i : Int) + (1 : Int))))), none, none, none, none, none, none, none, none, none, none, none, none, none, none, none],
                        bx := [], E := E : St })
      else Mem.le E0 E ∧ K (SV.raw (Value.int IntKind.i64 (manyI (List.take i xs)))) E)
  have hn := hx.len
  refine condC (fun g => ?_) (fun g => ?_)
  · have g : i < l := by simpa using g
    obtain ⟨x, ex⟩ : ∃ x, xs[i]? = some x := ⟨_, List.getElem?_eq_getElem (by omega)⟩
    have w1 : IntKind.wrap .i64 ((i : Int) + 1) = ((i + 1 : Nat) : Int) := by have := hs.1; rw [wrap_i64 (by omega)]; simp
    have nx := ih g
    obtain ⟨b', l', c', h1, h2⟩ := hx.loadL ex
    have hl := h2.len
    refine req_intro (by omega) ⟨SL.nex SR_ok hx ex, b', l', c', h1, ?_⟩
    have w2 : IntKind.wrap .i64 (manyI (xs.take i) + (l' : Int)) = manyI (xs.take (i + 1)) := by rw [manyI_take ex, hl]
    rw [w1, w2]
    exact Lp_re [] (nx) ⟨⟨by simp, by simp, fun j h => absurd h (Nat.not_lt_zero _)⟩, rfl, (by repeat' first | exact True.intro | refine And.intro (Or.inl rfl) ?_ | refine And.intro (Or.inr ⟨rfl, rfl⟩) ?_), (by repeat' first | exact True.intro | exact rfl | exact Or.inl rfl | fail | refine And.intro ?_ ?_), (show List.Nodup [] from by decide), Mem.le_refl _⟩
  · have g : i = l := by simp at g; omega
    rw [List.take_of_length_le (by omega)]
    exact ⟨hE, h⟩
theorem lp25 {b : Option Addr} {l : Nat} {c : Nat} {xs : List Sn} {i : Nat} {E0 : Mem}  (hx : SS E b l c xs) (hs : Sm xs) (hi : i ≤ l) (hE : Mem.le E0 E) (h : K (I (manyI xs)) E) : Lp C2 8 Try.f25 [1, 1, 0, 1, 0] 0 (pubK E0 K) (sh25 b l c xs i E) :=
  Lp_ind okC2 (fun q0 : {i : Nat // i ≤ l} => sh25 b l c xs q0.1 E) (fun q0 => l - q0.1) (fun q0 ih => rnd25 hx hs q0.2 hE h fun g => ih ⟨q0.1 + 1, by have := q0.2; omega⟩ (by show l - (_ + 1) < l - _; have := q0.2; omega)) ⟨i, hi⟩
theorem s36 {b1 : Option Addr} {l2 : Nat} {c3 : Nat} {xs : List Sn} (h0 : SS E b1 l2 c3 xs) (h1 : Sm xs) (h : K (I (manyI xs)) E) :
    Ent C1 8 Try.f36 [L b1 l2 c3] E K := by
  refine same (by kernel_rfl) (?_ : 
      Lp C1 8 Try.f36 [1, 1, 0, 1, 0] 0 (pubK E K)
        {
          fr :=
            [some (SV.raw (Value.slice b1 l2 c3)), none, some (SV.raw (Value.int IntKind.i64 (0 : Int))), some (SV.raw (Value.int IntKind.i64 (0 : Int))), none, none, some (SV.raw (Value.slice b1 l2 c3)), some (SV.raw (Value.int IntKind.i64 (↑l2 : Int))), some (SV.raw (Value.int IntKind.i64 (0 : Int))), none, none, none, none, none, none, none, none, none, none],
          bx := [], E := E : St })
  exact Lp_re [] (lp36 (i := 0) h0 h1 (Nat.zero_le _) (Mem.le_refl _) h) ⟨⟨by simp, by simp, fun j h => absurd h (Nat.not_lt_zero _)⟩, rfl, (by repeat' first | exact True.intro | refine And.intro (Or.inl rfl) ?_ | refine And.intro (Or.inr ⟨rfl, rfl⟩) ?_), (by repeat' first | exact True.intro | exact rfl | exact Or.inl rfl | fail | refine And.intro ?_ ?_), (show List.Nodup [] from by decide), Mem.le_refl _⟩
theorem s22 {b1 : Option Addr} {l2 : Nat} {c3 : Nat} {xs : List Sn} (h0 : SS E b1 l2 c3 xs) (h1 : Sm xs) (h : K (I (manyI xs)) E) :
    Ent C1 8 Try.f22 [L b1 l2 c3] E K := by
  refine same (by kernel_rfl) (?_ : 
      Lp C1 8 Try.f22 [1, 1, 0, 1, 0] 0 (pubK E K)
        {
          fr :=
            [some (SV.raw (Value.slice b1 l2 c3)), none, some (SV.raw (Value.int IntKind.i64 (0 : Int))), some (SV.raw (Value.int IntKind.i64 (0 : Int))), none, none, some (SV.raw (Value.slice b1 l2 c3)), some (SV.raw (Value.int IntKind.i64 (↑l2 : Int))), some (SV.raw (Value.int IntKind.i64 (0 : Int))), none, none, none, none, none, none, none, none, none, none],
          bx := [], E := E : St })
  exact Lp_re [] (lp22 (i := 0) h0 h1 (Nat.zero_le _) (Mem.le_refl _) h) ⟨⟨by simp, by simp, fun j h => absurd h (Nat.not_lt_zero _)⟩, rfl, (by repeat' first | exact True.intro | refine And.intro (Or.inl rfl) ?_ | refine And.intro (Or.inr ⟨rfl, rfl⟩) ?_), (by repeat' first | exact True.intro | exact rfl | exact Or.inl rfl | fail | refine And.intro ?_ ?_), (show List.Nodup [] from by decide), Mem.le_refl _⟩
theorem s25 {b1 : Option Addr} {l2 : Nat} {c3 : Nat} {xs : List Sn} (h0 : SS E b1 l2 c3 xs) (h1 : Sm xs) (h : K (I (manyI xs)) E) :
    Ent C2 8 Try.f25 [L b1 l2 c3] E K := by
  refine same (by kernel_rfl) (?_ : 
      Lp C2 8 Try.f25 [1, 1, 0, 1, 0] 0 (pubK E K)
        {
          fr :=
            [some (SV.raw (Value.slice b1 l2 c3)), none, some (SV.raw (Value.int IntKind.i64 (0 : Int))), some (SV.raw (Value.int IntKind.i64 (0 : Int))), some (SV.raw (Value.int IntKind.i64 (0 : Int))), none, none, none, none, none, none, none, none, none, none, none, none, none, none, none],
          bx := [], E := E : St })
  exact Lp_re [] (lp25 (i := 0) h0 h1 (Nat.zero_le _) (Mem.le_refl _) h) ⟨⟨by simp, by simp, fun j h => absurd h (Nat.not_lt_zero _)⟩, rfl, (by repeat' first | exact True.intro | refine And.intro (Or.inl rfl) ?_ | refine And.intro (Or.inr ⟨rfl, rfl⟩) ?_), (by repeat' first | exact True.intro | exact rfl | exact Or.inl rfl | fail | refine And.intro ?_ ?_), (show List.Nodup [] from by decide), Mem.le_refl _⟩

end Go.Proofs.Ytjibgfihfbdcaaa.SeenOwn
