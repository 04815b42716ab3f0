/- The package seen: what its functions answer. -/
import Derived.Test.YtjibgfihfbdcaaaSeen3
namespace Go.Proofs.Ytjibgfihfbdcaaa.SeenOwn
open Go Go.Sx
set_option maxRecDepth 100000
set_option maxHeartbeats 4000000
set_option linter.unusedVariables false
set_option linter.unusedSimpArgs false
variable {E : Mem} {K : SV → Mem → Prop}

theorem okS_of {p : Int} {xs : List Sn} (h : chkS p xs) {i : Nat} {x : Sn} (hx : xs[i]? = some x) : 0 ≤ x.1 ∧ x.1 ≤ 59 ∧ setsOK x.2 := by
  have h1 : chkS p (xs.take (i + 1)) := chkS_pre h
  rw [chkS_take hx] at h1
  exact ⟨h1.2.1, h1.2.2.1, h1.2.2.2.1⟩
theorem sortS : ∀ {xs : List Sn} {p : Int}, chkS p xs → ∀ {i : Nat} {x : Sn}, xs[i]? = some x → p < x.1 ∧ ∀ {j : Nat} {y : Sn}, xs[j]? = some y → i < j → x.1 < y.1
  | [], _, _, i, x, h => by simp at h
  | z :: zs, p, h, 0, x, hx => by
    simp at hx; subst hx
    refine ⟨h.1.2.2.2, fun {j y} hy hj => ?_⟩
    obtain ⟨j, rfl⟩ : ∃ k, j = k + 1 := ⟨j - 1, by omega⟩
    exact (sortS h.2 (by simpa using hy)).1
  | z :: zs, p, h, i + 1, x, hx => by
    have h1 := sortS h.2 (i := i) (x := x) (by simpa using hx)
    refine ⟨by have := h.1.2.2.2; have := h1.1; omega, fun {j y} hy hj => ?_⟩
    obtain ⟨j, rfl⟩ : ∃ k, j = k + 1 := ⟨j - 1, by omega⟩
    exact h1.2 (by simpa using hy) (by omega)
theorem sameO {xs : List Sn} {p : Int} (h : chkS p xs) {i j : Nat} {x y : Sn} (hx : xs[i]? = some x) (hy : xs[j]? = some y) (e : x.1 = y.1) : i = j := by
  rcases Nat.lt_trichotomy i j with q | q | q
  · have := (sortS h hx).2 hy q; omega
  · exact q
  · have := (sortS h hy).2 hx q; omega
def FindR (xs : List Sn) (o : Int) (k : Nat) (f : Bool) : Prop :=
  k ≤ xs.length ∧ (f = true → ∃ x, xs[k]? = some x ∧ x.1 = o) ∧ (f = false → ∀ x ∈ xs, x.1 ≠ o) ∧ (0 ≤ o → o ≤ 59 → ∀ (i : Nat) (x : Sn), xs[i]? = some x → (i < k ↔ x.1 < o))
def ofF (xs : List Sn) (o : Int) : List Rg := match xs.find? (fun x => x.1 == o) with | some x => x.2 | none => []
def hasP (xs : List Sn) (o n : Int) : Prop := validS xs ∧ holdsP (ofF xs o) n
instance (xs : List Sn) (o n : Int) : Decidable (hasP xs o n) := by unfold hasP; infer_instance
theorem ofF_at {xs : List Sn} {o : Int} {i : Nat} {x : Sn} (hx : xs[i]? = some x) (he : x.1 = o) (h : ∀ (j : Nat) (y : Sn), j < i → xs[j]? = some y → y.1 ≠ o) : ofF xs o = x.2 := by
  unfold ofF
  have : xs.find? (fun x => x.1 == o) = some x := by
    rw [List.find?_eq_some_iff_getElem]
    obtain ⟨hi, e⟩ := List.getElem?_eq_some_iff.1 hx
    exact ⟨by simpa using he, i, hi, e, fun j hj => by have := h j _ hj (List.getElem?_eq_getElem (by omega)); simpa using this⟩
  rw [this]
theorem ofF_no {xs : List Sn} {o : Int} (h : ∀ x ∈ xs, x.1 ≠ o) : ofF xs o = [] := by
  unfold ofF
  have : xs.find? (fun x => x.1 == o) = none := by rw [List.find?_eq_none]; intro x hx; simpa using h x hx
  rw [this]
def BinI (xs : List Sn) (o : Int) (n lo hi : Nat) : Prop := lo ≤ hi ∧ hi ≤ n ∧ (0 ≤ o → o ≤ 59 → ∀ (i : Nat) (x : Sn), xs[i]? = some x → (i < lo → x.1 < o) ∧ (hi ≤ i → o ≤ x.1))
noncomputable def D5 : Cx := { P := Try.prog, inl := fun f => List.contains [43] f, tab := fun _ _ _ _ => False, isB := fun _ => false, tabB := fun _ _ _ _ _ => False, opt := { unroll := 0, carry := [9, 10] }, muts := mutsD }
theorem okD5 : CxOK D5 := CxOK.four (fun _ _ _ _ h => h.elim) (by kernel_rfl) (okInl (by kernel_rfl)) (fun _ _ _ _ _ h => h.elim)
def sh42 (b : Option Addr) (l c : Nat) (o : Int) (lo hi : Nat) (E : Mem) : St := ⟨[some (L b l c), some (I o), some (.clo 43 [] []), none, none, none, none, none, some (I (l : Nat)), some (I (lo : Nat)), some (I (hi : Nat)), none, none, none, none, none, none, none, none, none, none, none, none, none, none, none, none, none, none, none, none, none, none, none, none, none, none, none, none, none, none, none, none, none, none, none, none, none, none], [], E⟩
theorem rnd42 {b : Option Addr} {l c : Nat} {o : Int} {lo hi : Nat} {xs : List Sn} {K : KT} (hx : SS E b l c xs) (hc : chkS (-1) xs) (hl : l ≤ 1000) (ho : -9223372036854775808 ≤ o ∧ o ≤ 9223372036854775807) (hI : BinI xs o l lo hi) (h : ∀ (k : Nat) (f : Bool), FindR xs o k f → ∀ bx, K (.tup [I (k : Nat), B f]) bx E) (ih : ∀ (lo' hi' : Nat), BinI xs o l lo' hi' → hi' - lo' < hi - lo → Lp D5 8 Try.f42 [1, 1, 1, 0, 0] 0 K (sh42 b l c o lo' hi' E)) : Rnd D5 8 Try.f42 [1, 1, 1, 0, 0] 0 K (sh42 b l c o lo hi E) := by
  refine same (by kernel_rfl) (?_ : 
      bif decide ((↑lo : Int) < (↑hi : Int)) then
        req
          ((0 : Int) ≤
              IntKind.wrap IntKind.i64
                (Int.fdiv (IntKind.wrap IntKind.u64 (IntKind.wrap IntKind.i64 ((↑lo : Int) + (↑hi : Int)))) (2 : Int)) ∧
            IntKind.wrap IntKind.i64
                (Int.fdiv (IntKind.wrap IntKind.u64 (IntKind.wrap IntKind.i64 ((↑lo : Int) + (↑hi : Int)))) (2 : Int)) <
              (↑l : Int))
          ((∃ (cs : List Value), E (Value.slice b l c) cs ∧ (cs = [] → False)) ∧
            ∃ (n : Int),
              ∃ (base : Option Addr),
                ∃ (len : Nat),
                  ∃ (cap : Nat),
                    LoadE D5.P E 45 (Value.slice b l c)
                        (Int.toNat
                            (IntKind.wrap IntKind.i64
                              (Int.fdiv (IntKind.wrap IntKind.u64 (IntKind.wrap IntKind.i64 ((↑lo : Int) + (↑hi : Int))))
                                (2 : Int))) *
                          2)
                        (SV.agg [SV.raw (Value.int IntKind.i64 n), SV.raw (Value.slice base len cap)]) ∧
                      Mem.le E E ∧
                        bif decide (IntKind.wrap IntKind.i64 (n - o) < (0 : Int)) then
                          Lp D5 8 Try.f42 [1, 1, 1, 0, 0] 0 K
                            {
                              fr :=
                                [some (SV.raw (Value.slice b l c)), some (SV.raw (Value.int IntKind.i64 o)), some (SV.clo 43 [] []), none, none, none, none, none, some (SV.raw (Value.int IntKind.i64 (↑l : Int))), some (SV.raw (Value.int IntKind.i64 (IntKind.wrap IntKind.i64 (IntKind.wrap IntKind.i64 (Int.fdiv (IntKind.wrap IntKind.u64 (IntKind.wrap IntKind.i64 ((↑lo : Int) + (↑hi : Int)))) (2 : Int)) + (1 : Int))))), some (SV.raw (Value.int IntKind.i64 (↑hi : Int))), none, none, none, none, none, none, none, none, none, none, none, none, none, none, none, none, none, none, none, none, none, none, none, none, none, none, none, none, none, none, none, none, none, none, none, none, none, none],
                              bx :=
                                [{ elem := 45,
                                    row := Row.lst [SV.raw (Value.int IntKind.i64 n), SV.raw (Value.slice base len cap)],
                                    total := 2, own := true : Box }],
                              E := E : St }
                        else
                          Lp D5 8 Try.f42 [1, 1, 1, 0, 0] 0 K
                            {
                              fr :=
                                [some (SV.raw (Value.slice b l c)), some (SV.raw (Value.int IntKind.i64 o)), some (SV.clo 43 [] []), none, none, none, none, none, some (SV.raw (Value.int IntKind.i64 (↑l : Int))), some (SV.raw (Value.int IntKind.i64 (↑lo : Int))), some (SV.raw (Value.int IntKind.i64 (IntKind.wrap IntKind.i64 (Int.fdiv (IntKind.wrap IntKind.u64 (IntKind.wrap IntKind.i64 ((↑lo : Int) + (↑hi : Int)))) (2 : Int))))), none, none, none, none, none, none, none, none, none, none, none, none, none, none, none, none, none, none, none, none, none, none, none, none, none, none, none, none, none, none, none, none, none, none, none, none, none, none],
                              bx :=
                                [{ elem := 45,
                                    row := Row.lst [SV.raw (Value.int IntKind.i64 n), SV.raw (Value.slice base len cap)],
                                    total := 2, own := true : Box }],
                              E := E : St })
      else
        bif decide ((↑lo : Int) < (↑l : Int)) then
          req ((0 : Int) ≤ (↑lo : Int) ∧ (↑lo : Int) < (↑l : Int))
            ((∃ (cs : List Value), E (Value.slice b l c) cs ∧ (cs = [] → False)) ∧
              ∃ (n : Int),
                ∃ (base : Option Addr),
                  ∃ (len : Nat),
                    ∃ (cap : Nat),
                      LoadE D5.P E 45 (Value.slice b l c) (Int.toNat (↑lo : Int) * 2)
                          (SV.agg [SV.raw (Value.int IntKind.i64 n), SV.raw (Value.slice base len cap)]) ∧
                        Mem.le E E ∧
                          K
                            (SV.tup
                              [SV.raw (Value.int IntKind.i64 (↑lo : Int)),
                                SV.raw (Value.bool (bif true then IntKind.wrap IntKind.i64 (n - o) == (0 : Int) else false))])
                            [{ elem := 45,
                                row := Row.lst [SV.raw (Value.int IntKind.i64 n), SV.raw (Value.slice base len cap)],
                                total := 2, own := true : Box }]
                            E)
        else K (SV.tup [SV.raw (Value.int IntKind.i64 (↑lo : Int)), SV.raw (Value.bool false)]) [] E)
  have hn := hx.len
  have mul : ∀ (P : Prop), (0 ≤ o ∧ o ≤ 59 → P) → 0 ≤ o → o ≤ 59 → P := fun P h a b => h ⟨a, b⟩
  obtain ⟨h1, h2, h3⟩ := hI
  have wm : IntKind.wrap .i64 (Int.fdiv (IntKind.wrap .u64 (IntKind.wrap .i64 ((lo : Int) + (hi : Int)))) 2) = (((lo + hi) / 2 : Nat) : Int) := by
    rw [wrap_i64 (x := (lo : Int) + hi) (by omega), show IntKind.wrap .u64 ((lo : Int) + hi) = ((lo : Int) + hi) % 18446744073709551616 from rfl, Int.emod_eq_of_lt (by omega) (by omega), Int.fdiv_eq_ediv_of_nonneg _ (by omega), wrap_i64 (by omega)]; omega
  refine condC (fun g => ?_) (fun g => ?_)
  · have g : lo < hi := by simpa using g
    rw [wm]
    have m1 : (lo + hi) / 2 < hi := by omega
    have m2 : lo ≤ (lo + hi) / 2 := by omega
    generalize (lo + hi) / 2 = m at *
    obtain ⟨x, ex⟩ : ∃ x, xs[m]? = some x := ⟨_, List.getElem?_eq_getElem (by omega)⟩
    obtain ⟨e1, b', l', c', e2, e3⟩ := hx.load ex
    obtain ⟨x0, x1, _⟩ := okS_of hc ex
    rw [wrap_i64 (x := (m : Int) + 1) (by omega), show (m : Int) + 1 = ((m + 1 : Nat) : Int) by simp]
    refine req_intro (by omega) ⟨e1, x.1, b', l', c', e2, Mem.le_refl _, condC (fun a => ?_) (fun a => ?_)⟩
    · have a : IntKind.wrap .i64 (x.1 - o) < 0 := by simpa using a
      refine Lp_re [] (ih (m + 1) hi ⟨by omega, h2, fun a0 a1 i y hy => ⟨fun q => ?_, (h3 a0 a1 i y hy).2⟩⟩ (by omega)) ⟨⟨by simp, by simp, fun j h => absurd h (Nat.not_lt_zero _)⟩, rfl, (by repeat' first | exact True.intro | refine And.intro (Or.inl rfl) ?_ | refine And.intro (Or.inr ⟨rfl, rfl⟩) ?_), (by repeat' first | exact True.intro | exact rfl | exact Or.inl rfl | fail | refine And.intro ?_ ?_), (show List.Nodup [] from by decide), Mem.le_refl _⟩
      rw [wrap_i64 (by omega)] at a
      rcases Nat.lt_or_ge i m with q2 | q2
      · have := (sortS hc hy).2 ex q2; omega
      · have : i = m := by omega
        subst this; rw [ex] at hy; cases hy; omega
    · have a : ¬ IntKind.wrap .i64 (x.1 - o) < 0 := by simpa using a
      refine Lp_re [] (ih lo m ⟨m2, by omega, fun a0 a1 i y hy => ⟨(h3 a0 a1 i y hy).1, fun q => ?_⟩⟩ (by omega)) ⟨⟨by simp, by simp, fun j h => absurd h (Nat.not_lt_zero _)⟩, rfl, (by repeat' first | exact True.intro | refine And.intro (Or.inl rfl) ?_ | refine And.intro (Or.inr ⟨rfl, rfl⟩) ?_), (by repeat' first | exact True.intro | exact rfl | exact Or.inl rfl | fail | refine And.intro ?_ ?_), (show List.Nodup [] from by decide), Mem.le_refl _⟩
      rw [wrap_i64 (by omega)] at a
      rcases Nat.lt_or_ge m i with q2 | q2
      · have := (sortS hc ex).2 hy q2; omega
      · have : i = m := by omega
        subst this; rw [ex] at hy; cases hy; omega
  · have g : lo = hi := by simp at g; omega
    subst g
    have iff0 : 0 ≤ o → o ≤ 59 → ∀ (i : Nat) (x : Sn), xs[i]? = some x → (i < lo ↔ x.1 < o) := fun a0 a1 i y hy => by
      have := h3 a0 a1 i y hy
      constructor
      · exact this.1
      · intro q; rcases Nat.lt_or_ge i lo with q2 | q2
        · exact q2
        · have := this.2 q2; omega
    refine condC (fun q => ?_) (fun q => ?_)
    · have q : lo < l := by simpa using q
      obtain ⟨x, ex⟩ : ∃ x, xs[lo]? = some x := ⟨_, List.getElem?_eq_getElem (by omega)⟩
      obtain ⟨e1, b', l', c', e2, e3⟩ := hx.load ex
      obtain ⟨x0, x1, _⟩ := okS_of hc ex
      have hz : (IntKind.wrap .i64 (x.1 - o) == 0) = decide (x.1 = o) := by
        rw [IntKind.wrap_i64]
        by_cases e : x.1 = o
        · subst e; simp
        · rw [decide_eq_false e]; simp; omega
      refine req_intro (by omega) ⟨e1, x.1, b', l', c', e2, Mem.le_refl _, ?_⟩
      show K (SV.tup [I (lo : Nat), B (IntKind.wrap .i64 (x.1 - o) == 0)]) _ E
      rw [hz]
      refine h lo _ ⟨by omega, fun e => ⟨x, ex, of_decide_eq_true e⟩, fun e y hy => ?_, iff0⟩ _
      have e : ¬ x.1 = o := of_decide_eq_false e
      intro w
      obtain ⟨j, hj, rfl⟩ := List.getElem_of_mem hy
      have hj' := List.getElem?_eq_getElem hj
      obtain ⟨y0, y1, _⟩ := okS_of hc hj'
      have w1 := iff0 (by omega) (by omega) j _ hj'
      have w2 := iff0 (by omega) (by omega) lo _ ex
      rcases Nat.lt_trichotomy j lo with r | r | r
      · have := w1.1 r; omega
      · subst r; rw [hj'] at ex; cases ex; exact e w
      · have := (sortS hc ex).2 hj' r; omega
    · have q : ¬ lo < l := by simpa using q
      refine h lo false ⟨by omega, fun e => (by cases e), fun _ y hy => ?_, iff0⟩ _
      intro w
      obtain ⟨j, hj, rfl⟩ := List.getElem_of_mem hy
      have hj' := List.getElem?_eq_getElem hj
      obtain ⟨y0, y1, _⟩ := okS_of hc hj'
      have w1 := (iff0 (by omega) (by omega) j _ hj').1 (by omega)
      omega
theorem lp42 {b : Option Addr} {l c : Nat} {o : Int} {lo hi : Nat} {xs : List Sn} {K : KT} (hx : SS E b l c xs) (hc : chkS (-1) xs) (hl : l ≤ 1000) (ho : -9223372036854775808 ≤ o ∧ o ≤ 9223372036854775807) (hI : BinI xs o l lo hi) (h : ∀ (k : Nat) (f : Bool), FindR xs o k f → ∀ bx, K (.tup [I (k : Nat), B f]) bx E) : Lp D5 8 Try.f42 [1, 1, 1, 0, 0] 0 K (sh42 b l c o lo hi E) :=
  Lp_ind okD5 (fun x : {x : Nat × Nat // BinI xs o l x.1 x.2} => sh42 b l c o x.1.1 x.1.2 E) (fun x => x.1.2 - x.1.1) (fun x ih => rnd42 hx hc hl ho x.2 h fun lo' hi' q1 q2 => ih ⟨(lo', hi'), q1⟩ q2) ⟨(lo, hi), hI⟩
theorem cloB2 {K : KT} {k f : Value} {E : Mem} (h : K (.tup [.raw k, .raw f]) [] E) (bx : List Box) : cloK 0 K (.tup [.raw k, .raw f]) bx E :=
  cloK_intro [] h ⟨⟨Nat.zero_le _, Nat.zero_le _, fun j hj => absurd hj (Nat.not_lt_zero _)⟩, rfl, ⟨.inl rfl, trivial⟩, trivial, List.nodup_nil, Mem.le_refl _⟩
theorem ent42 {b : Option Addr} {l c : Nat} {o : Int} {xs : List Sn} {K : KT} (hx : SS E b l c xs) (hc : chkS (-1) xs) (hl : l ≤ 1000) (ho : -9223372036854775808 ≤ o ∧ o ≤ 9223372036854775807) (h : ∀ (k : Nat) (f : Bool), FindR xs o k f → ∀ bx, K (.tup [I (k : Nat), B f]) bx E) : EntB D5 8 Try.f42 [L b l c, I o, .clo 43 [] []] [] E K := by
  refine same (by kernel_rfl) (?_ : 
      Lp D5 8 Try.f42 [1, 1, 1, 0, 0] 0 K
        {
          fr :=
            [some (SV.raw (Value.slice b l c)), some (SV.raw (Value.int IntKind.i64 o)), some (SV.clo 43 [] []), none, none, none, some (SV.raw (Value.int IntKind.i64 (0 : Int))), some (SV.raw (Value.bool false)), some (SV.raw (Value.int IntKind.i64 (↑l : Int))), some (SV.raw (Value.int IntKind.i64 (0 : Int))), some (SV.raw (Value.int IntKind.i64 (↑l : Int))), none, some (SV.raw (Value.slice b l c)), some (SV.raw (Value.int IntKind.i64 (↑l : Int))), some (SV.raw (Value.int IntKind.i64 (↑l : Int))), none, none, none, none, none, none, none, none, none, none, none, none, none, none, none, none, none, none, none, none, none, none, none, none, none, none, none, none, none, none, none, none, none, none],
          bx := [], E := E : St })
  exact Lp_re [] (lp42 (lo := 0) (hi := l) hx hc hl ho ⟨Nat.zero_le _, Nat.le_refl _, fun a0 a1 i y hy => ⟨fun q => absurd q (Nat.not_lt_zero _), fun q => by have := (List.getElem?_eq_some_iff.1 hy).1; have := hx.len; omega⟩⟩ h) ⟨⟨by simp, by simp, fun j h => absurd h (Nat.not_lt_zero _)⟩, rfl, (by repeat' first | exact True.intro | refine And.intro (Or.inl rfl) ?_ | refine And.intro (Or.inr ⟨rfl, rfl⟩) ?_), (by repeat' first | exact True.intro | exact rfl | exact Or.inl rfl | fail | refine And.intro ?_ ?_), (show List.Nodup [] from by decide), Mem.le_refl _⟩
def tab42 : CallT := fun f args bx E K => match f, args, bx with
  | 42, [x, y, .clo 43 [] []], [] => dS x fun b l c => dI y fun o => ∃ xs : List Sn, SS E b l c xs ∧ chkS (-1) xs ∧ l ≤ 1000 ∧ (-9223372036854775808 ≤ o ∧ o ≤ 9223372036854775807) ∧ ∀ (k : Nat) (f : Bool), Hyp (FindR xs o k f) → K (.tup [I (k : Nat), B f]) [] E
  | _, _, _ => False
theorem tab42_ok (f : FuncId) (args : List SV) (bx : List Box) (E : Mem) (K : KT) (h : tab42 f args bx E K) : CallSem Try.prog f args bx E K := by
  unfold tab42 at h
  split at h
  case h_2 => exact h.elim
  obtain ⟨b, l, c, rfl, h⟩ := dS_elim h
  obtain ⟨o, rfl, xs, h1, h2, h3, h4, h5⟩ := dI_elim h
  exact CallSem.clo (EntB.sem okD5 Try.func42 ⟨by kernel_rfl, by kernel_rfl⟩ (ent42 h1 h2 h3 h4 (fun k f q bx => cloB2 (h5 k f q) bx)))
noncomputable def D6 : Cx := { P := Try.prog, inl := fun f => List.contains [] f, tab := fun _ _ _ _ => False, isB := fun f => f == 42, tabB := tab42, opt := { unroll := 0, carry := [] }, muts := mutsD }
theorem okD6 : CxOK D6 := CxOK.four (fun _ _ _ _ h => h.elim) (by kernel_rfl) (okInl (by kernel_rfl)) tab42_ok
theorem s27 {b1 : Option Addr} {l2 : Nat} {c3 : Nat} {a4 : Int} {xs : List Sn} (h0 : SS E b1 l2 c3 xs) (h1 : chkS (-1) xs) (h2 : l2 ≤ 1000) (h3 : (-9223372036854775808 ≤ a4 ∧ a4 ≤ 9223372036854775807)) (h : ∀ (k : Nat) (f : Bool), Hyp (FindR xs a4 k f) → K (.tup [I (k : Nat), B f]) E) :
    Ent D6 8 Try.f27 [L b1 l2 c3, I a4] E K := by
  refine same (by kernel_rfl) (?_ : 
      ∃ (xs : List Sn),
        SS E b1 l2 c3 xs ∧
          chkS (-1 : Int) xs ∧
            l2 ≤ 1000 ∧
              ((-9223372036854775808 : Int) ≤ a4 ∧ a4 ≤ (9223372036854775807 : Int)) ∧
                ∀ (k : Nat) (f : Bool),
                  Hyp (FindR xs a4 k f) →
                    Mem.le E E ∧ K (SV.tup [SV.raw (Value.int IntKind.i64 (↑k : Int)), SV.raw (Value.bool f)]) E)
  exact ⟨xs, h0, h1, h2, h3, fun k f q => ⟨Mem.le_refl _, h k f q⟩⟩
noncomputable def D7 : Cx := { P := Try.prog, inl := fun f => List.contains [] f, tab := fun _ _ _ _ => False, isB := fun _ => false, tabB := fun _ _ _ _ _ => False, opt := { unroll := 0, carry := [5] }, muts := mutsD }
theorem okD7 : CxOK D7 := CxOK.four (fun _ _ _ _ h => h.elim) (by kernel_rfl) (okInl (by kernel_rfl)) (fun _ _ _ _ _ h => h.elim)
def sh23 (b : Option Addr) (l : Nat) (c : Nat) (o : Int) (i : Nat) (E : Mem) : St := ⟨[some (L b l c), some (I o), none, none, none, some (I (i : Nat)), none, none, none, none, none, none, none, none, none, none, none, none, none, none, none, none, none, none], [], E⟩
theorem rnd23 {b : Option Addr} {l : Nat} {c : Nat} {o : Int} {i : Nat} {E0 : Mem} {xs : List Sn} (hx : SS E b l c xs) (hl : l ≤ 1000) (hi : i ≤ l ∧ ∀ (j : Nat) (y : Sn), j < i → xs[j]? = some y → y.1 ≠ o) (hE : Mem.le E0 E) (h : ∀ (b' : Option Addr) (l' c' : Nat), RS E b' l' c' (ofF xs o) → K (L b' l' c') E)
    (ih : (i < l ∧ ∀ (j : Nat) (y : Sn), j < i + 1 → xs[j]? = some y → y.1 ≠ o) → Lp D7 8 Try.f23 [1, 0, 1, 0] 0 (pubK E0 K) (sh23 b l c o (i + 1) E)) : Rnd D7 8 Try.f23 [1, 0, 1, 0] 0 (pubK E0 K) (sh23 b l c o i E) := by
  refine same (by kernel_rfl) (?_ : 
      bif decide ((↑i : Int) < (↑l : Int)) then
        req ((0 : Int) ≤ (↑i : Int) ∧ (↑i : Int) < (↑l : Int))
          ((∃ (cs : List Value), E (Value.slice b l c) cs ∧ (cs = [] → False)) ∧
            ∃ (n : Int),
              LoadE D7.P E 3 (Value.slice b l c) (Int.toNat (↑i : Int) * 2 + 0)
                  (SV.raw (Value.int IntKind.i64 n)) ∧
                bif n == o then
                  req ((0 : Int) ≤ (↑i : Int) ∧ (↑i : Int) < (↑l : Int))
                    ((∃ (cs : List Value), E (Value.slice b l c) cs ∧ (cs = [] → False)) ∧
                      ∃ (base : Option Addr),
                        ∃ (len : Nat),
                          ∃ (cap : Nat),
                            LoadE D7.P E 43 (Value.slice b l c) (Int.toNat (↑i : Int) * 2 + 1)
                                (SV.raw (Value.slice base len cap)) ∧
                              Mem.le E0 E ∧ K (SV.raw (Value.slice base len cap)) E)
                else
                  Lp D7 8 Try.f23 [1, 0, 1, 0] 0 (pubK E0 K)
                    {
                      fr :=
                        [some (SV.raw (Value.slice b l c)), some (SV.raw (Value.int IntKind.i64 o)), none, none, none, some (SV.raw (Value.int IntKind.i64 (IntKind.wrap IntKind.i64 ((↑i : Int) + (1 : Int))))), none, none, none, none, none, none, none, none, none, none, none, none, none, none, none, none, none, none],
                      bx := [], E := E : St })
      else Mem.le E0 E ∧ K (SV.raw (Value.slice none 0 0)) E)
  have hn := hx.len
  refine condC (fun g => ?_) (fun g => ?_)
  · have g : i < l := by simpa using g
    obtain ⟨x, ex⟩ : ∃ x, xs[i]? = some x := ⟨_, List.getElem?_eq_getElem (by omega)⟩
    have w1 : IntKind.wrap .i64 ((i : Int) + 1) = ((i + 1 : Nat) : Int) := by rw [wrap_i64 (by omega)]; simp
    rw [w1]
    refine req_intro (by omega) ⟨SL.nex SR_ok hx ex, x.1, hx.loadO ex, condC (fun a => ?_) (fun a => ?_)⟩
    · have a : x.1 = o := by simpa using a
      obtain ⟨b', l', c', e2, e3⟩ := hx.loadL ex
      rw [← ofF_at ex a hi.2] at e3
      exact req_intro (by omega) ⟨SL.nex SR_ok hx ex, b', l', c', e2, hE, h _ _ _ e3⟩
    · have a : ¬ x.1 = o := by simpa using a
      refine Lp_re [] (ih ⟨g, fun j y hj hy => ?_⟩) ⟨⟨by simp, by simp, fun j h => absurd h (Nat.not_lt_zero _)⟩, rfl, (by repeat' first | exact True.intro | refine And.intro (Or.inl rfl) ?_ | refine And.intro (Or.inr ⟨rfl, rfl⟩) ?_), (by repeat' first | exact True.intro | exact rfl | exact Or.inl rfl | fail | refine And.intro ?_ ?_), (show List.Nodup [] from by decide), Mem.le_refl _⟩
      by_cases e : j = i
      · subst e; rw [ex] at hy; cases hy; exact a
      · exact hi.2 j y (by omega) hy
  · have g : i = l := by simp at g; omega
    refine ⟨hE, h none 0 0 ?_⟩
    rw [ofF_no (fun x hx' => by
      obtain ⟨j, hj, rfl⟩ := List.getElem_of_mem hx'
      exact hi.2 j _ (by omega) (List.getElem?_eq_getElem hj))]
    exact SL.nil
theorem lp23 {b : Option Addr} {l : Nat} {c : Nat} {o : Int} {i : Nat} {E0 : Mem} {xs : List Sn} (hx : SS E b l c xs) (hl : l ≤ 1000) (hi : i ≤ l ∧ ∀ (j : Nat) (y : Sn), j < i → xs[j]? = some y → y.1 ≠ o) (hE : Mem.le E0 E) (h : ∀ (b' : Option Addr) (l' c' : Nat), RS E b' l' c' (ofF xs o) → K (L b' l' c') E) : Lp D7 8 Try.f23 [1, 0, 1, 0] 0 (pubK E0 K) (sh23 b l c o i E) :=
  Lp_ind okD7 (fun q0 : {i : Nat // i ≤ l ∧ ∀ (j : Nat) (y : Sn), j < i → xs[j]? = some y → y.1 ≠ o} => sh23 b l c o q0.1 E) (fun q0 => l - q0.1) (fun q0 ih => rnd23 hx hl q0.2 hE h fun g => ih ⟨q0.1 + 1, by omega, g.2⟩ (by show l - (_ + 1) < l - _; have := q0.2; omega)) ⟨i, hi⟩
theorem s23 {b1 : Option Addr} {l2 : Nat} {c3 : Nat} {a4 : Int} {xs : List Sn} (h0 : SS E b1 l2 c3 xs) (h1 : l2 ≤ 1000) (h : ∀ (b' : Option Addr) (l' c' : Nat), RS E b' l' c' (ofF xs a4) → K (L b' l' c') E) :
    Ent D7 8 Try.f23 [L b1 l2 c3, I a4] E K := by
  refine same (by kernel_rfl) (?_ : 
      Lp D7 8 Try.f23 [1, 0, 1, 0] 0 (pubK E K)
        {
          fr :=
            [some (SV.raw (Value.slice b1 l2 c3)), some (SV.raw (Value.int IntKind.i64 a4)), none, none, none, some (SV.raw (Value.int IntKind.i64 (0 : Int))), none, none, none, none, none, none, none, none, none, none, none, none, none, none, none, none, none, none],
          bx := [], E := E : St })
  exact Lp_re [] (lp23 (i := 0) h0 h1 ⟨Nat.zero_le _, fun j y hj => absurd hj (Nat.not_lt_zero _)⟩ (Mem.le_refl _) h) ⟨⟨by simp, by simp, fun j h => absurd h (Nat.not_lt_zero _)⟩, rfl, (by repeat' first | exact True.intro | refine And.intro (Or.inl rfl) ?_ | refine And.intro (Or.inr ⟨rfl, rfl⟩) ?_), (by repeat' first | exact True.intro | exact rfl | exact Or.inl rfl | fail | refine And.intro ?_ ?_), (show List.Nodup [] from by decide), Mem.le_refl _⟩
noncomputable def t15 : FuncId → List SV → Mem → (SV → Mem → Prop) → Prop := fun f args E K => match f with
  | 13 => d1 args fun x0 => dS x0 fun b1 l2 c3 => ∃ (xs : List Sn), SS E b1 l2 c3 xs ∧ Sm xs ∧ (K (B (decide (validS xs))) E)
  | 27 => d2 args fun x0 x1 => dS x0 fun b1 l2 c3 => dI x1 fun a4 => ∃ (xs : List Sn), SS E b1 l2 c3 xs ∧ chkS (-1) xs ∧ l2 ≤ 1000 ∧ (-9223372036854775808 ≤ a4 ∧ a4 ≤ 9223372036854775807) ∧ (∀ (k : Nat) (f : Bool), Hyp (FindR xs a4 k f) → K (.tup [I (k : Nat), B f]) E)
  | 30 => d2 args fun x0 x1 => dS x0 fun b1 l2 c3 => dI x1 fun a4 => ∃ (rs : List Rg), RS E b1 l2 c3 rs ∧ l2 ≤ 9223372036854775807 ∧ (K (B (decide (holdsP rs a4))) E)
  | _ => False
theorem t15_ok : TabOK Try.prog t15 := by
  intro f args E K h
  unfold t15 at h
  split at h
  · replace h := d1_elim h
    obtain ⟨x0, rfl, h⟩ := h
    replace h := dS_elim h
    obtain ⟨b1, l2, c3, rfl, h⟩ := h
    obtain ⟨xs, g0, g1, h⟩ := h
    exact TabSem.congr (valL_cons rfl rfl) (Ent.sem okC6 Try.func13 ⟨by kernel_rfl, by kernel_rfl⟩ rfl (s13 g0 g1 h))
  · replace h := d2_elim h
    obtain ⟨x0, x1, rfl, h⟩ := h
    replace h := dS_elim h
    obtain ⟨b1, l2, c3, rfl, h⟩ := h
    replace h := dI_elim h
    obtain ⟨a4, rfl, h⟩ := h
    obtain ⟨xs, g0, g1, g2, g3, h⟩ := h
    exact TabSem.congr (valL_cons rfl (valL_cons rfl rfl)) (Ent.sem okD6 Try.func27 ⟨by kernel_rfl, by kernel_rfl⟩ rfl (s27 g0 g1 g2 g3 h))
  · replace h := d2_elim h
    obtain ⟨x0, x1, rfl, h⟩ := h
    replace h := dS_elim h
    obtain ⟨b1, l2, c3, rfl, h⟩ := h
    replace h := dI_elim h
    obtain ⟨a4, rfl, h⟩ := h
    obtain ⟨rs, g0, g1, h⟩ := h
    exact TabSem.congr (valL_cons rfl (valL_cons rfl rfl)) (Ent.sem okD3 Try.func30 ⟨by kernel_rfl, by kernel_rfl⟩ rfl (s30 g0 g1 h))
  · exact h.elim
noncomputable def D8 : Cx := { P := Try.prog, inl := fun f => List.contains [] f, tab := t15, isB := fun _ => false, tabB := fun _ _ _ _ _ => False, opt := { unroll := 0, carry := [] }, muts := mutsD }
theorem okD8 : CxOK D8 := CxOK.four t15_ok (by kernel_rfl) (okInl (by kernel_rfl)) (fun _ _ _ _ _ h => h.elim)
theorem s15 {b1 : Option Addr} {l2 : Nat} {c3 : Nat} {a4 : Int} {a5 : Int} {xs : List Sn} (h0 : SS E b1 l2 c3 xs) (h1 : Sm xs) (h2 : (-9223372036854775808 ≤ a4 ∧ a4 ≤ 9223372036854775807)) (h : K (B (decide (hasP xs a4 a5))) E) :
    Ent D8 8 Try.f15 [L b1 l2 c3, I a4, I a5] E K := by
  refine same (by kernel_rfl) (?_ : 
      ∃ (xs : List Sn),
        SS E b1 l2 c3 xs ∧
          Sm xs ∧
            Mem.le E E ∧
              bif !decide (validS xs) then Mem.le E E ∧ K (SV.raw (Value.bool false)) E
              else
                ∃ (xs : List Sn),
                  SS E b1 l2 c3 xs ∧
                    chkS (-1 : Int) xs ∧
                      l2 ≤ 1000 ∧
                        ((-9223372036854775808 : Int) ≤ a4 ∧ a4 ≤ (9223372036854775807 : Int)) ∧
                          ∀ (k : Nat) (f : Bool),
                            Hyp (FindR xs a4 k f) →
                              Mem.le E E ∧
                                bif f then
                                  req ((0 : Int) ≤ (↑k : Int) ∧ (↑k : Int) < (↑l2 : Int))
                                    ((∃ (cs : List Value), E (Value.slice b1 l2 c3) cs ∧ (cs = [] → False)) ∧
                                      ∃ (base : Option Addr),
                                        ∃ (len : Nat),
                                          ∃ (cap : Nat),
                                            LoadE D8.P E 43 (Value.slice b1 l2 c3)
                                                (Int.toNat (↑k : Int) * 2 + 1)
                                                (SV.raw (Value.slice base len cap)) ∧
                                              ∃ (rs : List Rg),
                                                RS E base len cap rs ∧
                                                  len ≤ 9223372036854775807 ∧
                                                    Mem.le E E ∧
                                                      Mem.le E E ∧
                                                        K
                                                          (SV.raw
                                                            (Value.bool (bif true then decide (holdsP rs a5) else false)))
                                                          E)
                                else Mem.le E E ∧ K (SV.raw (Value.bool false)) E)
  have hn := h0.len
  refine ⟨xs, h0, h1, Mem.le_refl _, condC (fun g => ⟨Mem.le_refl _, ?_⟩) (fun g => ?_)⟩
  · have g : ¬ validS xs := by simpa using g
    rwa [decide_eq_false (fun q => g q.1)] at h
  have g : validS xs := by simpa using g
  have hb := h1.1
  refine ⟨xs, h0, g.2, by omega, h2, fun k f hf => ⟨Mem.le_refl _, ?_⟩⟩
  obtain ⟨f1, f2, f3, f4⟩ := hf
  refine condC (fun q => ?_) (fun q => ⟨Mem.le_refl _, ?_⟩)
  · obtain ⟨x, ex, hxo⟩ := f2 q
    have hk := (List.getElem?_eq_some_iff.1 ex).1
    obtain ⟨b', l', c', e2, e3⟩ := h0.loadL ex
    have e4 : ofF xs a4 = x.2 := ofF_at ex hxo (fun j y hj hy e => by
      have := sameO g.2 ex hy (by rw [hxo, e]); omega)
    refine req_intro (by omega) ⟨SL.nex SR_ok h0 ex, b', l', c', e2, x.2, e3, by rw [← e3.len]; exact h1.2 x (List.mem_of_getElem? ex), Mem.le_refl _, Mem.le_refl _, ?_⟩
    show K (B (decide (holdsP x.2 a5))) E
    have e5 : decide (hasP xs a4 a5) = decide (holdsP x.2 a5) := by rw [decide_eq_decide]; unfold hasP; rw [e4]; simp [g]
    rwa [e5] at h
  · rwa [decide_eq_false (fun w => by
      have := w.2
      rw [ofF_no (f3 q)] at this
      simp [holdsP] at this)] at h
noncomputable def t16 : FuncId → List SV → Mem → (SV → Mem → Prop) → Prop := fun f args E K => match f with
  | 14 => d1 args fun x0 => dS x0 fun b1 l2 c3 => ∃ (xs : List Sn), SS E b1 l2 c3 xs ∧ Sm xs ∧ (K (B (decide (validS xs))) E)
  | 23 => d2 args fun x0 x1 => dS x0 fun b1 l2 c3 => dI x1 fun a4 => ∃ (xs : List Sn), SS E b1 l2 c3 xs ∧ l2 ≤ 1000 ∧ (∀ (b' : Option Addr) (l' c' : Nat), RS E b' l' c' (ofF xs a4) → K (L b' l' c') E)
  | 41 => d2 args fun x0 x1 => dS x0 fun b1 l2 c3 => dI x1 fun a4 => ∃ (rs : List Rg), RS E b1 l2 c3 rs ∧ l2 ≤ 9223372036854775807 ∧ (K (B (decide (holdsP rs a4))) E)
  | _ => False
theorem t16_ok : TabOK Try.prog t16 := by
  intro f args E K h
  unfold t16 at h
  split at h
  · replace h := d1_elim h
    obtain ⟨x0, rfl, h⟩ := h
    replace h := dS_elim h
    obtain ⟨b1, l2, c3, rfl, h⟩ := h
    obtain ⟨xs, g0, g1, h⟩ := h
    exact TabSem.congr (valL_cons rfl rfl) (Ent.sem okC7 Try.func14 ⟨by kernel_rfl, by kernel_rfl⟩ rfl (s14 g0 g1 h))
  · replace h := d2_elim h
    obtain ⟨x0, x1, rfl, h⟩ := h
    replace h := dS_elim h
    obtain ⟨b1, l2, c3, rfl, h⟩ := h
    replace h := dI_elim h
    obtain ⟨a4, rfl, h⟩ := h
    obtain ⟨xs, g0, g1, h⟩ := h
    exact TabSem.congr (valL_cons rfl (valL_cons rfl rfl)) (Ent.sem okD7 Try.func23 ⟨by kernel_rfl, by kernel_rfl⟩ rfl (s23 g0 g1 h))
  · replace h := d2_elim h
    obtain ⟨x0, x1, rfl, h⟩ := h
    replace h := dS_elim h
    obtain ⟨b1, l2, c3, rfl, h⟩ := h
    replace h := dI_elim h
    obtain ⟨a4, rfl, h⟩ := h
    obtain ⟨rs, g0, g1, h⟩ := h
    exact TabSem.congr (valL_cons rfl (valL_cons rfl rfl)) (Ent.sem okD4 Try.func41 ⟨by kernel_rfl, by kernel_rfl⟩ rfl (s41 g0 g1 h))
  · exact h.elim
noncomputable def D9 : Cx := { P := Try.prog, inl := fun f => List.contains [] f, tab := t16, isB := fun _ => false, tabB := fun _ _ _ _ _ => False, opt := { unroll := 0, carry := [] }, muts := mutsD }
theorem okD9 : CxOK D9 := CxOK.four t16_ok (by kernel_rfl) (okInl (by kernel_rfl)) (fun _ _ _ _ _ h => h.elim)
theorem s16 {b1 : Option Addr} {l2 : Nat} {c3 : Nat} {a4 : Int} {a5 : Int} {xs : List Sn} (h0 : SS E b1 l2 c3 xs) (h1 : Sm xs) (h : K (B (decide (hasP xs a4 a5))) E) :
    Ent D9 8 Try.f16 [L b1 l2 c3, I a4, I a5] E K := by
  refine same (by kernel_rfl) (?_ : 
      ∃ (xs : List Sn),
        SS E b1 l2 c3 xs ∧
          Sm xs ∧
            Mem.le E E ∧
              bif decide (validS xs) then
                ∃ (xs : List Sn),
                  SS E b1 l2 c3 xs ∧
                    l2 ≤ 1000 ∧
                      ∀ (b' : Option Addr) (l' c' : Nat),
                        RS E b' l' c' (ofF xs a4) →
                          Mem.le E E ∧
                            ∃ (rs : List Rg),
                              RS E b' l' c' rs ∧
                                l' ≤ 9223372036854775807 ∧
                                  Mem.le E E ∧
                                    Mem.le E E ∧ K (SV.raw (Value.bool (bif true then decide (holdsP rs a5) else false))) E
              else Mem.le E E ∧ K (SV.raw (Value.bool false)) E)
  have hn := h0.len
  have hb := h1.1
  refine ⟨xs, h0, h1, Mem.le_refl _, condC (fun g => ⟨xs, h0, by omega, fun b' l' c' hr => ⟨Mem.le_refl _, ofF xs a4, hr, ?_, Mem.le_refl _, Mem.le_refl _, ?_⟩⟩) (fun g => ⟨Mem.le_refl _, ?_⟩)⟩
  · rw [← hr.len]
    unfold ofF
    cases e : xs.find? (fun x => x.1 == a4) with
    | none => simp
    | some x => exact h1.2 x (List.mem_of_find?_eq_some e)
  · have g : validS xs := by simpa using g
    show K (B (decide (holdsP (ofF xs a4) a5))) E
    have e5 : decide (hasP xs a4 a5) = decide (holdsP (ofF xs a4) a5) := by rw [decide_eq_decide]; unfold hasP; simp [g]
    rwa [e5] at h
  · have g : ¬ validS xs := by simpa using g
    rwa [decide_eq_false (fun q => g q.1)] at h

end Go.Proofs.Ytjibgfihfbdcaaa.SeenOwn
