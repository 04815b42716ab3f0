/- The flash package: what its functions answer. -/
import Derived.Test.YthgdbpnddnbbdaaFlash9
namespace Go.Proofs.Ythgdbpnddnbbdaa.FlashOwn
open Go Go.Sx
set_option maxRecDepth 100000
set_option maxHeartbeats 4000000
set_option linter.unusedVariables false
set_option linter.unusedSimpArgs false
variable {E : Mem} {K : SV → Mem → Prop}

def oneF (zs ys : List Int) : Nat → Int × Int
  | 0 => (0, -1)
  | i + 1 => if i < ys.length ∧ zs.getD i 0 ≠ ys.getD i 0 then ((oneF zs ys i).1 + 1, i) else oneF zs ys i
def lastF (ms : List (Int × List Int)) (e n : Int) : (Int × List Int) × Bool := if e ≠ 0 ∨ (ms.length : Int) ≠ n ∨ n = 0 then ((0, []), false) else (ms.getD (n - 1).toNat (0, []), true)
def doneF (s : Int) (zs : List Int) (a : Int) (ds : List Int) : (Int × List Int) × Bool := lastF (progF s zs a ds).1 (progF s zs a ds).2 (ds.length + 1)
theorem oneF_bd (zs ys : List Int) : ∀ i : Nat, 0 ≤ (oneF zs ys i).1 ∧ (oneF zs ys i).1 ≤ i ∧ -1 ≤ (oneF zs ys i).2 ∧ (oneF zs ys i).2 < i
  | 0 => by simp [oneF]
  | i + 1 => by
    have := oneF_bd zs ys i
    unfold oneF
    split
    · simp only; omega
    · omega
theorem FL.load {b : Option Addr} {n c : Nat} {ms : List (Int × List Int)} (h : FL E b n c ms) {i : Nat} {m : Int × List Int} (hm : ms[i]? = some m) :
    (∃ cs, E (.slice b n c) cs ∧ (cs = [] → False)) ∧ ∃ (b' : Option Addr) (l' c' : Nat), LoadE Try.prog E 24 (.slice b n c) (i * 2) (.agg [I m.1, L b' l' c']) ∧ Bs E b' l' c' m.2 := by
  obtain ⟨rs, h1, h2, h3, h4, h5⟩ := h
  have hi : i < ms.length := (List.getElem?_eq_some_iff.1 hm).1
  have hE := h4.resolve_left (by omega)
  obtain ⟨r, er⟩ : ∃ r, rs[i]? = some r := ⟨_, List.getElem?_eq_getElem (by rw [h1.1]; exact hi)⟩
  obtain ⟨q1, q2⟩ := h1.2 i r m er hm
  refine ⟨⟨_, hE, fun e => ?_⟩, r.2.1, r.2.2.1, r.2.2.2, ⟨_, hE, ?_⟩, q2⟩
  · have := rows_len rs
    rw [e, h1.1] at this
    simp at this; omega
  · rw [← q1]; exact loadW_row er
theorem FL.len {b : Option Addr} {n c : Nat} {ms : List (Int × List Int)} (h : FL E b n c ms) : ms.length = n := by
  obtain ⟨rs, h1, h2, _⟩ := h; exact h2
noncomputable def tab13 : FuncId → List SV → Mem → (SV → Mem → Prop) → Prop := fun f args E K => match f with
  | 13 => d2 args fun x0 x1 => dC x0 fun l1 => d2 l1 fun x0_0 x0_1 => dI x0_0 fun a1 => dS x0_1 fun b2 l3 c4 => dC x1 fun l2 => d2 l2 fun x1_0 x1_1 => dI x1_0 fun a5 => dS x1_1 fun b6 l7 c8 => ∃ (zs : List Int) (ys : List Int), Bs E b2 l3 c4 zs ∧ Bs E b6 l7 c8 ys ∧ l3 ≤ 100000 ∧ (K (B (decide (a1 = a5 ∧ zs = ys))) E)
  | _ => False
theorem tab13_ok : TabOK Try.prog tab13 := by
  intro f args E K h
  unfold tab13 at h
  split at h
  · replace h := d2_elim h
    obtain ⟨x0, x1, rfl, h⟩ := h
    replace h := dC_elim h
    obtain ⟨l1, hl1, h⟩ := h
    replace h := d2_elim h
    obtain ⟨x0_0, x0_1, rfl, h⟩ := h
    replace h := dI_elim h
    obtain ⟨a1, rfl, h⟩ := h
    replace h := dS_elim h
    obtain ⟨b2, l3, c4, rfl, h⟩ := h
    replace h := dC_elim h
    obtain ⟨l2, hl2, h⟩ := h
    replace h := d2_elim h
    obtain ⟨x1_0, x1_1, rfl, h⟩ := h
    replace h := dI_elim h
    obtain ⟨a5, rfl, h⟩ := h
    replace h := dS_elim h
    obtain ⟨b6, l7, c8, rfl, h⟩ := h
    obtain ⟨zs, ys, g0, g1, g2, h⟩ := h
    exact TabSem.congr (valL_cons (asCells_val hl1) (valL_cons (asCells_val hl2) rfl)) (Ent.sem okFA Try.func13 ⟨by kernel_rfl, by kernel_rfl⟩ rfl (s13 g0 g1 g2 h))
  · exact h.elim
noncomputable def FE : Cx := { P := Try.prog, inl := fun f => List.contains [] f, tab := tab13, isB := fun _ => false, tabB := fun _ _ _ _ _ => False, opt := { unroll := 0, carry := [5] }, muts := mutsD }
theorem okFE : CxOK FE := CxOK.four tab13_ok (by kernel_rfl) (okInl (by kernel_rfl)) (fun _ _ _ _ _ h => h.elim)

def sh20 (b d : Option Addr) (n c m e i : Nat) (E : Mem) : St := ⟨[some (L b n c), some (L d m e), none, none, none, some (I (i : Nat))] ++ List.replicate 21 none, [], E⟩
theorem take_get {α : Type} {l : List α} {i : Nat} {x : α} (h : l[i]? = some x) : l.take (i + 1) = l.take i ++ [x] := by
  obtain ⟨h1, h2⟩ := List.getElem?_eq_some_iff.1 h
  rw [List.take_succ_eq_append_getElem h1, h2]
theorem rnd20 {b d : Option Addr} {n c m e i : Nat} {E0 : Mem} {K : SV → Mem → Prop} {ms ns : List (Int × List Int)} (h0 : FL E b n c ms) (h1 : FL E d m e ns) (h2 : ∀ m ∈ ms, m.2.length ≤ 100000) (h3 : n ≤ 100000) (hl : n = m) (hi : i ≤ n) (hp : ms.take i = ns.take i) (hE : Mem.le E0 E)
    (h : K (B (decide (ms = ns))) E) (ih : i < n → ms.take (i + 1) = ns.take (i + 1) → Lp FE 8 Try.f20 [1, 1, 0, 1, 0] 0 (pubK E0 K) (sh20 b d n c m e (i + 1) E)) : Rnd FE 8 Try.f20 [1, 1, 0, 1, 0] 0 (pubK E0 K) (sh20 b d n c m e i E) := by
  refine same (by kernel_rfl) (?_ : 
      bif decide ((↑i : Int) < (↑n : Int)) then
        req ((0 : Int) ≤ (↑i : Int) ∧ (↑i : Int) < (↑n : Int))
          ((∃ (cs : List Value), E (Value.slice b n c) cs ∧ (cs = [] → False)) ∧
            ∃ (n_1 : Int),
              ∃ (base : Option Addr),
                ∃ (len : Nat),
                  ∃ (cap : Nat),
                    LoadE FE.P E 24 (Value.slice b n c) (Int.toNat (↑i : Int) * 2)
                        (SV.agg [SV.raw (Value.int IntKind.i64 n_1), SV.raw (Value.slice base len cap)]) ∧
                      req ((0 : Int) ≤ (↑i : Int) ∧ (↑i : Int) < (↑m : Int))
                        ((∃ (cs : List Value), E (Value.slice d m e) cs ∧ (cs = [] → False)) ∧
                          ∃ (n_2 : Int),
                            ∃ (base_1 : Option Addr),
                              ∃ (len_1 : Nat),
                                ∃ (cap_1 : Nat),
                                  LoadE FE.P E 24 (Value.slice d m e) (Int.toNat (↑i : Int) * 2)
                                      (SV.agg [SV.raw (Value.int IntKind.i64 n_2), SV.raw (Value.slice base_1 len_1 cap_1)]) ∧
                                    ∃ (zs : List Int),
                                      ∃ (ys : List Int),
                                        Bs E base len cap zs ∧
                                          Bs E base_1 len_1 cap_1 ys ∧
                                            len ≤ 100000 ∧
                                              Mem.le E E ∧
                                                bif !decide (n_1 = n_2 ∧ zs = ys) then
                                                  Mem.le E0 E ∧ K (SV.raw (Value.bool false)) E
                                                else
                                                  Lp FE 8 Try.f20
                                                    [1, 1, 0, 1, 0] 0
                                                    (pubK E0 K)
                                                    {
                                                      fr :=
                                                        [some (SV.raw (Value.slice b n c)), some (SV.raw (Value.slice d m e)),
                                                          none, none, none,
                                                          some
                                                            (SV.raw
                                                              (Value.int IntKind.i64
                                                                (IntKind.wrap IntKind.i64 ((↑i : Int) + (1 : Int))))),
                                                          none, none, none, none, none, none, none, none, none, none, none,
                                                          none, none, none, none, none, none, none, none, none, none],
                                                      bx := [], E := E : St }))
      else Mem.le E0 E ∧ K (SV.raw (Value.bool true)) E)
  have z0 := h0.len
  have z1 := h1.len
  refine condC (fun g => ?_) (fun g => ?_)
  · have g : i < n := by simpa using g
    obtain ⟨x, ex⟩ : ∃ x, ms[i]? = some x := ⟨_, List.getElem?_eq_getElem (by omega)⟩
    obtain ⟨y, ey⟩ : ∃ y, ns[i]? = some y := ⟨_, List.getElem?_eq_getElem (by omega)⟩
    obtain ⟨p1, b1, l1, c1, p2, p3⟩ := h0.load ex
    obtain ⟨q1, b2, l2, c2, q2, q3⟩ := h1.load ey
    refine req_intro (by omega) ⟨p1, x.1, b1, l1, c1, p2, req_intro (by omega) ⟨q1, y.1, b2, l2, c2, q2, x.2, y.2, p3, q3, by rw [← p3.2.1]; exact h2 x (List.mem_of_getElem? ex), Mem.le_refl _, condC (fun q => ?_) (fun q => ?_)⟩⟩
    · have q : ¬ (x.1 = y.1 ∧ x.2 = y.2) := of_decide_eq_false (by simpa only [Bool.not_eq_true'] using q)
      rw [decide_eq_false (fun e => by subst e; rw [ex] at ey; cases ey; exact q ⟨rfl, rfl⟩)] at h
      exact ⟨hE, h⟩
    · have q : x.1 = y.1 ∧ x.2 = y.2 := of_decide_eq_true (by simpa only [Bool.not_eq_false'] using q)
      rw [wrap_i64 (by omega), show (i : Int) + 1 = ((i + 1 : Nat) : Int) by simp]
      exact Lp_re [] (ih g (by rw [take_get ex, take_get ey, hp, show x = y from Prod.ext q.1 q.2])) ⟨⟨by simp, by simp, fun j h => absurd h (Nat.not_lt_zero _)⟩, rfl, (by repeat' first | exact True.intro | refine And.intro (Or.inl rfl) ?_), (by repeat' first | exact True.intro | exact rfl | exact Or.inl rfl | fail | refine And.intro ?_ ?_), (show List.Nodup [] from by decide), Mem.le_refl _⟩
  · have g : i = n := by simp at g; omega
    subst g
    rw [decide_eq_true (by rw [← List.take_of_length_le (l := ms) (i := i) (by omega), hp, List.take_of_length_le (by omega)])] at h
    exact ⟨hE, h⟩
theorem lp20 {b d : Option Addr} {n c m e i : Nat} {E0 : Mem} {K : SV → Mem → Prop} {ms ns : List (Int × List Int)} (h0 : FL E b n c ms) (h1 : FL E d m e ns) (h2 : ∀ m ∈ ms, m.2.length ≤ 100000) (h3 : n ≤ 100000) (hl : n = m) (hi : i ≤ n) (hp : ms.take i = ns.take i) (hE : Mem.le E0 E)
    (h : K (B (decide (ms = ns))) E) : Lp FE 8 Try.f20 [1, 1, 0, 1, 0] 0 (pubK E0 K) (sh20 b d n c m e i E) :=
  Lp_ind okFE (fun x : {i : Nat // i ≤ n ∧ ms.take i = ns.take i} => sh20 b d n c m e x.1 E) (fun x => n - x.1) (fun x ih => rnd20 h0 h1 h2 h3 hl x.2.1 x.2.2 hE h fun g q => ih ⟨x.1 + 1, by omega, q⟩ (by show n - (_ + 1) < n - _; omega)) ⟨i, hi, hp⟩
theorem s20 {b1 : Option Addr} {l2 : Nat} {c3 : Nat} {b4 : Option Addr} {l5 : Nat} {c6 : Nat} {ms : List (Int × List Int)} {ns : List (Int × List Int)} (h0 : FL E b1 l2 c3 ms) (h1 : FL E b4 l5 c6 ns) (h2 : (∀ m ∈ ms, m.2.length ≤ 100000)) (h3 : l2 ≤ 100000) (h : K (B (decide (ms = ns))) E) :
    Ent FE 8 Try.f20 [L b1 l2 c3, L b4 l5 c6] E K := by
  refine same (by kernel_rfl) (?_ : 
      bif (↑l2 : Int) != (↑l5 : Int) then Mem.le E E ∧ K (SV.raw (Value.bool false)) E
      else
        Lp FE 8 Try.f20 [1, 1, 0, 1, 0] 0 (pubK E K)
          {
            fr :=
              [some (SV.raw (Value.slice b1 l2 c3)), some (SV.raw (Value.slice b4 l5 c6)), none, none, none,
                some (SV.raw (Value.int IntKind.i64 (0 : Int))), some (SV.raw (Value.slice b1 l2 c3)),
                some (SV.raw (Value.int IntKind.i64 (↑l2 : Int))), some (SV.raw (Value.slice b4 l5 c6)),
                some (SV.raw (Value.int IntKind.i64 (↑l5 : Int))), some (SV.raw (Value.bool ((↑l2 : Int) != (↑l5 : Int)))),
                none, none, none, none, none, none, none, none, none, none, none, none, none, none, none, none],
            bx := [], E := E : St })
  have z0 := h0.len
  have z1 := h1.len
  refine condC (fun g => ?_) (fun g => ?_)
  · have g : ¬ l2 = l5 := by simp at g; omega
    rw [decide_eq_false (fun q => g (by rw [← z0, ← z1, q]))] at h
    exact ⟨Mem.le_refl _, h⟩
  have g : l2 = l5 := by simp at g; omega
  exact Lp_re [] (lp20 (i := 0) h0 h1 h2 h3 g (Nat.zero_le _) rfl (Mem.le_refl _) h) ⟨⟨by simp, by simp, fun j h => absurd h (Nat.not_lt_zero _)⟩, rfl, (by repeat' first | exact True.intro | refine And.intro (Or.inl rfl) ?_), (by repeat' first | exact True.intro | exact rfl | exact Or.inl rfl | fail | refine And.intro ?_ ?_), (show List.Nodup [] from by decide), Mem.le_refl _⟩
noncomputable def FF : Cx := { P := Try.prog, inl := fun f => List.contains [] f, tab := fun _ _ _ _ => False, isB := fun _ => false, tabB := fun _ _ _ _ _ => False, opt := { unroll := 0, carry := [6, 7, 10, 11] }, muts := mutsD }
theorem okFF : CxOK FF := CxOK.four (fun _ _ _ _ h => h.elim) (by kernel_rfl) (okInl (by kernel_rfl)) (fun _ _ _ _ _ h => h.elim)

def sh21 (b d : Option Addr) (l c m e i : Nat) (zs ys : List Int) (E : Mem) : St := ⟨[some (L b l c), some (L d m e), none, none, none, none, some (I (oneF zs ys i).1), some (I (oneF zs ys i).2), none, none, some (I (l : Nat)), some (I (i : Nat))] ++ List.replicate 23 none, [], E⟩
theorem rnd21 {b d : Option Addr} {l c m e i : Nat} {E0 : Mem} {K : SV → Mem → Prop} {zs ys : List Int} (h0 : Bs E b l c zs) (h1 : Bs E d m e ys) (h2 : l ≤ 100000) (hi : i ≤ l) (hE : Mem.le E0 E) (h : K (.tup [I (oneF zs ys l).1, I (oneF zs ys l).2]) E)
    (ih : i < l → Lp FF 8 Try.f21 [1, 1, 0, 1, 0] 0 (pubK E0 K) (sh21 b d l c m e (i + 1) zs ys E)) : Rnd FF 8 Try.f21 [1, 1, 0, 1, 0] 0 (pubK E0 K) (sh21 b d l c m e i zs ys E) := by
  refine same (by kernel_rfl) (?_ : 
      bif decide ((↑i : Int) < (↑l : Int)) then
        bif decide ((↑i : Int) < (↑m : Int)) then
          req ((0 : Int) ≤ (↑i : Int) ∧ (↑i : Int) < (↑l : Int))
            ((∃ (cs : List Value), E (Value.slice b l c) cs ∧ (cs = [] → False)) ∧
              ∃ (n : Int),
                LoadE FF.P E 5 (Value.slice b l c) (Int.toNat (↑i : Int) * 1)
                    (SV.raw (Value.int IntKind.u8 n)) ∧
                  req ((0 : Int) ≤ (↑i : Int) ∧ (↑i : Int) < (↑m : Int))
                    ((∃ (cs : List Value), E (Value.slice d m e) cs ∧ (cs = [] → False)) ∧
                      ∃ (n_1 : Int),
                        LoadE FF.P E 5 (Value.slice d m e) (Int.toNat (↑i : Int) * 1)
                            (SV.raw (Value.int IntKind.u8 n_1)) ∧
                          bif bif true then n != n_1 else false then
                            Lp FF 8 Try.f21 [1, 1, 0, 1, 0] 0
                              (pubK E0 K)
                              {
                                fr :=
                                  [some (SV.raw (Value.slice b l c)), some (SV.raw (Value.slice d m e)), none, none, none,
                                    none,
                                    some
                                      (SV.raw
                                        (Value.int IntKind.i64 (IntKind.wrap IntKind.i64 ((oneF zs ys i).fst + (1 : Int))))),
                                    some (SV.raw (Value.int IntKind.i64 (↑i : Int))), none, none,
                                    some (SV.raw (Value.int IntKind.i64 (↑l : Int))),
                                    some (SV.raw (Value.int IntKind.i64 (IntKind.wrap IntKind.i64 ((↑i : Int) + (1 : Int))))),
                                    none, none, none, none, none, none, none, none, none, none, none, none, none, none, none,
                                    none, none, none, none, none, none, none, none],
                                bx := [], E := E : St }
                          else
                            Lp FF 8 Try.f21 [1, 1, 0, 1, 0] 0
                              (pubK E0 K)
                              {
                                fr :=
                                  [some (SV.raw (Value.slice b l c)), some (SV.raw (Value.slice d m e)), none, none, none,
                                    none, some (SV.raw (Value.int IntKind.i64 (oneF zs ys i).fst)),
                                    some (SV.raw (Value.int IntKind.i64 (oneF zs ys i).snd)), none, none,
                                    some (SV.raw (Value.int IntKind.i64 (↑l : Int))),
                                    some (SV.raw (Value.int IntKind.i64 (IntKind.wrap IntKind.i64 ((↑i : Int) + (1 : Int))))),
                                    none, none, none, none, none, none, none, none, none, none, none, none, none, none, none,
                                    none, none, none, none, none, none, none, none],
                                bx := [], E := E : St }))
        else
          Lp FF 8 Try.f21 [1, 1, 0, 1, 0] 0 (pubK E0 K)
            {
              fr :=
                [some (SV.raw (Value.slice b l c)), some (SV.raw (Value.slice d m e)), none, none, none, none,
                  some (SV.raw (Value.int IntKind.i64 (oneF zs ys i).fst)),
                  some (SV.raw (Value.int IntKind.i64 (oneF zs ys i).snd)), none, none,
                  some (SV.raw (Value.int IntKind.i64 (↑l : Int))),
                  some (SV.raw (Value.int IntKind.i64 (IntKind.wrap IntKind.i64 ((↑i : Int) + (1 : Int))))), none, none, none,
                  none, none, none, none, none, none, none, none, none, none, none, none, none, none, none, none, none, none,
                  none, none],
              bx := [], E := E : St }
      else
        Mem.le E0 E ∧
          K (SV.tup [SV.raw (Value.int IntKind.i64 (oneF zs ys i).fst), SV.raw (Value.int IntKind.i64 (oneF zs ys i).snd)]) E)
  have z0 := h0.2.1
  have z1 := h1.2.1
  obtain ⟨o1, o2, o3, o4⟩ := oneF_bd zs ys i
  have st : oneF zs ys (i + 1) = if i < ys.length ∧ zs.getD i 0 ≠ ys.getD i 0 then ((oneF zs ys i).1 + 1, (i : Int)) else oneF zs ys i := rfl
  refine condC (fun g => ?_) (fun g => ?_)
  · have g : i < l := by simpa using g
    have nx : Lp FF 8 Try.f21 [1, 1, 0, 1, 0] 0 (pubK E0 K) (sh21 b d l c m e (i + 1) zs ys E) := ih g
    refine condC (fun g2 => ?_) (fun g2 => ?_)
    · have g2 : i < m := by simpa using g2
      refine req_intro (by omega) ⟨h0.ne g, zs.getD i 0, h0.load (i := i) rfl g, req_intro (by omega) ⟨h1.ne (i := i) g2, ys.getD i 0, h1.load (i := i) rfl g2, condC (fun q => ?_) (fun q => ?_)⟩⟩
      · have q : ¬ zs.getD i 0 = ys.getD i 0 := by simpa using q
        rw [if_pos ⟨by omega, q⟩] at st
        rw [wrap_i64 (x := (i : Int) + 1) (by omega), wrap_i64 (x := (oneF zs ys i).1 + 1) (by omega), show (i : Int) + 1 = ((i + 1 : Nat) : Int) by simp, show (oneF zs ys i).1 + 1 = (oneF zs ys (i + 1)).1 by rw [st], show ((i : Nat) : Int) = (oneF zs ys (i + 1)).2 by rw [st]]
        exact Lp_re [] nx ⟨⟨by simp, by simp, fun j h => absurd h (Nat.not_lt_zero _)⟩, rfl, (by repeat' first | exact True.intro | refine And.intro (Or.inl rfl) ?_), (by repeat' first | exact True.intro | exact rfl | exact Or.inl rfl | fail | refine And.intro ?_ ?_), (show List.Nodup [] from by decide), Mem.le_refl _⟩
      · have q : zs.getD i 0 = ys.getD i 0 := by simpa using q
        rw [if_neg (fun w => w.2 q)] at st
        rw [wrap_i64 (x := (i : Int) + 1) (by omega), show (i : Int) + 1 = ((i + 1 : Nat) : Int) by simp, ← st]
        exact Lp_re [] nx ⟨⟨by simp, by simp, fun j h => absurd h (Nat.not_lt_zero _)⟩, rfl, (by repeat' first | exact True.intro | refine And.intro (Or.inl rfl) ?_), (by repeat' first | exact True.intro | exact rfl | exact Or.inl rfl | fail | refine And.intro ?_ ?_), (show List.Nodup [] from by decide), Mem.le_refl _⟩
    · have g2 : ¬ i < m := by simpa using g2
      rw [if_neg (fun w => g2 (by omega))] at st
      rw [wrap_i64 (x := (i : Int) + 1) (by omega), show (i : Int) + 1 = ((i + 1 : Nat) : Int) by simp, ← st]
      exact Lp_re [] nx ⟨⟨by simp, by simp, fun j h => absurd h (Nat.not_lt_zero _)⟩, rfl, (by repeat' first | exact True.intro | refine And.intro (Or.inl rfl) ?_), (by repeat' first | exact True.intro | exact rfl | exact Or.inl rfl | fail | refine And.intro ?_ ?_), (show List.Nodup [] from by decide), Mem.le_refl _⟩
  · have g : i = l := by simp at g; omega
    subst g
    exact ⟨hE, h⟩
theorem lp21 {b d : Option Addr} {l c m e i : Nat} {E0 : Mem} {K : SV → Mem → Prop} {zs ys : List Int} (h0 : Bs E b l c zs) (h1 : Bs E d m e ys) (h2 : l ≤ 100000) (hi : i ≤ l) (hE : Mem.le E0 E) (h : K (.tup [I (oneF zs ys l).1, I (oneF zs ys l).2]) E) :
    Lp FF 8 Try.f21 [1, 1, 0, 1, 0] 0 (pubK E0 K) (sh21 b d l c m e i zs ys E) :=
  Lp_ind okFF (fun x : {i : Nat // i ≤ l} => sh21 b d l c m e x.1 zs ys E) (fun x => l - x.1) (fun x ih => rnd21 h0 h1 h2 x.2 hE h fun g => ih ⟨x.1 + 1, by omega⟩ (by show l - (_ + 1) < l - _; omega)) ⟨i, hi⟩
theorem s21 {b1 : Option Addr} {l2 : Nat} {c3 : Nat} {b4 : Option Addr} {l5 : Nat} {c6 : Nat} {zs : List Int} {ys : List Int} (h0 : Bs E b1 l2 c3 zs) (h1 : Bs E b4 l5 c6 ys) (h2 : l2 ≤ 100000) (h : K (.tup [I (oneF zs ys l2).1, I (oneF zs ys l2).2]) E) :
    Ent FF 8 Try.f21 [L b1 l2 c3, L b4 l5 c6] E K := by
  refine same (by kernel_rfl) (?_ : 
      Lp FF 8 Try.f21 [1, 1, 0, 1, 0] 0 (pubK E K)
        {
          fr :=
            [some (SV.raw (Value.slice b1 l2 c3)), some (SV.raw (Value.slice b4 l5 c6)), none, none,
              some (SV.raw (Value.int IntKind.i64 (0 : Int))), some (SV.raw (Value.int IntKind.i64 (0 : Int))),
              some (SV.raw (Value.int IntKind.i64 (0 : Int))), some (SV.raw (Value.int IntKind.i64 (-1 : Int))), none,
              some (SV.raw (Value.slice b1 l2 c3)), some (SV.raw (Value.int IntKind.i64 (↑l2 : Int))),
              some (SV.raw (Value.int IntKind.i64 (0 : Int))), none, none, none, none, none, none, none, none, none, none,
              none, none, none, none, none, none, none, none, none, none, none, none, none],
          bx := [], E := E : St })
  exact Lp_re [] (lp21 (i := 0) h0 h1 h2 (Nat.zero_le _) (Mem.le_refl _) h) ⟨⟨by simp, by simp, fun j h => absurd h (Nat.not_lt_zero _)⟩, rfl, (by repeat' first | exact True.intro | refine And.intro (Or.inl rfl) ?_), (by repeat' first | exact True.intro | exact rfl | exact Or.inl rfl | fail | refine And.intro ?_ ?_), (show List.Nodup [] from by decide), Mem.le_refl _⟩
noncomputable def FG : Cx := { P := Try.prog, inl := fun f => List.contains [] f, tab := fun _ _ _ _ => False, isB := fun _ => false, tabB := fun _ _ _ _ _ => False, opt := { unroll := 0, carry := [] }, muts := mutsD }
theorem okFG : CxOK FG := CxOK.four (fun _ _ _ _ h => h.elim) (by kernel_rfl) (okInl (by kernel_rfl)) (fun _ _ _ _ _ h => h.elim)
theorem s23 {b1 : Option Addr} {l2 : Nat} {c3 : Nat} {a4 : Int} {a5 : Int} {ms : List (Int × List Int)} (h0 : FL E b1 l2 c3 ms) (h1 : (l2 ≤ 100000)) (h : ∀ (s' : Int) (b' : Option Addr) (l' c' : Nat) (ys : List Int) (ok : Bool) (E' : Mem), Mem.le E E' → Hyp (lastF ms a4 a5 = ((s', ys), ok)) → Bs E' b' l' c' ys → K (.tup [.agg [I s', L b' l' c'], B ok]) E') :
    Ent FG 8 Try.f23 [L b1 l2 c3, I a4, I a5] E K := by
  refine same (by kernel_rfl) (?_ : 
      bif a4 != (0 : Int) then
        Mem.le E E ∧
          K
            (SV.tup
              [SV.agg [SV.raw (Value.int IntKind.i64 (0 : Int)), SV.raw (Value.slice none 0 0)],
                SV.raw (Value.bool false)])
            E
      else
        bif bif false then true else (↑l2 : Int) != a5 then
          Mem.le E E ∧
            K
              (SV.tup
                [SV.agg [SV.raw (Value.int IntKind.i64 (0 : Int)), SV.raw (Value.slice none 0 0)],
                  SV.raw (Value.bool false)])
              E
        else
          bif bif false then true else a5 == (0 : Int) then
            Mem.le E E ∧
              K
                (SV.tup
                  [SV.agg [SV.raw (Value.int IntKind.i64 (0 : Int)), SV.raw (Value.slice none 0 0)],
                    SV.raw (Value.bool false)])
                E
          else
            req
              ((0 : Int) ≤ IntKind.wrap IntKind.i64 (a5 - (1 : Int)) ∧
                IntKind.wrap IntKind.i64 (a5 - (1 : Int)) < (↑l2 : Int))
              ((∃ (cs : List Value), E (Value.slice b1 l2 c3) cs ∧ (cs = [] → False)) ∧
                ∃ (n : Int),
                  ∃ (base : Option Addr),
                    ∃ (len : Nat),
                      ∃ (cap : Nat),
                        LoadE FG.P E 24 (Value.slice b1 l2 c3)
                            (Int.toNat (IntKind.wrap IntKind.i64 (a5 - (1 : Int))) * 2)
                            (SV.agg [SV.raw (Value.int IntKind.i64 n), SV.raw (Value.slice base len cap)]) ∧
                          Mem.le E E ∧
                            K
                              (SV.tup
                                [SV.agg [SV.raw (Value.int IntKind.i64 n), SV.raw (Value.slice base len cap)],
                                  SV.raw (Value.bool true)])
                              E))
  have z0 := h0.len
  have ex : ∀ {s' : Int} {ys : List Int} {ok : Bool}, lastF ms a4 a5 = ((s', ys), ok) → (∀ (b' : Option Addr) (l' c' : Nat) (E' : Mem), Mem.le E E' → Bs E' b' l' c' ys → K (.tup [.agg [I s', L b' l' c'], B ok]) E') := fun he b' l' c' E' hE hB => h _ b' l' c' _ _ E' hE he hB
  unfold lastF at ex
  rw [z0] at ex
  have bad : (a4 ≠ 0 ∨ (l2 : Int) ≠ a5 ∨ a5 = 0) → Mem.le E E ∧ K (.tup [.agg [I 0, L none 0 0], B false]) E := fun hb => ⟨Mem.le_refl _, ex (if_pos hb) none 0 0 E (Mem.le_refl _) (Bs.nil _)⟩
  refine condC (fun g => bad (.inl (by simpa using g))) (fun g1 => condC (fun g => bad (.inr (.inl (by simpa using g)))) (fun g2 => condC (fun g => bad (.inr (.inr (by simpa using g)))) (fun g3 => ?_)))
  have g1 : a4 = 0 := by simpa using g1
  have g2 : (l2 : Int) = a5 := by simpa using g2
  have g3 : ¬ a5 = 0 := by simpa using g3
  rw [if_neg (fun q => q.elim (fun q => q g1) (fun q => q.elim (fun q => q g2) g3))] at ex
  subst g2
  rw [wrap_i64 (by omega)]
  obtain ⟨x, hx⟩ : ∃ x, ms[l2 - 1]? = some x := ⟨_, List.getElem?_eq_getElem (by omega)⟩
  obtain ⟨p1, b1, l1, c1, p2, p3⟩ := h0.load hx
  rw [show ((l2 : Int) - 1).toNat = l2 - 1 by omega] at ex ⊢
  refine req_intro (by omega) ⟨p1, x.1, b1, l1, c1, p2, Mem.le_refl _, ?_⟩
  exact ex (by rw [List.getD_eq_getElem?_getD, hx]; rfl) b1 l1 c1 E (Mem.le_refl _) p3
theorem s24 {a1 : Int} {b2 : Option Addr} {l3 : Nat} {c4 : Nat} {b5 : Option Addr} {l6 : Nat} {c7 : Nat} {zs : List Int} {ys : List Int} (h0 : Bs E b2 l3 c4 zs) (h1 : Bs E b5 l6 c7 ys) (h2 : l3 ≤ 100000) (h : K (B (decide (a1 = 2 ∧ zs = ys))) E) :
    Ent FE 8 Try.f24 [.agg [I a1, L b2 l3 c4], L b5 l6 c7] E K := by
  refine same (by kernel_rfl) (?_ : 
      ∃ (zs : List Int),
        ∃ (ys : List Int),
          Bs E b2 l3 c4 zs ∧
            Bs E b5 l6 c7 ys ∧
              l3 ≤ 100000 ∧ Mem.le E E ∧ Mem.le E E ∧ K (SV.raw (Value.bool (decide (a1 = (2 : Int) ∧ zs = ys)))) E)
  exact ⟨zs, ys, h0, h1, h2, Mem.le_refl _, Mem.le_refl _, h⟩
theorem progF_len (s : Int) (zs : List Int) (a : Int) (ds : List Int) : (progF s zs a ds).1.length ≤ ds.length + 1 := by
  unfold progF
  split
  · simp
  · split
    · simp
    · simp [mems_len]
noncomputable def tab14 : FuncId → List SV → Mem → (SV → Mem → Prop) → Prop := fun f args E K => match f with
  | 14 => d3 args fun x0 x1 x2 => dC x0 fun l1 => d2 l1 fun x0_0 x0_1 => dI x0_0 fun a1 => dS x0_1 fun b2 l3 c4 => dI x1 fun a5 => dS x2 fun b6 l7 c8 => ∃ (zs : List Int) (ds : List Int), Bs E b2 l3 c4 zs ∧ Bs E b6 l7 c8 ds ∧ (∀ (b' : Option Addr) (l' c' : Nat) (ms : List (Int × List Int)) (e : Int) (E' : Mem), Mem.le E E' → Hyp (progF a1 zs a5 ds = (ms, e)) → FL E' b' l' c' ms → K (.tup [L b' l' c', I e]) E')
  | 23 => d3 args fun x0 x1 x2 => dS x0 fun b1 l2 c3 => dI x1 fun a4 => dI x2 fun a5 => ∃ (ms : List (Int × List Int)), FL E b1 l2 c3 ms ∧ (l2 ≤ 100000) ∧ (∀ (s' : Int) (b' : Option Addr) (l' c' : Nat) (ys : List Int) (ok : Bool) (E' : Mem), Mem.le E E' → Hyp (lastF ms a4 a5 = ((s', ys), ok)) → Bs E' b' l' c' ys → K (.tup [.agg [I s', L b' l' c'], B ok]) E')
  | _ => False
theorem tab14_ok : TabOK Try.prog tab14 := by
  intro f args E K h
  unfold tab14 at h
  split at h
  · replace h := d3_elim h
    obtain ⟨x0, x1, x2, rfl, h⟩ := h
    replace h := dC_elim h
    obtain ⟨l1, hl1, h⟩ := h
    replace h := d2_elim h
    obtain ⟨x0_0, x0_1, rfl, h⟩ := h
    replace h := dI_elim h
    obtain ⟨a1, rfl, h⟩ := h
    replace h := dS_elim h
    obtain ⟨b2, l3, c4, rfl, h⟩ := h
    replace h := dI_elim h
    obtain ⟨a5, rfl, h⟩ := h
    replace h := dS_elim h
    obtain ⟨b6, l7, c8, rfl, h⟩ := h
    obtain ⟨zs, ds, g0, g1, h⟩ := h
    exact TabSem.congr (valL_cons (asCells_val hl1) (valL_cons rfl (valL_cons rfl rfl))) (Ent.sem okF3 Try.func14 ⟨by kernel_rfl, by kernel_rfl⟩ rfl (s14 g0 g1 h))
  · replace h := d3_elim h
    obtain ⟨x0, x1, x2, rfl, h⟩ := h
    replace h := dS_elim h
    obtain ⟨b1, l2, c3, rfl, h⟩ := h
    replace h := dI_elim h
    obtain ⟨a4, rfl, h⟩ := h
    replace h := dI_elim h
    obtain ⟨a5, rfl, h⟩ := h
    obtain ⟨ms, g0, g1, h⟩ := h
    exact TabSem.congr (valL_cons rfl (valL_cons rfl (valL_cons rfl rfl))) (Ent.sem okFG Try.func23 ⟨by kernel_rfl, by kernel_rfl⟩ rfl (s23 g0 g1 h))
  · exact h.elim
noncomputable def FH : Cx := { P := Try.prog, inl := fun f => List.contains [] f, tab := tab14, isB := fun _ => false, tabB := fun _ _ _ _ _ => False, opt := { unroll := 0, carry := [] }, muts := mutsD }
theorem okFH : CxOK FH := CxOK.four tab14_ok (by kernel_rfl) (okInl (by kernel_rfl)) (fun _ _ _ _ _ h => h.elim)
theorem s22 {a1 : Int} {b2 : Option Addr} {l3 : Nat} {c4 : Nat} {a5 : Int} {b6 : Option Addr} {l7 : Nat} {c8 : Nat} {zs : List Int} {ds : List Int} (h0 : Bs E b2 l3 c4 zs) (h1 : Bs E b6 l7 c8 ds) (h2 : (l7 ≤ 90000)) (h : ∀ (s' : Int) (b' : Option Addr) (l' c' : Nat) (ys : List Int) (ok : Bool) (E' : Mem), Mem.le E E' → Hyp (doneF a1 zs a5 ds = ((s', ys), ok)) → Bs E' b' l' c' ys → K (.tup [.agg [I s', L b' l' c'], B ok]) E') :
    Ent FH 8 Try.f22 [.agg [I a1, L b2 l3 c4], I a5, L b6 l7 c8] E K := by
  refine same (by kernel_rfl) (?_ : 
      ∃ (zs : List Int),
        ∃ (ds : List Int),
          Bs E b2 l3 c4 zs ∧
            Bs E b6 l7 c8 ds ∧
              ∀ (b' : Option Addr) (l' c' : Nat) (ms : List (Int × List Int)) (e : Int) (E' : Mem),
                Mem.le E E' →
                  Hyp (progF a1 zs a5 ds = (ms, e)) →
                    FL E' b' l' c' ms →
                      Mem.le E E' ∧
                        ∃ (ms : List (Int × List Int)),
                          FL E' b' l' c' ms ∧
                            l' ≤ 100000 ∧
                              ∀ (s' : Int) (b' : Option Addr) (l' c' : Nat) (ys : List Int) (ok : Bool) (E'_1 : Mem),
                                Mem.le E' E'_1 →
                                  Hyp (lastF ms e (IntKind.wrap IntKind.i64 ((↑l7 : Int) + (1 : Int))) = ((s', ys), ok)) →
                                    Bs E'_1 b' l' c' ys →
                                      Mem.le E' E'_1 ∧
                                        Mem.le E E'_1 ∧
                                          K
                                            (SV.tup
                                              [SV.agg [SV.raw (Value.int IntKind.i64 s'), SV.raw (Value.slice b' l' c')],
                                                SV.raw (Value.bool ok)])
                                            E'_1)
  have z1 := h1.2.1
  refine ⟨zs, ds, h0, h1, fun b' l' c' ms e E' hE he hF => ?_⟩
  have he : progF a1 zs a5 ds = (ms, e) := he
  have hF : FL E' b' l' c' ms := hF
  have hl := progF_len a1 zs a5 ds
  rw [he] at hl
  have hl : ms.length ≤ ds.length + 1 := hl
  rw [hF.len] at hl
  refine ⟨hE, ms, hF, by omega, fun s' b2 l2 c2 ys ok E2 hE2 h3 hB => ⟨hE2, Mem.le_trans hE hE2, h s' b2 l2 c2 ys ok E2 (Mem.le_trans hE hE2) ?_ hB⟩⟩
  rw [wrap_i64 (by omega)] at h3
  show doneF a1 zs a5 ds = _
  unfold doneF
  rw [he, z1]
  exact h3

end Go.Proofs.Ythgdbpnddnbbdaa.FlashOwn
