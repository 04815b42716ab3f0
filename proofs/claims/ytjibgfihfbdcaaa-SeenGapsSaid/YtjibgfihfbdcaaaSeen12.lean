/- The package seen: what its functions answer. -/
import Derived.Test.YtjibgfihfbdcaaaSeen11
namespace Go.Proofs.Ytjibgfihfbdcaaa.SeenOwn
open Go Go.Sx
set_option maxRecDepth 100000
set_option maxHeartbeats 4000000
set_option linter.unusedVariables false
set_option linter.unusedSimpArgs false
variable {E : Mem} {K : SV → Mem → Prop}

/-- The numbers from nx to lo, lo left out. -/
def gap (nx lo : Int) : List Int := (List.range (lo - nx).toNat).map fun (i : Nat) => nx + i
theorem gap_cons {nx lo : Int} (h : nx < lo) : gap nx lo = nx :: gap (nx + 1) lo := by
  unfold gap
  rw [show (lo - nx).toNat = (lo - (nx + 1)).toNat + 1 from by omega, List.range_succ_eq_map, List.map_cons, List.map_map]
  congr 1
  · simp
  · apply List.map_congr_left; intro i _; simp only [Function.comp]; omega
theorem gap_nil {nx lo : Int} (h : lo ≤ nx) : gap nx lo = [] := by
  unfold gap
  rw [show (lo - nx).toNat = 0 from by omega]; rfl
def missL : Int → List Rg → List Int
  | _, [] => []
  | nx, x :: rs => gap nx x.1 ++ missL (x.2 + 1) rs
def missF (xs : List Sn) (o m : Int) : List Int := if validS xs then (missL 1 (ofF xs o)).take m.toNat else []
theorem take_app {α : Type} (M : Nat) (a b : List α) : ((a.take M) ++ b).take M = (a ++ b).take M := by
  rw [List.take_append, List.take_append, List.take_take, Nat.min_self, List.length_take]
  congr 2; omega
def rowsN (zs : List Int) : List Value := zs.map (Value.int .i64)
theorem rowsN_len (zs : List Int) : (rowsN zs).length = zs.length := by simp [rowsN]
theorem NL.winN {base : Option Addr} {E : Mem} {zs : List Int} {n c : Nat} (h : WinE E base (rowsN zs)) (hn : zs.length = n) (hc : n ≤ c) : NL E (base.map fun x => x.add 0) n c zs :=
  SL.win NR_ok (rs := zs.map fun z => [Value.int .i64 z]) h (by unfold rowsN; clear h hn; induction zs with | nil => rfl | cons a l ih => simp only [List.map_cons, List.flatten_cons, ih]; rfl) ⟨by simp, fun i r x h1 h2 => by
    rw [List.getElem?_map, h2] at h1; simp at h1; exact h1.symm⟩ hn hc
noncomputable def t19 : FuncId → List SV → Mem → (SV → Mem → Prop) → Prop := fun f args E K => match f with
  | 13 => d1 args fun x0 => dS x0 fun b1 l2 c3 => ∃ (xs : List Sn), SS E b1 l2 c3 xs ∧ Sm xs ∧ (K (B (decide (validS xs))) E)
  | 27 => d2 args fun x0 x1 => dS x0 fun b1 l2 c3 => dI x1 fun a4 => ∃ (xs : List Sn), SS E b1 l2 c3 xs ∧ chkS (-1) xs ∧ l2 ≤ 1000 ∧ (-9223372036854775808 ≤ a4 ∧ a4 ≤ 9223372036854775807) ∧ (∀ (k : Nat) (f : Bool), Hyp (FindR xs a4 k f) → K (.tup [I (k : Nat), B f]) E)
  | _ => False
theorem t19_ok : TabOK Try.prog t19 := by
  intro f args E K h
  unfold t19 at h
  split at h
  · replace h := d1_elim h
    obtain ⟨x0, rfl, h⟩ := h
    replace h := dS_elim h
    obtain ⟨b1, l2, c3, rfl, h⟩ := h
    obtain ⟨xs, g0, g1, h⟩ := h
    exact TabSem.congr (valL_cons rfl rfl) (Ent.sem okC6 Try.func13 ⟨by kernel_rfl, by kernel_rfl⟩ rfl (s13 g0 g1 h))
  · replace h := d2_elim h
    obtain ⟨x0, x1, rfl, h⟩ := h
    replace h := dS_elim h
    obtain ⟨b1, l2, c3, rfl, h⟩ := h
    replace h := dI_elim h
    obtain ⟨a4, rfl, h⟩ := h
    obtain ⟨xs, g0, g1, g2, g3, h⟩ := h
    exact TabSem.congr (valL_cons rfl (valL_cons rfl rfl)) (Ent.sem okD6 Try.func27 ⟨by kernel_rfl, by kernel_rfl⟩ rfl (s27 g0 g1 g2 g3 h))
  · exact h.elim
noncomputable def M1 : Cx := { P := Try.prog, inl := fun f => List.contains [] f, tab := t19, isB := fun _ => false, tabB := fun _ _ _ _ _ => False, opt := { unroll := 0, carry := [9, 10, 30] }, muts := mutsD }
theorem okM1 : CxOK M1 := CxOK.four t19_ok (by kernel_rfl) (okInl (by kernel_rfl)) (fun _ _ _ _ _ h => h.elim)
def sh19 (b : Option Addr) (l c : Nat) (m nx : Int) (i p capp tot : Nat) (zs : List Int) (E : Mem) : St := ⟨[none, none, some (I m), none, none, none, none, none, none, some (.slc 0 0 p capp), some (I nx), none, none, none, none, none, none, none, none, none, none, none, none, none, none, none, none, none, some (L b l c), some (I (l : Nat)), some (I (i : Nat)), none, none, none, none, none, none, none, none, none, none, none, none, none, none, none, none, none, none, none, none, none, none, none, none], [⟨3, .vals (rowsN zs), tot, true⟩], E⟩
def sh19i (b : Option Addr) (l c : Nat) (m nx : Int) (i p capp tot : Nat) (zs : List Int) (x : Rg) (E : Mem) : St := ⟨[none, none, some (I m), none, none, none, none, none, none, some (.slc 0 0 p capp), some (I nx), none, some (.loc 1 0), none, none, none, none, none, none, none, none, none, none, none, none, none, none, none, some (L b l c), some (I (l : Nat)), some (I (i : Nat)), none, none, none, none, none, none, none, none, none, none, none, none, none, none, none, none, none, none, none, none, none, none, none, none], [⟨3, .vals (rowsN zs), tot, true⟩, ⟨47, .lst [I x.1, I x.2], 2, true⟩], E⟩
theorem rnd19i {b : Option Addr} {l c i p capp tot : Nat} {m nx : Int} {zs T : List Int} {E0 : Mem} {x : Rg} (hx : 0 ≤ x.1 ∧ x.1 ≤ 2000000000 ∧ 0 ≤ x.2 ∧ x.2 ≤ 2000000000) (hnx : 0 ≤ nx ∧ nx ≤ 3000000000) (hl : l ≤ 1000) (hil : i < l) (hm : m ≤ 1000) (hp : zs.length = p) (hpm : p ≤ m.toNat) (hc : p ≤ capp ∧ capp ≤ tot) (hT : (zs ++ gap nx x.1).take m.toNat = T) (h : ∀ (p capp tot : Nat), T.length = p → (p ≤ capp ∧ capp ≤ tot) → Lp M1 8 Try.f19 [1, 1, 1, 1, 1, 1, 0, 1, 0] 0 (pubK E0 K) (sh19 b l c m (x.2 + 1) (i + 1) p capp tot T E)) (ih : ∀ (capp tot : Nat), nx < x.1 → p < m.toNat → (p + 1 ≤ capp ∧ capp ≤ tot) → (zs ++ [nx] ++ gap (nx + 1) x.1).take m.toNat = T → Lp M1 8 Try.f19 [1, 1, 1, 1, 1, 1, 0, 1, 0, 0, 1, 1, 0, 0, 1, 0, 0] 0 (pubK E0 K) (sh19i b l c m (nx + 1) i (p + 1) capp tot (zs ++ [nx]) x E)) : Rnd M1 8 Try.f19 [1, 1, 1, 1, 1, 1, 0, 1, 0, 0, 1, 1, 0, 0, 1, 0, 0] 0 (pubK E0 K) (sh19i b l c m nx i p capp tot zs x E) := by
  refine same (by kernel_rfl) (?_ : 
      bif decide (nx < x.fst) then
        bif bif true then decide ((↑p : Int) < m) else false then
          p * 1 ≤ List.length (Row.cells (Row.vals (rowsN zs))) ∧
            capp * 1 ≤ tot ∧
              p ≤ capp ∧
                req ((p + 1) * 8 ≤ 140737488355328)
                  (∀ (cap' tot' : Nat),
                    p + 1 ≤ cap' →
                      cap' * 1 ≤ tot' →
                        Lp M1 8 Try.f19
                          [1, 1, 1, 1, 1, 1, 0, 1, 0,
                            0, 1, 1, 0, 0, 1, 0, 0]
                          0 (pubK E0 K)
                          {
                            fr :=
                              [none, none, some (SV.raw (Value.int IntKind.i64 m)), none, none, none, none, none, none, some (SV.slc 3 0 (p + 1) cap'), some (SV.raw (Value.int IntKind.i64 (IntKind.wrap IntKind.i64 (nx + (1 : Int))))), none, some (SV.loc 1 0), none, none, none, none, none, none, none, none, none, none, none, none, none, none, none, some (SV.raw (Value.slice b l c)), some (SV.raw (Value.int IntKind.i64 (↑l : Int))), some (SV.raw (Value.int IntKind.i64 (↑i : Int))), none, none, none, none, none, none, none, none, none, none, none, none, none, none, none, none, none, none, none, none, none, none, none, none],
                            bx :=
                              [{ elem := 3, row := Row.lst [], total := 0, own := false : Box },
                                { elem := 47,
                                  row := Row.lst [SV.raw (Value.int IntKind.i64 x.fst), SV.raw (Value.int IntKind.i64 x.snd)],
                                  total := 2, own := true : Box },
                                { elem := 3, row := Row.lst [SV.raw (Value.int IntKind.i64 nx)], total := 1,
                                  own := true : Box },
                                { elem := 3,
                                  row := Row.vals (List.take (p * 1) (rowsN zs) ++ [Value.int IntKind.i64 nx]),
                                  total := tot', own := true : Box }],
                            E := E : St })
        else
          Lp M1 8 Try.f19
            [1, 1, 1, 1, 1, 1, 0, 1, 0] 0
            (pubK E0 K)
            {
              fr :=
                [none, none, some (SV.raw (Value.int IntKind.i64 m)), none, none, none, none, none, none, some (SV.slc 0 0 p capp), some (SV.raw (Value.int IntKind.i64 (IntKind.wrap IntKind.i64 (x.snd + (1 : Int))))), none, none, none, none, none, none, none, none, none, none, none, none, none, none, none, none, none, some (SV.raw (Value.slice b l c)), some (SV.raw (Value.int IntKind.i64 (↑l : Int))), some (SV.raw (Value.int IntKind.i64 (IntKind.wrap IntKind.i64 ((↑i : Int) + (1 : Int))))), none, none, none, none, none, none, none, none, none, none, none, none, none, none, none, none, none, none, none, none, none, none, none, none],
              bx :=
                [{ elem := 3, row := Row.vals (rowsN zs), total := tot, own := true : Box },
                  { elem := 47,
                    row := Row.lst [SV.raw (Value.int IntKind.i64 x.fst), SV.raw (Value.int IntKind.i64 x.snd)],
                    total := 2, own := true : Box }],
              E := E : St }
      else
        Lp M1 8 Try.f19
          [1, 1, 1, 1, 1, 1, 0, 1, 0] 0
          (pubK E0 K)
          {
            fr :=
              [none, none, some (SV.raw (Value.int IntKind.i64 m)), none, none, none, none, none, none, some (SV.slc 0 0 p capp), some (SV.raw (Value.int IntKind.i64 (IntKind.wrap IntKind.i64 (x.snd + (1 : Int))))), none, none, none, none, none, none, none, none, none, none, none, none, none, none, none, none, none, some (SV.raw (Value.slice b l c)), some (SV.raw (Value.int IntKind.i64 (↑l : Int))), some (SV.raw (Value.int IntKind.i64 (IntKind.wrap IntKind.i64 ((↑i : Int) + (1 : Int))))), none, none, none, none, none, none, none, none, none, none, none, none, none, none, none, none, none, none, none, none, none, none, none, none],
            bx :=
              [{ elem := 3, row := Row.vals (rowsN zs), total := tot, own := true : Box },
                { elem := 47,
                  row := Row.lst [SV.raw (Value.int IntKind.i64 x.fst), SV.raw (Value.int IntKind.i64 x.snd)],
                  total := 2, own := true : Box }],
            E := E : St })
  have hlen := rowsN_len zs
  have w1 : IntKind.wrap .i64 ((i : Int) + 1) = ((i + 1 : Nat) : Int) := by rw [wrap_i64 (by omega)]; simp
  rw [w1, wrap_i64 (x := nx + 1) (by omega), wrap_i64 (x := x.2 + 1) (by omega)]
  refine condC (fun g => condC (fun g2 => ⟨by show _ ≤ (List.map SV.raw _).length; rw [List.length_map]; omega, by omega, hc.1, req_intro (by omega) (fun cap' tot' d1 d2 => ?_)⟩) (fun g2 => ?_)) (fun g => ?_)
  · have g : nx < x.1 := by simpa using g
    have g2 : (p : Int) < m := by simpa using g2
    have e : List.take (p * 1) (rowsN zs) ++ [Value.int .i64 nx] = rowsN (zs ++ [nx]) := by
      rw [List.take_of_length_le (by omega)]; simp [rowsN]
    rw [e]
    exact Lp_re [some 3, some 1] (ih cap' tot' g (by omega) ⟨d1, by omega⟩ (by rw [← hT, gap_cons g]; simp)) ⟨⟨by simp, by simp, fun j h => absurd h (Nat.not_lt_zero _)⟩, rfl, (by repeat' first | exact True.intro | refine And.intro (Or.inl rfl) ?_ | refine And.intro (Or.inr ⟨rfl, rfl⟩) ?_), (by repeat' first | exact True.intro | exact rfl | exact Or.inl rfl | fail | refine And.intro ?_ ?_), (show List.Nodup [3, 1] from by decide), Mem.le_refl _⟩
  · have g2 : ¬ (p : Int) < m := by simp at g2; omega
    have e : zs = T := by rw [← hT, List.take_append_of_le_length (by omega), List.take_of_length_le (by omega)]
    subst e
    exact Lp_re [some 0] (h p capp tot hp hc) ⟨⟨by simp, by simp, fun j h => absurd h (Nat.not_lt_zero _)⟩, rfl, (by repeat' first | exact True.intro | refine And.intro (Or.inl rfl) ?_ | refine And.intro (Or.inr ⟨rfl, rfl⟩) ?_), (by repeat' first | exact True.intro | exact rfl | exact Or.inl rfl | fail | refine And.intro ?_ ?_), (show List.Nodup [0] from by decide), Mem.le_refl _⟩
  · have g : x.1 ≤ nx := by simp at g; omega
    have e : zs = T := by rw [← hT, gap_nil g, List.append_nil, List.take_of_length_le (by omega)]
    subst e
    exact Lp_re [some 0] (h p capp tot hp hc) ⟨⟨by simp, by simp, fun j h => absurd h (Nat.not_lt_zero _)⟩, rfl, (by repeat' first | exact True.intro | refine And.intro (Or.inl rfl) ?_ | refine And.intro (Or.inr ⟨rfl, rfl⟩) ?_), (by repeat' first | exact True.intro | exact rfl | exact Or.inl rfl | fail | refine And.intro ?_ ?_), (show List.Nodup [0] from by decide), Mem.le_refl _⟩
theorem lp19i {b : Option Addr} {l c i p capp tot : Nat} {m nx : Int} {zs T : List Int} {E0 : Mem} {x : Rg} (hx : 0 ≤ x.1 ∧ x.1 ≤ 2000000000 ∧ 0 ≤ x.2 ∧ x.2 ≤ 2000000000) (hnx : 0 ≤ nx ∧ nx ≤ 3000000000) (hl : l ≤ 1000) (hil : i < l) (hm : m ≤ 1000) (hp : zs.length = p) (hpm : p ≤ m.toNat) (hc : p ≤ capp ∧ capp ≤ tot) (hT : (zs ++ gap nx x.1).take m.toNat = T) (h : ∀ (p capp tot : Nat), T.length = p → (p ≤ capp ∧ capp ≤ tot) → Lp M1 8 Try.f19 [1, 1, 1, 1, 1, 1, 0, 1, 0] 0 (pubK E0 K) (sh19 b l c m (x.2 + 1) (i + 1) p capp tot T E)) : Lp M1 8 Try.f19 [1, 1, 1, 1, 1, 1, 0, 1, 0, 0, 1, 1, 0, 0, 1, 0, 0] 0 (pubK E0 K) (sh19i b l c m nx i p capp tot zs x E) :=
  Lp_ind okM1 (fun y : {y : (Nat × Nat × Nat) × Int × List Int // (0 ≤ y.2.1 ∧ y.2.1 ≤ 3000000000) ∧ y.2.2.length = y.1.1 ∧ y.1.1 ≤ m.toNat ∧ (y.1.1 ≤ y.1.2.1 ∧ y.1.2.1 ≤ y.1.2.2) ∧ (y.2.2 ++ gap y.2.1 x.1).take m.toNat = T} => sh19i b l c m y.1.2.1 i y.1.1.1 y.1.1.2.1 y.1.1.2.2 y.1.2.2 x E) (fun y => (x.1 - y.1.2.1).toNat)
    (fun y ih => rnd19i hx y.2.1 hl hil hm y.2.2.1 y.2.2.2.1 y.2.2.2.2.1 y.2.2.2.2.2 h fun capp tot g1 g2 g3 g4 => ih ⟨((y.1.1.1 + 1, capp, tot), y.1.2.1 + 1, y.1.2.2 ++ [y.1.2.1]), by have := y.2.1; refine ⟨?_, ?_, ?_, g3, g4⟩ <;> simp <;> (try have := y.2.2.1) <;> omega⟩ (by show (x.1 - (_ + 1)).toNat < (x.1 - _).toNat; omega)) ⟨((p, capp, tot), nx, zs), hnx, hp, hpm, hc, hT⟩
theorem rnd19 {b : Option Addr} {l c i p capp tot : Nat} {m nx : Int} {zs T : List Int} {E0 : Mem} {rs : List Rg} (hx : RS E b l c rs) (hb : ∀ x ∈ rs, 0 ≤ x.1 ∧ x.1 ≤ 2000000000 ∧ 0 ≤ x.2 ∧ x.2 ≤ 2000000000) (hnx : 0 ≤ nx ∧ nx ≤ 3000000000) (hl : l ≤ 1000) (hi : i ≤ l) (hm : m ≤ 1000) (hp : zs.length = p) (hpm : p ≤ m.toNat) (hc : p ≤ capp ∧ capp ≤ tot) (hT : (zs ++ missL nx (rs.drop i)).take m.toNat = T) (hE : Mem.le E0 E) (h : ∀ (b' : Option Addr) (l' c' : Nat) (E' : Mem), Mem.le E E' → NL E' b' l' c' (T) → K (L b' l' c') E') (ih : ∀ (nx : Int) (p capp tot : Nat) (zs : List Int), i < l → (0 ≤ nx ∧ nx ≤ 3000000000) → zs.length = p → p ≤ m.toNat → (p ≤ capp ∧ capp ≤ tot) → (zs ++ missL nx (rs.drop (i + 1))).take m.toNat = T → Lp M1 8 Try.f19 [1, 1, 1, 1, 1, 1, 0, 1, 0] 0 (pubK E0 K) (sh19 b l c m nx (i + 1) p capp tot zs E)) : Rnd M1 8 Try.f19 [1, 1, 1, 1, 1, 1, 0, 1, 0] 0 (pubK E0 K) (sh19 b l c m nx i p capp tot zs E) := by
  refine same (by kernel_rfl) (?_ : 
      bif decide ((↑i : Int) < (↑l : Int)) then
        req ((0 : Int) ≤ (↑i : Int) ∧ (↑i : Int) < (↑l : Int))
          ((∃ (cs : List Value), E (Value.slice b l c) cs ∧ (cs = [] → False)) ∧
            ∃ (n : Int),
              ∃ (n_1 : Int),
                LoadE M1.P E 47 (Value.slice b l c) (Int.toNat (↑i : Int) * 2)
                    (SV.agg [SV.raw (Value.int IntKind.i64 n), SV.raw (Value.int IntKind.i64 n_1)]) ∧
                  Lp M1 8 Try.f19
                    [1, 1, 1, 1, 1, 1, 0, 1, 0,
                      0, 1, 1, 0, 0, 1, 0, 0]
                    0 (pubK E0 K)
                    {
                      fr :=
                        [none, none, some (SV.raw (Value.int IntKind.i64 m)), none, none, none, none, none, none, some (SV.slc 0 0 p capp), some (SV.raw (Value.int IntKind.i64 nx)), none, some (SV.loc 1 0), none, none, none, none, none, none, none, none, none, none, none, none, none, none, none, some (SV.raw (Value.slice b l c)), some (SV.raw (Value.int IntKind.i64 (↑l : Int))), some (SV.raw (Value.int IntKind.i64 (↑i : Int))), some (SV.raw (Value.bool (decide ((↑i : Int) < (↑l : Int))))), some (SV.rp (Value.slice b l c) (Int.toNat (↑i : Int) * 2)), some (SV.agg [SV.raw (Value.int IntKind.i64 n), SV.raw (Value.int IntKind.i64 n_1)]), none, none, none, none, none, none, none, none, none, none, none, none, none, none, none, none, none, none, none, none, none],
                      bx :=
                        [{ elem := 3, row := Row.vals (rowsN zs), total := tot, own := true : Box },
                          { elem := 47,
                            row := Row.lst [SV.raw (Value.int IntKind.i64 n), SV.raw (Value.int IntKind.i64 n_1)],
                            total := 2, own := true : Box }],
                      E := E : St })
      else
        ∀ (base : Option Addr) (E' : Mem),
          Mem.le E E' →
            WinE E' base (rowsN zs) →
              Mem.le E0 E' ∧ K (SV.raw (Value.slice (Option.map (fun (x : Addr) => Addr.add x 0) base) p capp)) E')
  have hxl := hx.len
  refine condC (fun g => ?_) (fun g base E' h1 h2 => ⟨Mem.le_trans hE h1, ?_⟩)
  · have g : i < l := by simpa using g
    obtain ⟨x, ex⟩ : ∃ x, rs[i]? = some x := ⟨_, List.getElem?_eq_getElem (by omega)⟩
    have hxb := hb x (List.mem_of_getElem? ex)
    have ed : rs.drop i = x :: rs.drop (i + 1) := by
      obtain ⟨hi', e⟩ := List.getElem?_eq_some_iff.1 ex
      rw [List.drop_eq_getElem_cons hi', e]
    rw [ed] at hT
    refine req_intro (by omega) ⟨SL.nex RR_ok hx ex, x.1, x.2, hx.load ex, ?_⟩
    exact Lp_re [some 0, some 1] (lp19i (x := x) (T := (zs ++ gap nx x.1).take m.toNat) ⟨hxb.1, hxb.2.1, hxb.2.2⟩ hnx hl g hm hp hpm hc rfl (fun p capp tot k1 k2 => ih (x.2 + 1) p capp tot _ g (by omega) k1 (by rw [← k1, List.length_take]; omega) k2 (by rw [take_app, List.append_assoc]; exact hT))) ⟨⟨by simp, by simp, fun j h => absurd h (Nat.not_lt_zero _)⟩, rfl, (by repeat' first | exact True.intro | refine And.intro (Or.inl rfl) ?_ | refine And.intro (Or.inr ⟨rfl, rfl⟩) ?_), (by repeat' first | exact True.intro | exact rfl | exact Or.inl rfl | fail | refine And.intro ?_ ?_), (show List.Nodup [0, 1] from by decide), Mem.le_refl _⟩
  · have g : i = l := by simp at g; omega
    have e : T = zs := by
      rw [← hT, List.drop_eq_nil_of_le (by omega)]
      show (zs ++ []).take _ = _
      rw [List.append_nil, List.take_of_length_le (by omega)]
    rw [e] at h
    exact h _ p capp E' h1 (NL.winN h2 hp hc.1)
theorem lp19 {b : Option Addr} {l c i p capp tot : Nat} {m nx : Int} {zs T : List Int} {E0 : Mem} {rs : List Rg} (hx : RS E b l c rs) (hb : ∀ x ∈ rs, 0 ≤ x.1 ∧ x.1 ≤ 2000000000 ∧ 0 ≤ x.2 ∧ x.2 ≤ 2000000000) (hnx : 0 ≤ nx ∧ nx ≤ 3000000000) (hl : l ≤ 1000) (hi : i ≤ l) (hm : m ≤ 1000) (hp : zs.length = p) (hpm : p ≤ m.toNat) (hc : p ≤ capp ∧ capp ≤ tot) (hT : (zs ++ missL nx (rs.drop i)).take m.toNat = T) (hE : Mem.le E0 E) (h : ∀ (b' : Option Addr) (l' c' : Nat) (E' : Mem), Mem.le E E' → NL E' b' l' c' (T) → K (L b' l' c') E') : Lp M1 8 Try.f19 [1, 1, 1, 1, 1, 1, 0, 1, 0] 0 (pubK E0 K) (sh19 b l c m nx i p capp tot zs E) :=
  Lp_ind okM1 (fun y : {y : (Nat × Nat × Nat × Nat) × Int × List Int // y.1.1 ≤ l ∧ (0 ≤ y.2.1 ∧ y.2.1 ≤ 3000000000) ∧ y.2.2.length = y.1.2.1 ∧ y.1.2.1 ≤ m.toNat ∧ (y.1.2.1 ≤ y.1.2.2.1 ∧ y.1.2.2.1 ≤ y.1.2.2.2) ∧ (y.2.2 ++ missL y.2.1 (rs.drop y.1.1)).take m.toNat = T} => sh19 b l c m y.1.2.1 y.1.1.1 y.1.1.2.1 y.1.1.2.2.1 y.1.1.2.2.2 y.1.2.2 E) (fun y => l - y.1.1.1)
    (fun y ih => rnd19 hx hb y.2.2.1 hl y.2.1 hm y.2.2.2.1 y.2.2.2.2.1 y.2.2.2.2.2.1 y.2.2.2.2.2.2 hE h fun nx p capp tot zs g k1 k2 k3 k4 k5 => ih ⟨((y.1.1.1 + 1, p, capp, tot), nx, zs), by show y.1.1.1 + 1 ≤ l; omega, k1, k2, k3, k4, k5⟩ (by show l - (_ + 1) < l - _; omega)) ⟨((i, p, capp, tot), nx, zs), hi, hnx, hp, hpm, hc, hT⟩
theorem s19 {b1 : Option Addr} {l2 : Nat} {c3 : Nat} {a4 : Int} {a5 : Int} {xs : List Sn} (h0 : SS E b1 l2 c3 xs) (h1 : Sm xs) (h2 : (-9223372036854775808 ≤ a4 ∧ a4 ≤ 9223372036854775807)) (h3 : a5 ≤ 1000) (h : ∀ (b' : Option Addr) (l' c' : Nat) (E' : Mem), Mem.le E E' → NL E' b' l' c' (missF xs a4 a5) → K (L b' l' c') E') :
    Ent M1 8 Try.f19 [L b1 l2 c3, I a4, I a5] E K := by
  refine same (by kernel_rfl) (?_ : 
      ∃ (xs : List Sn),
        SS E b1 l2 c3 xs ∧
          Sm xs ∧
            Mem.le E E ∧
              bif !decide (validS xs) then Mem.le E E ∧ K (SV.raw (Value.slice none 0 0)) E
              else
                ∃ (xs_1 : List Sn),
                  SS E b1 l2 c3 xs_1 ∧
                    chkS (-1 : Int) xs_1 ∧
                      l2 ≤ 1000 ∧
                        ((-9223372036854775808 : Int) ≤ a4 ∧ a4 ≤ (9223372036854775807 : Int)) ∧
                          ∀ (k : Nat) (f : Bool),
                            Hyp (FindR xs_1 a4 k f) →
                              Mem.le E E ∧
                                bif !f then Mem.le E E ∧ K (SV.raw (Value.slice none 0 0)) E
                                else
                                  req ((0 : Int) ≤ (↑k : Int) ∧ (↑k : Int) < (↑l2 : Int))
                                    ((∃ (cs : List Value), E (Value.slice b1 l2 c3) cs ∧ (cs = [] → False)) ∧
                                      ∃ (base : Option Addr),
                                        ∃ (len : Nat),
                                          ∃ (cap : Nat),
                                            LoadE M1.P E 43 (Value.slice b1 l2 c3)
                                                (Int.toNat (↑k : Int) * 2 + 1)
                                                (SV.raw (Value.slice base len cap)) ∧
                                              Lp M1 8 Try.f19
                                                [1, 1, 1, 1, 1, 1, 0,
                                                  1, 0]
                                                0 (pubK E K)
                                                {
                                                  fr :=
                                                    [some (SV.raw (Value.slice b1 l2 c3)), some (SV.raw (Value.int IntKind.i64 a4)), some (SV.raw (Value.int IntKind.i64 a5)), none, none, none, some (SV.raw (Value.slice none 0 0)), some (SV.raw (Value.int IntKind.i64 (↑k : Int))), some (SV.raw (Value.bool f)), some (SV.raw (Value.slice none 0 0)), some (SV.raw (Value.int IntKind.i64 (1 : Int))), none, none, some (SV.raw (Value.slice b1 l2 c3)), some (SV.raw (Value.bool (decide (validS xs)))), some (SV.raw (Value.bool !decide (validS xs))), some (SV.tup [SV.raw (Value.int IntKind.i64 (↑k : Int)), SV.raw (Value.bool f)]), some (SV.raw (Value.slice b1 l2 c3)), some (SV.raw (Value.int IntKind.i64 a4)), some (SV.tup [SV.raw (Value.int IntKind.i64 (↑k : Int)), SV.raw (Value.bool f)]), some (SV.raw (Value.int IntKind.i64 (↑k : Int))), some (SV.raw (Value.bool f)), some (SV.raw (Value.bool f)), some (SV.raw (Value.bool !f)), some (SV.raw (Value.slice b1 l2 c3)), some (SV.raw (Value.int IntKind.i64 (↑k : Int))), some (SV.rp (Value.slice b1 l2 c3) (Int.toNat (↑k : Int) * 2)), some (SV.rp (Value.slice b1 l2 c3) (Int.toNat (↑k : Int) * 2 + 1)), some (SV.raw (Value.slice base len cap)), some (SV.raw (Value.int IntKind.i64 (↑len : Int))), some (SV.raw (Value.int IntKind.i64 (0 : Int))), none, none, none, none, none, none, none, none, none, none, none, none, none, none, none, none, none, none, none, none, none, none, none, none],
                                                  bx := [], E := E : St }))
  have hn := h0.len
  have hb := h1.1
  refine ⟨xs, h0, h1, Mem.le_refl _, condC (fun g => ⟨Mem.le_refl _, h none 0 0 E (Mem.le_refl _) ?_⟩) (fun g => ?_)⟩
  · have g : ¬ validS xs := by simpa using g
    unfold missF; rw [if_neg g]; exact SL.nil
  have g : validS xs := by simpa using g
  have hmiss : missF xs a4 a5 = (missL 1 (ofF xs a4)).take a5.toNat := by unfold missF; rw [if_pos g]
  refine ⟨xs, h0, g.2, by omega, h2, fun k f hf => ⟨Mem.le_refl _, condC (fun q => ⟨Mem.le_refl _, h none 0 0 E (Mem.le_refl _) ?_⟩) (fun q => ?_)⟩⟩
  · have q : f = false := by simpa using q
    subst q
    rw [hmiss, ofF_no (fun x hx => hf.2.2.1 rfl x hx)]
    show NL E none 0 0 (List.take _ [])
    rw [List.take_nil]; exact SL.nil
  · have q : f = true := by simpa using q
    subst q
    obtain ⟨x, ex, exo⟩ := hf.2.1 rfl
    have hk := (List.getElem?_eq_some_iff.1 ex).1
    obtain ⟨b', l', c', e2, e3⟩ := h0.loadL ex
    have hof : ofF xs a4 = x.2 := ofF_at ex exo (fun j y hj hy e => by have := sameO g.2 ex hy (by omega); omega)
    have hbx := chkR_mem (okS_of g.2 ex).2.2.2
    have hxl := many_mem (List.mem_of_getElem? ex)
    have hmm := g.1
    have hlen := e3.len
    refine req_intro (by omega) ⟨SL.nex SR_ok h0 ex, b', l', c', e2, ?_⟩
    exact Lp_re [none] (lp19 (K := K) (i := 0) (p := 0) (capp := 0) (tot := 0) (m := a5) (nx := 1) (zs := []) (T := missF xs a4 a5) e3 (fun y hy => by have := hbx y hy; omega) (by omega) (by omega) (by omega) h3 rfl (Nat.zero_le _) ⟨Nat.le_refl _, Nat.le_refl _⟩ (by rw [hmiss, hof]; rfl) (Mem.le_refl _) h) ⟨⟨by simp, by simp, fun j h => absurd h (Nat.not_lt_zero _)⟩, rfl, (by repeat' first | exact True.intro | refine And.intro (Or.inl rfl) ?_ | refine And.intro (Or.inr ⟨rfl, rfl⟩) ?_), (by repeat' first | exact True.intro | exact rfl | exact Or.inl rfl | fail | refine And.intro ?_ ?_), (show List.Nodup [] from by decide), Mem.le_refl _⟩
noncomputable def t20 : FuncId → List SV → Mem → (SV → Mem → Prop) → Prop := fun f args E K => match f with
  | 14 => d1 args fun x0 => dS x0 fun b1 l2 c3 => ∃ (xs : List Sn), SS E b1 l2 c3 xs ∧ Sm xs ∧ (K (B (decide (validS xs))) E)
  | 23 => d2 args fun x0 x1 => dS x0 fun b1 l2 c3 => dI x1 fun a4 => ∃ (xs : List Sn), SS E b1 l2 c3 xs ∧ l2 ≤ 1000 ∧ (∀ (b' : Option Addr) (l' c' : Nat), RS E b' l' c' (ofF xs a4) → K (L b' l' c') E)
  | _ => False
theorem t20_ok : TabOK Try.prog t20 := by
  intro f args E K h
  unfold t20 at h
  split at h
  · replace h := d1_elim h
    obtain ⟨x0, rfl, h⟩ := h
    replace h := dS_elim h
    obtain ⟨b1, l2, c3, rfl, h⟩ := h
    obtain ⟨xs, g0, g1, h⟩ := h
    exact TabSem.congr (valL_cons rfl rfl) (Ent.sem okC7 Try.func14 ⟨by kernel_rfl, by kernel_rfl⟩ rfl (s14 g0 g1 h))
  · replace h := d2_elim h
    obtain ⟨x0, x1, rfl, h⟩ := h
    replace h := dS_elim h
    obtain ⟨b1, l2, c3, rfl, h⟩ := h
    replace h := dI_elim h
    obtain ⟨a4, rfl, h⟩ := h
    obtain ⟨xs, g0, g1, h⟩ := h
    exact TabSem.congr (valL_cons rfl (valL_cons rfl rfl)) (Ent.sem okD7 Try.func23 ⟨by kernel_rfl, by kernel_rfl⟩ rfl (s23 g0 g1 h))
  · exact h.elim
noncomputable def M2 : Cx := { P := Try.prog, inl := fun f => List.contains [] f, tab := t20, isB := fun _ => false, tabB := fun _ _ _ _ _ => False, opt := { unroll := 0, carry := [7, 9, 10] }, muts := mutsD }
theorem okM2 : CxOK M2 := CxOK.four t20_ok (by kernel_rfl) (okInl (by kernel_rfl)) (fun _ _ _ _ _ h => h.elim)
def sh20 (b : Option Addr) (l c : Nat) (m nx : Int) (i p capp tot : Nat) (zs : List Int) (E : Mem) : St := ⟨[none, none, some (I m), none, none, none, none, some (.slc 0 0 p capp), some (L b l c), some (I nx), some (I (i : Nat)), none, none, none, none, none, none, none, none, none, none, none, none, none, none, none, none, none, none, none, none, none, none, none, none, none, none, none, none, none, none, none, none, none, none, none, none, none, none], [⟨3, .vals (rowsN zs), tot, true⟩], E⟩
theorem rnd20i {b : Option Addr} {l c i p capp tot : Nat} {m nx : Int} {zs T : List Int} {E0 : Mem} {rs : List Rg} {x : Rg} (hR : RS E b l c rs) (ex : rs[i]? = some x) (hx : 0 ≤ x.1 ∧ x.1 ≤ 2000000000 ∧ 0 ≤ x.2 ∧ x.2 ≤ 2000000000) (hnx : 0 ≤ nx ∧ nx ≤ 3000000000) (hl : l ≤ 1000) (hil : i < l) (hm : m ≤ 1000) (hp : zs.length = p) (hpm : p ≤ m.toNat) (hc : p ≤ capp ∧ capp ≤ tot) (hT : (zs ++ gap nx x.1).take m.toNat = T) (h : ∀ (p capp tot : Nat), T.length = p → (p ≤ capp ∧ capp ≤ tot) → Lp M2 8 Try.f20 [1, 1, 1, 1, 1, 0, 1, 0] 0 (pubK E0 K) (sh20 b l c m (x.2 + 1) (i + 1) p capp tot T E)) (ih : ∀ (capp tot : Nat), nx < x.1 → p < m.toNat → (p + 1 ≤ capp ∧ capp ≤ tot) → (zs ++ [nx] ++ gap (nx + 1) x.1).take m.toNat = T → Lp M2 8 Try.f20 [1, 1, 1, 1, 1, 0, 1, 0, 0, 1, 0, 0, 0, 0] 0 (pubK E0 K) (sh20 b l c m (nx + 1) i (p + 1) capp tot (zs ++ [nx]) E)) : Rnd M2 8 Try.f20 [1, 1, 1, 1, 1, 0, 1, 0, 0, 1, 0, 0, 0, 0] 0 (pubK E0 K) (sh20 b l c m nx i p capp tot zs E) := by
  refine same (by kernel_rfl) (?_ : 
      req ((0 : Int) ≤ (↑i : Int) ∧ (↑i : Int) < (↑l : Int))
        ((∃ (cs : List Value), E (Value.slice b l c) cs ∧ (cs = [] → False)) ∧
          ∃ (n : Int),
            LoadE M2.P E 3 (Value.slice b l c) (Int.toNat (↑i : Int) * 2 + 0)
                (SV.raw (Value.int IntKind.i64 n)) ∧
              bif decide (nx < n) then
                bif bif true then decide ((↑p : Int) < m) else false then
                  p * 1 ≤ List.length (Row.cells (Row.vals (rowsN zs))) ∧
                    capp * 1 ≤ tot ∧
                      p ≤ capp ∧
                        req ((p + 1) * 8 ≤ 140737488355328)
                          (∀ (cap' tot' : Nat),
                            p + 1 ≤ cap' →
                              cap' * 1 ≤ tot' →
                                Lp M2 8 Try.f20
                                  [1, 1, 1, 1, 1, 0, 1, 0,
                                    0, 1, 0, 0, 0, 0]
                                  0 (pubK E0 K)
                                  {
                                    fr :=
                                      [none, none, some (SV.raw (Value.int IntKind.i64 m)), none, none, none, none, some (SV.slc 2 0 (p + 1) cap'), some (SV.raw (Value.slice b l c)), some (SV.raw (Value.int IntKind.i64 (IntKind.wrap IntKind.i64 (nx + (1 : Int))))), some (SV.raw (Value.int IntKind.i64 (↑i : Int))), none, none, none, none, none, none, none, none, none, none, none, none, none, none, none, none, none, none, none, none, none, none, none, none, none, none, none, none, none, none, none, none, none, none, none, none, none, none],
                                    bx :=
                                      [{ elem := 3, row := Row.lst [], total := 0, own := false : Box },
                                        { elem := 3, row := Row.lst [SV.raw (Value.int IntKind.i64 nx)],
                                          total := 1, own := true : Box },
                                        { elem := 3,
                                          row :=
                                            Row.vals (List.take (p * 1) (rowsN zs) ++ [Value.int IntKind.i64 nx]),
                                          total := tot', own := true : Box }],
                                    E := E : St })
                else
                  req ((0 : Int) ≤ (↑i : Int) ∧ (↑i : Int) < (↑l : Int))
                    ((∃ (cs : List Value), E (Value.slice b l c) cs ∧ (cs = [] → False)) ∧
                      ∃ (n : Int),
                        LoadE M2.P E 3 (Value.slice b l c) (Int.toNat (↑i : Int) * 2 + 1)
                            (SV.raw (Value.int IntKind.i64 n)) ∧
                          Lp M2 8 Try.f20
                            [1, 1, 1, 1, 1, 0, 1, 0] 0
                            (pubK E0 K)
                            {
                              fr :=
                                [none, none, some (SV.raw (Value.int IntKind.i64 m)), none, none, none, none, some (SV.slc 0 0 p capp), some (SV.raw (Value.slice b l c)), some (SV.raw (Value.int IntKind.i64 (IntKind.wrap IntKind.i64 (n + (1 : Int))))), some (SV.raw (Value.int IntKind.i64 (IntKind.wrap IntKind.i64 ((↑i : Int) + (1 : Int))))), none, none, none, none, none, none, none, none, none, none, none, none, none, none, none, none, none, none, none, none, none, none, none, none, none, none, none, none, none, none, none, none, none, none, none, none, none, none],
                              bx := [{ elem := 3, row := Row.vals (rowsN zs), total := tot, own := true : Box }],
                              E := E : St })
              else
                req ((0 : Int) ≤ (↑i : Int) ∧ (↑i : Int) < (↑l : Int))
                  ((∃ (cs : List Value), E (Value.slice b l c) cs ∧ (cs = [] → False)) ∧
                    ∃ (n : Int),
                      LoadE M2.P E 3 (Value.slice b l c) (Int.toNat (↑i : Int) * 2 + 1)
                          (SV.raw (Value.int IntKind.i64 n)) ∧
                        Lp M2 8 Try.f20
                          [1, 1, 1, 1, 1, 0, 1, 0] 0
                          (pubK E0 K)
                          {
                            fr :=
                              [none, none, some (SV.raw (Value.int IntKind.i64 m)), none, none, none, none, some (SV.slc 0 0 p capp), some (SV.raw (Value.slice b l c)), some (SV.raw (Value.int IntKind.i64 (IntKind.wrap IntKind.i64 (n + (1 : Int))))), some (SV.raw (Value.int IntKind.i64 (IntKind.wrap IntKind.i64 ((↑i : Int) + (1 : Int))))), none, none, none, none, none, none, none, none, none, none, none, none, none, none, none, none, none, none, none, none, none, none, none, none, none, none, none, none, none, none, none, none, none, none, none, none, none, none],
                            bx := [{ elem := 3, row := Row.vals (rowsN zs), total := tot, own := true : Box }],
                            E := E : St })))
  have hlen := rowsN_len zs
  have w1 : IntKind.wrap .i64 ((i : Int) + 1) = ((i + 1 : Nat) : Int) := by rw [wrap_i64 (by omega)]; simp
  rw [w1, wrap_i64 (x := nx + 1) (by omega)]
  refine req_intro (by omega) ⟨SL.nex RR_ok hR ex, x.1, hR.loadA ex, condC (fun g => condC (fun g2 => ⟨by show _ ≤ (List.map SV.raw _).length; rw [List.length_map]; omega, by omega, hc.1, req_intro (by omega) (fun cap' tot' d1 d2 => ?_)⟩) (fun g2 => ?_)) (fun g => ?_)⟩
  · have g : nx < x.1 := by simpa using g
    have g2 : (p : Int) < m := by simpa using g2
    have e : List.take (p * 1) (rowsN zs) ++ [Value.int .i64 nx] = rowsN (zs ++ [nx]) := by
      rw [List.take_of_length_le (by omega)]; simp [rowsN]
    rw [e]
    exact Lp_re [some 2] (ih cap' tot' g (by omega) ⟨d1, by omega⟩ (by rw [← hT, gap_cons g]; simp)) ⟨⟨by simp, by simp, fun j h => absurd h (Nat.not_lt_zero _)⟩, rfl, (by repeat' first | exact True.intro | refine And.intro (Or.inl rfl) ?_ | refine And.intro (Or.inr ⟨rfl, rfl⟩) ?_), (by repeat' first | exact True.intro | exact rfl | exact Or.inl rfl | fail | refine And.intro ?_ ?_), (show List.Nodup [2] from by decide), Mem.le_refl _⟩
  · have g2 : ¬ (p : Int) < m := by simp at g2; omega
    have e : zs = T := by rw [← hT, List.take_append_of_le_length (by omega), List.take_of_length_le (by omega)]
    subst e
    refine req_intro (by omega) ⟨SL.nex RR_ok hR ex, x.2, hR.loadB ex, ?_⟩
    rw [wrap_i64 (x := x.2 + 1) (by omega)]
    exact Lp_re [some 0] (h p capp tot hp hc) ⟨⟨by simp, by simp, fun j h => absurd h (Nat.not_lt_zero _)⟩, rfl, (by repeat' first | exact True.intro | refine And.intro (Or.inl rfl) ?_ | refine And.intro (Or.inr ⟨rfl, rfl⟩) ?_), (by repeat' first | exact True.intro | exact rfl | exact Or.inl rfl | fail | refine And.intro ?_ ?_), (show List.Nodup [0] from by decide), Mem.le_refl _⟩
  · have g : x.1 ≤ nx := by simp at g; omega
    have e : zs = T := by rw [← hT, gap_nil g, List.append_nil, List.take_of_length_le (by omega)]
    subst e
    refine req_intro (by omega) ⟨SL.nex RR_ok hR ex, x.2, hR.loadB ex, ?_⟩
    rw [wrap_i64 (x := x.2 + 1) (by omega)]
    exact Lp_re [some 0] (h p capp tot hp hc) ⟨⟨by simp, by simp, fun j h => absurd h (Nat.not_lt_zero _)⟩, rfl, (by repeat' first | exact True.intro | refine And.intro (Or.inl rfl) ?_ | refine And.intro (Or.inr ⟨rfl, rfl⟩) ?_), (by repeat' first | exact True.intro | exact rfl | exact Or.inl rfl | fail | refine And.intro ?_ ?_), (show List.Nodup [0] from by decide), Mem.le_refl _⟩
theorem lp20i {b : Option Addr} {l c i p capp tot : Nat} {m nx : Int} {zs T : List Int} {E0 : Mem} {rs : List Rg} {x : Rg} (hR : RS E b l c rs) (ex : rs[i]? = some x) (hx : 0 ≤ x.1 ∧ x.1 ≤ 2000000000 ∧ 0 ≤ x.2 ∧ x.2 ≤ 2000000000) (hnx : 0 ≤ nx ∧ nx ≤ 3000000000) (hl : l ≤ 1000) (hil : i < l) (hm : m ≤ 1000) (hp : zs.length = p) (hpm : p ≤ m.toNat) (hc : p ≤ capp ∧ capp ≤ tot) (hT : (zs ++ gap nx x.1).take m.toNat = T) (h : ∀ (p capp tot : Nat), T.length = p → (p ≤ capp ∧ capp ≤ tot) → Lp M2 8 Try.f20 [1, 1, 1, 1, 1, 0, 1, 0] 0 (pubK E0 K) (sh20 b l c m (x.2 + 1) (i + 1) p capp tot T E)) : Lp M2 8 Try.f20 [1, 1, 1, 1, 1, 0, 1, 0, 0, 1, 0, 0, 0, 0] 0 (pubK E0 K) (sh20 b l c m nx i p capp tot zs E) :=
  Lp_ind okM2 (fun y : {y : (Nat × Nat × Nat) × Int × List Int // (0 ≤ y.2.1 ∧ y.2.1 ≤ 3000000000) ∧ y.2.2.length = y.1.1 ∧ y.1.1 ≤ m.toNat ∧ (y.1.1 ≤ y.1.2.1 ∧ y.1.2.1 ≤ y.1.2.2) ∧ (y.2.2 ++ gap y.2.1 x.1).take m.toNat = T} => sh20 b l c m y.1.2.1 i y.1.1.1 y.1.1.2.1 y.1.1.2.2 y.1.2.2 E) (fun y => (x.1 - y.1.2.1).toNat)
    (fun y ih => rnd20i hR ex hx y.2.1 hl hil hm y.2.2.1 y.2.2.2.1 y.2.2.2.2.1 y.2.2.2.2.2 h fun capp tot g1 g2 g3 g4 => ih ⟨((y.1.1.1 + 1, capp, tot), y.1.2.1 + 1, y.1.2.2 ++ [y.1.2.1]), by have := y.2.1; refine ⟨?_, ?_, ?_, g3, g4⟩ <;> simp <;> (try have := y.2.2.1) <;> omega⟩ (by show (x.1 - (_ + 1)).toNat < (x.1 - _).toNat; omega)) ⟨((p, capp, tot), nx, zs), hnx, hp, hpm, hc, hT⟩
theorem rnd20 {b : Option Addr} {l c i p capp tot : Nat} {m nx : Int} {zs T : List Int} {E0 : Mem} {rs : List Rg} (hx : RS E b l c rs) (hb : ∀ x ∈ rs, 0 ≤ x.1 ∧ x.1 ≤ 2000000000 ∧ 0 ≤ x.2 ∧ x.2 ≤ 2000000000) (hnx : 0 ≤ nx ∧ nx ≤ 3000000000) (hl : l ≤ 1000) (hi : i ≤ l) (hm : m ≤ 1000) (hp : zs.length = p) (hpm : p ≤ m.toNat) (hc : p ≤ capp ∧ capp ≤ tot) (hT : (zs ++ missL nx (rs.drop i)).take m.toNat = T) (hE : Mem.le E0 E) (h : ∀ (b' : Option Addr) (l' c' : Nat) (E' : Mem), Mem.le E E' → NL E' b' l' c' (T) → K (L b' l' c') E') (ih : ∀ (nx : Int) (p capp tot : Nat) (zs : List Int), i < l → (0 ≤ nx ∧ nx ≤ 3000000000) → zs.length = p → p ≤ m.toNat → (p ≤ capp ∧ capp ≤ tot) → (zs ++ missL nx (rs.drop (i + 1))).take m.toNat = T → Lp M2 8 Try.f20 [1, 1, 1, 1, 1, 0, 1, 0] 0 (pubK E0 K) (sh20 b l c m nx (i + 1) p capp tot zs E)) : Rnd M2 8 Try.f20 [1, 1, 1, 1, 1, 0, 1, 0] 0 (pubK E0 K) (sh20 b l c m nx i p capp tot zs E) := by
  refine same (by kernel_rfl) (?_ : 
      bif decide ((↑i : Int) < (↑l : Int)) then
        Lp M2 8 Try.f20
          [1, 1, 1, 1, 1, 0, 1, 0, 0, 1,
            0, 0, 0, 0]
          0 (pubK E0 K)
          {
            fr :=
              [none, none, some (SV.raw (Value.int IntKind.i64 m)), none, none, none, none, some (SV.slc 0 0 p capp), some (SV.raw (Value.slice b l c)), some (SV.raw (Value.int IntKind.i64 nx)), some (SV.raw (Value.int IntKind.i64 (↑i : Int))), none, none, none, none, none, none, some (SV.raw (Value.int IntKind.i64 (↑i : Int))), some (SV.raw (Value.slice b l c)), some (SV.raw (Value.int IntKind.i64 (↑l : Int))), some (SV.raw (Value.bool (decide ((↑i : Int) < (↑l : Int))))), none, none, none, none, none, none, none, none, none, none, none, none, none, none, none, none, none, none, none, none, none, none, none, none, none, none, none, none],
            bx := [{ elem := 3, row := Row.vals (rowsN zs), total := tot, own := true : Box }], E := E : St }
      else
        ∀ (base : Option Addr) (E' : Mem),
          Mem.le E E' →
            WinE E' base (rowsN zs) →
              Mem.le E0 E' ∧ K (SV.raw (Value.slice (Option.map (fun (x : Addr) => Addr.add x 0) base) p capp)) E')
  have hxl := hx.len
  refine condC (fun g => ?_) (fun g base E' h1 h2 => ⟨Mem.le_trans hE h1, ?_⟩)
  · have g : i < l := by simpa using g
    obtain ⟨x, ex⟩ : ∃ x, rs[i]? = some x := ⟨_, List.getElem?_eq_getElem (by omega)⟩
    have hxb := hb x (List.mem_of_getElem? ex)
    have ed : rs.drop i = x :: rs.drop (i + 1) := by
      obtain ⟨hi', e⟩ := List.getElem?_eq_some_iff.1 ex
      rw [List.drop_eq_getElem_cons hi', e]
    rw [ed] at hT
    exact Lp_re [some 0] (lp20i (x := x) (T := (zs ++ gap nx x.1).take m.toNat) hx ex ⟨hxb.1, hxb.2.1, hxb.2.2⟩ hnx hl g hm hp hpm hc rfl (fun p capp tot k1 k2 => ih (x.2 + 1) p capp tot _ g (by omega) k1 (by rw [← k1, List.length_take]; omega) k2 (by rw [take_app, List.append_assoc]; exact hT))) ⟨⟨by simp, by simp, fun j h => absurd h (Nat.not_lt_zero _)⟩, rfl, (by repeat' first | exact True.intro | refine And.intro (Or.inl rfl) ?_ | refine And.intro (Or.inr ⟨rfl, rfl⟩) ?_), (by repeat' first | exact True.intro | exact rfl | exact Or.inl rfl | fail | refine And.intro ?_ ?_), (show List.Nodup [0] from by decide), Mem.le_refl _⟩
  · have g : i = l := by simp at g; omega
    have e : T = zs := by
      rw [← hT, List.drop_eq_nil_of_le (by omega)]
      show (zs ++ []).take _ = _
      rw [List.append_nil, List.take_of_length_le (by omega)]
    rw [e] at h
    exact h _ p capp E' h1 (NL.winN h2 hp hc.1)
theorem lp20 {b : Option Addr} {l c i p capp tot : Nat} {m nx : Int} {zs T : List Int} {E0 : Mem} {rs : List Rg} (hx : RS E b l c rs) (hb : ∀ x ∈ rs, 0 ≤ x.1 ∧ x.1 ≤ 2000000000 ∧ 0 ≤ x.2 ∧ x.2 ≤ 2000000000) (hnx : 0 ≤ nx ∧ nx ≤ 3000000000) (hl : l ≤ 1000) (hi : i ≤ l) (hm : m ≤ 1000) (hp : zs.length = p) (hpm : p ≤ m.toNat) (hc : p ≤ capp ∧ capp ≤ tot) (hT : (zs ++ missL nx (rs.drop i)).take m.toNat = T) (hE : Mem.le E0 E) (h : ∀ (b' : Option Addr) (l' c' : Nat) (E' : Mem), Mem.le E E' → NL E' b' l' c' (T) → K (L b' l' c') E') : Lp M2 8 Try.f20 [1, 1, 1, 1, 1, 0, 1, 0] 0 (pubK E0 K) (sh20 b l c m nx i p capp tot zs E) :=
  Lp_ind okM2 (fun y : {y : (Nat × Nat × Nat × Nat) × Int × List Int // y.1.1 ≤ l ∧ (0 ≤ y.2.1 ∧ y.2.1 ≤ 3000000000) ∧ y.2.2.length = y.1.2.1 ∧ y.1.2.1 ≤ m.toNat ∧ (y.1.2.1 ≤ y.1.2.2.1 ∧ y.1.2.2.1 ≤ y.1.2.2.2) ∧ (y.2.2 ++ missL y.2.1 (rs.drop y.1.1)).take m.toNat = T} => sh20 b l c m y.1.2.1 y.1.1.1 y.1.1.2.1 y.1.1.2.2.1 y.1.1.2.2.2 y.1.2.2 E) (fun y => l - y.1.1.1)
    (fun y ih => rnd20 hx hb y.2.2.1 hl y.2.1 hm y.2.2.2.1 y.2.2.2.2.1 y.2.2.2.2.2.1 y.2.2.2.2.2.2 hE h fun nx p capp tot zs g k1 k2 k3 k4 k5 => ih ⟨((y.1.1.1 + 1, p, capp, tot), nx, zs), by show y.1.1.1 + 1 ≤ l; omega, k1, k2, k3, k4, k5⟩ (by show l - (_ + 1) < l - _; omega)) ⟨((i, p, capp, tot), nx, zs), hi, hnx, hp, hpm, hc, hT⟩
theorem s20 {b1 : Option Addr} {l2 : Nat} {c3 : Nat} {a4 : Int} {a5 : Int} {xs : List Sn} (h0 : SS E b1 l2 c3 xs) (h1 : Sm xs) (h2 : a5 ≤ 1000) (h : ∀ (b' : Option Addr) (l' c' : Nat) (E' : Mem), Mem.le E E' → NL E' b' l' c' (missF xs a4 a5) → K (L b' l' c') E') :
    Ent M2 8 Try.f20 [L b1 l2 c3, I a4, I a5] E K := by
  refine same (by kernel_rfl) (?_ : 
      ∃ (xs : List Sn),
        SS E b1 l2 c3 xs ∧
          Sm xs ∧
            Mem.le E E ∧
              bif !decide (validS xs) then Mem.le E E ∧ K (SV.raw (Value.slice none 0 0)) E
              else
                ∃ (xs_1 : List Sn),
                  SS E b1 l2 c3 xs_1 ∧
                    l2 ≤ 1000 ∧
                      ∀ (b' : Option Addr) (l' c' : Nat),
                        RS E b' l' c' (ofF xs_1 a4) →
                          Mem.le E E ∧
                            Lp M2 8 Try.f20
                              [1, 1, 1, 1, 1, 0, 1, 0]
                              0 (pubK E K)
                              {
                                fr :=
                                  [some (SV.raw (Value.slice b1 l2 c3)), some (SV.raw (Value.int IntKind.i64 a4)), some (SV.raw (Value.int IntKind.i64 a5)), none, none, none, some (SV.raw (Value.slice none 0 0)), some (SV.raw (Value.slice none 0 0)), some (SV.raw (Value.slice b' l' c')), some (SV.raw (Value.int IntKind.i64 (1 : Int))), some (SV.raw (Value.int IntKind.i64 (0 : Int))), some (SV.raw (Value.slice b1 l2 c3)), some (SV.raw (Value.bool (decide (validS xs)))), some (SV.raw (Value.bool !decide (validS xs))), some (SV.raw (Value.slice b1 l2 c3)), some (SV.raw (Value.int IntKind.i64 a4)), some (SV.raw (Value.slice b' l' c')), none, none, none, none, none, none, none, none, none, none, none, none, none, none, none, none, none, none, none, none, none, none, none, none, none, none, none, none, none, none, none, none],
                                bx := [], E := E : St })
  have hn := h0.len
  have hb := h1.1
  refine ⟨xs, h0, h1, Mem.le_refl _, condC (fun g => ⟨Mem.le_refl _, h none 0 0 E (Mem.le_refl _) ?_⟩) (fun g => ⟨xs, h0, by omega, fun b' l' c' e3 => ⟨Mem.le_refl _, ?_⟩⟩)⟩
  · have g : ¬ validS xs := by simpa using g
    unfold missF; rw [if_neg g]; exact SL.nil
  have g : validS xs := by simpa using g
  have hmiss : missF xs a4 a5 = (missL 1 (ofF xs a4)).take a5.toNat := by unfold missF; rw [if_pos g]
  have hof : (ofF xs a4).length ≤ 64 ∧ ∀ y ∈ ofF xs a4, 1 ≤ y.1 ∧ y.1 ≤ y.2 ∧ y.2 ≤ 1000000000 := by
    have := g.1
    unfold ofF
    split
    · rename_i x e
      have hm := List.mem_of_find?_eq_some e
      obtain ⟨j, hj, ej⟩ := List.getElem_of_mem hm
      have h3 := many_mem hm
      exact ⟨by omega, chkR_mem (okS_of g.2 (i := j) (by rw [List.getElem?_eq_getElem hj, ej])).2.2.2⟩
    · simp
  have hlen := e3.len
  exact Lp_re [none] (lp20 (K := K) (i := 0) (p := 0) (capp := 0) (tot := 0) (m := a5) (nx := 1) (zs := []) (T := missF xs a4 a5) e3 (fun y hy => by have := hof.2 y hy; omega) (by omega) (by omega) (by omega) h2 rfl (Nat.zero_le _) ⟨Nat.le_refl _, Nat.le_refl _⟩ (by rw [hmiss]; rfl) (Mem.le_refl _) h) ⟨⟨by simp, by simp, fun j h => absurd h (Nat.not_lt_zero _)⟩, rfl, (by repeat' first | exact True.intro | refine And.intro (Or.inl rfl) ?_ | refine And.intro (Or.inr ⟨rfl, rfl⟩) ?_), (by repeat' first | exact True.intro | exact rfl | exact Or.inl rfl | fail | refine And.intro ?_ ?_), (show List.Nodup [] from by decide), Mem.le_refl _⟩

end Go.Proofs.Ytjibgfihfbdcaaa.SeenOwn
