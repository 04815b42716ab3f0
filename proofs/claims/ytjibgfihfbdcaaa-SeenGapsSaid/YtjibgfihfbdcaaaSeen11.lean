/- The package seen: what its functions answer. -/
import Derived.Test.YtjibgfihfbdcaaaSeen10
namespace Go.Proofs.Ytjibgfihfbdcaaa.SeenOwn
open Go Go.Sx
set_option maxRecDepth 100000
set_option maxHeartbeats 4000000
set_option linter.unusedVariables false
set_option linter.unusedSimpArgs false
variable {E : Mem} {K : SV → Mem → Prop}

/-- One list more, as the reference adds. -/
def stepR (o : Int) (r : List Rg) (w : Bool × List Sn) (x : Sn) : Bool × List Sn :=
  let w1 := if w.1 = false ∧ o ≤ x.1 then (true, w.2 ++ [((o, r) : Sn)]) else w
  if x.1 = o then w1 else (w1.1, w1.2 ++ [x])
def foldRA (xs : List Sn) (o : Int) (r : List Rg) : Bool × List Sn := xs.foldl (stepR o r) (false, [])
theorem foldRA_take {xs : List Sn} {o : Int} {r : List Rg} {i : Nat} {x : Sn} (h : xs[i]? = some x) : foldRA (xs.take (i + 1)) o r = stepR o r (foldRA (xs.take i) o r) x := by
  unfold foldRA; rw [take_get' h, List.foldl_append]; rfl
def lastR (w : Bool × List Sn) (o n : Int) : List Sn := if w.1 = true then w.2 else w.2 ++ [(o, withF [] n)]
def addR (xs : List Sn) (o n : Int) : List Sn × Bool × Int :=
  if okA xs o n then if hasP xs o n then (xs, false, 0) else endA (lastR (foldRA xs o (withF (ofF xs o) n)) o n) else ([], false, 1)
theorem stepR_ins {o : Int} {r : List Rg} {zs : List Sn} {x : Sn} (h : o ≤ x.1) : stepR o r (false, zs) x = (true, if x.1 = o then zs ++ [(o, r)] else zs ++ [(o, r)] ++ [x]) := by
  unfold stepR
  simp only [h, and_self, if_true]
  split <;> rfl
theorem stepR_no {o : Int} {r : List Rg} {d : Bool} {zs : List Sn} {x : Sn} (h : ¬ (d = false ∧ o ≤ x.1)) : stepR o r (d, zs) x = (d, if x.1 = o then zs else zs ++ [x]) := by
  unfold stepR
  simp only [if_neg h]
  split <;> rfl
theorem many_bd {B : Nat} : ∀ {xs : List Sn}, (∀ y ∈ xs, y.2.length ≤ B) → manyF xs ≤ xs.length * B
  | [], _ => by simp [manyF]
  | x :: xs, h => by
    have h1 := many_bd (fun y hy => h y (List.mem_cons_of_mem _ hy))
    have h2 := h x (by simp)
    rw [many_cons, List.length_cons, Nat.add_mul]; omega
theorem flat_snoc {α : Type} {R : RowR α} {rs : List (List Value)} {xs : List α} {p : Nat} {r : List Value} (ok : RowOK 2 R) (h : SLr R E rs xs) (hp : xs.length = p) : rs.flatten.take (p * 2) ++ r = (rs ++ [r]).flatten := by
  have := h.flat ok
  rw [List.take_of_length_le (by omega)]; simp
noncomputable def t12 : FuncId → List SV → Mem → (SV → Mem → Prop) → Prop := fun f args E K => match f with
  | 14 => d1 args fun x0 => dS x0 fun b1 l2 c3 => ∃ (xs : List Sn), SS E b1 l2 c3 xs ∧ Sm xs ∧ (K (B (decide (validS xs))) E)
  | 16 => d3 args fun x0 x1 x2 => dS x0 fun b1 l2 c3 => dI x1 fun a4 => dI x2 fun a5 => ∃ (xs : List Sn), SS E b1 l2 c3 xs ∧ Sm xs ∧ (K (B (decide (hasP xs a4 a5))) E)
  | 23 => d2 args fun x0 x1 => dS x0 fun b1 l2 c3 => dI x1 fun a4 => ∃ (xs : List Sn), SS E b1 l2 c3 xs ∧ l2 ≤ 1000 ∧ (∀ (b' : Option Addr) (l' c' : Nat), RS E b' l' c' (ofF xs a4) → K (L b' l' c') E)
  | 37 => d2 args fun x0 x1 => dS x0 fun b1 l2 c3 => dI x1 fun a4 => ∃ (rs : List Rg), RS E b1 l2 c3 rs ∧ l2 ≤ 1000000 ∧ (0 ≤ a4 ∧ a4 ≤ 2000000000) ∧ (∀ (b' : Option Addr) (l' c' : Nat) (E' : Mem), Mem.le E E' → RS E' b' l' c' (withF rs a4) → K (L b' l' c') E')
  | 25 => d1 args fun x0 => dS x0 fun b1 l2 c3 => ∃ (xs : List Sn), SS E b1 l2 c3 xs ∧ Sm xs ∧ (K (I (manyI xs)) E)
  | _ => False
theorem t12_ok : TabOK Try.prog t12 := by
  intro f args E K h
  unfold t12 at h
  split at h
  · replace h := d1_elim h
    obtain ⟨x0, rfl, h⟩ := h
    replace h := dS_elim h
    obtain ⟨b1, l2, c3, rfl, h⟩ := h
    obtain ⟨xs, g0, g1, h⟩ := h
    exact TabSem.congr (valL_cons rfl rfl) (Ent.sem okC7 Try.func14 ⟨by kernel_rfl, by kernel_rfl⟩ rfl (s14 g0 g1 h))
  · replace h := d3_elim h
    obtain ⟨x0, x1, x2, rfl, h⟩ := h
    replace h := dS_elim h
    obtain ⟨b1, l2, c3, rfl, h⟩ := h
    replace h := dI_elim h
    obtain ⟨a4, rfl, h⟩ := h
    replace h := dI_elim h
    obtain ⟨a5, rfl, h⟩ := h
    obtain ⟨xs, g0, g1, h⟩ := h
    exact TabSem.congr (valL_cons rfl (valL_cons rfl (valL_cons rfl rfl))) (Ent.sem okD9 Try.func16 ⟨by kernel_rfl, by kernel_rfl⟩ rfl (s16 g0 g1 h))
  · replace h := d2_elim h
    obtain ⟨x0, x1, rfl, h⟩ := h
    replace h := dS_elim h
    obtain ⟨b1, l2, c3, rfl, h⟩ := h
    replace h := dI_elim h
    obtain ⟨a4, rfl, h⟩ := h
    obtain ⟨xs, g0, g1, h⟩ := h
    exact TabSem.congr (valL_cons rfl (valL_cons rfl rfl)) (Ent.sem okD7 Try.func23 ⟨by kernel_rfl, by kernel_rfl⟩ rfl (s23 g0 g1 h))
  · replace h := d2_elim h
    obtain ⟨x0, x1, rfl, h⟩ := h
    replace h := dS_elim h
    obtain ⟨b1, l2, c3, rfl, h⟩ := h
    replace h := dI_elim h
    obtain ⟨a4, rfl, h⟩ := h
    obtain ⟨rs, g0, g1, g2, h⟩ := h
    exact TabSem.congr (valL_cons rfl (valL_cons rfl rfl)) (Ent.sem okW1 Try.func37 ⟨by kernel_rfl, by kernel_rfl⟩ rfl (s37 g0 g1 g2 h))
  · replace h := d1_elim h
    obtain ⟨x0, rfl, h⟩ := h
    replace h := dS_elim h
    obtain ⟨b1, l2, c3, rfl, h⟩ := h
    obtain ⟨xs, g0, g1, h⟩ := h
    exact TabSem.congr (valL_cons rfl rfl) (Ent.sem okC2 Try.func25 ⟨by kernel_rfl, by kernel_rfl⟩ rfl (s25 g0 g1 h))
  · exact h.elim
noncomputable def A2 : Cx := { P := Try.prog, inl := fun f => List.contains [] f, tab := t12, isB := fun _ => false, tabB := fun _ _ _ _ _ => False, opt := { unroll := 0, carry := [9, 10, 11], cuts := [13, 15, 17] }, muts := mutsD }
theorem okA2 : CxOK A2 := CxOK.four t12_ok (by kernel_rfl) (okInl (by kernel_rfl)) (fun _ _ _ _ _ h => h.elim)
def shB17 (p capp tot : Nat) (rs : List (List Value)) (E : Mem) : St := ⟨[none, none, none, none, none, none, none, none, none, some (.slc 0 0 p capp), none, none, none, none, none, none, none, none, none, none, none, none, none, none, none, none, none, none, none, none, none, none, none, none, none, none, none, none, none, none, none, none, none, none, none, none, none, none, none, none, none, none, none, none, none, none, none, none, none, none, none, none, none, none, none, none, none, none, none, none, none, none, none, none, none, none, none, none, none, none, none, none, none, none, none, none, none, none, none, none], [⟨45, .vals rs.flatten, tot, true⟩], E⟩
theorem pcB17 {p capp tot : Nat} {rs : List (List Value)} {zs : List Sn} {E0 : Mem} (hr : SLr SR E rs zs) (hp : zs.length = p) (hl : p ≤ 1000) (hs : ∀ y ∈ zs, y.2.length ≤ 1000) (hc : p ≤ capp ∧ capp * 2 ≤ tot) (hE : Mem.le E0 E) (h : ∀ (ys : List Sn) (t : Bool) (e : Int), endA zs = (ys, t, e) → ∀ (b' : Option Addr) (l' c' : Nat) (E' : Mem), Mem.le E0 E' → SS E' b' l' c' ys → K (.tup [L b' l' c', B t, I e]) E') : Pc A2 8 Try.f12 [1, 1, 1, 1, 1, 1, 1] 0 (pubK E0 K) (shB17 p capp tot rs E) := by
  refine same (by kernel_rfl) (?_ : 
      ∀ (base : Option Addr) (E' : Mem),
        Mem.le E E' →
          WinE E' base (List.flatten rs) →
            ∃ (xs : List Sn),
              SS E' (Option.map (fun (x : Addr) => Addr.add x 0) base) p capp xs ∧
                Sm xs ∧
                  bif decide (manyI xs > (64 : Int)) then
                    Mem.le E0 E' ∧
                      K
                        (SV.tup
                          [SV.raw (Value.slice none 0 0), SV.raw (Value.bool false),
                            SV.raw (Value.int IntKind.i64 (10 : Int))])
                        E'
                  else
                    ∀ (base : Option Addr) (E'_1 : Mem),
                      Mem.le E' E'_1 →
                        WinE E'_1 base (List.flatten rs) →
                          Mem.le E0 E'_1 ∧
                            K
                              (SV.tup
                                [SV.raw (Value.slice (Option.map (fun (x : Addr) => Addr.add x 0) base) p capp),
                                  SV.raw (Value.bool true), SV.raw (Value.int IntKind.i64 (0 : Int))])
                              E'_1)
  have hs' : Sm zs := ⟨by omega, fun y hy => by have := hs y hy; omega⟩
  have hI := manyI_eq (xs := zs) (by have := many_bd (B := 1000) hs; omega)
  intro base E' h1 h2
  have hr' := hr.mono SR_ok h1
  refine ⟨zs, SL.win SR_ok h2 rfl hr' hp hc.1, hs', condC (fun g => ⟨Mem.le_trans hE h1, ?_⟩) (fun g base2 E2 h3 h4 => ⟨Mem.le_trans hE (Mem.le_trans h1 h3), ?_⟩)⟩
  · have g : 64 < manyF zs := by rw [hI] at g; simp at g; omega
    exact h [] false 10 (by unfold endA; rw [if_pos g]) none 0 0 E' (Mem.le_trans hE h1) SL.nil
  · have g : ¬ 64 < manyF zs := by rw [hI] at g; simp at g; omega
    exact h zs true 0 (by unfold endA; rw [if_neg g]) _ p capp E2 (Mem.le_trans hE (Mem.le_trans h1 h3)) (SL.win SR_ok h4 rfl (hr'.mono SR_ok h3) hp hc.1)
def shB15 (o n : Int) (p capp tot : Nat) (d : Bool) (rs : List (List Value)) (E : Mem) : St := ⟨[none, some (I o), some (I n), none, none, none, none, none, none, some (.slc 0 0 p capp), some (B d), none, none, none, none, none, none, none, none, none, none, none, none, none, none, none, none, none, none, none, none, none, none, none, none, none, none, none, none, none, none, none, none, none, none, none, none, none, none, none, none, none, none, none, none, none, none, none, none, none, none, none, none, none, none, none, none, none, none, none, none, none, none, none, none, none, none, none, none, none, none, none, none, none, none, none, none, none, none, none], [⟨45, .vals rs.flatten, tot, true⟩], E⟩
theorem pcB15 {o n : Int} {p capp tot : Nat} {d : Bool} {rs : List (List Value)} {zs : List Sn} {E0 : Mem} (hr : SLr SR E rs zs) (hp : zs.length = p) (hl : p ≤ 900) (hs : ∀ y ∈ zs, y.2.length ≤ 1000) (hc : p ≤ capp ∧ capp * 2 ≤ tot) (hE : Mem.le E0 E) (hn : 0 ≤ n ∧ n ≤ 2000000000) (h : ∀ (ys : List Sn) (t : Bool) (e : Int), endA (lastR (d, zs) o n) = (ys, t, e) → ∀ (b' : Option Addr) (l' c' : Nat) (E' : Mem), Mem.le E0 E' → SS E' b' l' c' ys → K (.tup [L b' l' c', B t, I e]) E') : Pc A2 8 Try.f12 [1, 1, 1, 1, 1, 1] 0 (pubK E0 K) (shB15 o n p capp tot d rs E) := by
  refine same (by kernel_rfl) (?_ : 
      bif !d then
        ∃ (rs_1 : List Rg),
          RS E none 0 0 rs_1 ∧
            0 ≤ 1000000 ∧
              ((0 : Int) ≤ n ∧ n ≤ (2000000000 : Int)) ∧
                ∀ (b' : Option Addr) (l' c' : Nat) (E' : Mem),
                  Mem.le E E' →
                    RS E' b' l' c' (withF rs_1 n) →
                      Mem.le E E' ∧
                        p * 2 ≤ List.length (Row.cells (Row.vals (List.flatten rs))) ∧
                          capp * 2 ≤ tot ∧
                            p ≤ capp ∧
                              req ((p + 1) * 32 ≤ 140737488355328)
                                (∀ (cap' tot' : Nat),
                                  p + 1 ≤ cap' →
                                    cap' * 2 ≤ tot' →
                                      Ct A2 8 Try.f12
                                        [1, 1, 1, 1, 1, 1, 1]
                                        0 (pubK E0 K)
                                        {
                                          fr :=
                                            [none, some (SV.raw (Value.int IntKind.i64 o)), some (SV.raw (Value.int IntKind.i64 n)), none, none, none, none, none, none, some (SV.slc 2 0 (p + 1) cap'), some (SV.raw (Value.bool d)), none, none, none, none, none, none, none, none, none, none, none, none, none, none, none, none, none, none, none, none, none, none, none, none, none, none, none, none, none, none, none, none, none, none, none, none, none, none, none, none, none, none, none, none, none, none, none, none, none, none, none, none, none, none, none, none, none, none, none, none, none, none, none, none, none, none, some (SV.raw (Value.bool d)), some (SV.raw (Value.bool !d)), some (SV.slc 0 0 p capp), some (SV.raw (Value.int IntKind.i64 o)), some (SV.raw (Value.int IntKind.i64 n)), some (SV.raw (Value.slice b' l' c')), some (SV.agg [SV.raw (Value.int IntKind.i64 o), SV.raw (Value.slice b' l' c')]), some (SV.slc 1 0 1 1), some (SV.slc 2 0 (p + 1) cap'), none, none, none, none],
                                          bx :=
                                            [{ elem := 45, row := Row.lst [], total := 0, own := false :
                                                Box },
                                              { elem := 45,
                                                row :=
                                                  Row.lst [SV.raw (Value.int IntKind.i64 o), SV.raw (Value.slice b' l' c')],
                                                total := 2, own := true : Box },
                                              { elem := 45,
                                                row :=
                                                  Row.vals
                                                    (List.take (p * 2) (List.flatten rs) ++
                                                      [Value.int IntKind.i64 o, Value.slice b' l' c']),
                                                total := tot', own := true : Box }],
                                          E := E' : St })
      else
        Ct A2 8 Try.f12 [1, 1, 1, 1, 1, 1, 1] 0
          (pubK E0 K)
          {
            fr :=
              [none, some (SV.raw (Value.int IntKind.i64 o)), some (SV.raw (Value.int IntKind.i64 n)), none, none, none, none, none, none, some (SV.slc 0 0 p capp), some (SV.raw (Value.bool d)), none, none, none, none, none, none, none, none, none, none, none, none, none, none, none, none, none, none, none, none, none, none, none, none, none, none, none, none, none, none, none, none, none, none, none, none, none, none, none, none, none, none, none, none, none, none, none, none, none, none, none, none, none, none, none, none, none, none, none, none, none, none, none, none, none, none, some (SV.raw (Value.bool d)), some (SV.raw (Value.bool !d)), none, none, none, none, none, none, none, none, none, none, none],
            bx := [{ elem := 45, row := Row.vals (List.flatten rs), total := tot, own := true : Box }], E := E : St })
  have hflat := hr.flat SR_ok
  refine condC (fun g => ⟨[], SL.nil, by decide, hn, fun b' l' c' E' q1 q2 => ⟨q1, by show _ ≤ (List.map SV.raw _).length; rw [List.length_map, hflat]; omega, hc.2, hc.1, req_intro (by omega) (fun cap' tot' c1 c2 => ?_)⟩⟩) (fun g => ?_)
  · have g : d = false := by simpa using g
    subst g
    rw [flat_snoc SR_ok hr hp]
    have K1 := pcB17 (K := K) ((hr.mono SR_ok q1).snoc (x := ((o, withF [] n) : Sn)) ⟨b', l', c', rfl, q2⟩) (p := p + 1) (by simp [hp]) (by omega) (fun y hy => by
      rcases List.mem_append.1 hy with w | w
      · exact hs y w
      · simp at w; subst w; simp [withF, foldW]) ⟨c1, c2⟩ (Mem.le_trans hE q1) h
    exact Ct_re [some 2] (Ct_intro okA2 K1) ⟨⟨by simp, by simp, fun j h => absurd h (Nat.not_lt_zero _)⟩, rfl, (by repeat' first | exact True.intro | refine And.intro (Or.inl rfl) ?_ | refine And.intro (Or.inr ⟨rfl, rfl⟩) ?_), (by repeat' first | exact True.intro | exact rfl | exact Or.inl rfl | fail | refine And.intro ?_ ?_), (show List.Nodup [2] from by decide), Mem.le_refl _⟩
  · have g : d = true := by simpa using g
    subst g
    exact Ct_re [some 0] (Ct_intro okA2 (pcB17 hr hp (by omega) hs hc hE h)) ⟨⟨by simp, by simp, fun j h => absurd h (Nat.not_lt_zero _)⟩, rfl, (by repeat' first | exact True.intro | refine And.intro (Or.inl rfl) ?_ | refine And.intro (Or.inr ⟨rfl, rfl⟩) ?_), (by repeat' first | exact True.intro | exact rfl | exact Or.inl rfl | fail | refine And.intro ?_ ?_), (show List.Nodup [0] from by decide), Mem.le_refl _⟩
def sh12 (b : Option Addr) (l c : Nat) (o n : Int) (i p capp tot : Nat) (d : Bool) (rs : List (List Value)) (E : Mem) : St := ⟨[some (L b l c), some (I o), some (I n), none, none, none, none, none, none, some (.slc 0 0 p capp), some (B d), some (I (i : Nat)), none, none, none, none, none, none, none, none, none, none, none, none, none, none, none, none, none, none, none, none, none, none, none, none, none, none, none, none, none, none, none, none, none, none, none, none, none, none, none, none, none, none, none, none, none, none, none, none, none, none, none, none, none, none, none, none, none, none, none, none, none, none, none, none, none, none, none, none, none, none, none, none, none, none, none, none, none, none], [⟨45, .vals rs.flatten, tot, true⟩], E⟩
theorem pcB13 {b : Option Addr} {l c i p capp tot : Nat} {o n : Int} {d : Bool} {xs : List Sn} {rs : List (List Value)} {zs : List Sn} {E0 : Mem} (hx : SS E b l c xs) (hv : validS xs) (hl2 : l ≤ 60) (hn : 0 ≤ n ∧ n ≤ 2000000000) (hr : SLr SR E rs zs) (hp : zs.length = p) (hl : p ≤ 900) (hs : ∀ y ∈ zs, y.2.length ≤ 1000) (hc : p ≤ capp ∧ capp * 2 ≤ tot) (hE : Mem.le E0 E) (hpi : p ≤ i + 1) {x : Sn} (ex : xs[i]? = some x)
    (ih : ∀ (p capp tot : Nat) (rs : List (List Value)) (zs' : List Sn), SLr SR E rs zs' → zs' = (if x.1 = o then zs else zs ++ [x]) → zs'.length = p → p ≤ i + 2 → (∀ y ∈ zs', y.2.length ≤ 1000) → (p ≤ capp ∧ capp * 2 ≤ tot) → Lp A2 8 Try.f12 [1, 1, 1, 1, 1, 0, 1, 0] 0 (pubK E0 K) (sh12 b l c o n (i + 1) p capp tot d rs E)) : Pc A2 8 Try.f12 [1, 1, 1, 1, 1, 0, 1, 0, 0, 1, 0, 0, 1] 0 (pubK E0 K) (sh12 b l c o n i p capp tot d rs E) := by
  refine same (by kernel_rfl) (?_ : 
      req ((0 : Int) ≤ (↑i : Int) ∧ (↑i : Int) < (↑l : Int))
        ((∃ (cs : List Value), E (Value.slice b l c) cs ∧ (cs = [] → False)) ∧
          ∃ (n_1 : Int),
            LoadE A2.P E 3 (Value.slice b l c) (Int.toNat (↑i : Int) * 2 + 0)
                (SV.raw (Value.int IntKind.i64 n_1)) ∧
              bif n_1 != o then
                req ((0 : Int) ≤ (↑i : Int) ∧ (↑i : Int) < (↑l : Int))
                  ((∃ (cs : List Value), E (Value.slice b l c) cs ∧ (cs = [] → False)) ∧
                    ∃ (n_2 : Int),
                      ∃ (base : Option Addr),
                        ∃ (len : Nat),
                          ∃ (cap : Nat),
                            LoadE A2.P E 45 (Value.slice b l c) (Int.toNat (↑i : Int) * 2)
                                (SV.agg [SV.raw (Value.int IntKind.i64 n_2), SV.raw (Value.slice base len cap)]) ∧
                              p * 2 ≤ List.length (Row.cells (Row.vals (List.flatten rs))) ∧
                                capp * 2 ≤ tot ∧
                                  p ≤ capp ∧
                                    req ((p + 1) * 32 ≤ 140737488355328)
                                      (∀ (cap' tot' : Nat),
                                        p + 1 ≤ cap' →
                                          cap' * 2 ≤ tot' →
                                            Lp A2 8 Try.f12
                                              [1, 1, 1, 1, 1, 0, 1,
                                                0]
                                              0 (pubK E0 K)
                                              {
                                                fr :=
                                                  [some (SV.raw (Value.slice b l c)), some (SV.raw (Value.int IntKind.i64 o)), some (SV.raw (Value.int IntKind.i64 n)), none, none, none, none, none, none, some (SV.slc 2 0 (p + 1) cap'), some (SV.raw (Value.bool d)), some (SV.raw (Value.int IntKind.i64 (IntKind.wrap IntKind.i64 ((↑i : Int) + (1 : Int))))), none, none, none, none, none, none, none, none, none, none, none, none, none, none, none, none, none, none, none, none, none, none, none, none, none, none, none, none, none, none, none, none, none, none, none, none, none, none, none, none, none, none, none, none, none, none, none, none, none, none, none, none, none, none, none, none, none, none, none, none, none, none, none, none, none, none, none, none, none, none, none, none, none, none, none, none, none, none],
                                                bx :=
                                                  [{ elem := 45, row := Row.lst [], total := 0, own := false :
                                                      Box },
                                                    { elem := 45,
                                                      row :=
                                                        Row.lst
                                                          [SV.raw (Value.int IntKind.i64 n_2),
                                                            SV.raw (Value.slice base len cap)],
                                                      total := 2, own := true : Box },
                                                    { elem := 45,
                                                      row :=
                                                        Row.vals
                                                          (List.take (p * 2) (List.flatten rs) ++
                                                            [Value.int IntKind.i64 n_2, Value.slice base len cap]),
                                                      total := tot', own := true : Box }],
                                                E := E : St }))
              else
                Lp A2 8 Try.f12
                  [1, 1, 1, 1, 1, 0, 1, 0] 0
                  (pubK E0 K)
                  {
                    fr :=
                      [some (SV.raw (Value.slice b l c)), some (SV.raw (Value.int IntKind.i64 o)), some (SV.raw (Value.int IntKind.i64 n)), none, none, none, none, none, none, some (SV.slc 0 0 p capp), some (SV.raw (Value.bool d)), some (SV.raw (Value.int IntKind.i64 (IntKind.wrap IntKind.i64 ((↑i : Int) + (1 : Int))))), none, none, none, none, none, none, none, none, none, none, none, none, none, none, none, none, none, none, none, none, none, none, none, none, none, none, none, none, none, none, none, none, none, none, none, none, none, none, none, none, none, none, none, none, none, none, none, none, none, none, none, none, none, none, none, none, none, none, none, none, none, none, none, none, none, none, none, none, none, none, none, none, none, none, none, none, none, none],
                    bx := [{ elem := 45, row := Row.vals (List.flatten rs), total := tot, own := true : Box }],
                    E := E : St }))
  have hflat := hr.flat SR_ok
  have hxl := hx.len
  have hi := (List.getElem?_eq_some_iff.1 ex).1
  have w1 : IntKind.wrap .i64 ((i : Int) + 1) = ((i + 1 : Nat) : Int) := by rw [wrap_i64 (by omega)]; simp
  obtain ⟨q1, b', l', c', e2, e3⟩ := hx.load ex
  have hxm := many_mem (List.mem_of_getElem? ex)
  have hmm := hv.1
  rw [w1]
  refine req_intro (by omega) ⟨SL.nex SR_ok hx ex, x.1, hx.loadO ex, condC (fun g => req_intro (by omega) ⟨SL.nex SR_ok hx ex, x.1, b', l', c', e2, by show _ ≤ (List.map SV.raw _).length; rw [List.length_map, hflat]; omega, hc.2, hc.1, req_intro (by omega) (fun cap' tot' c1 c2 => ?_)⟩) (fun g => ?_)⟩
  · have g : ¬ x.1 = o := by simpa using g
    rw [flat_snoc SR_ok hr hp]
    exact Lp_re [some 2] (ih (p + 1) cap' tot' _ (zs ++ [x]) (hr.snoc ⟨b', l', c', rfl, e3⟩) (by rw [if_neg g]) (by simp [hp]) (by omega) (fun y hy => by rcases List.mem_append.1 hy with w | w; exact hs y w; simp at w; subst w; omega) ⟨c1, c2⟩) ⟨⟨by simp, by simp, fun j h => absurd h (Nat.not_lt_zero _)⟩, rfl, (by repeat' first | exact True.intro | refine And.intro (Or.inl rfl) ?_ | refine And.intro (Or.inr ⟨rfl, rfl⟩) ?_), (by repeat' first | exact True.intro | exact rfl | exact Or.inl rfl | fail | refine And.intro ?_ ?_), (show List.Nodup [2] from by decide), Mem.le_refl _⟩
  · have g : x.1 = o := by simpa using g
    exact Lp_re [some 0] (ih p capp tot rs zs hr (by rw [if_pos g]) hp (by omega) hs hc) ⟨⟨by simp, by simp, fun j h => absurd h (Nat.not_lt_zero _)⟩, rfl, (by repeat' first | exact True.intro | refine And.intro (Or.inl rfl) ?_ | refine And.intro (Or.inr ⟨rfl, rfl⟩) ?_), (by repeat' first | exact True.intro | exact rfl | exact Or.inl rfl | fail | refine And.intro ?_ ?_), (show List.Nodup [0] from by decide), Mem.le_refl _⟩
theorem rnd12 {b : Option Addr} {l c i p capp tot : Nat} {o n : Int} {d : Bool} {xs : List Sn} {rs : List (List Value)} {zs : List Sn} {E0 : Mem} (hx : SS E b l c xs) (hv : validS xs) (hl2 : l ≤ 60) (hn : 0 ≤ n ∧ n ≤ 2000000000) (hr : SLr SR E rs zs) (hp : zs.length = p) (hl : p ≤ 900) (hs : ∀ y ∈ zs, y.2.length ≤ 1000) (hc : p ≤ capp ∧ capp * 2 ≤ tot) (hE : Mem.le E0 E) (hpi : p ≤ i + 1) (hi : i ≤ l) (hpd : d = false → p ≤ i) (hw : foldRA (xs.take i) o (withF (ofF xs o) n) = (d, zs)) (hlr : (withF (ofF xs o) n).length ≤ 1000) (h : ∀ (d : Bool) (zs : List Sn), foldRA xs o (withF (ofF xs o) n) = (d, zs) → ∀ (ys : List Sn) (t : Bool) (e : Int), endA (lastR (d, zs) o n) = (ys, t, e) → ∀ (b' : Option Addr) (l' c' : Nat) (E' : Mem), Mem.le E0 E' → SS E' b' l' c' ys → K (.tup [L b' l' c', B t, I e]) E')
    (ih : ∀ (p capp tot : Nat) (d : Bool) (rs : List (List Value)) (zs : List Sn) (E : Mem), i < l → SS E b l c xs → SLr SR E rs zs → foldRA (xs.take (i + 1)) o (withF (ofF xs o) n) = (d, zs) → zs.length = p → p ≤ i + 2 → (d = false → p ≤ i + 1) → (∀ y ∈ zs, y.2.length ≤ 1000) → (p ≤ capp ∧ capp * 2 ≤ tot) → Mem.le E0 E → Lp A2 8 Try.f12 [1, 1, 1, 1, 1, 0, 1, 0] 0 (pubK E0 K) (sh12 b l c o n (i + 1) p capp tot d rs E)) : Rnd A2 8 Try.f12 [1, 1, 1, 1, 1, 0, 1, 0] 0 (pubK E0 K) (sh12 b l c o n i p capp tot d rs E) := by
  refine same (by kernel_rfl) (?_ : 
      bif decide ((↑i : Int) < (↑l : Int)) then
        bif !d then
          req ((0 : Int) ≤ (↑i : Int) ∧ (↑i : Int) < (↑l : Int))
            ((∃ (cs : List Value), E (Value.slice b l c) cs ∧ (cs = [] → False)) ∧
              ∃ (n_1 : Int),
                LoadE A2.P E 3 (Value.slice b l c) (Int.toNat (↑i : Int) * 2 + 0)
                    (SV.raw (Value.int IntKind.i64 n_1)) ∧
                  bif bif true then decide (n_1 ≥ o) else false then
                    ∃ (xs : List Sn),
                      SS E b l c xs ∧
                        l ≤ 1000 ∧
                          ∀ (b' : Option Addr) (l' c' : Nat),
                            RS E b' l' c' (ofF xs o) →
                              Mem.le E E ∧
                                ∃ (rs_1 : List Rg),
                                  RS E b' l' c' rs_1 ∧
                                    l' ≤ 1000000 ∧
                                      ((0 : Int) ≤ n ∧ n ≤ (2000000000 : Int)) ∧
                                        ∀ (b'_1 : Option Addr) (l'_1 c'_1 : Nat) (E' : Mem),
                                          Mem.le E E' →
                                            RS E' b'_1 l'_1 c'_1 (withF rs_1 n) →
                                              Mem.le E E' ∧
                                                p * 2 ≤ List.length (Row.cells (Row.vals (List.flatten rs))) ∧
                                                  capp * 2 ≤ tot ∧
                                                    p ≤ capp ∧
                                                      req ((p + 1) * 32 ≤ 140737488355328)
                                                        (∀ (cap' tot' : Nat),
                                                          p + 1 ≤ cap' →
                                                            cap' * 2 ≤ tot' →
                                                              Ct A2 8 Try.f12
                                                                [1, 1, 1, 1, 1,
                                                                  0, 1, 0, 0, 1,
                                                                  0, 0, 1]
                                                                0 (pubK E0 K)
                                                                {
                                                                  fr :=
                                                                    [some (SV.raw (Value.slice b l c)), some (SV.raw (Value.int IntKind.i64 o)), some (SV.raw (Value.int IntKind.i64 n)), none, none, none, none, none, none, some (SV.slc 2 0 (p + 1) cap'), some (SV.raw (Value.bool true)), some (SV.raw (Value.int IntKind.i64 (↑i : Int))), none, none, none, none, none, none, none, none, none, none, none, none, none, none, none, none, none, none, none, none, none, none, none, none, some (SV.raw (Value.int IntKind.i64 (↑i : Int))), some (SV.raw (Value.slice b l c)), some (SV.raw (Value.int IntKind.i64 (↑l : Int))), some (SV.raw (Value.bool (decide ((↑i : Int) < (↑l : Int))))), none, none, some (SV.raw (Value.bool d)), some (SV.raw (Value.bool !d)), some (SV.raw (Value.bool true)), some (SV.raw (Value.slice b l c)), some (SV.raw (Value.int IntKind.i64 (↑i : Int))), some (SV.rp (Value.slice b l c) (Int.toNat (↑i : Int) * 2)), some (SV.rp (Value.slice b l c) (Int.toNat (↑i : Int) * 2 + 0)), some (SV.raw (Value.int IntKind.i64 n_1)), some (SV.raw (Value.int IntKind.i64 o)), some (SV.raw (Value.bool (decide (n_1 ≥ o)))), some (SV.raw (Value.bool (bif true then decide (n_1 ≥ o) else false))), some (SV.slc 0 0 p capp), some (SV.raw (Value.int IntKind.i64 o)), some (SV.raw (Value.slice b l c)), some (SV.raw (Value.int IntKind.i64 o)), some (SV.raw (Value.slice b' l' c')), some (SV.raw (Value.int IntKind.i64 n)), some (SV.raw (Value.slice b'_1 l'_1 c'_1)), some (SV.agg [SV.raw (Value.int IntKind.i64 o), SV.raw (Value.slice b'_1 l'_1 c'_1)]), some (SV.slc 1 0 1 1), some (SV.slc 2 0 (p + 1) cap'), none, none, none, none, none, none, none, none, none, none, none, none, none, none, none, none, none, none, none, none, none, none, none, none, none, none, none],
                                                                  bx :=
                                                                    [{ elem := 45, row := Row.lst [],
                                                                        total := 0, own := false : Box },
                                                                      { elem := 45,
                                                                        row :=
                                                                          Row.lst
                                                                            [SV.raw (Value.int IntKind.i64 o),
                                                                              SV.raw (Value.slice b'_1 l'_1 c'_1)],
                                                                        total := 2, own := true : Box },
                                                                      { elem := 45,
                                                                        row :=
                                                                          Row.vals
                                                                            (List.take (p * 2) (List.flatten rs) ++
                                                                              [Value.int IntKind.i64 o,
                                                                                Value.slice b'_1 l'_1 c'_1]),
                                                                        total := tot', own := true : Box }],
                                                                  E := E' : St })
                  else
                    Ct A2 8 Try.f12
                      [1, 1, 1, 1, 1, 0, 1, 0, 0,
                        1, 0, 0, 1]
                      0 (pubK E0 K)
                      {
                        fr :=
                          [some (SV.raw (Value.slice b l c)), some (SV.raw (Value.int IntKind.i64 o)), some (SV.raw (Value.int IntKind.i64 n)), none, none, none, none, none, none, some (SV.slc 0 0 p capp), some (SV.raw (Value.bool d)), some (SV.raw (Value.int IntKind.i64 (↑i : Int))), none, none, none, none, none, none, none, none, none, none, none, none, none, none, none, none, none, none, none, none, none, none, none, none, some (SV.raw (Value.int IntKind.i64 (↑i : Int))), some (SV.raw (Value.slice b l c)), some (SV.raw (Value.int IntKind.i64 (↑l : Int))), some (SV.raw (Value.bool (decide ((↑i : Int) < (↑l : Int))))), none, none, some (SV.raw (Value.bool d)), some (SV.raw (Value.bool !d)), some (SV.raw (Value.bool true)), some (SV.raw (Value.slice b l c)), some (SV.raw (Value.int IntKind.i64 (↑i : Int))), some (SV.rp (Value.slice b l c) (Int.toNat (↑i : Int) * 2)), some (SV.rp (Value.slice b l c) (Int.toNat (↑i : Int) * 2 + 0)), some (SV.raw (Value.int IntKind.i64 n_1)), some (SV.raw (Value.int IntKind.i64 o)), some (SV.raw (Value.bool (decide (n_1 ≥ o)))), some (SV.raw (Value.bool (bif true then decide (n_1 ≥ o) else false))), none, none, none, none, none, none, none, none, none, none, none, none, none, none, none, none, none, none, none, none, none, none, none, none, none, none, none, none, none, none, none, none, none, none, none, none, none],
                        bx := [{ elem := 45, row := Row.vals (List.flatten rs), total := tot, own := true : Box }],
                        E := E : St })
        else
          Ct A2 8 Try.f12
            [1, 1, 1, 1, 1, 0, 1, 0, 0, 1,
              0, 0, 1]
            0 (pubK E0 K)
            {
              fr :=
                [some (SV.raw (Value.slice b l c)), some (SV.raw (Value.int IntKind.i64 o)), some (SV.raw (Value.int IntKind.i64 n)), none, none, none, none, none, none, some (SV.slc 0 0 p capp), some (SV.raw (Value.bool d)), some (SV.raw (Value.int IntKind.i64 (↑i : Int))), none, none, none, none, none, none, none, none, none, none, none, none, none, none, none, none, none, none, none, none, none, none, none, none, some (SV.raw (Value.int IntKind.i64 (↑i : Int))), some (SV.raw (Value.slice b l c)), some (SV.raw (Value.int IntKind.i64 (↑l : Int))), some (SV.raw (Value.bool (decide ((↑i : Int) < (↑l : Int))))), none, none, some (SV.raw (Value.bool d)), some (SV.raw (Value.bool !d)), some (SV.raw (Value.bool false)), some (SV.raw (Value.tuple { toList := [] : Array Value })), some (SV.raw (Value.tuple { toList := [] : Array Value })), some (SV.raw (Value.tuple { toList := [] : Array Value })), some (SV.raw (Value.tuple { toList := [] : Array Value })), some (SV.raw (Value.tuple { toList := [] : Array Value })), some (SV.raw (Value.tuple { toList := [] : Array Value })), some (SV.raw (Value.tuple { toList := [] : Array Value })), some (SV.raw (Value.bool false)), none, none, none, none, none, none, none, none, none, none, none, none, none, none, none, none, none, none, none, none, none, none, none, none, none, none, none, none, none, none, none, none, none, none, none, none, none],
              bx := [{ elem := 45, row := Row.vals (List.flatten rs), total := tot, own := true : Box }], E := E :
              St }
      else
        Ct A2 8 Try.f12 [1, 1, 1, 1, 1, 1] 0 (pubK E0 K)
          {
            fr :=
              [some (SV.raw (Value.slice b l c)), some (SV.raw (Value.int IntKind.i64 o)), some (SV.raw (Value.int IntKind.i64 n)), none, none, none, none, none, none, some (SV.slc 0 0 p capp), some (SV.raw (Value.bool d)), some (SV.raw (Value.int IntKind.i64 (↑i : Int))), none, none, none, none, none, none, none, none, none, none, none, none, none, none, none, none, none, none, none, none, none, none, none, none, some (SV.raw (Value.int IntKind.i64 (↑i : Int))), some (SV.raw (Value.slice b l c)), some (SV.raw (Value.int IntKind.i64 (↑l : Int))), some (SV.raw (Value.bool (decide ((↑i : Int) < (↑l : Int))))), none, none, none, none, none, none, none, none, none, none, none, none, none, none, none, none, none, none, none, none, none, none, none, none, none, none, none, none, none, none, none, none, none, none, none, none, none, none, none, none, none, none, none, none, none, none, none, none, none, none],
            bx := [{ elem := 45, row := Row.vals (List.flatten rs), total := tot, own := true : Box }], E := E : St })
  have hflat := hr.flat SR_ok
  have hxl := hx.len
  have hof : (ofF xs o).length ≤ 64 := by
    have := hv.1
    unfold ofF
    split
    · rename_i x e; have := many_mem (List.mem_of_find?_eq_some e); omega
    · simp
  refine condC (fun g => ?_) (fun g => ?_)
  · have g : i < l := by simpa using g
    obtain ⟨x, ex⟩ : ∃ x, xs[i]? = some x := ⟨_, List.getElem?_eq_getElem (by omega)⟩
    have hst := foldRA_take (o := o) (r := withF (ofF xs o) n) ex
    rw [hw] at hst
    have no : ¬ (d = false ∧ o ≤ x.1) → Pc A2 8 Try.f12 [1, 1, 1, 1, 1, 0, 1, 0, 0, 1, 0, 0, 1] 0 (pubK E0 K) (sh12 b l c o n i p capp tot d rs E) := fun q => by
      rw [stepR_no q] at hst
      refine pcB13 hx hv hl2 hn hr hp (by omega) hs hc hE hpi ex (fun p' capp' tot' rs' zs' k1 k2 k3 k4 k5 k6 => ih p' capp' tot' d rs' zs' E g hx k1 (by rw [hst, k2]) k3 k4 (fun w => ?_) k5 k6 hE)
      have := hpd w
      rw [k2] at k3
      split at k3
      · omega
      · simp at k3; omega
    refine condC (fun g1 => req_intro (by omega) ⟨SL.nex SR_ok hx ex, x.1, hx.loadO ex, condC (fun g2 => ⟨xs, hx, by omega, fun b' l' c' q1 => ⟨Mem.le_refl _, ofF xs o, q1, by have := q1.len; omega, hn, fun b2 l2 c2 E' q2 q3 => ⟨q2, by show _ ≤ (List.map SV.raw _).length; rw [List.length_map, hflat]; omega, hc.2, hc.1, req_intro (by omega) (fun cap' tot' d1 d2 => ?_)⟩⟩⟩) (fun g2 => ?_)⟩) (fun g1 => ?_)
    · have g1 : d = false := by simpa using g1
      subst g1
      have g2 : o ≤ x.1 := by simp at g2; omega
      have hpi' := hpd rfl
      rw [stepR_ins g2] at hst
      rw [flat_snoc SR_ok hr hp]
      have K1 := pcB13 (K := K) (p := p + 1) (hx.mono SR_ok q2) hv hl2 hn ((hr.mono SR_ok q2).snoc (x := ((o, withF (ofF xs o) n) : Sn)) ⟨b2, l2, c2, rfl, q3⟩) (by simp [hp]) (by omega) (fun y hy => by
        rcases List.mem_append.1 hy with w | w
        · exact hs y w
        · simp at w; subst w; exact hlr) ⟨d1, d2⟩ (Mem.le_trans hE q2) (by omega) ex (fun p' capp' tot' rs' zs' k1 k2 k3 k4 k5 k6 => ih p' capp' tot' true rs' zs' E' g (hx.mono SR_ok q2) k1 (by rw [hst, k2]) k3 k4 (fun w => by cases w) k5 k6 (Mem.le_trans hE q2))
      exact Ct_re [some 2] (Ct_intro okA2 K1) ⟨⟨by simp, by simp, fun j h => absurd h (Nat.not_lt_zero _)⟩, rfl, (by repeat' first | exact True.intro | refine And.intro (Or.inl rfl) ?_ | refine And.intro (Or.inr ⟨rfl, rfl⟩) ?_), (by repeat' first | exact True.intro | exact rfl | exact Or.inl rfl | fail | refine And.intro ?_ ?_), (show List.Nodup [2] from by decide), Mem.le_refl _⟩
    · have g2 : ¬ o ≤ x.1 := by simp at g2; omega
      exact Ct_re [some 0] (Ct_intro okA2 (no (fun w => g2 w.2))) ⟨⟨by simp, by simp, fun j h => absurd h (Nat.not_lt_zero _)⟩, rfl, (by repeat' first | exact True.intro | refine And.intro (Or.inl rfl) ?_ | refine And.intro (Or.inr ⟨rfl, rfl⟩) ?_), (by repeat' first | exact True.intro | exact rfl | exact Or.inl rfl | fail | refine And.intro ?_ ?_), (show List.Nodup [0] from by decide), Mem.le_refl _⟩
    · have g1 : d = true := by simpa using g1
      exact Ct_re [some 0] (Ct_intro okA2 (no (fun w => by rw [g1] at w; cases w.1))) ⟨⟨by simp, by simp, fun j h => absurd h (Nat.not_lt_zero _)⟩, rfl, (by repeat' first | exact True.intro | refine And.intro (Or.inl rfl) ?_ | refine And.intro (Or.inr ⟨rfl, rfl⟩) ?_), (by repeat' first | exact True.intro | exact rfl | exact Or.inl rfl | fail | refine And.intro ?_ ?_), (show List.Nodup [0] from by decide), Mem.le_refl _⟩
  · have g : i = l := by simp at g; omega
    rw [List.take_of_length_le (by omega)] at hw
    exact Ct_re [some 0] (Ct_intro okA2 (pcB15 hr hp hl hs hc hE hn (h d zs hw))) ⟨⟨by simp, by simp, fun j h => absurd h (Nat.not_lt_zero _)⟩, rfl, (by repeat' first | exact True.intro | refine And.intro (Or.inl rfl) ?_ | refine And.intro (Or.inr ⟨rfl, rfl⟩) ?_), (by repeat' first | exact True.intro | exact rfl | exact Or.inl rfl | fail | refine And.intro ?_ ?_), (show List.Nodup [0] from by decide), Mem.le_refl _⟩
theorem lp12 {b : Option Addr} {l c i p capp tot : Nat} {o n : Int} {d : Bool} {xs : List Sn} {rs : List (List Value)} {zs : List Sn} {E0 : Mem} (hx : SS E b l c xs) (hv : validS xs) (hl2 : l ≤ 60) (hn : 0 ≤ n ∧ n ≤ 2000000000) (hr : SLr SR E rs zs) (hp : zs.length = p) (hl : p ≤ 900) (hs : ∀ y ∈ zs, y.2.length ≤ 1000) (hc : p ≤ capp ∧ capp * 2 ≤ tot) (hE : Mem.le E0 E) (hpi : p ≤ i + 1) (hi : i ≤ l) (hpd : d = false → p ≤ i) (hw : foldRA (xs.take i) o (withF (ofF xs o) n) = (d, zs)) (hlr : (withF (ofF xs o) n).length ≤ 1000) (h : ∀ (d : Bool) (zs : List Sn), foldRA xs o (withF (ofF xs o) n) = (d, zs) → ∀ (ys : List Sn) (t : Bool) (e : Int), endA (lastR (d, zs) o n) = (ys, t, e) → ∀ (b' : Option Addr) (l' c' : Nat) (E' : Mem), Mem.le E0 E' → SS E' b' l' c' ys → K (.tup [L b' l' c', B t, I e]) E') : Lp A2 8 Try.f12 [1, 1, 1, 1, 1, 0, 1, 0] 0 (pubK E0 K) (sh12 b l c o n i p capp tot d rs E) :=
  Lp_ind okA2 (fun x : {x : (Nat × Nat × Nat × Nat) × (Bool × List (List Value) × List Sn) × Mem // x.1.1 ≤ l ∧ SS x.2.2 b l c xs ∧ SLr SR x.2.2 x.2.1.2.1 x.2.1.2.2 ∧ foldRA (xs.take x.1.1) o (withF (ofF xs o) n) = (x.2.1.1, x.2.1.2.2) ∧ x.2.1.2.2.length = x.1.2.1 ∧ x.1.2.1 ≤ x.1.1 + 1 ∧ (x.2.1.1 = false → x.1.2.1 ≤ x.1.1) ∧ (∀ y ∈ x.2.1.2.2, y.2.length ≤ 1000) ∧ (x.1.2.1 ≤ x.1.2.2.1 ∧ x.1.2.2.1 * 2 ≤ x.1.2.2.2) ∧ Mem.le E0 x.2.2} => sh12 b l c o n x.1.1.1 x.1.1.2.1 x.1.1.2.2.1 x.1.1.2.2.2 x.1.2.1.1 x.1.2.1.2.1 x.1.2.2) (fun x => l - x.1.1.1)
    (fun x ih => rnd12 x.2.2.1 hv hl2 hn x.2.2.2.1 x.2.2.2.2.2.1 (by have := x.2.1; have := x.2.2.2.2.2.2.1; omega) x.2.2.2.2.2.2.2.2.1 x.2.2.2.2.2.2.2.2.2.1 x.2.2.2.2.2.2.2.2.2.2 x.2.2.2.2.2.2.1 x.2.1 x.2.2.2.2.2.2.2.1 x.2.2.2.2.1 hlr h fun p capp tot d rs zs E g k0 k1 k2 k3 k4 k5 k6 k7 k8 => ih ⟨((x.1.1.1 + 1, p, capp, tot), (d, rs, zs), E), by show x.1.1.1 + 1 ≤ l; omega, k0, k1, k2, k3, k4, k5, k6, k7, k8⟩ (by show l - (_ + 1) < l - _; omega)) ⟨((i, p, capp, tot), (d, rs, zs), E), hi, hx, hr, hw, hp, hpi, hpd, hs, hc, hE⟩
theorem s12 {b1 : Option Addr} {l2 : Nat} {c3 : Nat} {a4 : Int} {a5 : Int} {xs : List Sn} (h0 : SS E b1 l2 c3 xs) (h1 : Sm xs) (h : ∀ (ys : List Sn) (t : Bool) (e : Int), addR xs a4 a5 = (ys, t, e) → ∀ (b' : Option Addr) (l' c' : Nat) (E' : Mem), Mem.le E E' → SS E' b' l' c' ys → K (.tup [L b' l' c', B t, I e]) E') :
    Ent A2 8 Try.f12 [L b1 l2 c3, I a4, I a5] E K := by
  refine same (by kernel_rfl) (?_ : 
      ∃ (xs : List Sn),
        SS E b1 l2 c3 xs ∧
          Sm xs ∧
            Mem.le E E ∧
              bif !decide (validS xs) then
                Mem.le E E ∧
                  K
                    (SV.tup
                      [SV.raw (Value.slice none 0 0), SV.raw (Value.bool false),
                        SV.raw (Value.int IntKind.i64 (1 : Int))])
                    E
              else
                bif bif false then true else decide (a4 < (0 : Int)) then
                  Mem.le E E ∧
                    K
                      (SV.tup
                        [SV.raw (Value.slice none 0 0), SV.raw (Value.bool false),
                          SV.raw (Value.int IntKind.i64 (1 : Int))])
                      E
                else
                  bif bif false then true else decide (a4 ≥ (60 : Int)) then
                    Mem.le E E ∧
                      K
                        (SV.tup
                          [SV.raw (Value.slice none 0 0), SV.raw (Value.bool false),
                            SV.raw (Value.int IntKind.i64 (1 : Int))])
                        E
                  else
                    bif bif false then true else decide (a5 < (1 : Int)) then
                      Mem.le E E ∧
                        K
                          (SV.tup
                            [SV.raw (Value.slice none 0 0), SV.raw (Value.bool false),
                              SV.raw (Value.int IntKind.i64 (1 : Int))])
                          E
                    else
                      bif bif false then true else decide (a5 > (1000000000 : Int)) then
                        Mem.le E E ∧
                          K
                            (SV.tup
                              [SV.raw (Value.slice none 0 0), SV.raw (Value.bool false),
                                SV.raw (Value.int IntKind.i64 (1 : Int))])
                            E
                      else
                        ∃ (xs_1 : List Sn),
                          SS E b1 l2 c3 xs_1 ∧
                            Sm xs_1 ∧
                              Mem.le E E ∧
                                bif decide (hasP xs_1 a4 a5) then
                                  Mem.le E E ∧
                                    K
                                      (SV.tup
                                        [SV.raw (Value.slice b1 l2 c3), SV.raw (Value.bool false),
                                          SV.raw (Value.int IntKind.i64 (0 : Int))])
                                      E
                                else
                                  Lp A2 8 Try.f12
                                    [1, 1, 1, 1, 1, 0, 1, 0]
                                    0 (pubK E K)
                                    {
                                      fr :=
                                        [some (SV.raw (Value.slice b1 l2 c3)), some (SV.raw (Value.int IntKind.i64 a4)), some (SV.raw (Value.int IntKind.i64 a5)), none, none, none, some (SV.raw (Value.slice none 0 0)), some (SV.raw (Value.bool false)), some (SV.raw (Value.int IntKind.i64 (0 : Int))), some (SV.raw (Value.slice none 0 0)), some (SV.raw (Value.bool false)), some (SV.raw (Value.int IntKind.i64 (0 : Int))), some (SV.raw (Value.slice b1 l2 c3)), some (SV.raw (Value.bool (decide (validS xs)))), some (SV.raw (Value.bool !decide (validS xs))), some (SV.raw (Value.bool false)), some (SV.raw (Value.int IntKind.i64 a4)), some (SV.raw (Value.bool (decide (a4 < (0 : Int))))), some (SV.raw (Value.bool (bif false then true else decide (a4 < (0 : Int))))), some (SV.raw (Value.bool false)), some (SV.raw (Value.int IntKind.i64 a4)), some (SV.raw (Value.bool (decide (a4 ≥ (60 : Int))))), some (SV.raw (Value.bool (bif false then true else decide (a4 ≥ (60 : Int))))), some (SV.raw (Value.bool false)), some (SV.raw (Value.int IntKind.i64 a5)), some (SV.raw (Value.bool (decide (a5 < (1 : Int))))), some (SV.raw (Value.bool (bif false then true else decide (a5 < (1 : Int))))), some (SV.raw (Value.bool false)), some (SV.raw (Value.int IntKind.i64 a5)), some (SV.raw (Value.bool (decide (a5 > (1000000000 : Int))))), some (SV.raw (Value.bool (bif false then true else decide (a5 > (1000000000 : Int))))), some (SV.raw (Value.slice b1 l2 c3)), some (SV.raw (Value.int IntKind.i64 a4)), some (SV.raw (Value.int IntKind.i64 a5)), some (SV.raw (Value.bool (decide (hasP xs_1 a4 a5)))), none, none, none, none, none, none, none, none, none, none, none, none, none, none, none, none, none, none, none, none, none, none, none, none, none, none, none, none, none, none, none, none, none, none, none, none, none, none, none, none, none, none, none, none, none, none, none, none, none, none, none, none, none, none, none],
                                      bx := [], E := E : St })
  have hn := h0.len
  have hb := h1.1
  have bad : ¬ okA xs a4 a5 → K (.tup [L none 0 0, B false, I 1]) E := fun g => h [] false 1 (by unfold addR; rw [if_neg g]) none 0 0 E (Mem.le_refl _) SL.nil
  refine ⟨xs, h0, h1, Mem.le_refl _, condC (fun g => ⟨Mem.le_refl _, bad (fun w => by simp at g; exact g w.1)⟩) (fun g => condC (fun g1 => ⟨Mem.le_refl _, bad (fun w => by simp at g1; have := w.2.1.1; omega)⟩) (fun g1 => condC (fun g2 => ⟨Mem.le_refl _, bad (fun w => by simp at g2; have := w.2.1.2; omega)⟩) (fun g2 => condC (fun g3 => ⟨Mem.le_refl _, bad (fun w => by simp at g3; have := w.2.2.1; omega)⟩) (fun g3 => condC (fun g4 => ⟨Mem.le_refl _, bad (fun w => by simp at g4; have := w.2.2.2; omega)⟩) (fun g4 => ?_)))))⟩
  have g : validS xs := by simpa using g
  have g1 : 0 ≤ a4 := by simp at g1; omega
  have g2 : a4 ≤ 59 := by simp at g2; omega
  have g3 : 1 ≤ a5 := by simp at g3; omega
  have g4 : a5 ≤ 1000000000 := by simp at g4; omega
  have gA : okA xs a4 a5 := ⟨g, ⟨g1, g2⟩, g3, g4⟩
  have hlen := chkS_len g.2 (by omega) (by omega)
  refine ⟨xs, h0, h1, Mem.le_refl _, condC (fun q => ⟨Mem.le_refl _, ?_⟩) (fun q => ?_)⟩
  · have q : hasP xs a4 a5 := by simpa using q
    exact h xs false 0 (by unfold addR; rw [if_pos gA, if_pos q]) b1 l2 c3 E (Mem.le_refl _) h0
  · have q : ¬ hasP xs a4 a5 := by simpa using q
    have hof : (ofF xs a4).length ≤ 64 := by
      have := g.1
      unfold ofF
      split
      · rename_i x e; have := many_mem (List.mem_of_find?_eq_some e); omega
      · simp
    have hwl : (withF (ofF xs a4) a5).length ≤ 1000 := by
      have := foldW_len (ofF xs a4) a5
      unfold withF
      simp only [List.length_append, List.length_cons]; omega
    exact Lp_re [none] (lp12 (K := K) (i := 0) (p := 0) (capp := 0) (tot := 0) (d := false) (rs := []) (zs := []) (o := a4) (n := a5) h0 g (by omega) (by omega) SLr.nil rfl (by omega) (by simp) ⟨Nat.le_refl _, Nat.le_refl _⟩ (Mem.le_refl _) (by omega) (by omega) (fun _ => Nat.le_refl _) rfl hwl (fun d zs e ys t e2 w => h ys t e2 (by unfold addR; rw [if_pos gA, if_neg q, e]; exact w))) ⟨⟨by simp, by simp, fun j h => absurd h (Nat.not_lt_zero _)⟩, rfl, (by repeat' first | exact True.intro | refine And.intro (Or.inl rfl) ?_ | refine And.intro (Or.inr ⟨rfl, rfl⟩) ?_), (by repeat' first | exact True.intro | exact rfl | exact Or.inl rfl | fail | refine And.intro ?_ ?_), (show List.Nodup [] from by decide), Mem.le_refl _⟩

end Go.Proofs.Ytjibgfihfbdcaaa.SeenOwn
