/- The package seen: what its functions answer. -/
import Derived.Test.YtjibgfihfbdcaaaSeen6
namespace Go.Proofs.Ytjibgfihfbdcaaa.SeenOwn
open Go Go.Sx
set_option maxRecDepth 100000
set_option maxHeartbeats 4000000
set_option linter.unusedVariables false
set_option linter.unusedSimpArgs false
variable {E : Mem} {K : SV → Mem → Prop}

structure WSt where
  lo : Int
  hi : Int
  bef : List Rg
  aft : List Rg
def stepW (n : Int) (w : WSt) (x : Rg) : WSt :=
  if x.2 = n - 1 then { w with lo := x.1 } else if x.1 = n + 1 then { w with hi := x.2 } else if x.2 < n then { w with bef := w.bef ++ [x] } else { w with aft := w.aft ++ [x] }
def foldW (rs : List Rg) (n : Int) : WSt := rs.foldl (stepW n) ⟨n, n, [], []⟩
def withF (rs : List Rg) (n : Int) : List Rg := (foldW rs n).bef ++ ((foldW rs n).lo, (foldW rs n).hi) :: (foldW rs n).aft
theorem foldW_take {rs : List Rg} {n : Int} {i : Nat} {x : Rg} (h : rs[i]? = some x) : foldW (rs.take (i + 1)) n = stepW n (foldW (rs.take i) n) x := by
  unfold foldW; rw [take_get' h, List.foldl_append]; rfl
theorem foldW_len (rs : List Rg) (n : Int) : (foldW rs n).bef.length + (foldW rs n).aft.length ≤ rs.length := by
  have key : ∀ (rs : List Rg) (w : WSt), (rs.foldl (stepW n) w).bef.length + (rs.foldl (stepW n) w).aft.length ≤ w.bef.length + w.aft.length + rs.length := by
    intro rs
    induction rs with
    | nil => intro w; simp
    | cons x rs ih =>
      intro w
      have h1 := ih (stepW n w x)
      have h2 : (stepW n w x).bef.length + (stepW n w x).aft.length ≤ w.bef.length + w.aft.length + 1 := by unfold stepW; split <;> (try split) <;> (try split) <;> simp <;> omega
      simp only [List.foldl_cons, List.length_cons]; omega
  simpa [foldW] using key rs ⟨n, n, [], []⟩
noncomputable def W1 : Cx := { P := Try.prog, inl := fun f => List.contains [] f, tab := fun _ _ _ _ => False, isB := fun _ => false, tabB := fun _ _ _ _ _ => False, opt := { unroll := 0, carry := [6, 7, 8] }, muts := mutsD }
theorem okW1 : CxOK W1 := CxOK.four (fun _ _ _ _ h => h.elim) (by kernel_rfl) (okInl (by kernel_rfl)) (fun _ _ _ _ _ h => h.elim)
def sh37 (b : Option Addr) (l c : Nat) (n : Int) (i p capb totb q capa tota : Nat) (w : WSt) (E : Mem) : St := ⟨[some (L b l c), some (I n), none, none, none, some (.loc 0 0), some (.slc 1 0 p capb), some (.slc 2 0 q capa), some (I (i : Nat)), none, none, none, none, none, none, none, none, none, none, none, none, none, none, none, none, none, none, none, none, none, none, none, none, none, none, none, none, none, none, none, none, none, none, none, none, none, none, none, none, none, none, none, none, none, none, none, none, none, none, none, none, none, none, none, none, none, none, none, none, none, none, none, none], [⟨47, .lst [I w.lo, I w.hi], 2, true⟩, ⟨47, .vals (rowsR w.bef), totb, true⟩, ⟨47, .vals (rowsR w.aft), tota, true⟩], E⟩
theorem rnd37 {b : Option Addr} {l c i p capb totb q capa tota : Nat} {n : Int} {E0 : Mem} {rs : List Rg} {w : WSt} (hx : RS E b l c rs) (hl : l ≤ 1000000) (hnn : 0 ≤ n ∧ n ≤ 2000000000) (hi : i ≤ l) (hp : w.bef.length = p) (hq : w.aft.length = q) (hcb : p ≤ capb ∧ capb * 2 ≤ totb) (hca : q ≤ capa ∧ capa * 2 ≤ tota) (hw : w = foldW (rs.take i) n) (hE : Mem.le E0 E) (h : ∀ (b' : Option Addr) (l' c' : Nat) (E' : Mem), Mem.le E E' → RS E' b' l' c' (withF rs n) → K (L b' l' c') E') (ih : ∀ (p capb totb q capa tota : Nat) (w : WSt), i < l → w.bef.length = p → w.aft.length = q → (p ≤ capb ∧ capb * 2 ≤ totb) → (q ≤ capa ∧ capa * 2 ≤ tota) → w = foldW (rs.take (i + 1)) n → Lp W1 8 Try.f37 [1, 1, 1, 1, 0, 1, 0] 0 (pubK E0 K) (sh37 b l c n (i + 1) p capb totb q capa tota w E)) : Rnd W1 8 Try.f37 [1, 1, 1, 1, 0, 1, 0] 0 (pubK E0 K) (sh37 b l c n i p capb totb q capa tota w E) := by
  refine same (by kernel_rfl) (?_ : 
      bif decide ((↑i : Int) < (↑l : Int)) then
        req ((0 : Int) ≤ (↑i : Int) ∧ (↑i : Int) < (↑l : Int))
          ((∃ (cs : List Value), E (Value.slice b l c) cs ∧ (cs = [] → False)) ∧
            ∃ (n_1 : Int),
              LoadE W1.P E 3 (Value.slice b l c) (Int.toNat (↑i : Int) * 2 + 1)
                  (SV.raw (Value.int IntKind.i64 n_1)) ∧
                bif n_1 == IntKind.wrap IntKind.i64 (n - (1 : Int)) then
                  req ((0 : Int) ≤ (↑i : Int) ∧ (↑i : Int) < (↑l : Int))
                    ((∃ (cs : List Value), E (Value.slice b l c) cs ∧ (cs = [] → False)) ∧
                      ∃ (n_2 : Int),
                        LoadE W1.P E 3 (Value.slice b l c) (Int.toNat (↑i : Int) * 2 + 0)
                            (SV.raw (Value.int IntKind.i64 n_2)) ∧
                          Lp W1 8 Try.f37
                            [1, 1, 1, 1, 0, 1, 0] 0
                            (pubK E0 K)
                            {
                              fr :=
                                [some (SV.raw (Value.slice b l c)), some (SV.raw (Value.int IntKind.i64 n)), none, none, none, some (SV.loc 0 0), some (SV.slc 1 0 p capb), some (SV.slc 2 0 q capa), some (SV.raw (Value.int IntKind.i64 (IntKind.wrap IntKind.i64 ((↑i : Int) + (1 : Int))))), none, none, none, none, none, none, none, none, none, none, none, none, none, none, none, none, none, none, none, none, none, none, none, none, none, none, none, none, none, none, none, none, none, none, none, none, none, none, none, none, none, none, none, none, none, none, none, none, none, none, none, none, none, none, none, none, none, none, none, none, none, none, none, none],
                              bx :=
                                [{ elem := 47,
                                    row := Row.lst [SV.raw (Value.int IntKind.i64 n_2), SV.raw (Value.int IntKind.i64 w.hi)],
                                    total := 2, own := true : Box },
                                  { elem := 47, row := Row.vals (rowsR w.bef), total := totb, own := true : Box },
                                  { elem := 47, row := Row.vals (rowsR w.aft), total := tota, own := true : Box }],
                              E := E : St })
                else
                  req ((0 : Int) ≤ (↑i : Int) ∧ (↑i : Int) < (↑l : Int))
                    ((∃ (cs : List Value), E (Value.slice b l c) cs ∧ (cs = [] → False)) ∧
                      ∃ (n_2 : Int),
                        LoadE W1.P E 3 (Value.slice b l c) (Int.toNat (↑i : Int) * 2 + 0)
                            (SV.raw (Value.int IntKind.i64 n_2)) ∧
                          bif n_2 == IntKind.wrap IntKind.i64 (n + (1 : Int)) then
                            req ((0 : Int) ≤ (↑i : Int) ∧ (↑i : Int) < (↑l : Int))
                              ((∃ (cs : List Value), E (Value.slice b l c) cs ∧ (cs = [] → False)) ∧
                                ∃ (n_3 : Int),
                                  LoadE W1.P E 3 (Value.slice b l c) (Int.toNat (↑i : Int) * 2 + 1)
                                      (SV.raw (Value.int IntKind.i64 n_3)) ∧
                                    Lp W1 8 Try.f37
                                      [1, 1, 1, 1, 0, 1, 0] 0
                                      (pubK E0 K)
                                      {
                                        fr :=
                                          [some (SV.raw (Value.slice b l c)), some (SV.raw (Value.int IntKind.i64 n)), none, none, none, some (SV.loc 0 0), some (SV.slc 1 0 p capb), some (SV.slc 2 0 q capa), some (SV.raw (Value.int IntKind.i64 (IntKind.wrap IntKind.i64 ((↑i : Int) + (1 : Int))))), none, none, none, none, none, none, none, none, none, none, none, none, none, none, none, none, none, none, none, none, none, none, none, none, none, none, none, none, none, none, none, none, none, none, none, none, none, none, none, none, none, none, none, none, none, none, none, none, none, none, none, none, none, none, none, none, none, none, none, none, none, none, none, none],
                                        bx :=
                                          [{ elem := 47,
                                              row :=
                                                Row.lst
                                                  [SV.raw (Value.int IntKind.i64 w.lo), SV.raw (Value.int IntKind.i64 n_3)],
                                              total := 2, own := true : Box },
                                            { elem := 47, row := Row.vals (rowsR w.bef), total := totb, own := true :
                                              Box },
                                            { elem := 47, row := Row.vals (rowsR w.aft), total := tota, own := true :
                                              Box }],
                                        E := E : St })
                          else
                            req ((0 : Int) ≤ (↑i : Int) ∧ (↑i : Int) < (↑l : Int))
                              ((∃ (cs : List Value), E (Value.slice b l c) cs ∧ (cs = [] → False)) ∧
                                ∃ (n_3 : Int),
                                  LoadE W1.P E 3 (Value.slice b l c) (Int.toNat (↑i : Int) * 2 + 1)
                                      (SV.raw (Value.int IntKind.i64 n_3)) ∧
                                    bif decide (n_3 < n) then
                                      req ((0 : Int) ≤ (↑i : Int) ∧ (↑i : Int) < (↑l : Int))
                                        ((∃ (cs : List Value), E (Value.slice b l c) cs ∧ (cs = [] → False)) ∧
                                          ∃ (n_4 : Int),
                                            ∃ (n_5 : Int),
                                              LoadE W1.P E 47 (Value.slice b l c) (Int.toNat (↑i : Int) * 2)
                                                  (SV.agg
                                                    [SV.raw (Value.int IntKind.i64 n_4),
                                                      SV.raw (Value.int IntKind.i64 n_5)]) ∧
                                                p * 2 ≤ List.length (Row.cells (Row.vals (rowsR w.bef))) ∧
                                                  capb * 2 ≤ totb ∧
                                                    p ≤ capb ∧
                                                      req ((p + 1) * 16 ≤ 140737488355328)
                                                        (∀ (cap' tot' : Nat),
                                                          p + 1 ≤ cap' →
                                                            cap' * 2 ≤ tot' →
                                                              Lp W1 8 Try.f37
                                                                [1, 1, 1, 1, 0,
                                                                  1, 0]
                                                                0 (pubK E0 K)
                                                                {
                                                                  fr :=
                                                                    [some (SV.raw (Value.slice b l c)), some (SV.raw (Value.int IntKind.i64 n)), none, none, none, some (SV.loc 0 0), some (SV.slc 4 0 (p + 1) cap'), some (SV.slc 2 0 q capa), some (SV.raw (Value.int IntKind.i64 (IntKind.wrap IntKind.i64 ((↑i : Int) + (1 : Int))))), none, none, none, none, none, none, none, none, none, none, none, none, none, none, none, none, none, none, none, none, none, none, none, none, none, none, none, none, none, none, none, none, none, none, none, none, none, none, none, none, none, none, none, none, none, none, none, none, none, none, none, none, none, none, none, none, none, none, none, none, none, none, none, none],
                                                                  bx :=
                                                                    [{ elem := 47,
                                                                        row :=
                                                                          Row.lst
                                                                            [SV.raw (Value.int IntKind.i64 w.lo),
                                                                              SV.raw (Value.int IntKind.i64 w.hi)],
                                                                        total := 2, own := true : Box },
                                                                      { elem := 47, row := Row.lst [],
                                                                        total := 0, own := false : Box },
                                                                      { elem := 47, row := Row.vals (rowsR w.aft),
                                                                        total := tota, own := true : Box },
                                                                      { elem := 47,
                                                                        row :=
                                                                          Row.lst
                                                                            [SV.raw (Value.int IntKind.i64 n_4),
                                                                              SV.raw (Value.int IntKind.i64 n_5)],
                                                                        total := 2, own := true : Box },
                                                                      { elem := 47,
                                                                        row :=
                                                                          Row.vals
                                                                            (List.take (p * 2) (rowsR w.bef) ++
                                                                              [Value.int IntKind.i64 n_4,
                                                                                Value.int IntKind.i64 n_5]),
                                                                        total := tot', own := true : Box }],
                                                                  E := E : St }))
                                    else
                                      req ((0 : Int) ≤ (↑i : Int) ∧ (↑i : Int) < (↑l : Int))
                                        ((∃ (cs : List Value), E (Value.slice b l c) cs ∧ (cs = [] → False)) ∧
                                          ∃ (n_4 : Int),
                                            ∃ (n_5 : Int),
                                              LoadE W1.P E 47 (Value.slice b l c) (Int.toNat (↑i : Int) * 2)
                                                  (SV.agg
                                                    [SV.raw (Value.int IntKind.i64 n_4),
                                                      SV.raw (Value.int IntKind.i64 n_5)]) ∧
                                                q * 2 ≤ List.length (Row.cells (Row.vals (rowsR w.aft))) ∧
                                                  capa * 2 ≤ tota ∧
                                                    q ≤ capa ∧
                                                      req ((q + 1) * 16 ≤ 140737488355328)
                                                        (∀ (cap' tot' : Nat),
                                                          q + 1 ≤ cap' →
                                                            cap' * 2 ≤ tot' →
                                                              Lp W1 8 Try.f37
                                                                [1, 1, 1, 1, 0,
                                                                  1, 0]
                                                                0 (pubK E0 K)
                                                                {
                                                                  fr :=
                                                                    [some (SV.raw (Value.slice b l c)), some (SV.raw (Value.int IntKind.i64 n)), none, none, none, some (SV.loc 0 0), some (SV.slc 1 0 p capb), some (SV.slc 4 0 (q + 1) cap'), some (SV.raw (Value.int IntKind.i64 (IntKind.wrap IntKind.i64 ((↑i : Int) + (1 : Int))))), none, none, none, none, none, none, none, none, none, none, none, none, none, none, none, none, none, none, none, none, none, none, none, none, none, none, none, none, none, none, none, none, none, none, none, none, none, none, none, none, none, none, none, none, none, none, none, none, none, none, none, none, none, none, none, none, none, none, none, none, none, none, none, none],
                                                                  bx :=
                                                                    [{ elem := 47,
                                                                        row :=
                                                                          Row.lst
                                                                            [SV.raw (Value.int IntKind.i64 w.lo),
                                                                              SV.raw (Value.int IntKind.i64 w.hi)],
                                                                        total := 2, own := true : Box },
                                                                      { elem := 47, row := Row.vals (rowsR w.bef),
                                                                        total := totb, own := true : Box },
                                                                      { elem := 47, row := Row.lst [],
                                                                        total := 0, own := false : Box },
                                                                      { elem := 47,
                                                                        row :=
                                                                          Row.lst
                                                                            [SV.raw (Value.int IntKind.i64 n_4),
                                                                              SV.raw (Value.int IntKind.i64 n_5)],
                                                                        total := 2, own := true : Box },
                                                                      { elem := 47,
                                                                        row :=
                                                                          Row.vals
                                                                            (List.take (q * 2) (rowsR w.aft) ++
                                                                              [Value.int IntKind.i64 n_4,
                                                                                Value.int IntKind.i64 n_5]),
                                                                        total := tot', own := true : Box }],
                                                                  E := E : St })))))
      else
        p * 2 ≤ List.length (Row.cells (Row.vals (rowsR w.bef))) ∧
          capb * 2 ≤ totb ∧
            p ≤ capb ∧
              req ((p + 1) * 16 ≤ 140737488355328)
                (∀ (cap' tot' : Nat),
                  p + 1 ≤ cap' →
                    cap' * 2 ≤ tot' →
                      0 + q * 2 ≤ List.length (rowsR w.aft) ∧
                        (∀ (x : Value), List.Mem x (rowsR w.aft) → Value.oneCell' x = true) ∧
                          (p + 1) * 2 ≤
                              List.length
                                (Row.cells
                                  (Row.vals
                                    (List.take (p * 2) (rowsR w.bef) ++
                                      [Value.int IntKind.i64 w.lo, Value.int IntKind.i64 w.hi]))) ∧
                            cap' * 2 ≤ tot' ∧
                              p + 1 ≤ cap' ∧
                                req ((p + 1 + q) * 16 ≤ 140737488355328)
                                  (∀ (cap' tot' : Nat),
                                    p + 1 + q ≤ cap' →
                                      cap' * 2 ≤ tot' →
                                        ∀ (base : Option Addr) (E' : Mem),
                                          Mem.le E E' →
                                            WinE E' base
                                                (List.take ((p + 1) * 2)
                                                    (List.take (p * 2) (rowsR w.bef) ++
                                                      [Value.int IntKind.i64 w.lo, Value.int IntKind.i64 w.hi]) ++
                                                  List.take (q * 2) (List.drop 0 (rowsR w.aft))) →
                                              Mem.le E0 E' ∧
                                                K
                                                  (SV.raw
                                                    (Value.slice (Option.map (fun (x : Addr) => Addr.add x 0) base)
                                                      (p + 1 + q) cap'))
                                                  E')))
  have hm := hx.len
  have hlb := rowsR_len w.bef
  have hla := rowsR_len w.aft
  have hln := foldW_len (rs.take i) n
  rw [← hw, List.length_take] at hln
  refine condC (fun g => ?_) (fun g => ?_)
  · have g : i < l := by simpa using g
    obtain ⟨x, ex⟩ : ∃ x, rs[i]? = some x := ⟨_, List.getElem?_eq_getElem (by omega)⟩
    have w1 : IntKind.wrap .i64 ((i : Int) + 1) = ((i + 1 : Nat) : Int) := by rw [wrap_i64 (by omega)]; simp
    have hst := foldW_take (n := n) ex
    rw [← hw] at hst
    unfold stepW at hst
    rw [w1, wrap_i64 (x := n - 1) (by omega), wrap_i64 (x := n + 1) (by omega)]
    refine req_intro (by omega) ⟨SL.nex RR_ok hx ex, x.2, hx.loadB ex, condC (fun a => ?_) (fun a => ?_)⟩
    · have a : x.2 = n - 1 := by simpa using a
      rw [if_pos a] at hst
      exact req_intro (by omega) ⟨SL.nex RR_ok hx ex, x.1, hx.loadA ex, Lp_re [some 0, some 1, some 2] (ih p capb totb q capa tota ⟨x.1, w.hi, w.bef, w.aft⟩ g hp hq hcb hca hst.symm) ⟨⟨by simp, by simp, fun j h => absurd h (Nat.not_lt_zero _)⟩, rfl, (by repeat' first | exact True.intro | refine And.intro (Or.inl rfl) ?_ | refine And.intro (Or.inr ⟨rfl, rfl⟩) ?_), (by repeat' first | exact True.intro | exact rfl | exact Or.inl rfl | fail | refine And.intro ?_ ?_), (show List.Nodup [0, 1, 2] from by decide), Mem.le_refl _⟩⟩
    have a : ¬ x.2 = n - 1 := by simpa using a
    rw [if_neg a] at hst
    refine req_intro (by omega) ⟨SL.nex RR_ok hx ex, x.1, hx.loadA ex, condC (fun a2 => ?_) (fun a2 => ?_)⟩
    · have a2 : x.1 = n + 1 := by simpa using a2
      rw [if_pos a2] at hst
      exact req_intro (by omega) ⟨SL.nex RR_ok hx ex, x.2, hx.loadB ex, Lp_re [some 0, some 1, some 2] (ih p capb totb q capa tota ⟨w.lo, x.2, w.bef, w.aft⟩ g hp hq hcb hca hst.symm) ⟨⟨by simp, by simp, fun j h => absurd h (Nat.not_lt_zero _)⟩, rfl, (by repeat' first | exact True.intro | refine And.intro (Or.inl rfl) ?_ | refine And.intro (Or.inr ⟨rfl, rfl⟩) ?_), (by repeat' first | exact True.intro | exact rfl | exact Or.inl rfl | fail | refine And.intro ?_ ?_), (show List.Nodup [0, 1, 2] from by decide), Mem.le_refl _⟩⟩
    have a2 : ¬ x.1 = n + 1 := by simpa using a2
    rw [if_neg a2] at hst
    refine req_intro (by omega) ⟨SL.nex RR_ok hx ex, x.2, hx.loadB ex, condC (fun a3 => ?_) (fun a3 => ?_)⟩
    · have a3 : x.2 < n := by simpa using a3
      rw [if_pos a3] at hst
      refine req_intro (by omega) ⟨SL.nex RR_ok hx ex, x.1, x.2, hx.load ex, by show _ ≤ (List.map SV.raw _).length; rw [List.length_map]; omega, hcb.2, hcb.1, req_intro (by omega) (fun cap' tot' c1 c2 => ?_)⟩
      have er : List.take (p * 2) (rowsR w.bef) ++ [Value.int .i64 x.1, Value.int .i64 x.2] = rowsR (w.bef ++ [x]) := by rw [List.take_of_length_le (by omega), rowsR_app]; rfl
      rw [er]
      exact Lp_re [some 0, some 4, some 2] (ih (p + 1) cap' tot' q capa tota ⟨w.lo, w.hi, w.bef ++ [x], w.aft⟩ g (by simp [hp]) hq ⟨c1, c2⟩ hca hst.symm) ⟨⟨by simp, by simp, fun j h => absurd h (Nat.not_lt_zero _)⟩, rfl, (by repeat' first | exact True.intro | refine And.intro (Or.inl rfl) ?_ | refine And.intro (Or.inr ⟨rfl, rfl⟩) ?_), (by repeat' first | exact True.intro | exact rfl | exact Or.inl rfl | fail | refine And.intro ?_ ?_), (show List.Nodup [0, 4, 2] from by decide), Mem.le_refl _⟩
    · have a3 : ¬ x.2 < n := by simpa using a3
      rw [if_neg a3] at hst
      refine req_intro (by omega) ⟨SL.nex RR_ok hx ex, x.1, x.2, hx.load ex, by show _ ≤ (List.map SV.raw _).length; rw [List.length_map]; omega, hca.2, hca.1, req_intro (by omega) (fun cap' tot' c1 c2 => ?_)⟩
      have er : List.take (q * 2) (rowsR w.aft) ++ [Value.int .i64 x.1, Value.int .i64 x.2] = rowsR (w.aft ++ [x]) := by rw [List.take_of_length_le (by omega), rowsR_app]; rfl
      rw [er]
      exact Lp_re [some 0, some 1, some 4] (ih p capb totb (q + 1) cap' tot' ⟨w.lo, w.hi, w.bef, w.aft ++ [x]⟩ g hp (by simp [hq]) hcb ⟨c1, c2⟩ hst.symm) ⟨⟨by simp, by simp, fun j h => absurd h (Nat.not_lt_zero _)⟩, rfl, (by repeat' first | exact True.intro | refine And.intro (Or.inl rfl) ?_ | refine And.intro (Or.inr ⟨rfl, rfl⟩) ?_), (by repeat' first | exact True.intro | exact rfl | exact Or.inl rfl | fail | refine And.intro ?_ ?_), (show List.Nodup [0, 1, 4] from by decide), Mem.le_refl _⟩
  · have g : i = l := by simp at g; omega
    rw [List.take_of_length_le (by omega)] at hw
    refine ⟨by show _ ≤ (List.map SV.raw _).length; rw [List.length_map]; omega, hcb.2, hcb.1, req_intro (by omega) (fun cap1 tot1 d1 d2 => ⟨by omega, rowsR_one _, ?_, d2, d1, req_intro (by omega) (fun cap2 tot2 d3 d4 base E' q' hW => ⟨Mem.le_trans hE q', h _ _ _ E' q' ?_⟩)⟩)⟩
    · show _ ≤ (List.map SV.raw _).length
      rw [List.length_map, List.length_append, List.length_take]
      simp; omega
    · have er : List.take ((p + 1) * 2) (List.take (p * 2) (rowsR w.bef) ++ [Value.int .i64 w.lo, Value.int .i64 w.hi]) ++ List.take (q * 2) (List.drop 0 (rowsR w.aft)) = rowsR (withF rs n) := by
        rw [List.take_of_length_le (l := rowsR w.bef) (by omega), List.drop_zero, List.take_of_length_le (l := rowsR w.aft) (by omega), List.take_of_length_le (by simp; omega)]
        unfold withF
        rw [← hw, rowsR_app]
        simp [rowsR]
      rw [er] at hW
      refine RS.winR hW ?_ d3
      unfold withF
      rw [← hw]
      simp [hp, hq]; omega
theorem lp37 {b : Option Addr} {l c i p capb totb q capa tota : Nat} {n : Int} {E0 : Mem} {rs : List Rg} {w : WSt} (hx : RS E b l c rs) (hl : l ≤ 1000000) (hnn : 0 ≤ n ∧ n ≤ 2000000000) (hi : i ≤ l) (hp : w.bef.length = p) (hq : w.aft.length = q) (hcb : p ≤ capb ∧ capb * 2 ≤ totb) (hca : q ≤ capa ∧ capa * 2 ≤ tota) (hw : w = foldW (rs.take i) n) (hE : Mem.le E0 E) (h : ∀ (b' : Option Addr) (l' c' : Nat) (E' : Mem), Mem.le E E' → RS E' b' l' c' (withF rs n) → K (L b' l' c') E') : Lp W1 8 Try.f37 [1, 1, 1, 1, 0, 1, 0] 0 (pubK E0 K) (sh37 b l c n i p capb totb q capa tota w E) :=
  Lp_ind okW1 (fun x : {x : (Nat × Nat × Nat × Nat) × (Nat × Nat × Nat) × WSt // x.1.1 ≤ l ∧ x.2.2.bef.length = x.1.2.1 ∧ x.2.2.aft.length = x.2.1.1 ∧ (x.1.2.1 ≤ x.1.2.2.1 ∧ x.1.2.2.1 * 2 ≤ x.1.2.2.2) ∧ (x.2.1.1 ≤ x.2.1.2.1 ∧ x.2.1.2.1 * 2 ≤ x.2.1.2.2) ∧ x.2.2 = foldW (rs.take x.1.1) n} => sh37 b l c n x.1.1.1 x.1.1.2.1 x.1.1.2.2.1 x.1.1.2.2.2 x.1.2.1.1 x.1.2.1.2.1 x.1.2.1.2.2 x.1.2.2 E) (fun x => l - x.1.1.1)
    (fun x ih => rnd37 hx hl hnn x.2.1 x.2.2.1 x.2.2.2.1 x.2.2.2.2.1 x.2.2.2.2.2.1 x.2.2.2.2.2.2 hE h fun p capb totb q capa tota w g h1 h2 h3 h4 h5 => ih ⟨((x.1.1.1 + 1, p, capb, totb), (q, capa, tota), w), by show x.1.1.1 + 1 ≤ l; omega, h1, h2, h3, h4, h5⟩ (by show l - (_ + 1) < l - _; omega)) ⟨((i, p, capb, totb), (q, capa, tota), w), hi, hp, hq, hcb, hca, hw⟩
theorem s37 {b1 : Option Addr} {l2 : Nat} {c3 : Nat} {a4 : Int} {rs : List Rg} (h0 : RS E b1 l2 c3 rs) (h1 : l2 ≤ 1000000) (h2 : (0 ≤ a4 ∧ a4 ≤ 2000000000)) (h : ∀ (b' : Option Addr) (l' c' : Nat) (E' : Mem), Mem.le E E' → RS E' b' l' c' (withF rs a4) → K (L b' l' c') E') :
    Ent W1 8 Try.f37 [L b1 l2 c3, I a4] E K := by
  refine same (by kernel_rfl) (?_ : 
      Lp W1 8 Try.f37 [1, 1, 1, 1, 0, 1, 0] 0
        (pubK E K)
        {
          fr :=
            [some (SV.raw (Value.slice b1 l2 c3)), some (SV.raw (Value.int IntKind.i64 a4)), none, none, some (SV.raw (Value.slice none 0 0)), some (SV.loc 0 0), some (SV.raw (Value.slice none 0 0)), some (SV.raw (Value.slice none 0 0)), some (SV.raw (Value.int IntKind.i64 (0 : Int))), some (SV.raw (Value.int IntKind.i64 a4)), some (SV.raw (Value.int IntKind.i64 a4)), some (SV.agg [SV.raw (Value.int IntKind.i64 a4), SV.raw (Value.int IntKind.i64 a4)]), none, none, none, none, none, none, none, none, none, none, none, none, none, none, none, none, none, none, none, none, none, none, none, none, none, none, none, none, none, none, none, none, none, none, none, none, none, none, none, none, none, none, none, none, none, none, none, none, none, none, none, none, none, none, none, none, none, none, none, none, none],
          bx :=
            [{ elem := 47, row := Row.lst [SV.raw (Value.int IntKind.i64 a4), SV.raw (Value.int IntKind.i64 a4)],
                total := 2, own := true : Box }],
          E := E : St })
  exact Lp_re [some 0, none, none] (lp37 (i := 0) (p := 0) (capb := 0) (totb := 0) (q := 0) (capa := 0) (tota := 0) (w := ⟨a4, a4, [], []⟩) h0 h1 h2 (Nat.zero_le _) rfl rfl ⟨Nat.le_refl _, Nat.le_refl _⟩ ⟨Nat.le_refl _, Nat.le_refl _⟩ rfl (Mem.le_refl _) h) ⟨⟨by simp, by simp, fun j h => absurd h (Nat.not_lt_zero _)⟩, rfl, (by repeat' first | exact True.intro | refine And.intro (Or.inl rfl) ?_ | refine And.intro (Or.inr ⟨rfl, rfl⟩) ?_), (by repeat' first | exact True.intro | exact rfl | exact Or.inl rfl | fail | refine And.intro ?_ ?_), (show List.Nodup [0] from by decide), Mem.le_refl _⟩

end Go.Proofs.Ytjibgfihfbdcaaa.SeenOwn
