/- The package seen: what its functions answer. -/
import Derived.Test.YtjibgfihfbdcaaaSeen5
namespace Go.Proofs.Ytjibgfihfbdcaaa.SeenOwn
open Go Go.Sx
set_option maxRecDepth 100000
set_option maxHeartbeats 4000000
set_option linter.unusedVariables false
set_option linter.unusedSimpArgs false
variable {E : Mem} {K : SV → Mem → Prop}

def rowsR (ys : List Rg) : List Value := ys.flatMap fun x => [.int .i64 x.1, .int .i64 x.2]
theorem rowsR_eq (ys : List Rg) : rowsR ys = (ys.map fun x => [Value.int .i64 x.1, .int .i64 x.2]).flatten := by unfold rowsR; rw [List.flatMap_def]
theorem rowsR_len (ys : List Rg) : (rowsR ys).length = ys.length * 2 := by rw [rowsR_eq, flat_len (k := 2) (fun r hr => by obtain ⟨x, _, rfl⟩ := List.mem_map.1 hr; rfl), List.length_map]
theorem rowsR_app (ys zs : List Rg) : rowsR (ys ++ zs) = rowsR ys ++ rowsR zs := by simp [rowsR]
theorem rowsR_take (ys : List Rg) (i : Nat) : (rowsR ys).take (i * 2) = rowsR (ys.take i) := by
  rw [rowsR_eq, rowsR_eq, flat_take (fun r hr => by obtain ⟨x, _, rfl⟩ := List.mem_map.1 hr; rfl), List.map_take]
theorem rowsR_drop (ys : List Rg) (i : Nat) : (rowsR ys).drop (i * 2) = rowsR (ys.drop i) := by
  rw [rowsR_eq, rowsR_eq, flat_drop (fun r hr => by obtain ⟨x, _, rfl⟩ := List.mem_map.1 hr; rfl), List.map_drop]
theorem rowsR_one (ys : List Rg) : ∀ v : Value, List.Mem v (rowsR ys) → v.oneCell' = true := fun v hv => by
  obtain ⟨x, _, h⟩ := List.mem_flatMap.1 hv
  simp only [List.mem_cons, List.not_mem_nil, or_false] at h
  rcases h with rfl | rfl <;> rfl
theorem rowsR_get {ys : List Rg} {i : Nat} {x : Rg} (h : ys[i]? = some x) : ((rowsR ys).drop (i * 2)).take 2 = [.int .i64 x.1, .int .i64 x.2] := by
  rw [rowsR_drop]
  obtain ⟨hi, e⟩ := List.getElem?_eq_some_iff.1 h
  rw [List.drop_eq_getElem_cons hi, e]; rfl
theorem rowsR_hi {ys : List Rg} {i : Nat} {x : Rg} (h : ys[i]? = some x) : (rowsR ys)[i * 2 + 1]? = some (.int .i64 x.2) := by
  have := congrArg (fun l : List Value => l[1]?) (rowsR_get h)
  simpa [List.getElem?_take, List.getElem?_drop] using this
theorem rowsR_lo {ys : List Rg} {i : Nat} {x : Rg} (h : ys[i]? = some x) : (rowsR ys)[i * 2]? = some (.int .i64 x.1) := by
  have := congrArg (fun l : List Value => l[0]?) (rowsR_get h)
  simpa [List.getElem?_take, List.getElem?_drop] using this
theorem rowsR_SL (E : Mem) (ys : List Rg) : SLr RR E (ys.map fun x => [Value.int .i64 x.1, .int .i64 x.2]) ys := ⟨by simp, fun i r x h1 h2 => by
  rw [List.getElem?_map, h2] at h1; simp at h1; exact h1.symm⟩
theorem RS.winR {base : Option Addr} {E : Mem} {ys : List Rg} {n c : Nat} (h : WinE E base (rowsR ys)) (hn : ys.length = n) (hc : n ≤ c) : RS E (base.map fun x => x.add 0) n c ys :=
  SL.win RR_ok h (rowsR_eq ys) (rowsR_SL E ys) hn hc
theorem rowsR_set {ys : List Rg} {i : Nat} {x : Rg} (h : ys[i]? = some x) (v : Int) : layV (rowsR ys) (i * 2 + 1) [.int .i64 v] = rowsR (ys.set i (x.1, v)) := by
  obtain ⟨hi, e⟩ := List.getElem?_eq_some_iff.1 h
  unfold layV
  rw [List.set_eq_take_append_cons_drop, if_pos hi, rowsR_app]
  have h1 : (rowsR ys).take (i * 2 + 1) = rowsR (ys.take i) ++ [.int .i64 x.1] := by
    rw [List.take_add_one, rowsR_take, rowsR_lo h]; rfl
  have h2 : (rowsR ys).drop (i * 2 + 1 + [Value.int .i64 v].length) = rowsR (ys.drop (i + 1)) := by
    rw [← rowsR_drop]; congr 1; simp; omega
  rw [h1, h2]
  simp [rowsR]
/-- One interval more. -/
def stepJ (ys : List Rg) (x : Rg) : List Rg := match ys.getLast? with
  | some y => if y.2 + 1 ≥ x.1 then ys.set (ys.length - 1) (y.1, max y.2 x.2) else ys ++ [x]
  | none => ys ++ [x]
def joinF (rs : List Rg) : List Rg := rs.foldl stepJ []
theorem joinF_take {rs : List Rg} {i : Nat} {x : Rg} (h : rs[i]? = some x) : joinF (rs.take (i + 1)) = stepJ (joinF (rs.take i)) x := by
  unfold joinF; rw [take_get' h, List.foldl_append]; rfl
theorem stepJ_some {ys : List Rg} {x y : Rg} (h : ys[ys.length - 1]? = some y) : stepJ ys x = if y.2 + 1 ≥ x.1 then ys.set (ys.length - 1) (y.1, max y.2 x.2) else ys ++ [x] := by
  unfold stepJ; rw [List.getLast?_eq_getElem?, h]
theorem stepJ_bd {ys : List Rg} {x : Rg} {B : Int} (h : ∀ y ∈ ys, 0 ≤ y.2 ∧ y.2 ≤ B) (hx : 0 ≤ x.2 ∧ x.2 ≤ B) : (∀ y ∈ stepJ ys x, 0 ≤ y.2 ∧ y.2 ≤ B) ∧ (stepJ ys x).length ≤ ys.length + 1 := by
  unfold stepJ
  split
  · rename_i y hy
    have hym : y ∈ ys := List.mem_of_getLast? hy
    split
    · refine ⟨fun z hz => ?_, by simp⟩
      rcases List.mem_or_eq_of_mem_set hz with hz | rfl
      · exact h z hz
      · have := h y hym; simp only [Int.max_def]; split <;> omega
    · refine ⟨fun z hz => ?_, by simp⟩
      rcases List.mem_append.1 hz with hz | hz
      · exact h z hz
      · simp at hz; subst hz; exact hx
  · refine ⟨fun z hz => ?_, by simp⟩
    rcases List.mem_append.1 hz with hz | hz
    · exact h z hz
    · simp at hz; subst hz; exact hx
theorem joinF_bd {rs : List Rg} {B : Int} (h : ∀ x ∈ rs, 0 ≤ x.2 ∧ x.2 ≤ B) : (∀ y ∈ joinF rs, 0 ≤ y.2 ∧ y.2 ≤ B) ∧ (joinF rs).length ≤ rs.length := by
  have key : ∀ (rs ys : List Rg), (∀ x ∈ rs, 0 ≤ x.2 ∧ x.2 ≤ B) → (∀ y ∈ ys, 0 ≤ y.2 ∧ y.2 ≤ B) → (∀ y ∈ rs.foldl stepJ ys, 0 ≤ y.2 ∧ y.2 ≤ B) ∧ (rs.foldl stepJ ys).length ≤ ys.length + rs.length := by
    intro rs
    induction rs with
    | nil => intro ys _ h2; exact ⟨h2, by simp⟩
    | cons x rs ih =>
      intro ys h1 h2
      have h3 := stepJ_bd h2 (h1 x (by simp))
      have h4 := ih (stepJ ys x) (fun z hz => h1 z (by simp [hz])) h3.1
      exact ⟨h4.1, by have := h4.2; have := h3.2; simp only [List.foldl_cons, List.length_cons]; omega⟩
  have := key rs [] h (by simp)
  exact ⟨this.1, by have := this.2; simp only [List.length_nil, Nat.zero_add] at this; exact this⟩
noncomputable def J1 : Cx := { P := Try.prog, inl := fun f => List.contains [] f, tab := fun _ _ _ _ => False, isB := fun _ => false, tabB := fun _ _ _ _ _ => False, opt := { unroll := 0, carry := [3, 9] }, muts := mutsD }
theorem okJ1 : CxOK J1 := CxOK.four (fun _ _ _ _ h => h.elim) (by kernel_rfl) (okInl (by kernel_rfl)) (fun _ _ _ _ _ h => h.elim)
def sh33 (b : Option Addr) (l c i n cap tot : Nat) (ys : List Rg) (E : Mem) : St := ⟨[none, none, none, some (.slc 0 0 n cap), none, none, none, some (L b l c), some (I (l : Nat)), some (I (i : Nat)), none, none, none, none, none, none, none, none, none, none, none, none, none, none, none, none, none, none, none, none, none, none, none, none, none, none, none, none, none, none, none, none, none, none, none, none, none], [⟨47, .vals (rowsR ys), tot, true⟩], E⟩
theorem rnd33 {b : Option Addr} {l c i n cap tot : Nat} {E0 : Mem} {rs ys : List Rg} (hx : RS E b l c rs) (hl : l ≤ 1000000) (hb : ∀ x ∈ rs, 0 ≤ x.1 ∧ 0 ≤ x.2 ∧ x.2 ≤ 2000000000) (hi : i ≤ l) (hn : ys.length = n) (hc : n ≤ cap ∧ cap * 2 ≤ tot) (hy : ys = joinF (rs.take i)) (hE : Mem.le E0 E) (h : ∀ (b' : Option Addr) (l' c' : Nat) (E' : Mem), Mem.le E E' → RS E' b' l' c' (joinF rs) → K (L b' l' c') E') (ih : ∀ (n cap tot : Nat) (ys : List Rg), i < l → ys.length = n → (n ≤ cap ∧ cap * 2 ≤ tot) → ys = joinF (rs.take (i + 1)) → Lp J1 8 Try.f33 [1, 1, 0, 1, 0] 0 (pubK E0 K) (sh33 b l c (i + 1) n cap tot ys E)) : Rnd J1 8 Try.f33 [1, 1, 0, 1, 0] 0 (pubK E0 K) (sh33 b l c i n cap tot ys E) := by
  refine same (by kernel_rfl) (?_ : 
      bif decide ((↑i : Int) < (↑l : Int)) then
        req ((0 : Int) ≤ (↑i : Int) ∧ (↑i : Int) < (↑l : Int))
          ((∃ (cs : List Value), E (Value.slice b l c) cs ∧ (cs = [] → False)) ∧
            ∃ (n_1 : Int),
              ∃ (n_2 : Int),
                LoadE J1.P E 47 (Value.slice b l c) (Int.toNat (↑i : Int) * 2)
                    (SV.agg [SV.raw (Value.int IntKind.i64 n_1), SV.raw (Value.int IntKind.i64 n_2)]) ∧
                  bif decide (IntKind.wrap IntKind.i64 ((↑n : Int) - (1 : Int)) ≥ (0 : Int)) then
                    req
                      ((0 : Int) ≤ IntKind.wrap IntKind.i64 ((↑n : Int) - (1 : Int)) ∧
                        IntKind.wrap IntKind.i64 ((↑n : Int) - (1 : Int)) < (↑n : Int))
                      (∃ (n_3 : Int),
                        LoadV J1.P 3 (rowsR ys)
                            (0 + Int.toNat (IntKind.wrap IntKind.i64 ((↑n : Int) - (1 : Int))) * 2 +
                              1)
                            (SV.raw (Value.int IntKind.i64 n_3)) ∧
                          bif bif true then decide (IntKind.wrap IntKind.i64 (n_3 + (1 : Int)) ≥ n_1) else false then
                            req
                              ((0 : Int) ≤ IntKind.wrap IntKind.i64 ((↑n : Int) - (1 : Int)) ∧
                                IntKind.wrap IntKind.i64 ((↑n : Int) - (1 : Int)) < (↑n : Int))
                              (∃ (n_4 : Int),
                                LoadV J1.P 3 (rowsR ys)
                                    (0 + Int.toNat (IntKind.wrap IntKind.i64 ((↑n : Int) - (1 : Int))) * 2 +
                                      1)
                                    (SV.raw (Value.int IntKind.i64 n_4)) ∧
                                  req
                                    ((0 : Int) ≤ IntKind.wrap IntKind.i64 ((↑n : Int) - (1 : Int)) ∧
                                      IntKind.wrap IntKind.i64 ((↑n : Int) - (1 : Int)) < (↑n : Int))
                                    (0 + Int.toNat (IntKind.wrap IntKind.i64 ((↑n : Int) - (1 : Int))) * 2 +
                                            1 +
                                          1 ≤
                                        List.length (rowsR ys) ∧
                                      Lp J1 8 Try.f33 [1, 1, 0, 1, 0]
                                        0 (pubK E0 K)
                                        {
                                          fr :=
                                            [none, none, none, some (SV.slc 0 0 n cap), none, none, none, some (SV.raw (Value.slice b l c)), some (SV.raw (Value.int IntKind.i64 (↑l : Int))), some (SV.raw (Value.int IntKind.i64 (IntKind.wrap IntKind.i64 ((↑i : Int) + (1 : Int))))), none, none, none, none, none, none, none, none, none, none, none, none, none, none, none, none, none, none, none, none, none, none, none, none, none, none, none, none, none, none, none, none, none, none, none, none, none],
                                          bx :=
                                            [{ elem := 47,
                                                row :=
                                                  Row.vals
                                                    (layV (rowsR ys)
                                                      (0 +
                                                          Int.toNat (IntKind.wrap IntKind.i64 ((↑n : Int) - (1 : Int))) *
                                                            2 +
                                                        1)
                                                      [Value.int IntKind.i64 (if n_2 > n_4 then n_2 else n_4)]),
                                                total := tot, own := true : Box },
                                              { elem := 47,
                                                row :=
                                                  Row.lst
                                                    [SV.raw (Value.int IntKind.i64 n_1), SV.raw (Value.int IntKind.i64 n_2)],
                                                total := 2, own := true : Box }],
                                          E := E : St }))
                          else
                            n * 2 ≤ List.length (Row.cells (Row.vals (rowsR ys))) ∧
                              cap * 2 ≤ tot ∧
                                n ≤ cap ∧
                                  req ((n + 1) * 16 ≤ 140737488355328)
                                    (∀ (cap' tot' : Nat),
                                      n + 1 ≤ cap' →
                                        cap' * 2 ≤ tot' →
                                          Lp J1 8 Try.f33 [1, 1, 0, 1, 0]
                                            0 (pubK E0 K)
                                            {
                                              fr :=
                                                [none, none, none, some (SV.slc 3 0 (n + 1) cap'), none, none, none, some (SV.raw (Value.slice b l c)), some (SV.raw (Value.int IntKind.i64 (↑l : Int))), some (SV.raw (Value.int IntKind.i64 (IntKind.wrap IntKind.i64 ((↑i : Int) + (1 : Int))))), none, none, none, none, none, none, none, none, none, none, none, none, none, none, none, none, none, none, none, none, none, none, none, none, none, none, none, none, none, none, none, none, none, none, none, none, none],
                                              bx :=
                                                [{ elem := 47, row := Row.lst [], total := 0, own := false :
                                                    Box },
                                                  { elem := 47,
                                                    row :=
                                                      Row.lst
                                                        [SV.raw (Value.int IntKind.i64 n_1),
                                                          SV.raw (Value.int IntKind.i64 n_2)],
                                                    total := 2, own := true : Box },
                                                  { elem := 47,
                                                    row :=
                                                      Row.lst
                                                        [SV.raw (Value.int IntKind.i64 n_1),
                                                          SV.raw (Value.int IntKind.i64 n_2)],
                                                    total := 2, own := true : Box },
                                                  { elem := 47,
                                                    row :=
                                                      Row.vals
                                                        (List.take (n * 2) (rowsR ys) ++
                                                          [Value.int IntKind.i64 n_1, Value.int IntKind.i64 n_2]),
                                                    total := tot', own := true : Box }],
                                              E := E : St }))
                  else
                    n * 2 ≤ List.length (Row.cells (Row.vals (rowsR ys))) ∧
                      cap * 2 ≤ tot ∧
                        n ≤ cap ∧
                          req ((n + 1) * 16 ≤ 140737488355328)
                            (∀ (cap' tot' : Nat),
                              n + 1 ≤ cap' →
                                cap' * 2 ≤ tot' →
                                  Lp J1 8 Try.f33 [1, 1, 0, 1, 0] 0
                                    (pubK E0 K)
                                    {
                                      fr :=
                                        [none, none, none, some (SV.slc 3 0 (n + 1) cap'), none, none, none, some (SV.raw (Value.slice b l c)), some (SV.raw (Value.int IntKind.i64 (↑l : Int))), some (SV.raw (Value.int IntKind.i64 (IntKind.wrap IntKind.i64 ((↑i : Int) + (1 : Int))))), none, none, none, none, none, none, none, none, none, none, none, none, none, none, none, none, none, none, none, none, none, none, none, none, none, none, none, none, none, none, none, none, none, none, none, none, none],
                                      bx :=
                                        [{ elem := 47, row := Row.lst [], total := 0, own := false : Box },
                                          { elem := 47,
                                            row :=
                                              Row.lst
                                                [SV.raw (Value.int IntKind.i64 n_1), SV.raw (Value.int IntKind.i64 n_2)],
                                            total := 2, own := true : Box },
                                          { elem := 47,
                                            row :=
                                              Row.lst
                                                [SV.raw (Value.int IntKind.i64 n_1), SV.raw (Value.int IntKind.i64 n_2)],
                                            total := 2, own := true : Box },
                                          { elem := 47,
                                            row :=
                                              Row.vals
                                                (List.take (n * 2) (rowsR ys) ++
                                                  [Value.int IntKind.i64 n_1, Value.int IntKind.i64 n_2]),
                                            total := tot', own := true : Box }],
                                      E := E : St }))
      else
        ∀ (base : Option Addr) (E' : Mem),
          Mem.le E E' →
            WinE E' base (rowsR ys) →
              Mem.le E0 E' ∧ K (SV.raw (Value.slice (Option.map (fun (x : Addr) => Addr.add x 0) base) n cap)) E')
  have hm := hx.len
  have hrl := rowsR_len ys
  have hbt : ∀ x ∈ rs.take i, 0 ≤ x.2 ∧ x.2 ≤ 2000000000 := fun x hx => (hb x (List.take_subset _ _ hx)).2
  have hbd : ∀ y ∈ ys, 0 ≤ y.2 ∧ y.2 ≤ 2000000000 := by rw [hy]; exact (joinF_bd hbt).1
  have hle : n ≤ i := by rw [← hn, hy]; exact Nat.le_trans (joinF_bd hbt).2 (by rw [List.length_take]; omega)
  refine condC (fun g => ?_) (fun g => ?_)
  · have g : i < l := by simpa using g
    obtain ⟨x, ex⟩ : ∃ x, rs[i]? = some x := ⟨_, List.getElem?_eq_getElem (by omega)⟩
    have hxb := hb x (List.mem_of_getElem? ex)
    have w1 : IntKind.wrap .i64 ((i : Int) + 1) = ((i + 1 : Nat) : Int) := by rw [wrap_i64 (by omega)]; simp
    have hstep := joinF_take ex
    rw [← hy] at hstep
    have app : stepJ ys x = ys ++ [x] → ∀ cap' tot' : Nat, n + 1 ≤ cap' → cap' * 2 ≤ tot' → _ := fun q cap' tot' c1 c2 => ih (n + 1) cap' tot' (ys ++ [x]) g (by simp [hn]) ⟨c1, c2⟩ (by rw [← q]; exact hstep.symm)
    have er : List.take (n * 2) (rowsR ys) ++ [Value.int .i64 x.1, Value.int .i64 x.2] = rowsR (ys ++ [x]) := by rw [List.take_of_length_le (by omega), rowsR_app]; rfl
    rw [w1, wrap_i64 (x := (n : Int) - 1) (by omega)]
    refine req_intro (by omega) ⟨SL.nex RR_ok hx ex, x.1, x.2, hx.load ex, condC (fun a => ?_) (fun a => ?_)⟩
    · have a : 1 ≤ n := by simp at a; omega
      obtain ⟨y, ey⟩ : ∃ y, ys[n - 1]? = some y := ⟨_, List.getElem?_eq_getElem (by omega)⟩
      have hyb := hbd y (List.mem_of_getElem? ey)
      have hs := stepJ_some (x := x) (y := y) (ys := ys) (by rw [hn]; exact ey)
      rw [show (n : Int) - 1 = ((n - 1 : Nat) : Int) by omega, show 0 + Int.toNat ((n - 1 : Nat) : Int) * 2 + 1 = (n - 1) * 2 + 1 by simp]
      have ld : LoadV Try.prog 3 (rowsR ys) ((n - 1) * 2 + 1) (I y.2) := loadV_cell (d := .int .i64) (by kernel_rfl) rfl (rowsR_hi ey)
      refine req_intro (by omega) ⟨y.2, ld, condC (fun q => ?_) (fun q => ?_)⟩
      · rw [wrap_i64 (x := y.2 + 1) (by omega)] at q
        have q : y.2 + 1 ≥ x.1 := by simpa using q
        rw [if_pos q] at hs
        refine req_intro (by omega) ⟨y.2, ld, req_intro (by omega) ⟨by show _ ≤ (List.length (rowsR ys)); omega, ?_⟩⟩
        rw [rowsR_set ey]
        have hmx : (if x.2 > y.2 then x.2 else y.2) = max y.2 x.2 := by rw [Int.max_def]; split <;> split <;> omega
        rw [hmx]
        exact Lp_re [some 0] (ih n cap tot (ys.set (n - 1) (y.1, max y.2 x.2)) g (by rw [List.length_set]; exact hn) hc (by rw [hstep, hs, hn])) ⟨⟨by simp, by simp, fun j h => absurd h (Nat.not_lt_zero _)⟩, rfl, (by repeat' first | exact True.intro | refine And.intro (Or.inl rfl) ?_ | refine And.intro (Or.inr ⟨rfl, rfl⟩) ?_), (by repeat' first | exact True.intro | exact rfl | exact Or.inl rfl | fail | refine And.intro ?_ ?_), (show List.Nodup [0] from by decide), Mem.le_refl _⟩
      · rw [wrap_i64 (x := y.2 + 1) (by omega)] at q
        have q : ¬ y.2 + 1 ≥ x.1 := by simpa using q
        rw [if_neg q] at hs
        refine ⟨by show _ ≤ (List.map SV.raw _).length; rw [List.length_map]; omega, hc.2, hc.1, req_intro (by omega) (fun cap' tot' c1 c2 => by rw [er]; exact Lp_re [some 3] (app hs cap' tot' c1 c2) ⟨⟨by simp, by simp, fun j h => absurd h (Nat.not_lt_zero _)⟩, rfl, (by repeat' first | exact True.intro | refine And.intro (Or.inl rfl) ?_ | refine And.intro (Or.inr ⟨rfl, rfl⟩) ?_), (by repeat' first | exact True.intro | exact rfl | exact Or.inl rfl | fail | refine And.intro ?_ ?_), (show List.Nodup [3] from by decide), Mem.le_refl _⟩)⟩
    · have a : n = 0 := by simp at a; omega
      have hs : stepJ ys x = ys ++ [x] := by
        have : ys = [] := List.eq_nil_of_length_eq_zero (by omega)
        subst this; rfl
      refine ⟨by show _ ≤ (List.map SV.raw _).length; rw [List.length_map]; omega, hc.2, hc.1, req_intro (by omega) (fun cap' tot' c1 c2 => by rw [er]; exact Lp_re [some 3] (app hs cap' tot' c1 c2) ⟨⟨by simp, by simp, fun j h => absurd h (Nat.not_lt_zero _)⟩, rfl, (by repeat' first | exact True.intro | refine And.intro (Or.inl rfl) ?_ | refine And.intro (Or.inr ⟨rfl, rfl⟩) ?_), (by repeat' first | exact True.intro | exact rfl | exact Or.inl rfl | fail | refine And.intro ?_ ?_), (show List.Nodup [3] from by decide), Mem.le_refl _⟩)⟩
  · have g : i = l := by simp at g; omega
    rw [List.take_of_length_le (by omega)] at hy
    exact fun base E' q hW => ⟨Mem.le_trans hE q, h _ n cap E' q (by rw [← hy]; exact RS.winR hW hn hc.1)⟩
theorem lp33 {b : Option Addr} {l c i n cap tot : Nat} {E0 : Mem} {rs ys : List Rg} (hx : RS E b l c rs) (hl : l ≤ 1000000) (hb : ∀ x ∈ rs, 0 ≤ x.1 ∧ 0 ≤ x.2 ∧ x.2 ≤ 2000000000) (hi : i ≤ l) (hn : ys.length = n) (hc : n ≤ cap ∧ cap * 2 ≤ tot) (hy : ys = joinF (rs.take i)) (hE : Mem.le E0 E) (h : ∀ (b' : Option Addr) (l' c' : Nat) (E' : Mem), Mem.le E E' → RS E' b' l' c' (joinF rs) → K (L b' l' c') E') : Lp J1 8 Try.f33 [1, 1, 0, 1, 0] 0 (pubK E0 K) (sh33 b l c i n cap tot ys E) :=
  Lp_ind okJ1 (fun x : {x : Nat × Nat × Nat × Nat × List Rg // x.1 ≤ l ∧ x.2.2.2.2.length = x.2.1 ∧ (x.2.1 ≤ x.2.2.1 ∧ x.2.2.1 * 2 ≤ x.2.2.2.1) ∧ x.2.2.2.2 = joinF (rs.take x.1)} => sh33 b l c x.1.1 x.1.2.1 x.1.2.2.1 x.1.2.2.2.1 x.1.2.2.2.2 E) (fun x => l - x.1.1)
    (fun x ih => rnd33 hx hl hb x.2.1 x.2.2.1 x.2.2.2.1 x.2.2.2.2 hE h fun n cap tot ys g h1 h2 h3 => ih ⟨(x.1.1 + 1, n, cap, tot, ys), by show x.1.1 + 1 ≤ l; omega, h1, h2, h3⟩ (by show l - (_ + 1) < l - _; omega)) ⟨(i, n, cap, tot, ys), hi, hn, hc, hy⟩
theorem s33 {b1 : Option Addr} {l2 : Nat} {c3 : Nat} {rs : List Rg} (h0 : RS E b1 l2 c3 rs) (h1 : l2 ≤ 1000000) (h2 : (∀ x ∈ rs, 0 ≤ x.1 ∧ 0 ≤ x.2 ∧ x.2 ≤ 2000000000)) (h : ∀ (b' : Option Addr) (l' c' : Nat) (E' : Mem), Mem.le E E' → RS E' b' l' c' (joinF rs) → K (L b' l' c') E') :
    Ent J1 8 Try.f33 [L b1 l2 c3] E K := by
  refine same (by kernel_rfl) (?_ : 
      Lp J1 8 Try.f33 [1, 1, 0, 1, 0] 0 (pubK E K)
        {
          fr :=
            [some (SV.raw (Value.slice b1 l2 c3)), none, some (SV.raw (Value.slice none 0 0)), some (SV.raw (Value.slice none 0 0)), none, none, none, some (SV.raw (Value.slice b1 l2 c3)), some (SV.raw (Value.int IntKind.i64 (↑l2 : Int))), some (SV.raw (Value.int IntKind.i64 (0 : Int))), none, none, none, none, none, none, none, none, none, none, none, none, none, none, none, none, none, none, none, none, none, none, none, none, none, none, none, none, none, none, none, none, none, none, none, none, none],
          bx := [], E := E : St })
  exact Lp_re [none] (lp33 (i := 0) (n := 0) (cap := 0) (tot := 0) (ys := []) h0 h1 h2 (Nat.zero_le _) rfl ⟨Nat.le_refl _, Nat.le_refl _⟩ rfl (Mem.le_refl _) h) ⟨⟨by simp, by simp, fun j h => absurd h (Nat.not_lt_zero _)⟩, rfl, (by repeat' first | exact True.intro | refine And.intro (Or.inl rfl) ?_ | refine And.intro (Or.inr ⟨rfl, rfl⟩) ?_), (by repeat' first | exact True.intro | exact rfl | exact Or.inl rfl | fail | refine And.intro ?_ ?_), (show List.Nodup [] from by decide), Mem.le_refl _⟩

end Go.Proofs.Ytjibgfihfbdcaaa.SeenOwn
