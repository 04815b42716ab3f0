/- The package seen: what its functions answer. -/
import Derived.Test.YtjibgfihfbdcaaaSeen9
namespace Go.Proofs.Ytjibgfihfbdcaaa.SeenOwn
open Go Go.Sx
set_option maxRecDepth 100000
set_option maxHeartbeats 4000000
set_option linter.unusedVariables false
set_option linter.unusedSimpArgs false
variable {E : Mem} {K : SV → Mem → Prop}

/-- A number among intervals. -/
def gtK (rs : List Rg) (n : Int) : Nat := if idxP (gtP n) rs < 0 then rs.length else (idxP (gtP n) rs).toNat
def insF (rs : List Rg) (n : Int) : List Rg := joinF (rs.take (gtK rs n) ++ (n, n) :: rs.drop (gtK rs n))
def putF (xs : List Sn) (o : Int) (r : List Rg) : List Sn := xs.filter (fun x => decide (x.1 < o)) ++ (o, r) :: xs.filter (fun x => decide (o < x.1))
def okA (xs : List Sn) (o n : Int) : Prop := validS xs ∧ (0 ≤ o ∧ o ≤ 59) ∧ 1 ≤ n ∧ n ≤ 1000000000
instance (xs : List Sn) (o n : Int) : Decidable (okA xs o n) := inferInstanceAs (Decidable (_ ∧ _))
def addF (xs : List Sn) (o n : Int) : List Sn × Bool × Int :=
  if okA xs o n then if holdsP (ofF xs o) n then (xs, false, 0) else
    if 64 < manyF (putF xs o (insF (ofF xs o) n)) then ([], false, 10) else (putF xs o (insF (ofF xs o) n), true, 0) else ([], false, 1)
def tabI : CallT := fun f args bx E K => match f, args with
  | 28, [x] => dS x fun b n c => ∃ xs : List Sn, SS E b n c xs ∧ n ≤ 1000000 ∧ ∀ (rs : List (List Value)) (cap' tot' : Nat), Hyp (SLr SR E rs xs) → n ≤ cap' → cap' * 2 ≤ tot' → K (.slc bx.length 0 n cap') (bx ++ [⟨45, .vals rs.flatten, tot', true⟩]) E
  | 35, [x] => dS x fun b n c => ∃ xs : List Rg, RS E b n c xs ∧ n ≤ 1000000 ∧ ∀ (rs : List (List Value)) (cap' tot' : Nat), Hyp (SLr RR E rs xs) → n ≤ cap' → cap' * 2 ≤ tot' → K (.slc bx.length 0 n cap') (bx ++ [⟨47, .vals rs.flatten, tot', true⟩]) E
  | 29, [.slc b 0 n cap, x, .slc b2 0 1 1] => dI x fun i => ∃ (k : Nat) (vs : List Value) (tot : Nat) (u v : Value), i = (k : Int) ∧ bx[b]? = some ⟨45, .vals vs, tot, true⟩ ∧ bx[b2]? = some ⟨45, .lst [.raw u, .raw v], 2, true⟩ ∧ (b = b2 → False) ∧ n * 2 = vs.length ∧ (∀ x : Value, List.Mem x vs → x.oneCell' = true) ∧ List.all [SV.raw u, SV.raw v] SV.one = true ∧ (n ≤ cap ∧ cap * 2 ≤ tot) ∧ k ≤ n ∧ n ≤ 1000000 ∧
      ∀ cap' tot' : Nat, n + 1 ≤ cap' → cap' * 2 ≤ tot' → K (.slc bx.length 0 (n + 1) cap') (bx.set b ⟨45, .lst [], 0, false⟩ ++ [⟨45, .vals (insV vs k u v), tot', true⟩]) E
  | 34, [.slc b 0 n cap, x, .slc b2 0 1 1] => dI x fun i => ∃ (k : Nat) (vs : List Value) (tot : Nat) (u v : Value), i = (k : Int) ∧ bx[b]? = some ⟨47, .vals vs, tot, true⟩ ∧ bx[b2]? = some ⟨47, .lst [.raw u, .raw v], 2, true⟩ ∧ (b = b2 → False) ∧ n * 2 = vs.length ∧ (∀ x : Value, List.Mem x vs → x.oneCell' = true) ∧ List.all [SV.raw u, SV.raw v] SV.one = true ∧ (n ≤ cap ∧ cap * 2 ≤ tot) ∧ k ≤ n ∧ n ≤ 1000000 ∧
      ∀ cap' tot' : Nat, n + 1 ≤ cap' → cap' * 2 ≤ tot' → K (.slc bx.length 0 (n + 1) cap') (bx.set b ⟨47, .lst [], 0, false⟩ ++ [⟨47, .vals (insV vs k u v), tot', true⟩]) E
  | f, args => tab31 f args bx E K
theorem tabI_ok (f : FuncId) (args : List SV) (bx : List Box) (E : Mem) (K : KT) (h : tabI f args bx E K) : CallSem Try.prog f args bx E K := by
  unfold tabI at h
  split at h
  · obtain ⟨b, l, c, rfl, xs, h1, h2, h3⟩ := dS_elim h
    exact cln28 h1 h2 h3
  · obtain ⟨b, l, c, rfl, xs, h1, h2, h3⟩ := dS_elim h
    exact cln35 h1 h2 h3
  · obtain ⟨i, rfl, k, vs, tot, u, v, rfl, h1, h2, h3, h4, h5, h6, h7, h8, h9, h⟩ := dI_elim h
    exact ins29 h1 h2 h3 h4 h5 h6 h7 h8 h9 h
  · obtain ⟨i, rfl, k, vs, tot, u, v, rfl, h1, h2, h3, h4, h5, h6, h7, h8, h9, h⟩ := dI_elim h
    exact ins34 h1 h2 h3 h4 h5 h6 h7 h8 h9 h
  · exact tab31_ok _ _ _ _ _ h
noncomputable def t11 : FuncId → List SV → Mem → (SV → Mem → Prop) → Prop := fun f args E K => match f with
  | 13 => d1 args fun x0 => dS x0 fun b1 l2 c3 => ∃ (xs : List Sn), SS E b1 l2 c3 xs ∧ Sm xs ∧ (K (B (decide (validS xs))) E)
  | 27 => d2 args fun x0 x1 => dS x0 fun b1 l2 c3 => dI x1 fun a4 => ∃ (xs : List Sn), SS E b1 l2 c3 xs ∧ chkS (-1) xs ∧ l2 ≤ 1000 ∧ (-9223372036854775808 ≤ a4 ∧ a4 ≤ 9223372036854775807) ∧ (∀ (k : Nat) (f : Bool), Hyp (FindR xs a4 k f) → K (.tup [I (k : Nat), B f]) E)
  | 30 => d2 args fun x0 x1 => dS x0 fun b1 l2 c3 => dI x1 fun a4 => ∃ (rs : List Rg), RS E b1 l2 c3 rs ∧ l2 ≤ 9223372036854775807 ∧ (K (B (decide (holdsP rs a4))) E)
  | 33 => d1 args fun x0 => dS x0 fun b1 l2 c3 => ∃ (rs : List Rg), RS E b1 l2 c3 rs ∧ l2 ≤ 1000000 ∧ (∀ x ∈ rs, 0 ≤ x.1 ∧ 0 ≤ x.2 ∧ x.2 ≤ 2000000000) ∧ (∀ (b' : Option Addr) (l' c' : Nat) (E' : Mem), Mem.le E E' → RS E' b' l' c' (joinF rs) → K (L b' l' c') E')
  | 36 => d1 args fun x0 => dS x0 fun b1 l2 c3 => ∃ (xs : List Sn), SS E b1 l2 c3 xs ∧ Sm xs ∧ (K (I (manyI xs)) E)
  | _ => False
theorem t11_ok : TabOK Try.prog t11 := by
  intro f args E K h
  unfold t11 at h
  split at h
  · replace h := d1_elim h
    obtain ⟨x0, rfl, h⟩ := h
    replace h := dS_elim h
    obtain ⟨b1, l2, c3, rfl, h⟩ := h
    obtain ⟨xs, g0, g1, h⟩ := h
    exact TabSem.congr (valL_cons rfl rfl) (Ent.sem okC6 Try.func13 ⟨by kernel_rfl, by kernel_rfl⟩ rfl (s13 g0 g1 h))
  · replace h := d2_elim h
    obtain ⟨x0, x1, rfl, h⟩ := h
    replace h := dS_elim h
    obtain ⟨b1, l2, c3, rfl, h⟩ := h
    replace h := dI_elim h
    obtain ⟨a4, rfl, h⟩ := h
    obtain ⟨xs, g0, g1, g2, g3, h⟩ := h
    exact TabSem.congr (valL_cons rfl (valL_cons rfl rfl)) (Ent.sem okD6 Try.func27 ⟨by kernel_rfl, by kernel_rfl⟩ rfl (s27 g0 g1 g2 g3 h))
  · replace h := d2_elim h
    obtain ⟨x0, x1, rfl, h⟩ := h
    replace h := dS_elim h
    obtain ⟨b1, l2, c3, rfl, h⟩ := h
    replace h := dI_elim h
    obtain ⟨a4, rfl, h⟩ := h
    obtain ⟨rs, g0, g1, h⟩ := h
    exact TabSem.congr (valL_cons rfl (valL_cons rfl rfl)) (Ent.sem okD3 Try.func30 ⟨by kernel_rfl, by kernel_rfl⟩ rfl (s30 g0 g1 h))
  · replace h := d1_elim h
    obtain ⟨x0, rfl, h⟩ := h
    replace h := dS_elim h
    obtain ⟨b1, l2, c3, rfl, h⟩ := h
    obtain ⟨rs, g0, g1, g2, h⟩ := h
    exact TabSem.congr (valL_cons rfl rfl) (Ent.sem okJ1 Try.func33 ⟨by kernel_rfl, by kernel_rfl⟩ rfl (s33 g0 g1 g2 h))
  · replace h := d1_elim h
    obtain ⟨x0, rfl, h⟩ := h
    replace h := dS_elim h
    obtain ⟨b1, l2, c3, rfl, h⟩ := h
    obtain ⟨xs, g0, g1, h⟩ := h
    exact TabSem.congr (valL_cons rfl rfl) (Ent.sem okC1 Try.func36 ⟨by kernel_rfl, by kernel_rfl⟩ rfl (s36 g0 g1 h))
  · exact h.elim
noncomputable def A1 : Cx := { P := Try.prog, inl := fun f => List.contains [26] f, tab := t11, isB := fun f => f == 28 || f == 29 || f == 31 || f == 34 || f == 35, tabB := tabI, opt := { unroll := 0, carry := [], cuts := [7, 13, 14] }, muts := (fun o => match o with | .call { callee := .value (.func 34), .. } => true | .call { callee := .value (.func 33), .. } => true | o => mutsD o) }
theorem okA1 : CxOK A1 := CxOK.four t11_ok (by kernel_rfl) (okInl (by kernel_rfl)) tabI_ok
theorem SLr_ins {α : Type} {R : RowR α} {rs : List (List Value)} {xs : List α} {x : α} {u v : Value} (ok : RowOK 2 R) (h : SLr R E rs xs) (q : R E x [u, v]) (k : Nat) :
    insV rs.flatten k u v = (rs.take k ++ [u, v] :: rs.drop k).flatten ∧ SLr R E (rs.take k ++ [u, v] :: rs.drop k) (xs.take k ++ x :: xs.drop k) := by
  refine ⟨?_, (h.take k).app ((SLr.one q).app (h.drop k))⟩
  unfold insV
  rw [flat_take (h.lens ok), flat_drop (h.lens ok)]
  simp
theorem lay_cell2 {rs : List (List Value)} {k : Nat} {a b v : Value} (hl : ∀ r ∈ rs, r.length = 2) (h : rs[k]? = some [a, b]) : layV rs.flatten (k * 2 + 1) [v] = (rs.set k [a, v]).flatten := by
  have hk := (List.getElem?_eq_some_iff.1 h).1
  rw [← layV_row hl hk rfl]
  have e : rs.flatten[k * 2]? = some a := by
    have h1 : (rs.flatten.drop (k * 2))[0]? = some a := by
      rw [flat_drop hl, List.drop_eq_getElem_cons hk, (List.getElem?_eq_some_iff.1 h).2]; rfl
    rwa [List.getElem?_drop] at h1
  unfold layV
  rw [take_get' e]
  simp
theorem many_app (xs ys : List Sn) : manyF (xs ++ ys) = manyF xs + manyF ys := by simp [manyF]
theorem many_cons (x : Sn) (xs : List Sn) : manyF (x :: xs) = x.2.length + manyF xs := by simp [manyF]
theorem many_td (xs : List Sn) (k : Nat) : manyF (xs.take k) + manyF (xs.drop k) = manyF xs := by rw [← many_app, List.take_append_drop]
theorem many_set : ∀ {xs : List Sn} {k : Nat} {y : Sn}, manyF (xs.set k y) ≤ manyF xs + y.2.length
  | [], k, y => by simp [manyF]
  | x :: xs, 0, y => by rw [List.set_cons_zero, many_cons, many_cons]; omega
  | x :: xs, k + 1, y => by
    have := many_set (xs := xs) (k := k) (y := y)
    rw [List.set_cons_succ, many_cons, many_cons]; omega
theorem gtK_le {rs : List Rg} {n : Int} : gtK rs n ≤ rs.length := by
  unfold gtK
  split
  · exact Nat.le_refl _
  · rename_i h
    unfold idxP at h ⊢
    split
    · rename_i i hi
      rw [List.findIdx?_eq_some_iff_getElem] at hi
      obtain ⟨w, _⟩ := hi
      simp; omega
    · simp
def endA (zs : List Sn) : List Sn × Bool × Int := if 64 < manyF zs then ([], false, 10) else (zs, true, 0)
def stepA (zs : List Sn) (k : Nat) (x : Sn) (n : Int) : List Sn × Bool × Int := if holdsP x.2 n then (zs, false, 0) else endA (zs.set k (x.1, insF x.2 n))
def shA14 (n : Int) (m cap tot : Nat) (rs : List (List Value)) (E : Mem) : St := ⟨[none, none, none, none, none, none, none, none, none, none, none, some (.slc 1 0 m cap), none, none, none, none, none, none, none, none, none, none, none, none, none, none, none, none, none, none, none, none, none, none, none, none, none, none, none, none, none, none, none, none, none, none, none, none, none, none, none, none, none, none, none, none, none, none, none, none, none, none, none, none, none, none, none, none, none, none, none, none, none, none, none, none], [⟨3, .lst [I n], 1, true⟩, ⟨45, .vals rs.flatten, tot, true⟩], E⟩
theorem pcA14 {n : Int} {m cap tot : Nat} {rs : List (List Value)} {zs : List Sn} {E0 : Mem} (hr : SLr SR E rs zs) (hm : zs.length = m) (hl : m ≤ 1000) (hs : Sm zs) (hmn : manyF zs ≤ 10000) (hc : m ≤ cap ∧ cap * 2 ≤ tot) (hE : Mem.le E0 E) (h : ∀ (ys : List Sn) (t : Bool) (e : Int), endA zs = (ys, t, e) → ∀ (b' : Option Addr) (l' c' : Nat) (E' : Mem), Mem.le E E' → SS E' b' l' c' ys → K (.tup [L b' l' c', B t, I e]) E') : Pc A1 8 Try.f11 [1, 1, 1, 1, 1, 1, 1, 1, 1, 1] 0 (pubK E0 K) (shA14 n m cap tot rs E) := by
  refine same (by kernel_rfl) (?_ : 
      ∀ (base : Option Addr) (E' : Mem),
        Mem.le E E' →
          WinE E' base (List.flatten rs) →
            ∃ (xs : List Sn),
              SS E' (Option.map (fun (x : Addr) => Addr.add x 0) base) m cap xs ∧
                Sm xs ∧
                  bif decide (manyI xs > (64 : Int)) then
                    Mem.le E0 E' ∧
                      K
                        (SV.tup
                          [SV.raw (Value.slice none 0 0), SV.raw (Value.bool false),
                            SV.raw (Value.int IntKind.i64 (10 : Int))])
                        E'
                  else
                    ∀ (base : Option Addr) (E'_1 : Mem),
                      Mem.le E' E'_1 →
                        WinE E'_1 base (List.flatten rs) →
                          Mem.le E0 E'_1 ∧
                            K
                              (SV.tup
                                [SV.raw (Value.slice (Option.map (fun (x : Addr) => Addr.add x 0) base) m cap),
                                  SV.raw (Value.bool true), SV.raw (Value.int IntKind.i64 (0 : Int))])
                              E'_1)
  intro base E' h1 h2
  have hr' := hr.mono SR_ok h1
  have hI := manyI_eq (xs := zs) (by omega)
  refine ⟨zs, SL.win SR_ok h2 rfl hr' hm hc.1, hs, condC (fun g => ⟨Mem.le_trans hE h1, ?_⟩) (fun g base2 E2 h3 h4 => ⟨Mem.le_trans hE (Mem.le_trans h1 h3), ?_⟩)⟩
  · have g : 64 < manyF zs := by rw [hI] at g; simp at g; omega
    exact h [] false 10 (by unfold endA; rw [if_pos g]) none 0 0 E' h1 SL.nil
  · have g : ¬ 64 < manyF zs := by rw [hI] at g; simp at g; omega
    exact h zs true 0 (by unfold endA; rw [if_neg g]) _ m cap E2 (Mem.le_trans h1 h3) (SL.win SR_ok h4 rfl (hr'.mono SR_ok h3) hm hc.1)
def shA13 (n : Int) (k m cap tot : Nat) (rs : List (List Value)) (b : Option Addr) (l c : Nat) (j : Nat) (E : Mem) : St := ⟨[none, none, none, none, none, some (.loc 0 0), none, none, none, some (I (k : Nat)), none, some (.slc 1 0 m cap), some (L b l c), some (I (j : Nat)), none, none, none, none, none, none, none, none, none, none, none, none, none, none, none, none, none, none, none, none, none, none, none, none, none, none, none, none, none, none, none, none, none, none, none, none, none, none, none, none, none, none, none, none, none, none, none, none, none, none, none, none, none, none, none, none, none, none, none, none, none, none], [⟨3, .lst [I n], 1, true⟩, ⟨45, .vals rs.flatten, tot, true⟩], E⟩
theorem pcA13 {n : Int} {k m cap tot l c j : Nat} {b : Option Addr} {rs : List (List Value)} {zs : List Sn} {x : Sn} {E0 : Mem} (hr : SLr SR E rs zs) (hm : zs.length = m) (hl : m ≤ 1000) (hs : Sm zs) (hmn : manyF zs ≤ 1000) (hc : m ≤ cap ∧ cap * 2 ≤ tot) (hk : zs[k]? = some x) (hx : RS E b l c x.2) (hxl : l ≤ 1000) (hb : ∀ y ∈ x.2, 0 ≤ y.1 ∧ 0 ≤ y.2 ∧ y.2 ≤ 2000000000) (hn : 0 ≤ n ∧ n ≤ 2000000000) (hj : j ≤ l) (hE : Mem.le E0 E)
    (h : ∀ (ys : List Sn) (t : Bool) (e : Int), endA (zs.set k (x.1, joinF (x.2.take j ++ (n, n) :: x.2.drop j))) = (ys, t, e) → ∀ (b' : Option Addr) (l' c' : Nat) (E' : Mem), Mem.le E E' → SS E' b' l' c' ys → K (.tup [L b' l' c', B t, I e]) E') : Pc A1 8 Try.f11 [1, 1, 1, 1, 1, 1, 1, 1, 1] 0 (pubK E0 K) (shA13 n k m cap tot rs b l c j E) := by
  refine same (by kernel_rfl) (?_ : 
      (∃ (xs : List Rg),
          RS E b l c xs ∧
            l ≤ 1000000 ∧
              ∀ (rs_1 : List (List Value)) (cap' tot' : Nat),
                Hyp
                    (SLr
                      (fun (x : Mem) (x_1 : Rg) (r : List Value) =>
                        r = [Value.int IntKind.i64 x_1.fst, Value.int IntKind.i64 x_1.snd])
                      E rs_1 xs) →
                  l ≤ cap' →
                    cap' * 2 ≤ tot' →
                      Mem.le E E ∧
                        ∃ (k_1 : Nat),
                          ∃ (vs : List Value),
                            ∃ (tot_1 : Nat),
                              ∃ (u : Value),
                                ∃ (v : Value),
                                  (↑j : Int) = (↑k_1 : Int) ∧
                                    some
                                          { elem := 47, row := Row.vals (List.flatten rs_1), total := tot',
                                            own := true : Box } =
                                        some { elem := 47, row := Row.vals vs, total := tot_1, own := true : Box } ∧
                                      some
                                            { elem := 47,
                                              row :=
                                                Row.lst [SV.raw (Value.int IntKind.i64 n), SV.raw (Value.int IntKind.i64 n)],
                                              total := 2, own := true : Box } =
                                          some
                                            { elem := 47, row := Row.lst [SV.raw u, SV.raw v], total := 2,
                                              own := true : Box } ∧
                                        (2 = 3 → False) ∧
                                          l * 2 = List.length vs ∧
                                            (∀ (x : Value), List.Mem x vs → Value.oneCell' x = true) ∧
                                              List.all [SV.raw u, SV.raw v] SV.one = true ∧
                                                (l ≤ cap' ∧ cap' * 2 ≤ tot_1) ∧
                                                  k_1 ≤ l ∧
                                                    l ≤ 1000000 ∧
                                                      ∀ (cap'_1 tot' : Nat),
                                                        l + 1 ≤ cap'_1 →
                                                          cap'_1 * 2 ≤ tot' →
                                                            ∀ (base : Option Addr) (E' : Mem),
                                                              Mem.le E E' →
                                                                WinE E' base (insV vs k_1 u v) →
                                                                  ∃ (rs_2 : List Rg),
                                                                    RS E'
                                                                        (Option.map (fun (x : Addr) => Addr.add x 0)
                                                                          base)
                                                                        (l + 1) cap'_1 rs_2 ∧
                                                                      l + 1 ≤ 1000000 ∧
                                                                        (∀ (x : Rg),
                                                                            List.Mem x rs_2 →
                                                                              (0 : Int) ≤ x.fst ∧
                                                                                (0 : Int) ≤ x.snd ∧
                                                                                  x.snd ≤ (2000000000 : Int)) ∧
                                                                          ∀ (b' : Option Addr) (l' c' : Nat) (E'_1 : Mem),
                                                                            Mem.le E' E'_1 →
                                                                              RS E'_1 b' l' c' (joinF rs_2) →
                                                                                req
                                                                                  ((0 : Int) ≤ (↑k : Int) ∧
                                                                                    (↑k : Int) < (↑m : Int))
                                                                                  (0 +
                                                                                            Int.toNat (↑k : Int) * 2 +
                                                                                          1 +
                                                                                        1 ≤
                                                                                      List.length (List.flatten rs) ∧
                                                                                    Ct A1 8 Try.f11
                                                                                      [1, 1, 1,
                                                                                        1, 1, 1,
                                                                                        1, 1, 1,
                                                                                        1]
                                                                                      0 (pubK E0 K)
                                                                                      {
                                                                                        fr :=
                                                                                          [none, none, none, none, none, some (SV.loc 0 0), none, none, none, some (SV.raw (Value.int IntKind.i64 (↑k : Int))), none, some (SV.slc 1 0 m cap), some (SV.raw (Value.slice b l c)), some (SV.raw (Value.int IntKind.i64 (↑j : Int))), none, none, none, none, none, none, none, none, none, none, none, none, none, none, none, none, none, none, none, none, none, none, none, none, none, none, none, none, none, none, none, none, none, none, none, none, none, none, none, none, none, none, none, none, none, some (SV.slc 1 0 m cap), some (SV.raw (Value.int IntKind.i64 (↑k : Int))), some (SV.raw (Value.slice b l c)), some (SV.slc 2 0 l cap'), some (SV.raw (Value.int IntKind.i64 (↑j : Int))), some (SV.raw (Value.int IntKind.i64 n)), some (SV.raw (Value.int IntKind.i64 n)), some (SV.agg [SV.raw (Value.int IntKind.i64 n), SV.raw (Value.int IntKind.i64 n)]), some (SV.slc 3 0 1 1), some (SV.slc 4 0 (l + 1) cap'_1), some (SV.raw (Value.slice b' l' c')), some (SV.loc 1 (0 + Int.toNat (↑k : Int) * 2)), some (SV.loc 1 (0 + Int.toNat (↑k : Int) * 2 + 1)), none, none, none, none],
                                                                                        bx :=
                                                                                          [{ elem := 3,
                                                                                              row :=
                                                                                                Row.lst
                                                                                                  [SV.raw
                                                                                                      (Value.int IntKind.i64
                                                                                                        n)],
                                                                                              total := 1,
                                                                                              own := true : Box },
                                                                                            { elem := 45,
                                                                                              row :=
                                                                                                Row.vals
                                                                                                  (layV (List.flatten rs)
                                                                                                    (0 +
                                                                                                        Int.toNat (↑k : Int) *
                                                                                                          2 +
                                                                                                      1)
                                                                                                    [Value.slice b' l' c']),
                                                                                              total := tot, own := true :
                                                                                              Box },
                                                                                            { elem := 47,
                                                                                              row := Row.lst [],
                                                                                              total := 0,
                                                                                              own := false : Box },
                                                                                            { elem := 47,
                                                                                              row :=
                                                                                                Row.lst
                                                                                                  [SV.raw
                                                                                                      (Value.int IntKind.i64
                                                                                                        n),
                                                                                                    SV.raw
                                                                                                      (Value.int IntKind.i64
                                                                                                        n)],
                                                                                              total := 2,
                                                                                              own := true : Box },
                                                                                            { elem := 47,
                                                                                              row :=
                                                                                                Row.vals (insV vs k_1 u v),
                                                                                              total := tot', own := false :
                                                                                              Box }],
                                                                                        E := E'_1 : St })) ∧
        ∃ (xs : List Rg),
          RS E b l c xs ∧
            l ≤ 1000000 ∧
              ∀ (rs_1 : List (List Value)) (cap' tot' : Nat),
                Hyp
                    (SLr
                      (fun (x : Mem) (x_1 : Rg) (r : List Value) =>
                        r = [Value.int IntKind.i64 x_1.fst, Value.int IntKind.i64 x_1.snd])
                      E rs_1 xs) →
                  l ≤ cap' →
                    cap' * 2 ≤ tot' →
                      Mem.le E E ∧
                        ∃ (k_1 : Nat),
                          ∃ (vs : List Value),
                            ∃ (tot_1 : Nat),
                              ∃ (u : Value),
                                ∃ (v : Value),
                                  (↑j : Int) = (↑k_1 : Int) ∧
                                    some
                                          { elem := 47, row := Row.vals (List.flatten rs_1), total := tot',
                                            own := true : Box } =
                                        some { elem := 47, row := Row.vals vs, total := tot_1, own := true : Box } ∧
                                      some
                                            { elem := 47,
                                              row :=
                                                Row.lst [SV.raw (Value.int IntKind.i64 n), SV.raw (Value.int IntKind.i64 n)],
                                              total := 2, own := true : Box } =
                                          some
                                            { elem := 47, row := Row.lst [SV.raw u, SV.raw v], total := 2,
                                              own := true : Box } ∧
                                        (3 = 2 → False) ∧
                                          l * 2 = List.length vs ∧
                                            (∀ (x : Value), List.Mem x vs → Value.oneCell' x = true) ∧
                                              List.all [SV.raw u, SV.raw v] SV.one = true ∧
                                                (l ≤ cap' ∧ cap' * 2 ≤ tot_1) ∧
                                                  k_1 ≤ l ∧
                                                    l ≤ 1000000 ∧
                                                      ∀ (cap'_1 tot' : Nat),
                                                        l + 1 ≤ cap'_1 →
                                                          cap'_1 * 2 ≤ tot' →
                                                            ∀ (base : Option Addr) (E' : Mem),
                                                              Mem.le E E' →
                                                                WinE E' base (insV vs k_1 u v) →
                                                                  ∃ (rs_2 : List Rg),
                                                                    RS E'
                                                                        (Option.map (fun (x : Addr) => Addr.add x 0)
                                                                          base)
                                                                        (l + 1) cap'_1 rs_2 ∧
                                                                      l + 1 ≤ 1000000 ∧
                                                                        (∀ (x : Rg),
                                                                            List.Mem x rs_2 →
                                                                              (0 : Int) ≤ x.fst ∧
                                                                                (0 : Int) ≤ x.snd ∧
                                                                                  x.snd ≤ (2000000000 : Int)) ∧
                                                                          ∀ (b' : Option Addr) (l' c' : Nat) (E'_1 : Mem),
                                                                            Mem.le E' E'_1 →
                                                                              RS E'_1 b' l' c' (joinF rs_2) →
                                                                                req
                                                                                  ((0 : Int) ≤ (↑k : Int) ∧
                                                                                    (↑k : Int) < (↑m : Int))
                                                                                  (0 +
                                                                                            Int.toNat (↑k : Int) * 2 +
                                                                                          1 +
                                                                                        1 ≤
                                                                                      List.length (List.flatten rs) ∧
                                                                                    Ct A1 8 Try.f11
                                                                                      [1, 1, 1,
                                                                                        1, 1, 1,
                                                                                        1, 1, 1,
                                                                                        1]
                                                                                      0 (pubK E0 K)
                                                                                      {
                                                                                        fr :=
                                                                                          [none, none, none, none, none, some (SV.loc 0 0), none, none, none, some (SV.raw (Value.int IntKind.i64 (↑k : Int))), none, some (SV.slc 1 0 m cap), some (SV.raw (Value.slice b l c)), some (SV.raw (Value.int IntKind.i64 (↑j : Int))), none, none, none, none, none, none, none, none, none, none, none, none, none, none, none, none, none, none, none, none, none, none, none, none, none, none, none, none, none, none, none, none, none, none, none, none, none, none, none, none, none, none, none, none, none, some (SV.slc 1 0 m cap), some (SV.raw (Value.int IntKind.i64 (↑k : Int))), some (SV.raw (Value.slice b l c)), some (SV.slc 3 0 l cap'), some (SV.raw (Value.int IntKind.i64 (↑j : Int))), some (SV.raw (Value.int IntKind.i64 n)), some (SV.raw (Value.int IntKind.i64 n)), some (SV.agg [SV.raw (Value.int IntKind.i64 n), SV.raw (Value.int IntKind.i64 n)]), some (SV.slc 2 0 1 1), some (SV.slc 4 0 (l + 1) cap'_1), some (SV.raw (Value.slice b' l' c')), some (SV.loc 1 (0 + Int.toNat (↑k : Int) * 2)), some (SV.loc 1 (0 + Int.toNat (↑k : Int) * 2 + 1)), none, none, none, none],
                                                                                        bx :=
                                                                                          [{ elem := 3,
                                                                                              row :=
                                                                                                Row.lst
                                                                                                  [SV.raw
                                                                                                      (Value.int IntKind.i64
                                                                                                        n)],
                                                                                              total := 1,
                                                                                              own := true : Box },
                                                                                            { elem := 45,
                                                                                              row :=
                                                                                                Row.vals
                                                                                                  (layV (List.flatten rs)
                                                                                                    (0 +
                                                                                                        Int.toNat (↑k : Int) *
                                                                                                          2 +
                                                                                                      1)
                                                                                                    [Value.slice b' l' c']),
                                                                                              total := tot, own := true :
                                                                                              Box },
                                                                                            { elem := 47,
                                                                                              row :=
                                                                                                Row.lst
                                                                                                  [SV.raw
                                                                                                      (Value.int IntKind.i64
                                                                                                        n),
                                                                                                    SV.raw
                                                                                                      (Value.int IntKind.i64
                                                                                                        n)],
                                                                                              total := 2,
                                                                                              own := true : Box },
                                                                                            { elem := 47,
                                                                                              row := Row.lst [],
                                                                                              total := 0,
                                                                                              own := false : Box },
                                                                                            { elem := 47,
                                                                                              row :=
                                                                                                Row.vals (insV vs k_1 u v),
                                                                                              total := tot', own := false :
                                                                                              Box }],
                                                                                        E := E'_1 : St }))
  have hxl2 := hx.len
  have hkm := (List.getElem?_eq_some_iff.1 hk).1
  have hflat := hr.flat SR_ok
  have fin : ∀ (rs1 : List (List Value)) (tot1 cap1 : Nat) (base : Option Addr) (E1 : Mem), SLr RR E rs1 x.2 → Mem.le E E1 → l + 1 ≤ cap1 → WinE E1 base (insV rs1.flatten j (.int .i64 n) (.int .i64 n)) → RS E1 (base.map fun y => y.add 0) (l + 1) cap1 (x.2.take j ++ (n, n) :: x.2.drop j) := fun rs1 tot1 cap1 base E1 q1 q2 q3 q4 => by
    obtain ⟨e1, e2⟩ := SLr_ins (x := (n, n)) RR_ok q1 rfl j
    exact SL.win RR_ok q4 e1 (e2.mono RR_ok q2) (by simp; omega) q3
  have hbd : ∀ y : Rg, List.Mem y (x.2.take j ++ (n, n) :: x.2.drop j) → 0 ≤ y.1 ∧ 0 ≤ y.2 ∧ y.2 ≤ 2000000000 := fun y hy => by
    rcases List.mem_append.1 hy with q | q
    · exact hb y (List.mem_of_mem_take q)
    · rcases List.mem_cons.1 q with rfl | q
      · exact ⟨hn.1, hn.1, hn.2⟩
      · exact hb y (List.mem_of_mem_drop q)
  have hjl : (joinF (x.2.take j ++ (n, n) :: x.2.drop j)).length ≤ 2000 := by
    have := (joinF_bd (B := 2000000000) (fun y hy => ⟨(hbd y hy).2.1, (hbd y hy).2.2⟩)).2
    simp only [List.length_append, List.length_cons, List.length_take, List.length_drop] at this
    omega
  have nxt : ∀ (b' : Option Addr) (l' c' : Nat) (E1 : Mem), Mem.le E E1 → RS E1 b' l' c' (joinF (x.2.take j ++ (n, n) :: x.2.drop j)) → k * 2 + 1 + 1 ≤ rs.flatten.length ∧ ∃ rs', layV rs.flatten (k * 2 + 1) [Value.slice b' l' c'] = rs'.flatten ∧ Pc A1 8 Try.f11 [1, 1, 1, 1, 1, 1, 1, 1, 1, 1] 0 (pubK E0 K) (shA14 n m cap tot rs' E1) := fun b' l' c' E1 q1 q2 => by
    refine ⟨by rw [hflat]; omega, ?_⟩
    have hr1 := hr.mono SR_ok q1
    obtain ⟨r, f1, ⟨b0, l0, c0, f2, f3⟩, f4⟩ := hr1.get SR_ok hk
    subst f2
    refine ⟨rs.set k [.int .i64 x.1, .slice b' l' c'], lay_cell2 (hr.lens SR_ok) f1, pcA14 (hr1.set k (x := (x.1, joinF (x.2.take j ++ (n, n) :: x.2.drop j))) ⟨b', l', c', rfl, q2⟩) (by simpa using hm) hl ⟨by rw [List.length_set]; omega, fun y hy => ?_⟩ (by have := many_set (k := k) (y := ((x.1, joinF (x.2.take j ++ (n, n) :: x.2.drop j)) : Sn)) (xs := zs); have h9 : ((x.1, joinF (x.2.take j ++ (n, n) :: x.2.drop j)) : Sn).2.length ≤ 2000 := hjl; omega) hc (Mem.le_trans hE q1) (fun ys t e g b'' l'' c'' E'' g1 g2 => h ys t e g b'' l'' c'' E'' (Mem.le_trans q1 g1) g2)⟩
    rcases List.mem_or_eq_of_mem_set hy with q | rfl
    · exact hs.2 y q
    · have := (joinF_bd (B := 2000000000) (fun y hy => ⟨(hbd y hy).2.1, (hbd y hy).2.2⟩)).2
      simp only [List.length_append, List.length_cons, List.length_take, List.length_drop] at this
      show (joinF _).length ≤ _
      omega
  refine ⟨⟨x.2, hx, by omega, fun rs1 cap1 tot1 q1 c1 c2 => ⟨Mem.le_refl _, j, _, _, _, _, rfl, rfl, rfl, by decide, ?_, q1.ones RR_ok, rfl, ⟨c1, c2⟩, hj, by omega, fun cap2 tot2 d1 d2 base E1 g1 g2 => ⟨_, fin rs1 tot1 cap2 base E1 q1 g1 d1 g2, by omega, hbd, fun b' l' c' E2 g3 g4 => req_intro (by omega) ?_⟩⟩⟩, x.2, hx, by omega, fun rs1 cap1 tot1 q1 c1 c2 => ⟨Mem.le_refl _, j, _, _, _, _, rfl, rfl, rfl, by decide, ?_, q1.ones RR_ok, rfl, ⟨c1, c2⟩, hj, by omega, fun cap2 tot2 d1 d2 base E1 g1 g2 => ⟨_, fin rs1 tot1 cap2 base E1 q1 g1 d1 g2, by omega, hbd, fun b' l' c' E2 g3 g4 => req_intro (by omega) ?_⟩⟩⟩
  · rw [q1.flat RR_ok]; omega
  · obtain ⟨e1, rs', e2, e3⟩ := nxt b' l' c' E2 (Mem.le_trans g1 g3) g4
    rw [Int.toNat_natCast, Nat.zero_add, e2]
    exact ⟨e1, Ct_re [some 0, some 1] (Ct_intro okA1 e3) ⟨⟨by simp, by simp, fun j h => absurd h (Nat.not_lt_zero _)⟩, rfl, (by repeat' first | exact True.intro | refine And.intro (Or.inl rfl) ?_ | refine And.intro (Or.inr ⟨rfl, rfl⟩) ?_), (by repeat' first | exact True.intro | exact rfl | exact Or.inl rfl | fail | refine And.intro ?_ ?_), (show List.Nodup [0, 1] from by decide), Mem.le_refl _⟩⟩
  · rw [q1.flat RR_ok]; omega
  · obtain ⟨e1, rs', e2, e3⟩ := nxt b' l' c' E2 (Mem.le_trans g1 g3) g4
    rw [Int.toNat_natCast, Nat.zero_add, e2]
    exact ⟨e1, Ct_re [some 0, some 1] (Ct_intro okA1 e3) ⟨⟨by simp, by simp, fun j h => absurd h (Nat.not_lt_zero _)⟩, rfl, (by repeat' first | exact True.intro | refine And.intro (Or.inl rfl) ?_ | refine And.intro (Or.inr ⟨rfl, rfl⟩) ?_), (by repeat' first | exact True.intro | exact rfl | exact Or.inl rfl | fail | refine And.intro ?_ ?_), (show List.Nodup [0, 1] from by decide), Mem.le_refl _⟩⟩
def shA7 (n : Int) (k m cap tot : Nat) (rs : List (List Value)) (E : Mem) : St := ⟨[none, none, none, none, none, some (.loc 0 0), none, none, none, some (I (k : Nat)), none, some (.slc 1 0 m cap), none, none, none, none, none, none, none, none, none, none, none, none, none, none, none, none, none, none, none, none, none, none, none, none, none, none, none, none, none, none, none, none, none, none, none, none, none, none, none, none, none, none, none, none, none, none, none, none, none, none, none, none, none, none, none, none, none, none, none, none, none, none, none, none], [⟨3, .lst [I n], 1, true⟩, ⟨45, .vals rs.flatten, tot, true⟩], E⟩
theorem pcA7 {n : Int} {k m cap tot : Nat} {rs : List (List Value)} {zs : List Sn} {x : Sn} {E0 : Mem} (hr : SLr SR E rs zs) (hm : zs.length = m) (hl : m ≤ 1000) (hs : Sm zs) (hmn : manyF zs ≤ 1000) (hc : m ≤ cap ∧ cap * 2 ≤ tot) (hk : zs[k]? = some x) (hxl : x.2.length ≤ 1000) (hb : ∀ y ∈ x.2, 0 ≤ y.1 ∧ 0 ≤ y.2 ∧ y.2 ≤ 2000000000) (hn : 0 ≤ n ∧ n ≤ 2000000000) (hE : Mem.le E0 E)
    (h : ∀ (ys : List Sn) (t : Bool) (e : Int), stepA zs k x n = (ys, t, e) → ∀ (b' : Option Addr) (l' c' : Nat) (E' : Mem), Mem.le E E' → SS E' b' l' c' ys → K (.tup [L b' l' c', B t, I e]) E') : Pc A1 8 Try.f11 [1, 1, 1, 1, 1] 0 (pubK E0 K) (shA7 n k m cap tot rs E) := by
  refine same (by kernel_rfl) (?_ : 
      req ((0 : Int) ≤ (↑k : Int) ∧ (↑k : Int) < (↑m : Int))
        (∃ (base : Option Addr),
          ∃ (len : Nat),
            ∃ (cap_1 : Nat),
              LoadV A1.P 43 (List.flatten rs) (0 + Int.toNat (↑k : Int) * 2 + 1)
                  (SV.raw (Value.slice base len cap_1)) ∧
                ∃ (rs_1 : List Rg),
                  RS E base len cap_1 rs_1 ∧
                    len ≤ 9223372036854775807 ∧
                      Mem.le E E ∧
                        bif decide (holdsP rs_1 n) then
                          ∀ (base : Option Addr) (E' : Mem),
                            Mem.le E E' →
                              WinE E' base (List.flatten rs) →
                                Mem.le E0 E' ∧
                                  K
                                    (SV.tup
                                      [SV.raw (Value.slice (Option.map (fun (x : Addr) => Addr.add x 0) base) m cap),
                                        SV.raw (Value.bool false), SV.raw (Value.int IntKind.i64 (0 : Int))])
                                    E'
                        else
                          ∃ (rs_2 : List Rg),
                            ∃ (n_1 : Int),
                              some
                                    { elem := 3, row := Row.lst [SV.raw (Value.int IntKind.i64 n)],
                                      total := 1, own := true : Box } =
                                  some
                                    { elem := 3, row := Row.lst [SV.raw (Value.int IntKind.i64 n_1)],
                                      total := 1, own := true : Box } ∧
                                RS E base len cap_1 rs_2 ∧
                                  len ≤ 9223372036854775807 ∧
                                    bif decide (idxP (gtP n_1) rs_2 < (0 : Int)) then
                                      Ct A1 8 Try.f11
                                        [1, 1, 1, 1, 1, 1, 1,
                                          1, 1]
                                        0 (pubK E0 K)
                                        {
                                          fr :=
                                            [none, none, none, none, none, some (SV.loc 0 0), none, none, none, some (SV.raw (Value.int IntKind.i64 (↑k : Int))), none, some (SV.slc 1 0 m cap), some (SV.raw (Value.slice base len cap_1)), some (SV.raw (Value.int IntKind.i64 (↑len : Int))), none, none, none, none, none, none, none, none, none, none, none, none, none, none, none, none, none, none, none, none, none, none, none, none, none, none, none, none, none, some (SV.slc 1 0 m cap), some (SV.raw (Value.int IntKind.i64 (↑k : Int))), some (SV.loc 1 (0 + Int.toNat (↑k : Int) * 2)), some (SV.loc 1 (0 + Int.toNat (↑k : Int) * 2 + 1)), some (SV.raw (Value.slice base len cap_1)), some (SV.raw (Value.slice base len cap_1)), some (SV.raw (Value.int IntKind.i64 n)), some (SV.raw (Value.bool (decide (holdsP rs_1 n)))), none, some (SV.raw (Value.slice base len cap_1)), some (SV.clo 32 [] [SV.loc 0 0]), some (SV.raw (Value.int IntKind.i64 (idxP (gtP n_1) rs_2))), some (SV.raw (Value.int IntKind.i64 (idxP (gtP n_1) rs_2))), some (SV.raw (Value.bool (decide (idxP (gtP n_1) rs_2 < (0 : Int))))), some (SV.raw (Value.slice base len cap_1)), some (SV.raw (Value.int IntKind.i64 (↑len : Int))), none, none, none, none, none, none, none, none, none, none, none, none, none, none, none, none, none],
                                          bx :=
                                            [{ elem := 3, row := Row.lst [SV.raw (Value.int IntKind.i64 n)],
                                                total := 1, own := true : Box },
                                              { elem := 45, row := Row.vals (List.flatten rs), total := tot,
                                                own := true : Box }],
                                          E := E : St }
                                    else
                                      Ct A1 8 Try.f11
                                        [1, 1, 1, 1, 1, 1, 1,
                                          1, 1]
                                        0 (pubK E0 K)
                                        {
                                          fr :=
                                            [none, none, none, none, none, some (SV.loc 0 0), none, none, none, some (SV.raw (Value.int IntKind.i64 (↑k : Int))), none, some (SV.slc 1 0 m cap), some (SV.raw (Value.slice base len cap_1)), some (SV.raw (Value.int IntKind.i64 (idxP (gtP n_1) rs_2))), none, none, none, none, none, none, none, none, none, none, none, none, none, none, none, none, none, none, none, none, none, none, none, none, none, none, none, none, none, some (SV.slc 1 0 m cap), some (SV.raw (Value.int IntKind.i64 (↑k : Int))), some (SV.loc 1 (0 + Int.toNat (↑k : Int) * 2)), some (SV.loc 1 (0 + Int.toNat (↑k : Int) * 2 + 1)), some (SV.raw (Value.slice base len cap_1)), some (SV.raw (Value.slice base len cap_1)), some (SV.raw (Value.int IntKind.i64 n)), some (SV.raw (Value.bool (decide (holdsP rs_1 n)))), none, some (SV.raw (Value.slice base len cap_1)), some (SV.clo 32 [] [SV.loc 0 0]), some (SV.raw (Value.int IntKind.i64 (idxP (gtP n_1) rs_2))), some (SV.raw (Value.int IntKind.i64 (idxP (gtP n_1) rs_2))), some (SV.raw (Value.bool (decide (idxP (gtP n_1) rs_2 < (0 : Int))))), none, none, none, none, none, none, none, none, none, none, none, none, none, none, none, none, none, none, none],
                                          bx :=
                                            [{ elem := 3, row := Row.lst [SV.raw (Value.int IntKind.i64 n)],
                                                total := 1, own := true : Box },
                                              { elem := 45, row := Row.vals (List.flatten rs), total := tot,
                                                own := true : Box }],
                                          E := E : St }))
  have hkm := (List.getElem?_eq_some_iff.1 hk).1
  obtain ⟨r, f1, ⟨b0, l0, c0, f2, f3⟩, f4⟩ := hr.get SR_ok hk
  subst f2
  have hxl2 := f3.len
  have hv : rs.flatten[k * 2 + 1]? = some (.slice b0 l0 c0) := by
    have := congrArg (fun l : List Value => l[1]?) f4
    simpa [List.getElem?_take, List.getElem?_drop] using this
  have hK : gtK x.2 n ≤ l0 := by rw [← hxl2]; exact gtK_le
  have go : ¬ holdsP x.2 n → ∀ (ys : List Sn) (t : Bool) (e : Int), endA (zs.set k (x.1, joinF (x.2.take (gtK x.2 n) ++ (n, n) :: x.2.drop (gtK x.2 n)))) = (ys, t, e) → ∀ (b' : Option Addr) (l' c' : Nat) (E' : Mem), Mem.le E E' → SS E' b' l' c' ys → K (.tup [L b' l' c', B t, I e]) E' := fun g ys t e q => h ys t e (by unfold stepA; rw [if_neg g]; exact q)
  rw [Int.toNat_natCast, Nat.zero_add]
  refine req_intro (by omega) ⟨b0, l0, c0, loadV_cell (d := .slice 47) (by kernel_rfl) rfl hv, x.2, f3, by omega, Mem.le_refl _, condC (fun g base E' h1 h2 => ⟨Mem.le_trans hE h1, ?_⟩) (fun g => ⟨x.2, n, rfl, f3, by omega, condC (fun q => ?_) (fun q => ?_)⟩)⟩
  · have g : holdsP x.2 n := by simpa using g
    exact h zs false 0 (by unfold stepA; rw [if_pos g]) _ m cap E' h1 (SL.win SR_ok h2 rfl (hr.mono SR_ok h1) hm hc.1)
  · have g : ¬ holdsP x.2 n := by simpa using g
    have q : idxP (gtP n) x.2 < 0 := by simpa using q
    have e : l0 = gtK x.2 n := by unfold gtK; rw [if_pos q, hxl2]
    have K1 := pcA13 hr hm hl hs hmn hc hk f3 (by omega) hb hn hK hE (go g)
    rw [← e] at K1
    exact Ct_re [some 0, some 1] (Ct_intro okA1 K1) ⟨⟨by simp, by simp, fun j h => absurd h (Nat.not_lt_zero _)⟩, rfl, (by repeat' first | exact True.intro | refine And.intro (Or.inl rfl) ?_ | refine And.intro (Or.inr ⟨rfl, rfl⟩) ?_), (by repeat' first | exact True.intro | exact rfl | exact Or.inl rfl | fail | refine And.intro ?_ ?_), (show List.Nodup [0, 1] from by decide), Mem.le_refl _⟩
  · have g : ¬ holdsP x.2 n := by simpa using g
    have q : ¬ idxP (gtP n) x.2 < 0 := by simpa using q
    have e : idxP (gtP n) x.2 = (gtK x.2 n : Nat) := by unfold gtK; rw [if_neg q]; omega
    rw [e]
    exact Ct_re [some 0, some 1] (Ct_intro okA1 (pcA13 hr hm hl hs hmn hc hk f3 (by omega) hb hn hK hE (go g))) ⟨⟨by simp, by simp, fun j h => absurd h (Nat.not_lt_zero _)⟩, rfl, (by repeat' first | exact True.intro | refine And.intro (Or.inl rfl) ?_ | refine And.intro (Or.inr ⟨rfl, rfl⟩) ?_), (by repeat' first | exact True.intro | exact rfl | exact Or.inl rfl | fail | refine And.intro ?_ ?_), (show List.Nodup [0, 1] from by decide), Mem.le_refl _⟩
theorem filter_take {α : Type} {p : α → Bool} : ∀ {xs : List α} {k : Nat}, (∀ i x, xs[i]? = some x → (p x = true ↔ i < k)) → xs.filter p = xs.take k
  | [], k, _ => by simp
  | a :: xs, 0, h => by
    have h0 : ¬ p a = true := fun e => absurd ((h 0 a rfl).1 e) (Nat.lt_irrefl 0)
    rw [List.filter_cons_of_neg h0, filter_take (k := 0) (fun i x hx => by
      have := h (i + 1) x (by simpa using hx)
      constructor
      · intro e; have := this.1 e; omega
      · intro e; omega)]
    simp
  | a :: xs, k + 1, h => by
    rw [List.filter_cons_of_pos ((h 0 a rfl).2 (by omega)), List.take_succ_cons, filter_take (k := k) (fun i x hx => by
      have := h (i + 1) x (by simpa using hx)
      rw [this]; omega)]
theorem filter_drop {α : Type} {p : α → Bool} : ∀ {xs : List α} {k : Nat}, (∀ i x, xs[i]? = some x → (p x = true ↔ k ≤ i)) → xs.filter p = xs.drop k
  | [], k, _ => by simp
  | a :: xs, 0, h => by
    rw [List.filter_cons_of_pos ((h 0 a rfl).2 (by omega)), List.drop_zero, filter_drop (k := 0) (fun i x hx => by
      have := h (i + 1) x (by simpa using hx)
      rw [this]; omega), List.drop_zero]
  | a :: xs, k + 1, h => by
    have h0 : ¬ p a = true := fun e => absurd ((h 0 a rfl).1 e) (by omega)
    rw [List.filter_cons_of_neg h0, List.drop_succ_cons, filter_drop (k := k) (fun i x hx => by
      have := h (i + 1) x (by simpa using hx)
      rw [this]; omega)]
theorem put_at {xs : List Sn} {o : Int} {k : Nat} {f : Bool} (hc : chkS (-1) xs) (h0 : 0 ≤ o) (h1 : o ≤ 59) (hf : FindR xs o k f) (r : List Rg) : putF xs o r = xs.take k ++ (o, r) :: xs.drop (if f then k + 1 else k) := by
  obtain ⟨f1, f2, f3, f4⟩ := hf
  have f4 := f4 h0 h1
  unfold putF
  rw [filter_take (k := k) (fun i x hx => by rw [f4 i x hx]; simp), filter_drop (k := if f then k + 1 else k) (fun i x hx => by
    have g := f4 i x hx
    simp only [decide_eq_true_eq]
    cases f with
    | false =>
      have := f3 rfl x (List.mem_of_getElem? hx)
      simp only [Bool.false_eq_true, if_false]
      omega
    | true =>
      obtain ⟨y, e1, e2⟩ := f2 rfl
      simp only [if_true]
      constructor
      · intro q
        have q1 : ¬ i < k := fun w => by have := g.1 w; omega
        have q2 : i ≠ k := by rintro rfl; rw [e1] at hx; cases hx; omega
        omega
      · intro q
        have q1 : ¬ x.1 < o := fun w => by have := g.2 w; omega
        have q2 : x.1 ≠ o := fun w => by have := sameO hc hx e1 (by omega); omega
        omega)]
theorem many_mem : ∀ {xs : List Sn} {x : Sn}, x ∈ xs → x.2.length ≤ manyF xs
  | a :: xs, x, h => by
    have e : manyF (a :: xs) = a.2.length + manyF xs := by simp [manyF]
    rcases List.mem_cons.1 h with rfl | h
    · omega
    · have := many_mem h; omega
theorem chkR_mem : ∀ {rs : List Rg} {p : Int}, chkR p rs → ∀ y ∈ rs, 1 ≤ y.1 ∧ y.1 ≤ y.2 ∧ y.2 ≤ 1000000000
  | [], _, _, y, hy => by cases hy
  | a :: rs, p, h, y, hy => by
    rcases List.mem_cons.1 hy with rfl | hy
    · exact ⟨h.1.1, h.1.2.1, h.1.2.2.1⟩
    · exact chkR_mem h.2 y hy
theorem step_no {xs : List Sn} {o n : Int} {k : Nat} (gA : okA xs o n) (hf : FindR xs o k false) : stepA (xs.take k ++ ((o, []) : Sn) :: xs.drop k) k (o, []) n = addF xs o n := by
  have hput := put_at gA.1.2 gA.2.1.1 gA.2.1.2 hf
  have hof : ofF xs o = [] := ofF_no (fun x hx => hf.2.2.1 rfl x hx)
  have hl : (xs.take k).length = k := by rw [List.length_take, Nat.min_eq_left hf.1]
  have hno : ¬ holdsP ([] : List Rg) n := by simp [holdsP]
  have e : ∀ r : List Rg, (xs.take k ++ ((o, []) : Sn) :: xs.drop k).set k (o, r) = putF xs o r := fun r => by
    rw [hput, List.set_append_right _ _ (by omega), hl, Nat.sub_self]; simp
  unfold stepA addF endA
  rw [if_pos gA, hof, if_neg hno, if_neg hno, e]
theorem step_at {xs : List Sn} {o n : Int} {k : Nat} {x : Sn} (gA : okA xs o n) (hf : FindR xs o k true) (ex : xs[k]? = some x) (exo : x.1 = o) : stepA xs k x n = addF xs o n := by
  have hput := put_at gA.1.2 gA.2.1.1 gA.2.1.2 hf
  have hof : ofF xs o = x.2 := ofF_at ex exo (fun j y hj hy e => by have := sameO gA.1.2 ex hy (by omega); omega)
  have hk := (List.getElem?_eq_some_iff.1 ex).1
  have e : ∀ r : List Rg, xs.set k (x.1, r) = putF xs o r := fun r => by
    rw [hput, List.set_eq_take_append_cons_drop, if_pos hk, exo]; simp
  unfold stepA addF endA
  rw [if_pos gA, hof, e]
theorem chkS_len : ∀ {xs : List Sn} {p : Int}, chkS p xs → -1 ≤ p → p ≤ 59 → (xs.length : Int) ≤ 59 - p
  | [], _, _, h0, h1 => by simp; omega
  | a :: xs, p, h, h0, h1 => by
    have := chkS_len (p := a.1) h.2 (by have := h.1.1; omega) h.1.2.1
    have h3 : p < a.1 := h.1.2.2.2
    simp only [List.length_cons]; omega
theorem s11 {b1 : Option Addr} {l2 : Nat} {c3 : Nat} {a4 : Int} {a5 : Int} {xs : List Sn} (h0 : SS E b1 l2 c3 xs) (h1 : Sm xs) (h : ∀ (ys : List Sn) (t : Bool) (e : Int), addF xs a4 a5 = (ys, t, e) → ∀ (b' : Option Addr) (l' c' : Nat) (E' : Mem), Mem.le E E' → SS E' b' l' c' ys → K (.tup [L b' l' c', B t, I e]) E') :
    Ent A1 8 Try.f11 [L b1 l2 c3, I a4, I a5] E K := by
  refine same (by kernel_rfl) (?_ : 
      ∃ (xs : List Sn),
        SS E b1 l2 c3 xs ∧
          Sm xs ∧
            Mem.le E E ∧
              bif !decide (validS xs) then
                Mem.le E E ∧
                  K
                    (SV.tup
                      [SV.raw (Value.slice none 0 0), SV.raw (Value.bool false),
                        SV.raw (Value.int IntKind.i64 (1 : Int))])
                    E
              else
                bif decide ((0 : Int) ≤ a4) then
                  Mem.le E E ∧
                    bif bif false then true else !bif true then decide (a4 ≤ (59 : Int)) else false then
                      Mem.le E E ∧
                        K
                          (SV.tup
                            [SV.raw (Value.slice none 0 0), SV.raw (Value.bool false),
                              SV.raw (Value.int IntKind.i64 (1 : Int))])
                          E
                    else
                      bif decide ((1 : Int) ≤ a5) then
                        Mem.le E E ∧
                          bif bif false then true else !bif true then decide (a5 ≤ (1000000000 : Int)) else false then
                            Mem.le E E ∧
                              K
                                (SV.tup
                                  [SV.raw (Value.slice none 0 0), SV.raw (Value.bool false),
                                    SV.raw (Value.int IntKind.i64 (1 : Int))])
                                E
                          else
                            ∃ (xs_1 : List Sn),
                              SS E b1 l2 c3 xs_1 ∧
                                chkS (-1 : Int) xs_1 ∧
                                  l2 ≤ 1000 ∧
                                    ((-9223372036854775808 : Int) ≤ a4 ∧ a4 ≤ (9223372036854775807 : Int)) ∧
                                      ∀ (k : Nat) (f : Bool),
                                        Hyp (FindR xs_1 a4 k f) →
                                          Mem.le E E ∧
                                            ∃ (xs_2 : List Sn),
                                              SS E b1 l2 c3 xs_2 ∧
                                                l2 ≤ 1000000 ∧
                                                  ∀ (rs : List (List Value)) (cap' tot' : Nat),
                                                    Hyp
                                                        (SLr
                                                          (fun (E : Mem) (x : Sn) (r : List Value) =>
                                                            ∃ (b : Option Addr),
                                                              ∃ (l : Nat),
                                                                ∃ (c : Nat),
                                                                  r = [Value.int IntKind.i64 x.fst, Value.slice b l c] ∧
                                                                    RS E b l c x.snd)
                                                          E rs xs_2) →
                                                      l2 ≤ cap' →
                                                        cap' * 2 ≤ tot' →
                                                          Mem.le E E ∧
                                                            bif !f then
                                                              ∃ (k_1 : Nat),
                                                                ∃ (vs : List Value),
                                                                  ∃ (tot : Nat),
                                                                    ∃ (u : Value),
                                                                      ∃ (v : Value),
                                                                        (↑k : Int) = (↑k_1 : Int) ∧
                                                                          some
                                                                                { elem := 45,
                                                                                  row := Row.vals (List.flatten rs),
                                                                                  total := tot', own := true : Box } =
                                                                              some
                                                                                { elem := 45, row := Row.vals vs,
                                                                                  total := tot, own := true : Box } ∧
                                                                            some
                                                                                  { elem := 45,
                                                                                    row :=
                                                                                      Row.lst
                                                                                        [SV.raw (Value.int IntKind.i64 a4),
                                                                                          SV.raw
                                                                                            (Value.slice none 0
                                                                                              0)],
                                                                                    total := 2, own := true : Box } =
                                                                                some
                                                                                  { elem := 45,
                                                                                    row := Row.lst [SV.raw u, SV.raw v],
                                                                                    total := 2, own := true : Box } ∧
                                                                              (1 = 2 → False) ∧
                                                                                l2 * 2 = List.length vs ∧
                                                                                  (∀ (x : Value),
                                                                                      List.Mem x vs →
                                                                                        Value.oneCell' x = true) ∧
                                                                                    List.all [SV.raw u, SV.raw v] SV.one =
                                                                                        true ∧
                                                                                      (l2 ≤ cap' ∧ cap' * 2 ≤ tot) ∧
                                                                                        k_1 ≤ l2 ∧
                                                                                          l2 ≤ 1000000 ∧
                                                                                            ∀ (cap'_1 tot' : Nat),
                                                                                              l2 + 1 ≤ cap'_1 →
                                                                                                cap'_1 * 2 ≤ tot' →
                                                                                                  Ct A1 8 Try.f11
                                                                                                    [1, 1,
                                                                                                      1, 1,
                                                                                                      1]
                                                                                                    0 (pubK E K)
                                                                                                    {
                                                                                                      fr :=
                                                                                                        [some (SV.raw (Value.slice b1 l2 c3)), some (SV.raw (Value.int IntKind.i64 a4)), some (SV.raw (Value.int IntKind.i64 a5)), none, none, some (SV.loc 0 0), some (SV.raw (Value.slice none 0 0)), some (SV.raw (Value.bool false)), some (SV.raw (Value.int IntKind.i64 (0 : Int))), some (SV.raw (Value.int IntKind.i64 (↑k : Int))), some (SV.raw (Value.bool f)), some (SV.slc 3 0 (l2 + 1) cap'_1), none, none, some (SV.raw (Value.slice b1 l2 c3)), some (SV.raw (Value.bool (decide (validS xs)))), some (SV.raw (Value.bool !decide (validS xs))), some (SV.raw (Value.bool false)), some (SV.raw (Value.int IntKind.i64 a4)), some (SV.raw (Value.bool (bif true then decide (a4 ≤ (59 : Int)) else false))), some (SV.raw (Value.bool !bif true then decide (a4 ≤ (59 : Int)) else false)), some (SV.raw (Value.bool (bif false then true else !bif true then decide (a4 ≤ (59 : Int)) else false))), some (SV.raw (Value.bool false)), some (SV.raw (Value.int IntKind.i64 a5)), some (SV.raw (Value.bool (bif true then decide (a5 ≤ (1000000000 : Int)) else false))), some (SV.raw (Value.bool !bif true then decide (a5 ≤ (1000000000 : Int)) else false)), some (SV.raw (Value.bool (bif false then true else !bif true then decide (a5 ≤ (1000000000 : Int)) else false))), some (SV.tup [SV.raw (Value.int IntKind.i64 (↑k : Int)), SV.raw (Value.bool f)]), some (SV.raw (Value.slice b1 l2 c3)), some (SV.raw (Value.int IntKind.i64 a4)), some (SV.tup [SV.raw (Value.int IntKind.i64 (↑k : Int)), SV.raw (Value.bool f)]), some (SV.raw (Value.int IntKind.i64 (↑k : Int))), some (SV.raw (Value.bool f)), some (SV.raw (Value.slice b1 l2 c3)), some (SV.slc 1 0 l2 cap'), some (SV.raw (Value.bool f)), some (SV.raw (Value.bool !f)), some (SV.slc 1 0 l2 cap'), some (SV.raw (Value.int IntKind.i64 (↑k : Int))), some (SV.raw (Value.int IntKind.i64 a4)), some (SV.agg [SV.raw (Value.int IntKind.i64 a4), SV.raw (Value.slice none 0 (0 : Nat))]), some (SV.slc 2 0 1 1), some (SV.slc 3 0 (l2 + 1) cap'_1), none, none, none, none, none, none, none, none, none, none, none, none, none, none, none, none, none, none, none, none, none, none, none, none, none, none, none, none, none, none, none, none, none],
                                                                                                      bx :=
                                                                                                        [{ elem := 3,
                                                                                                            row :=
                                                                                                              Row.lst
                                                                                                                [SV.raw
                                                                                                                    (Value.int
                                                                                                                      IntKind.i64
                                                                                                                      a5)],
                                                                                                            total :=
                                                                                                              1,
                                                                                                            own := true :
                                                                                                            Box },
                                                                                                          {
                                                                                                            elem :=
                                                                                                              45,
                                                                                                            row := Row.lst [],
                                                                                                            total :=
                                                                                                              0,
                                                                                                            own := false :
                                                                                                            Box },
                                                                                                          {
                                                                                                            elem :=
                                                                                                              45,
                                                                                                            row :=
                                                                                                              Row.lst
                                                                                                                [SV.raw
                                                                                                                    (Value.int
                                                                                                                      IntKind.i64
                                                                                                                      a4),
                                                                                                                  SV.raw
                                                                                                                    (Value.slice
                                                                                                                      none
                                                                                                                      (0 :
                                                                                                                        Nat)
                                                                                                                      (0 :
                                                                                                                        Nat))],
                                                                                                            total :=
                                                                                                              2,
                                                                                                            own := true :
                                                                                                            Box },
                                                                                                          {
                                                                                                            elem :=
                                                                                                              45,
                                                                                                            row :=
                                                                                                              Row.vals
                                                                                                                (insV vs k_1 u
                                                                                                                  v),
                                                                                                            total := tot',
                                                                                                            own := true :
                                                                                                            Box }],
                                                                                                      E := E : St }
                                                            else
                                                              Ct A1 8 Try.f11
                                                                [1, 1, 1, 1, 1]
                                                                0 (pubK E K)
                                                                {
                                                                  fr :=
                                                                    [some (SV.raw (Value.slice b1 l2 c3)), some (SV.raw (Value.int IntKind.i64 a4)), some (SV.raw (Value.int IntKind.i64 a5)), none, none, some (SV.loc 0 0), some (SV.raw (Value.slice none 0 0)), some (SV.raw (Value.bool false)), some (SV.raw (Value.int IntKind.i64 (0 : Int))), some (SV.raw (Value.int IntKind.i64 (↑k : Int))), some (SV.raw (Value.bool f)), some (SV.slc 1 0 l2 cap'), none, none, some (SV.raw (Value.slice b1 l2 c3)), some (SV.raw (Value.bool (decide (validS xs)))), some (SV.raw (Value.bool !decide (validS xs))), some (SV.raw (Value.bool false)), some (SV.raw (Value.int IntKind.i64 a4)), some (SV.raw (Value.bool (bif true then decide (a4 ≤ (59 : Int)) else false))), some (SV.raw (Value.bool !bif true then decide (a4 ≤ (59 : Int)) else false)), some (SV.raw (Value.bool (bif false then true else !bif true then decide (a4 ≤ (59 : Int)) else false))), some (SV.raw (Value.bool false)), some (SV.raw (Value.int IntKind.i64 a5)), some (SV.raw (Value.bool (bif true then decide (a5 ≤ (1000000000 : Int)) else false))), some (SV.raw (Value.bool !bif true then decide (a5 ≤ (1000000000 : Int)) else false)), some (SV.raw (Value.bool (bif false then true else !bif true then decide (a5 ≤ (1000000000 : Int)) else false))), some (SV.tup [SV.raw (Value.int IntKind.i64 (↑k : Int)), SV.raw (Value.bool f)]), some (SV.raw (Value.slice b1 l2 c3)), some (SV.raw (Value.int IntKind.i64 a4)), some (SV.tup [SV.raw (Value.int IntKind.i64 (↑k : Int)), SV.raw (Value.bool f)]), some (SV.raw (Value.int IntKind.i64 (↑k : Int))), some (SV.raw (Value.bool f)), some (SV.raw (Value.slice b1 l2 c3)), some (SV.slc 1 0 l2 cap'), some (SV.raw (Value.bool f)), some (SV.raw (Value.bool !f)), none, none, none, none, none, none, none, none, none, none, none, none, none, none, none, none, none, none, none, none, none, none, none, none, none, none, none, none, none, none, none, none, none, none, none, none, none, none, none],
                                                                  bx :=
                                                                    [{ elem := 3,
                                                                        row := Row.lst [SV.raw (Value.int IntKind.i64 a5)],
                                                                        total := 1, own := true : Box },
                                                                      { elem := 45, row := Row.vals (List.flatten rs),
                                                                        total := tot', own := true : Box }],
                                                                  E := E : St }
                      else
                        Mem.le E E ∧
                          Mem.le E E ∧
                            K
                              (SV.tup
                                [SV.raw (Value.slice none 0 0), SV.raw (Value.bool false),
                                  SV.raw (Value.int IntKind.i64 (1 : Int))])
                              E
                else
                  Mem.le E E ∧
                    Mem.le E E ∧
                      K
                        (SV.tup
                          [SV.raw (Value.slice none 0 0), SV.raw (Value.bool false),
                            SV.raw (Value.int IntKind.i64 (1 : Int))])
                        E)
  have hn := h0.len
  have hb := h1.1
  have bad : ¬ okA xs a4 a5 → ∀ (E' : Mem), Mem.le E E' → K (.tup [L none 0 0, B false, I 1]) E' := fun g E' q => h [] false 1 (by unfold addF; rw [if_neg g]) none 0 0 E' q SL.nil
  refine ⟨xs, h0, h1, Mem.le_refl _, condC (fun g => ⟨Mem.le_refl _, bad (fun w => by simp at g; exact g w.1) _ (Mem.le_refl _)⟩) (fun g => condC (fun g1 => ⟨Mem.le_refl _, condC (fun g2 => ⟨Mem.le_refl _, bad (fun w => by simp at g2; have := w.2.1.2; omega) _ (Mem.le_refl _)⟩) (fun g2 => condC (fun g3 => ⟨Mem.le_refl _, condC (fun g4 => ⟨Mem.le_refl _, bad (fun w => by simp at g4; have := w.2.2.2; omega) _ (Mem.le_refl _)⟩) (fun g4 => ?_)⟩) (fun g3 => ⟨Mem.le_refl _, Mem.le_refl _, bad (fun w => by simp at g3; have := w.2.2.1; omega) _ (Mem.le_refl _)⟩))⟩) (fun g1 => ⟨Mem.le_refl _, Mem.le_refl _, bad (fun w => by simp at g1; have := w.2.1.1; omega) _ (Mem.le_refl _)⟩))⟩
  have g : validS xs := by simpa using g
  have g1 : 0 ≤ a4 := by simpa using g1
  have g2 : a4 ≤ 59 := by simp at g2; omega
  have g3 : 1 ≤ a5 := by simpa using g3
  have g4 : a5 ≤ 1000000000 := by simp at g4; omega
  have gA : okA xs a4 a5 := ⟨g, ⟨g1, g2⟩, g3, g4⟩
  have hlen := chkS_len g.2 (by omega) (by omega)
  refine ⟨xs, h0, g.2, by omega, by omega, fun k f hf => ⟨Mem.le_refl _, xs, h0, by omega, fun rs cap1 tot1 hr c1 c2 => ⟨Mem.le_refl _, condC (fun q => ?_) (fun q => ?_)⟩⟩⟩
  · have q : f = false := by simpa using q
    subst q
    have hput := put_at g.2 g1 g2 hf
    have hk := hf.1
    obtain ⟨e1, e2⟩ := SLr_ins (u := .int .i64 a4) (v := .slice none 0 0) (x := ((a4, []) : Sn)) SR_ok hr ⟨none, 0, 0, rfl, SL.nil⟩ k
    have hof : ofF xs a4 = [] := ofF_no (fun x hx => hf.2.2.1 rfl x hx)
    have hget : (xs.take k ++ ((a4, []) : Sn) :: xs.drop k)[k]? = some ((a4, []) : Sn) := by
      rw [List.getElem?_append_right (by rw [List.length_take]; omega), List.length_take, Nat.min_eq_left hk, Nat.sub_self]; rfl
    refine ⟨k, _, _, _, _, rfl, rfl, rfl, by decide, ?_, hr.ones SR_ok, rfl, ⟨c1, c2⟩, by omega, by omega, fun cap2 tot2 d1 d2 => ?_⟩
    · rw [hr.flat SR_ok]; omega
    · rw [e1]
      have hS : Sm (xs.take k ++ ((a4, []) : Sn) :: xs.drop k) := ⟨by simp; omega, fun y hy => by
        rcases List.mem_append.1 hy with w | w
        · exact h1.2 y (List.mem_of_mem_take w)
        · rcases List.mem_cons.1 w with rfl | w
          · simp
          · exact h1.2 y (List.mem_of_mem_drop w)⟩
      have K1 := pcA7 (K := K) (n := a5) (k := k) (m := l2 + 1) (E0 := E) e2 (by simp; omega) (by omega) hS (by have h8 := many_td xs k; have h9 := g.1; rw [many_app, many_cons]; simp only [List.length_nil]; omega) ⟨d1, d2⟩ hget (by simp) (by simp) (by omega) (Mem.le_refl _) (by rw [step_no gA hf]; exact h)
      exact Ct_re [some 0, some 3] (Ct_intro okA1 K1) ⟨⟨by simp, by simp, fun j h => absurd h (Nat.not_lt_zero _)⟩, rfl, (by repeat' first | exact True.intro | refine And.intro (Or.inl rfl) ?_ | refine And.intro (Or.inr ⟨rfl, rfl⟩) ?_), (by repeat' first | exact True.intro | exact rfl | exact Or.inl rfl | fail | refine And.intro ?_ ?_), (show List.Nodup [0, 3] from by decide), Mem.le_refl _⟩
  · have q : f = true := by simpa using q
    subst q
    have hput := put_at g.2 g1 g2 hf
    obtain ⟨x, ex, exo⟩ := hf.2.1 rfl
    have hxm := List.mem_of_getElem? ex
    have hxl := many_mem hxm
    have hmm := g.1
    have hof : ofF xs a4 = x.2 := ofF_at ex exo (fun j y hj hy e => by have := sameO g.2 ex hy (by omega); omega)
    have hbx := chkR_mem (okS_of g.2 ex).2.2.2
    have K1 := pcA7 (K := K) (n := a5) (k := k) (E0 := E) hr hn (by omega) h1 (by omega) ⟨c1, c2⟩ ex (by omega) (fun y hy => by have := hbx y hy; omega) (by omega) (Mem.le_refl _) (by rw [step_at gA hf ex exo]; exact h)
    exact Ct_re [some 0, some 1] (Ct_intro okA1 K1) ⟨⟨by simp, by simp, fun j h => absurd h (Nat.not_lt_zero _)⟩, rfl, (by repeat' first | exact True.intro | refine And.intro (Or.inl rfl) ?_ | refine And.intro (Or.inr ⟨rfl, rfl⟩) ?_), (by repeat' first | exact True.intro | exact rfl | exact Or.inl rfl | fail | refine And.intro ?_ ?_), (show List.Nodup [0, 1] from by decide), Mem.le_refl _⟩

end Go.Proofs.Ytjibgfihfbdcaaa.SeenOwn
