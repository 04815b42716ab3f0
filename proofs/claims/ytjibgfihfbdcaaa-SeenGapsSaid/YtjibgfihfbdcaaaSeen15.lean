/- The package seen: what its functions answer. -/
import Derived.Test.YtjibgfihfbdcaaaSeen14
namespace Go.Proofs.Ytjibgfihfbdcaaa.SeenOwn
open Go Go.Sx
set_option maxRecDepth 100000
set_option maxHeartbeats 4000000
set_option linter.unusedVariables false
set_option linter.unusedSimpArgs false
variable {E : Mem} {K : SV → Mem → Prop}

/-! ### the reference's way and the program's give the same lists -/
theorem chkR_gt : ∀ {rs : List Rg} {p : Int}, chkR p rs → ∀ y ∈ rs, p + 1 < y.1
  | [], _, _, y, hy => by cases hy
  | a :: rs, p, h, y, hy => by
    have e := h.1
    unfold okE at e
    rcases List.mem_cons.1 hy with rfl | hy
    · omega
    · have := chkR_gt h.2 y hy; omega
theorem chkR_lt : ∀ {l : List Rg} {p : Int} {y : Rg} {m : List Rg}, chkR p (l ++ y :: m) → ∀ x ∈ l, x.2 + 1 < y.1
  | [], _, _, _, _, x, hx => by cases hx
  | a :: l, p, y, m, h, x, hx => by
    rcases List.mem_cons.1 hx with rfl | hx
    · exact chkR_gt h.2 y (by simp)
    · exact chkR_lt h.2 x hx
theorem joinJ : ∀ {rs : List Rg} {p : Int} {acc : List Rg}, chkR p rs → (∀ y, acc.getLast? = some y → y.2 ≤ p) → rs.foldl stepJ acc = acc ++ rs
  | [], _, _, _, _ => by simp
  | x :: rs, p, acc, h, ha => by
    have e := h.1
    unfold okE at e
    have hs : stepJ acc x = acc ++ [x] := by
      unfold stepJ
      split
      · rename_i y hy
        have := ha y hy
        rw [if_neg (by omega)]
      · rfl
    rw [List.foldl_cons, hs, joinJ h.2 (fun y hy => by simp at hy; subst hy; exact Int.le_refl _)]
    simp
theorem stepW_bef {n : Int} : ∀ {l : List Rg} {w : WSt}, (∀ x ∈ l, x.2 < n - 1 ∧ x.1 ≤ x.2) → l.foldl (stepW n) w = { w with bef := w.bef ++ l }
  | [], w, _ => by simp
  | x :: l, w, h => by
    have hx := h x (by simp)
    have hs : stepW n w x = { w with bef := w.bef ++ [x] } := by
      unfold stepW
      rw [if_neg (by omega), if_neg (by omega), if_pos (by omega)]
    rw [List.foldl_cons, hs, stepW_bef (fun y hy => h y (List.mem_cons_of_mem _ hy))]
    simp
theorem stepW_aft {n : Int} : ∀ {l : List Rg} {w : WSt}, (∀ x ∈ l, n + 1 < x.1 ∧ x.1 ≤ x.2) → l.foldl (stepW n) w = { w with aft := w.aft ++ l }
  | [], w, _ => by simp
  | x :: l, w, h => by
    have hx := h x (by simp)
    have hs : stepW n w x = { w with aft := w.aft ++ [x] } := by
      unfold stepW
      rw [if_neg (by omega), if_neg (by omega), if_neg (by omega)]
    rw [List.foldl_cons, hs, stepW_aft (fun y hy => h y (List.mem_cons_of_mem _ hy))]
    simp
theorem gtK_spec {rs : List Rg} {n : Int} : (∀ x ∈ rs.take (gtK rs n), x.1 ≤ n) ∧ ∀ x, rs[gtK rs n]? = some x → n < x.1 := by
  unfold gtK idxP
  cases h : rs.findIdx? (gtP n) with
  | none =>
    rw [List.findIdx?_eq_none_iff] at h
    refine ⟨fun x hx => ?_, fun x hx => ?_⟩
    · have := h x (List.mem_of_mem_take hx)
      unfold gtP at this; simp at this; omega
    · simp at hx
  | some i =>
    rw [List.findIdx?_eq_some_iff_getElem] at h
    obtain ⟨hi, h1, h2⟩ := h
    have e : (if ((i : Nat) : Int) < 0 then rs.length else ((i : Nat) : Int).toNat) = i := by rw [if_neg (by omega)]; simp
    simp only [e]
    refine ⟨fun x hx => ?_, fun x hx => ?_⟩
    · obtain ⟨j, hj, rfl⟩ := List.getElem_of_mem hx
      rw [List.length_take] at hj
      have := h2 j (by omega)
      rw [List.getElem_take]
      unfold gtP at this; simp at this; omega
    · rw [List.getElem?_eq_getElem hi] at hx
      cases hx
      unfold gtP at h1; simpa using h1
def hiB (n : Int) : List Rg → Int
  | z :: _ => if z.1 = n + 1 then z.2 else n
  | [] => n
def aftB (n : Int) : List Rg → List Rg
  | z :: C => if z.1 = n + 1 then C else z :: C
  | [] => []
theorem foldJ_B {n lo : Int} {P B : List Rg} {p : Int} (hB : chkR p B) (hb : ∀ z ∈ B, n < z.1) :
    B.foldl stepJ (P ++ [(lo, n)]) = P ++ (lo, hiB n B) :: aftB n B := by
  match B, hB, hb with
  | [], _, _ => rfl
  | z :: C, hB, hb =>
    have hz := hb z (by simp)
    have e := hB.1
    unfold okE at e
    have hs : stepJ (P ++ [(lo, n)]) z = if n + 1 ≥ z.1 then P ++ [(lo, max n z.2)] else P ++ [(lo, n)] ++ [z] := by
      unfold stepJ
      simp
    rw [List.foldl_cons, hs]
    by_cases g : z.1 = n + 1
    · rw [if_pos (by omega), joinJ hB.2 (fun y hy => by simp at hy; subst hy; show max n z.2 ≤ z.2; omega)]
      simp only [hiB, aftB, if_pos g]
      rw [show max n z.2 = z.2 from by omega]; simp
    · rw [if_neg (by omega), joinJ hB.2 (fun y hy => by simp at hy; subst hy; exact Int.le_refl _)]
      simp only [hiB, aftB, if_neg g]; simp
theorem foldW_B {n : Int} {w : WSt} {B : List Rg} {p : Int} (hB : chkR p B) (hb : ∀ z ∈ B, n < z.1) (hw : w.hi = n) (hw2 : w.aft = []) :
    B.foldl (stepW n) w = { w with hi := hiB n B, aft := aftB n B } := by
  match B, hB, hb with
  | [], _, _ => cases w; simp at hw hw2; subst hw; subst hw2; rfl
  | z :: C, hB, hb =>
    have hz := hb z (by simp)
    have e := hB.1
    unfold okE at e
    have hC : ∀ x ∈ C, n + 1 < x.1 ∧ x.1 ≤ x.2 := fun x hx => by
      have h1 := chkR_gt hB.2 x hx
      have h2 := chkR_mem hB.2 x hx
      omega
    by_cases g : z.1 = n + 1
    · have hs : stepW n w z = { w with hi := z.2 } := by
        unfold stepW
        rw [if_neg (by omega), if_pos g]
      rw [List.foldl_cons, hs, stepW_aft hC]
      simp only [hiB, aftB, if_pos g, hw2]; simp
    · rw [stepW_aft (l := z :: C) (fun x hx => by
        rcases List.mem_cons.1 hx with rfl | hx
        · omega
        · exact hC x hx)]
      have e1 : hiB n (z :: C) = w.hi := by show (if z.1 = n + 1 then z.2 else n) = _; rw [if_neg g, hw]
      have e2 : aftB n (z :: C) = z :: C := by show (if z.1 = n + 1 then C else z :: C) = _; rw [if_neg g]
      rw [e1, e2, hw2]; rfl
theorem ins_with {rs : List Rg} {n : Int} (hc : chkR (-1) rs) (hn : ¬ holdsP rs n) : insF rs n = withF rs n := by
  obtain ⟨ga, gb⟩ := gtK_spec (rs := rs) (n := n)
  have hno : ∀ x ∈ rs, ¬ (x.1 ≤ n ∧ n ≤ x.2) := fun x hx q => by
    obtain ⟨j, hj, rfl⟩ := List.getElem_of_mem hx
    exact hn (holdsP_iff.2 ⟨j, _, List.getElem?_eq_getElem hj, q.1, q.2⟩)
  unfold insF withF joinF foldW
  have hrs : rs = rs.take (gtK rs n) ++ rs.drop (gtK rs n) := (List.take_append_drop ..).symm
  have hA0 : ∀ x ∈ rs.take (gtK rs n), x.2 < n := fun x hx => by
    have h1 := ga x hx
    have h2 := hno x (List.mem_of_mem_take hx)
    omega
  have hcc := hc
  rw [hrs, chkR_app] at hcc
  have hB0 : ∀ z ∈ rs.drop (gtK rs n), n < z.1 := by
    have h1 := hcc.2
    have h2 : ∀ x, (rs.drop (gtK rs n))[0]? = some x → n < x.1 := fun x hx => by
      rw [List.getElem?_drop] at hx; exact gb x hx
    revert h1 h2
    cases rs.drop (gtK rs n) with
    | nil => intro _ _ z hz; cases hz
    | cons z C =>
      intro h1 h2 x hx
      have h3 := h2 z rfl
      have e := h1.1
      unfold okE at e
      rcases List.mem_cons.1 hx with rfl | hx
      · exact h3
      · have := chkR_gt h1.2 x hx; omega
  generalize hA : rs.take (gtK rs n) = A at *
  generalize hB : rs.drop (gtK rs n) = B at *
  obtain ⟨c1, c2⟩ := hcc
  have hw : rs.foldl (stepW n) ⟨n, n, [], []⟩ = B.foldl (stepW n) (A.foldl (stepW n) ⟨n, n, [], []⟩) := by rw [hrs, List.foldl_append]
  rw [hw, List.foldl_append, List.foldl_cons, joinJ c1 (acc := []) (fun y hy => by cases hy), List.nil_append]
  rcases List.eq_nil_or_concat A with rfl | ⟨A', y, rfl⟩
  · have hs : stepJ [] (n, n) = [] ++ [(n, n)] := rfl
    rw [hs, foldJ_B c2 hB0]
    show _ = (List.foldl (stepW n) ⟨n, n, [], []⟩ B).bef ++ ((List.foldl (stepW n) ⟨n, n, [], []⟩ B).lo, (List.foldl (stepW n) ⟨n, n, [], []⟩ B).hi) :: (List.foldl (stepW n) ⟨n, n, [], []⟩ B).aft
    rw [foldW_B c2 hB0 rfl rfl]
  · rw [List.concat_eq_append] at *
    have hy := hA0 y (by simp)
    have c3 := (chkR_app.1 c1).2.1
    unfold okE at c3
    have hA' : ∀ x ∈ A', x.2 < n - 1 ∧ x.1 ≤ x.2 := fun x hx => by
      have h1 := chkR_lt c1 x hx
      have h2 := chkR_mem c1 x (by simp [hx])
      omega
    have hs : stepJ (A' ++ [y]) (n, n) = if y.2 + 1 ≥ n then A' ++ [(y.1, max y.2 n)] else A' ++ [y] ++ [(n, n)] := by
      unfold stepJ
      simp
    rw [hs, List.foldl_append, stepW_bef hA']
    by_cases g : y.2 = n - 1
    · rw [if_pos (by omega), show max y.2 n = n from by omega, foldJ_B c2 hB0]
      have e : List.foldl (stepW n) { (⟨n, n, [], []⟩ : WSt) with bef := [] ++ A' } [y] = ⟨y.1, n, A', []⟩ := by
        show stepW n _ y = _
        unfold stepW
        rw [if_pos g]; rfl
      rw [e, foldW_B c2 hB0 rfl rfl]
    · rw [if_neg (by omega), foldJ_B c2 hB0]
      have e : List.foldl (stepW n) { (⟨n, n, [], []⟩ : WSt) with bef := [] ++ A' } [y] = ⟨n, n, A' ++ [y], []⟩ := by
        show stepW n _ y = _
        unfold stepW
        rw [if_neg g, if_neg (by omega), if_pos (by omega)]; rfl
      rw [e, foldW_B c2 hB0 rfl rfl]
theorem stepR_done {o : Int} {r : List Rg} : ∀ {xs acc : List Sn}, (∀ x ∈ xs, x.1 ≠ o) → xs.foldl (stepR o r) (true, acc) = (true, acc ++ xs)
  | [], acc, _ => by simp
  | x :: xs, acc, h => by
    rw [List.foldl_cons, stepR_no (by simp), if_neg (h x (by simp)), stepR_done (fun y hy => h y (List.mem_cons_of_mem _ hy))]
    simp
theorem chkS_gt {xs : List Sn} {p : Int} (h : chkS p xs) : ∀ x ∈ xs, p < x.1 := fun x hx => by
  obtain ⟨j, hj, rfl⟩ := List.getElem_of_mem hx
  exact (sortS h (List.getElem?_eq_getElem hj)).1
theorem fold_put {o : Int} {r : List Rg} : ∀ {xs : List Sn} {p : Int} {acc : List Sn}, chkS p xs →
    (if (xs.foldl (stepR o r) (false, acc)).1 = true then (xs.foldl (stepR o r) (false, acc)).2 else (xs.foldl (stepR o r) (false, acc)).2 ++ [(o, r)]) = acc ++ putF xs o r
  | [], _, acc, _ => by simp [putF]
  | x :: xs, p, acc, h => by
    have hg := chkS_gt h.2
    by_cases g : o ≤ x.1
    · have hlt : ∀ y ∈ xs, o < y.1 := fun y hy => by have := hg y hy; omega
      have f1 : xs.filter (fun y => decide (y.1 < o)) = [] := List.filter_eq_nil_iff.2 (fun y hy => by have := hlt y hy; simp; omega)
      have f2 : xs.filter (fun y => decide (o < y.1)) = xs := List.filter_eq_self.2 (fun y hy => by have := hlt y hy; simp; omega)
      rw [List.foldl_cons, stepR_ins g, stepR_done (fun y hy => by have := hlt y hy; omega)]
      unfold putF
      rw [List.filter_cons_of_neg (by simp; omega), f1]
      by_cases e : x.1 = o
      · rw [if_pos e, List.filter_cons_of_neg (by simp; omega), f2]; simp
      · rw [if_neg e, List.filter_cons_of_pos (by simp; omega), f2]; simp
    · rw [List.foldl_cons, stepR_no (by intro w; exact g w.2), if_neg (show ¬ x.1 = o by omega), fold_put h.2]
      unfold putF
      rw [List.filter_cons_of_pos (by simp; omega), List.filter_cons_of_neg (a := x) (p := fun y : Sn => decide (o < y.1)) (by simp; omega)]
      simp
theorem stepR_not {o : Int} {r : List Rg} : ∀ {xs acc : List Sn}, (xs.foldl (stepR o r) (false, acc)).1 = false → ∀ x ∈ xs, x.1 < o
  | [], _, _, x, hx => by cases hx
  | a :: xs, acc, h, x, hx => by
    by_cases g : o ≤ a.1
    · exfalso
      rw [List.foldl_cons, stepR_ins g] at h
      have key : ∀ (ys : List Sn) (w : Bool × List Sn), w.1 = true → (ys.foldl (stepR o r) w).1 = true := by
        intro ys
        induction ys with
        | nil => intro w hw; exact hw
        | cons y ys ih =>
          intro w hw
          refine ih _ ?_
          obtain ⟨d, zs⟩ := w
          rw [stepR_no (by intro q; rw [q.1] at hw; cases hw)]
          exact hw
      rw [key _ _ rfl] at h; cases h
    · rw [List.foldl_cons, stepR_no (by intro w; exact g w.2)] at h
      rcases List.mem_cons.1 hx with rfl | hx
      · omega
      · exact stepR_not h x hx
theorem addR_eq (xs : List Sn) (o n : Int) : addR xs o n = addF xs o n := by
  unfold addR addF
  by_cases gA : okA xs o n
  · rw [if_pos gA, if_pos gA]
    have hh : hasP xs o n ↔ holdsP (ofF xs o) n := ⟨fun q => q.2, fun q => ⟨gA.1, q⟩⟩
    by_cases g : holdsP (ofF xs o) n
    · rw [if_pos g, if_pos (hh.2 g)]
    · rw [if_neg g, if_neg (fun q => g (hh.1 q))]
      have hc : chkR (-1) (ofF xs o) := by
        unfold ofF
        split
        · rename_i x e
          obtain ⟨j, hj, ej⟩ := List.getElem_of_mem (List.mem_of_find?_eq_some e)
          exact (okS_of gA.1.2 (i := j) (by rw [List.getElem?_eq_getElem hj, ej])).2.2.2
        · trivial
      have e1 : lastR (foldRA xs o (withF (ofF xs o) n)) o n = putF xs o (insF (ofF xs o) n) := by
        rw [ins_with hc g]
        have h1 := fold_put (o := o) (r := withF (ofF xs o) n) (acc := []) gA.1.2
        rw [List.nil_append] at h1
        rw [← h1]
        unfold lastR foldRA
        by_cases q : (xs.foldl (stepR o (withF (ofF xs o) n)) (false, [])).1 = true
        · rw [if_pos q, if_pos q]
        · rw [if_neg q, if_neg q]
          have h2 := stepR_not (by simpa using q)
          have h3 : ofF xs o = [] := ofF_no (fun x hx => by have := h2 x hx; omega)
          rw [h3]
      rw [e1]; rfl
  · rw [if_neg gA, if_neg gA]

end Go.Proofs.Ytjibgfihfbdcaaa.SeenOwn
