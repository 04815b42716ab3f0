/- The package seen: what its functions answer. -/
import Derived.Test.YtjibgfihfbdcaaaSeen15
namespace Go.Proofs.Ytjibgfihfbdcaaa.SeenOwn
open Go Go.Sx
set_option maxRecDepth 100000
set_option maxHeartbeats 4000000
set_option linter.unusedVariables false
set_option linter.unusedSimpArgs false
variable {E : Mem} {K : SV → Mem → Prop}

/-! ### which numbers lists hold -/
def inR (rs : List Rg) (m : Int) : Prop := ∃ x ∈ rs, x.1 ≤ m ∧ m ≤ x.2
theorem holds_in {rs : List Rg} {m : Int} : holdsP rs m ↔ inR rs m := by
  rw [holdsP_iff]
  constructor
  · rintro ⟨i, x, h1, h2, h3⟩; exact ⟨x, List.mem_of_getElem? h1, h2, h3⟩
  · rintro ⟨x, hx, h2, h3⟩
    obtain ⟨j, hj, rfl⟩ := List.getElem_of_mem hx
    exact ⟨j, _, List.getElem?_eq_getElem hj, h2, h3⟩
theorem inR_app {rs rt : List Rg} {m : Int} : inR (rs ++ rt) m ↔ inR rs m ∨ inR rt m := by
  unfold inR
  constructor
  · rintro ⟨x, hx, h⟩
    rcases List.mem_append.1 hx with q | q
    · exact .inl ⟨x, q, h⟩
    · exact .inr ⟨x, q, h⟩
  · rintro (⟨x, hx, h⟩ | ⟨x, hx, h⟩)
    · exact ⟨x, List.mem_append_left _ hx, h⟩
    · exact ⟨x, List.mem_append_right _ hx, h⟩
theorem inR_cons {x : Rg} {rs : List Rg} {m : Int} : inR (x :: rs) m ↔ (x.1 ≤ m ∧ m ≤ x.2) ∨ inR rs m := by
  rw [show x :: rs = [x] ++ rs from rfl, inR_app]
  constructor
  · rintro (⟨y, hy, h⟩ | h)
    · simp at hy; subst hy; exact .inl h
    · exact .inr h
  · rintro (h | h)
    · exact .inl ⟨x, by simp, h⟩
    · exact .inr h
theorem inR_nil {m : Int} : ¬ inR [] m := by rintro ⟨x, hx, _⟩; cases hx
theorem chkR_p : ∀ {rs : List Rg} {p q : Int}, chkR p rs → (∀ z ∈ rs, q + 1 < z.1) → chkR q rs
  | [], _, _, _, _ => trivial
  | x :: rs, p, q, h, hq => by
    have e := h.1
    unfold okE at e
    exact ⟨⟨e.1, e.2.1, e.2.2.1, hq x (by simp)⟩, h.2⟩
theorem lastH_lt {P : List Rg} {lo : Int} (h : ∀ x ∈ P, x.2 + 1 < lo) (h0 : 0 < lo) : lastH (-1) P + 1 < lo := by
  unfold lastH
  split
  · rename_i x hx; exact h x (List.mem_of_getLast? hx)
  · omega
/-- What is left where it is, what is joined, and the new interval. -/
theorem with_shape {rs : List Rg} {n : Int} (hc : chkR (-1) rs) (hn : ¬ holdsP rs n) (h1 : 1 ≤ n) (h2 : n ≤ 1000000000) : ∃ (P L R Q : List Rg) (lo hi : Int), rs = P ++ (L ++ (R ++ Q)) ∧ withF rs n = P ++ (lo, hi) :: Q ∧
    ((L = [] ∧ lo = n ∧ ¬ inR rs (n - 1)) ∨ (L = [(lo, n - 1)] ∧ lo ≤ n - 1)) ∧ ((R = [] ∧ hi = n ∧ ¬ inR rs (n + 1)) ∨ (R = [(n + 1, hi)] ∧ n + 1 ≤ hi)) ∧ (∀ x ∈ P, x.2 + 1 < lo) ∧ ∀ z ∈ Q, hi + 1 < z.1 := by
  obtain ⟨ga, gb⟩ := gtK_spec (rs := rs) (n := n)
  have hno : ∀ x ∈ rs, ¬ (x.1 ≤ n ∧ n ≤ x.2) := fun x hx q => hn (holds_in.2 ⟨x, hx, q⟩)
  have hrs : rs = rs.take (gtK rs n) ++ rs.drop (gtK rs n) := (List.take_append_drop ..).symm
  have hA0 : ∀ x ∈ rs.take (gtK rs n), x.2 < n := fun x hx => by
    have h1 := ga x hx
    have h2 := hno x (List.mem_of_mem_take hx)
    omega
  have hcc := hc
  rw [hrs, chkR_app] at hcc
  have hB0 : ∀ z ∈ rs.drop (gtK rs n), n < z.1 := by
    have h1 := hcc.2
    have h2 : ∀ x, (rs.drop (gtK rs n))[0]? = some x → n < x.1 := fun x hx => by
      rw [List.getElem?_drop] at hx; exact gb x hx
    revert h1 h2
    cases rs.drop (gtK rs n) with
    | nil => intro _ _ z hz; cases hz
    | cons z C =>
      intro h1 h2 x hx
      have h3 := h2 z rfl
      have e := h1.1
      unfold okE at e
      rcases List.mem_cons.1 hx with rfl | hx
      · exact h3
      · have := chkR_gt h1.2 x hx; omega
  generalize hA : rs.take (gtK rs n) = A at *
  generalize hB : rs.drop (gtK rs n) = B at *
  clear hA hB ga gb
  obtain ⟨c1, c2⟩ := hcc
  have hmA := fun x hx => chkR_mem c1 x hx
  have hmB := fun x hx => chkR_mem c2 x hx
  have hw : withF rs n = (B.foldl (stepW n) (A.foldl (stepW n) ⟨n, n, [], []⟩)).bef ++ ((B.foldl (stepW n) (A.foldl (stepW n) ⟨n, n, [], []⟩)).lo, (B.foldl (stepW n) (A.foldl (stepW n) ⟨n, n, [], []⟩)).hi) :: (B.foldl (stepW n) (A.foldl (stepW n) ⟨n, n, [], []⟩)).aft := by
    unfold withF foldW
    rw [hrs, List.foldl_append]
  have hnA : ∀ m, inR A m → m < n := fun m ⟨x, hx, q⟩ => by have := hA0 x hx; omega
  have hnB : ∀ m, inR B m → n < m := fun m ⟨x, hx, q⟩ => by have := hB0 x hx; omega
  -- those behind
  have right : ∃ R Q, B = R ++ Q ∧ aftB n B = Q ∧ ((R = [] ∧ hiB n B = n ∧ ¬ inR rs (n + 1)) ∨ (R = [(n + 1, hiB n B)] ∧ n + 1 ≤ hiB n B)) ∧ ∀ z ∈ Q, hiB n B + 1 < z.1 := by
    have hin : inR rs (n + 1) ↔ inR B (n + 1) := by
      rw [hrs, inR_app]
      exact ⟨fun q => q.elim (fun q => by have := hnA _ q; omega) id, .inr⟩
    match B, c2, hB0, hmB with
    | [], _, _, _ => exact ⟨[], [], rfl, rfl, .inl ⟨rfl, rfl, fun q => inR_nil (hin.1 q)⟩, fun z hz => by cases hz⟩
    | z :: C, c2, hB0, hmB =>
      have hz := hB0 z (by simp)
      have hz2 := hmB z (by simp)
      have hC := fun x hx => chkR_gt c2.2 x hx
      by_cases g : z.1 = n + 1
      · have e1 : hiB n (z :: C) = z.2 := by show (if z.1 = n + 1 then z.2 else n) = _; rw [if_pos g]
        have e2 : aftB n (z :: C) = C := by show (if z.1 = n + 1 then C else z :: C) = _; rw [if_pos g]
        refine ⟨[z], C, rfl, e2, .inr ⟨?_, by omega⟩, fun x hx => by rw [e1]; exact hC x hx⟩
        rw [e1, ← g]
      · have e1 : hiB n (z :: C) = n := by show (if z.1 = n + 1 then z.2 else n) = _; rw [if_neg g]
        have e2 : aftB n (z :: C) = z :: C := by show (if z.1 = n + 1 then C else z :: C) = _; rw [if_neg g]
        have hall : ∀ x ∈ z :: C, n + 1 < x.1 := fun x hx => by
          rcases List.mem_cons.1 hx with rfl | hx
          · omega
          · have := hC x hx; omega
        refine ⟨[], z :: C, rfl, e2, .inl ⟨rfl, e1, fun q => ?_⟩, fun x hx => by rw [e1]; exact hall x hx⟩
        obtain ⟨x, hx, q1⟩ := hin.1 q
        have := hall x hx; omega
  obtain ⟨R, Q, rB, rQ, rR, rz⟩ := right
  have hinA : inR rs (n - 1) ↔ inR A (n - 1) := by
    rw [hrs, inR_app]
    exact ⟨fun q => q.elim id (fun q => by have := hnB _ q; omega), .inl⟩
  rcases List.eq_nil_or_concat A with rfl | ⟨A', y, rfl⟩
  · have hf : B.foldl (stepW n) (List.foldl (stepW n) ⟨n, n, [], []⟩ []) = ⟨n, hiB n B, [], aftB n B⟩ := foldW_B c2 hB0 rfl rfl
    rw [hf] at hw
    refine ⟨[], [], R, Q, n, hiB n B, by rw [hrs, rB]; rfl, by rw [hw, rQ], .inl ⟨rfl, rfl, fun q => inR_nil (hinA.1 q)⟩, rR, fun x hx => by (cases hx), rz⟩
  · rw [List.concat_eq_append] at *
    have hy := hA0 y (by simp)
    have hy2 := hmA y (by simp)
    have hlt := fun x hx => chkR_lt c1 x hx
    have hA' : ∀ x ∈ A', x.2 < n - 1 ∧ x.1 ≤ x.2 := fun x hx => by
      have h1 := hlt x hx
      have h2 := hmA x (by simp [hx])
      omega
    have hA1 : List.foldl (stepW n) ⟨n, n, [], []⟩ (A' ++ [y]) = stepW n ⟨n, n, A', []⟩ y := by
      rw [List.foldl_append, stepW_bef hA']; rfl
    by_cases g : y.2 = n - 1
    · have e : stepW n ⟨n, n, A', []⟩ y = ⟨y.1, n, A', []⟩ := by
        unfold stepW
        rw [if_pos g]
      have hf := foldW_B (w := ⟨y.1, n, A', []⟩) c2 hB0 rfl rfl
      rw [hA1, e, hf] at hw
      refine ⟨A', [y], R, Q, y.1, hiB n B, by rw [hrs, rB]; simp, by rw [hw, rQ], .inr ⟨by rw [← g], by omega⟩, rR, hlt, rz⟩
    · have e : stepW n ⟨n, n, A', []⟩ y = ⟨n, n, A' ++ [y], []⟩ := by
        unfold stepW
        rw [if_neg g, if_neg (by omega), if_pos (by omega)]
      have hf := foldW_B (w := ⟨n, n, A' ++ [y], []⟩) c2 hB0 rfl rfl
      rw [hA1, e, hf] at hw
      have hall : ∀ x ∈ A' ++ [y], x.2 + 1 < n := fun x hx => by
        rcases List.mem_append.1 hx with q | q
        · have := hA' x q; omega
        · simp at q; subst q; omega
      refine ⟨A' ++ [y], [], R, Q, n, hiB n B, by rw [hrs, rB]; simp, by rw [hw, rQ], .inl ⟨rfl, rfl, fun q => ?_⟩, rR, hall, rz⟩
      obtain ⟨x, hx, q1⟩ := hinA.1 q
      have := hall x hx; omega
theorem with_chk {rs : List Rg} {n : Int} (hc : chkR (-1) rs) (hn : ¬ holdsP rs n) (h1 : 1 ≤ n) (h2 : n ≤ 1000000000) : setsOK (withF rs n) ∧ ∀ m, inR (withF rs n) m ↔ inR rs m ∨ m = n := by
  obtain ⟨P, L, R, Q, lo, hi, e1, e2, hL, hR, hP, hQ⟩ := with_shape hc hn h1 h2
  have hm := fun x hx => chkR_mem hc x hx
  have c := hc
  rw [e1, chkR_app, chkR_app, chkR_app] at c
  obtain ⟨cP, cL, cR, cQ⟩ := c
  have lo1 : 1 ≤ lo ∧ lo ≤ n := by
    rcases hL with ⟨_, q, _⟩ | ⟨q, q2⟩
    · omega
    · have := hm (lo, n - 1) (by rw [e1, q]; simp)
      simp at this; omega
  have hi1 : n ≤ hi ∧ hi ≤ 1000000000 := by
    rcases hR with ⟨_, q, _⟩ | ⟨q, q2⟩
    · omega
    · have := hm (n + 1, hi) (by rw [e1, q]; simp)
      simp at this; omega
  refine ⟨⟨by rw [e2]; simp, ?_⟩, fun m => ?_⟩
  · rw [e2, chkR_app]
    exact ⟨cP, ⟨lo1.1, by show lo ≤ hi; omega, hi1.2, lastH_lt hP (by omega)⟩, chkR_p cQ hQ⟩
  · rw [e2, e1]
    simp only [inR_app, inR_cons]
    have hLm : inR L m ↔ lo ≤ m ∧ m ≤ n - 1 := by
      rcases hL with ⟨q, q1, _⟩ | ⟨q, q1⟩
      · rw [q]; exact ⟨fun w => absurd w inR_nil, fun w => by omega⟩
      · rw [q, inR_cons]; exact ⟨fun w => w.elim id (fun w => absurd w inR_nil), .inl⟩
    have hRm : inR R m ↔ n + 1 ≤ m ∧ m ≤ hi := by
      rcases hR with ⟨q, q1, _⟩ | ⟨q, q1⟩
      · rw [q]; exact ⟨fun w => absurd w inR_nil, fun w => by omega⟩
      · rw [q, inR_cons]; exact ⟨fun w => w.elim id (fun w => absurd w inR_nil), .inl⟩
    rw [hLm, hRm]
    constructor
    · rintro (w | w | w)
      · exact .inl (.inl w)
      · rcases Int.lt_trichotomy m n with g | g | g
        · exact .inl (.inr (.inl ⟨w.1, by omega⟩))
        · exact .inr g
        · exact .inl (.inr (.inr (.inl ⟨by omega, w.2⟩)))
      · exact .inl (.inr (.inr (.inr w)))
    · rintro ((w | w | w | w) | w)
      · exact .inl w
      · exact .inr (.inl ⟨w.1, by omega⟩)
      · exact .inr (.inl ⟨by omega, w.2⟩)
      · exact .inr (.inr w)
      · exact .inr (.inl ⟨by omega, by omega⟩)
/-- How many intervals there are then. -/
theorem with_len {rs : List Rg} {n : Int} (hc : chkR (-1) rs) (hn : ¬ holdsP rs n) (h1 : 1 ≤ n) (h2 : n ≤ 1000000000) :
    ((withF rs n).length : Int) = rs.length + 1 - (if holdsP rs (n - 1) then 1 else 0) - (if holdsP rs (n + 1) then 1 else 0) := by
  obtain ⟨P, L, R, Q, lo, hi, e1, e2, hL, hR, hP, hQ⟩ := with_shape hc hn h1 h2
  have hl : (L.length : Int) = if holdsP rs (n - 1) then 1 else 0 := by
    rcases hL with ⟨q, q1, q2⟩ | ⟨q, q1⟩
    · rw [if_neg (fun w => q2 (holds_in.1 w)), q]; rfl
    · rw [if_pos (holds_in.2 ⟨(lo, n - 1), by rw [e1, q]; simp, q1, Int.le_refl _⟩), q]; rfl
  have hr : (R.length : Int) = if holdsP rs (n + 1) then 1 else 0 := by
    rcases hR with ⟨q, q1, q2⟩ | ⟨q, q1⟩
    · rw [if_neg (fun w => q2 (holds_in.1 w)), q]; rfl
    · rw [if_pos (holds_in.2 ⟨(n + 1, hi), by rw [e1, q]; simp, Int.le_refl _, q1⟩), q]; rfl
  rw [← hl, ← hr, e2]
  have := congrArg List.length e1
  simp only [List.length_append, List.length_cons] at this ⊢
  omega
/-! ### lists by origin -/
theorem put_lt {x : Sn} {xs : List Sn} {o : Int} {r : List Rg} (h : x.1 < o) : putF (x :: xs) o r = x :: putF xs o r := by
  unfold putF
  rw [List.filter_cons_of_pos (by simp; omega), List.filter_cons_of_neg (a := x) (p := fun y : Sn => decide (o < y.1)) (by simp; omega)]
  rfl
theorem put_ge {x : Sn} {xs : List Sn} {o p : Int} {r : List Rg} (hc : chkS p (x :: xs)) (h : o ≤ x.1) : putF (x :: xs) o r = (o, r) :: (if x.1 = o then xs else x :: xs) := by
  have hg := chkS_gt hc.2
  have hlt : ∀ y ∈ xs, o < y.1 := fun y hy => by have := hg y hy; omega
  have f1 : xs.filter (fun y => decide (y.1 < o)) = [] := List.filter_eq_nil_iff.2 (fun y hy => by have := hlt y hy; simp; omega)
  have f2 : xs.filter (fun y => decide (o < y.1)) = xs := List.filter_eq_self.2 (fun y hy => by have := hlt y hy; simp; omega)
  unfold putF
  rw [List.filter_cons_of_neg (by simp; omega), f1]
  by_cases e : x.1 = o
  · rw [if_pos e, List.filter_cons_of_neg (by simp; omega), f2]; rfl
  · rw [if_neg e, List.filter_cons_of_pos (by simp; omega), f2]; rfl
theorem put_chk : ∀ {xs : List Sn} {o p : Int} {r : List Rg}, chkS p xs → p < o → 0 ≤ o → o ≤ 59 → setsOK r → chkS p (putF xs o r)
  | [], o, p, r, _, h1, h2, h3, h4 => ⟨⟨h2, h3, h4, h1⟩, trivial⟩
  | x :: xs, o, p, r, hc, h1, h2, h3, h4 => by
    by_cases g : o ≤ x.1
    · rw [put_ge hc g]
      refine ⟨⟨h2, h3, h4, h1⟩, ?_⟩
      split
      · rename_i e; rw [← e]; exact hc.2
      · exact ⟨⟨hc.1.1, hc.1.2.1, hc.1.2.2.1, by show o < x.1; omega⟩, hc.2⟩
    · rw [put_lt (by omega)]
      exact ⟨hc.1, put_chk hc.2 (by omega) h2 h3 h4⟩
theorem of_cons {x : Sn} {xs : List Sn} {o : Int} : ofF (x :: xs) o = if x.1 = o then x.2 else ofF xs o := by
  unfold ofF
  rw [List.find?_cons]
  by_cases e : x.1 = o
  · simp [e]
  · have e2 : (x.1 == o) = false := by simpa using e
    simp [e, e2]
theorem of_put : ∀ {xs : List Sn} {o p o' : Int} {r : List Rg}, chkS p xs → ofF (putF xs o r) o' = if o' = o then r else ofF xs o'
  | [], o, p, o', r, _ => by
    show ofF [(o, r)] o' = _
    rw [of_cons]
    by_cases e : o' = o
    · rw [if_pos e, if_pos e.symm]
    · rw [if_neg e, if_neg (fun q => e q.symm)]
  | x :: xs, o, p, o', r, hc => by
    by_cases g : o ≤ x.1
    · rw [put_ge hc g, of_cons]
      by_cases e : o' = o
      · rw [if_pos e, if_pos e.symm]
      · rw [if_neg e, if_neg (fun q => e q.symm)]
        split
        · rename_i q; rw [of_cons, if_neg (by omega)]
        · rfl
    · rw [put_lt (by omega), of_cons, of_cons, of_put hc.2]
      by_cases e : o' = o
      · rw [if_pos e, if_pos e, if_neg (by omega)]
      · rw [if_neg e, if_neg e]
theorem many_put : ∀ {xs : List Sn} {o p : Int} {r : List Rg}, chkS p xs → manyF (putF xs o r) + (ofF xs o).length = manyF xs + r.length
  | [], o, p, r, _ => by simp [putF, manyF, ofF]
  | x :: xs, o, p, r, hc => by
    by_cases g : o ≤ x.1
    · rw [put_ge hc g, many_cons, many_cons, of_cons]
      by_cases e : x.1 = o
      · simp only [if_pos e]; omega
      · have : ofF xs o = [] := ofF_no (fun y hy => by have := chkS_gt hc.2 y hy; omega)
        simp only [if_neg e, many_cons, this, List.length_nil]; omega
    · rw [put_lt (by omega), many_cons, many_cons, of_cons, if_neg (by omega)]
      have := many_put (o := o) (r := r) hc.2
      omega
theorem of_chk {xs : List Sn} {p o : Int} (h : chkS p xs) : chkR (-1) (ofF xs o) := by
  unfold ofF
  split
  · rename_i x e
    obtain ⟨j, hj, ej⟩ := List.getElem_of_mem (List.mem_of_find?_eq_some e)
    exact (okS_of h (i := j) (by rw [List.getElem?_eq_getElem hj, ej])).2.2.2
  · trivial
/-- What adding does. -/
theorem add_spec {xs : List Sn} {o n : Int} (gA : okA xs o n) :
    (holdsP (ofF xs o) n ∧ addF xs o n = (xs, false, 0)) ∨ (¬ holdsP (ofF xs o) n ∧ 64 < manyF (putF xs o (withF (ofF xs o) n)) ∧ addF xs o n = ([], false, 10)) ∨
    (¬ holdsP (ofF xs o) n ∧ addF xs o n = (putF xs o (withF (ofF xs o) n), true, 0) ∧ validS (putF xs o (withF (ofF xs o) n))) := by
  have hc := of_chk (o := o) gA.1.2
  unfold addF
  rw [if_pos gA]
  by_cases g : holdsP (ofF xs o) n
  · exact .inl ⟨g, by rw [if_pos g]⟩
  · rw [if_neg g, ins_with hc g]
    by_cases g2 : 64 < manyF (putF xs o (withF (ofF xs o) n))
    · exact .inr (.inl ⟨g, g2, by rw [if_pos g2]⟩)
    · refine .inr (.inr ⟨g, by rw [if_neg g2], by omega, ?_⟩)
      exact put_chk gA.1.2 (by have := gA.2.1.1; omega) gA.2.1.1 gA.2.1.2 (with_chk hc g gA.2.2.1 gA.2.2.2).1
theorem has_put {xs : List Sn} {o n : Int} (gA : okA xs o n) (g : ¬ holdsP (ofF xs o) n) (hv : validS (putF xs o (withF (ofF xs o) n))) (o' n' : Int) : hasP (putF xs o (withF (ofF xs o) n)) o' n' ↔ hasP xs o' n' ∨ (o' = o ∧ n' = n) := by
  have hc := of_chk (o := o) gA.1.2
  unfold hasP
  rw [of_put gA.1.2]
  have hw := (with_chk hc g gA.2.2.1 gA.2.2.2).2 n'
  by_cases e : o' = o
  · subst e
    rw [if_pos rfl, holds_in, hw, holds_in]
    exact ⟨fun q => q.2.elim (fun w => .inl ⟨gA.1, w⟩) (fun w => .inr ⟨rfl, w⟩), fun q => ⟨hv, q.elim (fun w => .inl w.2) (fun w => .inr w.2)⟩⟩
  · rw [if_neg e]
    exact ⟨fun q => .inl ⟨gA.1, q.2⟩, fun q => ⟨hv, q.elim (fun w => w.2) (fun w => absurd w.1 e)⟩⟩
theorem add_res {xs ys : List Sn} {o n e : Int} {t : Bool} (h : addF xs o n = (ys, t, e)) :
    (¬ e = 0 ∧ ys = [] ∧ t = false) ∨ (e = 0 ∧ okA xs o n ∧ validS ys ∧ t = !decide (hasP xs o n) ∧ (∀ o' n', hasP ys o' n' ↔ hasP xs o' n' ∨ (o' = o ∧ n' = n)) ∧ addF ys o n = (ys, false, 0)) := by
  by_cases gA : okA xs o n
  · rcases add_spec gA with ⟨g, q⟩ | ⟨g, g2, q⟩ | ⟨g, q, hv⟩
    · rw [q] at h; cases h
      have hh : hasP xs o n := ⟨gA.1, g⟩
      refine .inr ⟨rfl, gA, gA.1, by simp [hh], fun o' n' => ⟨.inl, fun w => w.elim id (fun w => by rw [w.1, w.2]; exact hh)⟩, q⟩
    · rw [q] at h; cases h
      exact .inl ⟨by decide, rfl, rfl⟩
    · rw [q] at h; cases h
      have hh : ¬ hasP xs o n := fun w => g w.2
      have hp := has_put gA g hv
      refine .inr ⟨rfl, gA, hv, by simp [hh], hp, ?_⟩
      have h2 : hasP (putF xs o (withF (ofF xs o) n)) o n := (hp o n).2 (.inr ⟨rfl, rfl⟩)
      unfold addF
      rw [if_pos ⟨hv, gA.2⟩, if_pos h2.2]
  · unfold addF at h
    rw [if_neg gA] at h; cases h
    exact .inl ⟨by decide, rfl, rfl⟩
theorem room {xs ys : List Sn} {o n e near : Int} {t : Bool} (gA : okA xs o n) (r : addF xs o n = (ys, t, e)) (hn : near = (if holdsP (ofF xs o) (n - 1) then 1 else 0) + (if holdsP (ofF xs o) (n + 1) then 1 else 0)) :
    (hasP xs o n ∧ ys = xs ∧ e = 0) ∨ (¬ hasP xs o n ∧ manyF xs = 64 ∧ near = 0 ∧ e = 10) ∨ (¬ hasP xs o n ∧ ¬ (manyF xs = 64 ∧ near = 0) ∧ e = 0 ∧ (manyF ys : Int) = manyF xs + 1 - near ∧ manyF ys ≤ 64) := by
  have hc := of_chk (o := o) gA.1.2
  have h64 := gA.1.1
  have hnn : 0 ≤ near ∧ near ≤ 2 := by rw [hn]; split <;> split <;> omega
  rcases add_spec gA with ⟨g, q⟩ | ⟨g, g2, q⟩ | ⟨g, q, hv⟩
  · rw [q] at r; cases r
    exact .inl ⟨⟨gA.1, g⟩, rfl, rfl⟩
  · rw [q] at r; cases r
    have h1 := with_len hc g gA.2.2.1 gA.2.2.2
    have h2 := many_put (o := o) (r := withF (ofF xs o) n) gA.1.2
    exact .inr (.inl ⟨fun w => g w.2, by omega, by omega, rfl⟩)
  · rw [q] at r; cases r
    have h1 := with_len hc g gA.2.2.1 gA.2.2.2
    have h2 := many_put (o := o) (r := withF (ofF xs o) n) gA.1.2
    have h3 := hv.1
    exact .inr (.inr ⟨fun w => g w.2, fun w => by omega, rfl, by omega, h3⟩)
theorem of_len {xs : List Sn} {o : Int} : (ofF xs o).length ≤ manyF xs := by
  unfold ofF
  split
  · rename_i x e; exact many_mem (List.mem_of_find?_eq_some e)
  · exact Nat.zero_le _
/-- The lists of one origin, alone. -/
def aloneF (xs : List Sn) (o : Int) : List Sn := if ofF xs o = [] then [] else [(o, ofF xs o)]
theorem of_ok {xs : List Sn} {p o : Int} (h : chkS p xs) (hne : ofF xs o ≠ []) : setsOK (ofF xs o) := ⟨hne, of_chk h⟩
theorem alone_of {xs : List Sn} {o : Int} : ofF (aloneF xs o) o = ofF xs o := by
  unfold aloneF
  split
  · rename_i h; rw [h]; rfl
  · rw [of_cons, if_pos rfl]
theorem alone_add {xs ys : List Sn} {o n : Int} {t : Bool} (gA : okA xs o n) (r : addF xs o n = (ys, t, 0)) : ∃ t', addF (aloneF xs o) o n = ([(o, ofF ys o)], t', 0) := by
  have hc := of_chk (o := o) gA.1.2
  have hl := of_len (xs := xs) (o := o)
  have hv : validS (aloneF xs o) := by
    have := gA.1.1
    unfold aloneF
    split
    · exact ⟨by decide, trivial⟩
    · rename_i h
      exact ⟨by simp [manyF]; omega, ⟨gA.2.1.1, gA.2.1.2, of_ok gA.1.2 h, by show (-1 : Int) < o; have := gA.2.1.1; omega⟩, trivial⟩
  have gB : okA (aloneF xs o) o n := ⟨hv, gA.2⟩
  have hp : ∀ w, putF (aloneF xs o) o w = [(o, w)] := fun w => by
    unfold aloneF
    split
    · rfl
    · simp [putF]
  rcases add_spec gB with ⟨g, q⟩ | ⟨g, g2, q⟩ | ⟨g, q, hv2⟩
  · rw [alone_of] at g
    have hys : ys = xs := by
      rcases add_spec gA with ⟨g', q'⟩ | ⟨g', _⟩ | ⟨g', _⟩
      · rw [q'] at r; cases r; rfl
      · exact absurd g g'
      · exact absurd g g'
    subst hys
    refine ⟨false, ?_⟩
    rw [q]
    have hne : ¬ ofF ys o = [] := fun e => by rw [e] at g; exact inR_nil (holds_in.1 g)
    unfold aloneF
    rw [if_neg hne]
  · rw [alone_of] at g g2
    exfalso
    rw [hp] at g2
    rcases add_spec gA with ⟨g', q'⟩ | ⟨g', _, q'⟩ | ⟨g', q', hv'⟩
    · exact g g'
    · rw [q'] at r; cases r
    · rw [q'] at r; cases r
      have h1 := of_len (xs := putF xs o (withF (ofF xs o) n)) (o := o)
      rw [of_put gA.1.2, if_pos rfl] at h1
      have h2 := hv'.1
      simp [manyF] at g2
      omega
  · rw [alone_of] at g q
    refine ⟨true, ?_⟩
    rcases add_spec gA with ⟨g', q'⟩ | ⟨g', _, q'⟩ | ⟨g', q', hv'⟩
    · exact absurd g' g
    · rw [q'] at r; cases r
    · rw [q'] at r; cases r
      rw [q, hp, of_put gA.1.2, if_pos rfl]
theorem other_of {xs ys : List Sn} {o n p : Int} {t : Bool} (gA : okA xs o n) (r : addF xs o n = (ys, t, 0)) (hp : p ≠ o) : ofF ys p = ofF xs p := by
  rcases add_spec gA with ⟨g', q'⟩ | ⟨g', _, q'⟩ | ⟨g', q', hv'⟩
  · rw [q'] at r; cases r; rfl
  · rw [q'] at r; cases r
  · rw [q'] at r; cases r
    rw [of_put gA.1.2, if_neg hp]
theorem add_err {xs ys : List Sn} {o n e : Int} {t : Bool} (gA : okA xs o n) (r : addF xs o n = (ys, t, e)) (he : ¬ e = 0) : e = 10 := by
  rcases add_spec gA with ⟨g', q'⟩ | ⟨g', _, q'⟩ | ⟨g', q', hv'⟩ <;> rw [q'] at r <;> cases r
  · exact absurd rfl he
  · rfl
  · exact absurd rfl he

end Go.Proofs.Ytjibgfihfbdcaaa.SeenOwn
