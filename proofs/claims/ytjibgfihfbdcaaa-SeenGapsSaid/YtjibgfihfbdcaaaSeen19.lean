/- The package seen: what its functions answer. -/
import Derived.Test.YtjibgfihfbdcaaaSeen18
namespace Go.Proofs.Ytjibgfihfbdcaaa.SeenOwn
open Go Go.Sx
set_option maxRecDepth 100000
set_option maxHeartbeats 4000000
set_option linter.unusedVariables false
set_option linter.unusedSimpArgs false
variable {E : Mem} {K : SV → Mem → Prop}
theorem chk_split : ∀ {xs : List Sn} {p : Int} {i : Nat} {x : Sn}, chkS p xs → xs[i]? = some x → setsOK x.2 ∧ p < x.1 ∧ (0 ≤ x.1 ∧ x.1 ≤ 59) ∧ ∀ (j : Nat) (y : Sn), j < i → xs[j]? = some y → y.1 < x.1
  | [], _, i, x, _, hx => by simp at hx
  | z :: xs, p, 0, x, h, hx => by
    simp only [List.getElem?_cons_zero, Option.some.injEq] at hx
    subst hx
    exact ⟨h.1.2.2.1, h.1.2.2.2, ⟨h.1.1, h.1.2.1⟩, fun j y hj => absurd hj (Nat.not_lt_zero _)⟩
  | z :: xs, p, i + 1, x, h, hx => by
    rw [List.getElem?_cons_succ] at hx
    obtain ⟨h1, h2, h3, h4⟩ := chk_split h.2 hx
    refine ⟨h1, by have := h.1.2.2.2; omega, h3, fun j y hj hy => ?_⟩
    cases j with
    | zero => simp only [List.getElem?_cons_zero, Option.some.injEq] at hy; subst hy; exact h2
    | succ j => rw [List.getElem?_cons_succ] at hy; exact h4 j y (by omega) hy
theorem of_mem {xs : List Sn} {p : Int} {i : Nat} {x : Sn} (h : chkS p xs) (hx : xs[i]? = some x) : ofF xs x.1 = x.2 :=
  ofF_at hx rfl fun j y hj hy e => by have := (chk_split h hx).2.2.2 j y hj hy; omega
theorem topF_last : ∀ {rs : List Rg} {p : Int} {k : Nat} {x : Rg}, rs[k]? = some x → rs.length = k + 1 → topF p rs = x.2
  | [], _, _, _, h, _ => by simp at h
  | [y], p, 0, x, h, _ => by simp only [List.getElem?_cons_zero, Option.some.injEq] at h; subst h; rfl
  | y :: z :: rs, p, k + 1, x, h, hl => by
    rw [List.getElem?_cons_succ] at h
    exact topF_last (p := y.2) (rs := z :: rs) h (by simpa using hl)
  | y :: z :: rs, p, 0, x, h, hl => by simp at hl
  | [y], p, k + 1, x, h, hl => by simp at hl
/-- What is found of the greatest number, after some of the lists. -/
def topI (xs : List Sn) (o : Int) (i : Nat) (g : Int) : Prop := (∀ (j : Nat) (x : Sn), j < i → xs[j]? = some x → x.1 = o → g = topF 0 x.2) ∧ ((∀ (j : Nat) (x : Sn), j < i → xs[j]? = some x → x.1 ≠ o) → g = 0)
theorem topI_zero (xs : List Sn) (o : Int) : topI xs o 0 0 := ⟨fun j x h => absurd h (Nat.not_lt_zero _), fun _ => rfl⟩
theorem topI_yes {xs : List Sn} {o : Int} {i : Nat} {x : Sn} (hv : validS xs) (hx : xs[i]? = some x) (e : x.1 = o) : topI xs o (i + 1) (topF 0 x.2) := by
  refine ⟨fun j y hj hy ey => ?_, fun h => absurd e (h i x (by omega) hx)⟩
  rcases Nat.lt_or_ge j i with w | w
  · have := (chk_split hv.2 hx).2.2.2 j y w hy; omega
  · have : j = i := by omega
    subst this
    rw [hx] at hy; cases hy; rfl
theorem topI_no {xs : List Sn} {o : Int} {i : Nat} {x : Sn} {g : Int} (h : topI xs o i g) (hx : xs[i]? = some x) (e : ¬ x.1 = o) : topI xs o (i + 1) g := by
  refine ⟨fun j y hj hy ey => ?_, fun q => h.2 fun j y hj hy => q j y (by omega) hy⟩
  rcases Nat.lt_or_ge j i with w | w
  · exact h.1 j y w hy ey
  · have : j = i := by omega
    subst this
    rw [hx] at hy; cases hy; exact absurd ey e
theorem topI_end {xs : List Sn} {o : Int} {g : Int} (hv : validS xs) (h : topI xs o xs.length g) : g = topF 0 (ofF xs o) := by
  by_cases hq : ∃ (j : Nat) (x : Sn), xs[j]? = some x ∧ x.1 = o
  · obtain ⟨j, x, hx, e⟩ := hq
    rw [h.1 j x (List.getElem?_eq_some_iff.1 hx).1 hx e, ← e, of_mem hv.2 hx]
  · have hn : ∀ (j : Nat) (x : Sn), xs[j]? = some x → x.1 ≠ o := fun j x hx e => hq ⟨j, x, hx, e⟩
    rw [h.2 fun j x _ hx => hn j x hx, ofF_no fun x hx => by
      obtain ⟨j, hj⟩ := List.getElem?_of_mem hx
      exact hn j x hj]
    rfl
/-- The gaps that are asked for. -/
def gapsF (xs : List Sn) (o : Int) : List Int := missF xs o 200
theorem gaps_eq {xs : List Sn} {o : Int} (hv : validS xs) : gapsF xs o = (missL 1 (ofF xs o)).take 200 := by
  unfold gapsF missF; rw [if_pos hv]; rfl
theorem gaps_mem {xs : List Sn} {o : Int} (hv : validS xs) {i : Nat} {g : Int} (hg : (gapsF xs o)[i]? = some g) : (missL 1 (ofF xs o))[i]? = some g := by
  rw [gaps_eq hv, List.getElem?_take] at hg
  split at hg
  · exact hg
  · cases hg
theorem of_pos {xs : List Sn} {o : Int} (hv : validS xs) : ∀ x ∈ ofF xs o, (0 : Int) < x.1 := fun x hx => by have := chkR_mem (of_chk (o := o) hv.2) x hx; omega
theorem gaps_spec {xs : List Sn} {o : Int} (hv : validS xs) {m : Int} : m ∈ missL 1 (ofF xs o) ↔ 1 ≤ m ∧ m < topF 0 (ofF xs o) ∧ ¬ inS xs o m :=
  mem_miss (p := 0) (of_chk hv.2) (of_pos hv) m
theorem gaps_lt {xs : List Sn} {o : Int} (hv : validS xs) {i j : Nat} {g g' : Int} (h1 : (missL 1 (ofF xs o))[i]? = some g) (h2 : (missL 1 (ofF xs o))[j]? = some g') (h : i < j) : g < g' := by
  have hs := miss_sorted (p := 0) (of_chk (o := o) hv.2) (of_pos hv)
  obtain ⟨a1, a2⟩ := List.getElem?_eq_some_iff.1 h1
  obtain ⟨b1, b2⟩ := List.getElem?_eq_some_iff.1 h2
  have := List.pairwise_iff_getElem.1 hs i j a1 b1 h
  rw [← a2, ← b2]; exact this
theorem topF_le {xs : List Sn} {o : Int} (hv : validS xs) : topF 0 (ofF xs o) ≤ 1000000000 := by
  have key : ∀ (rs : List Rg) (p : Int), p ≤ 1000000000 → (∀ x ∈ rs, x.2 ≤ 1000000000) → topF p rs ≤ 1000000000 := by
    intro rs
    induction rs with
    | nil => intro p hp _; exact hp
    | cons x rs ih => intro p _ h; exact ih x.2 (h x (by simp)) fun y hy => h y (List.mem_cons_of_mem _ hy)
  exact key _ _ (by decide) fun x hx => (chkR_mem (of_chk (o := o) hv.2) x hx).2.2
/-- The number behind the gaps that were seen. -/
def nextF (xs : List Sn) (o : Int) : Nat → Int
  | 0 => 1
  | i + 1 => (gapsF xs o).getD i 0 + 1
theorem nextF_succ {xs : List Sn} {o : Int} {i : Nat} {g : Int} (hg : (gapsF xs o)[i]? = some g) : nextF xs o (i + 1) = g + 1 := by
  show (gapsF xs o).getD i 0 + 1 = g + 1
  rw [List.getD_eq_getElem?_getD, hg]; rfl
theorem gap_at {xs : List Sn} {o : Int} (hv : validS xs) {i : Nat} {g : Int} (hg : (gapsF xs o)[i]? = some g) :
    nextF xs o i ≤ g ∧ g < topF 0 (ofF xs o) ∧ ¬ hasP xs o g ∧ (nextF xs o i < g → hasP xs o (g - 1)) ∧ 1 ≤ g := by
  have hm := gaps_mem hv hg
  obtain ⟨s1, s2, s3⟩ := (gaps_spec hv).1 (List.mem_of_getElem? hm)
  have hp : ∀ k g', k + 1 = i → (gapsF xs o)[k]? = some g' → g' < g := fun k g' e h => gaps_lt hv (gaps_mem hv h) hm (by omega)
  refine ⟨?_, s2, fun w => s3 (holds_in.1 w.2), fun hn => ?_, s1⟩
  · cases i with
    | zero => exact s1
    | succ k =>
      have hk : k < (gapsF xs o).length := by have := (List.getElem?_eq_some_iff.1 hg).1; omega
      have e := List.getElem?_eq_getElem hk
      rw [nextF_succ e]
      have := hp k _ rfl e
      omega
  · apply Classical.byContradiction
    intro hc
    have hq : ¬ inS xs o (g - 1) := fun w => hc ⟨hv, holds_in.2 w⟩
    have h1 : 1 ≤ g - 1 := by
      cases i with
      | zero => have e : nextF xs o 0 = 1 := rfl; omega
      | succ k =>
        have hk : k < (gapsF xs o).length := by have := (List.getElem?_eq_some_iff.1 hg).1; omega
        have e := List.getElem?_eq_getElem hk
        rw [nextF_succ e] at hn
        have := ((gaps_spec hv).1 (List.mem_of_getElem? (gaps_mem hv e))).1
        omega
    have hm2 := (gaps_spec (o := o) hv).2 ⟨h1, by omega, hq⟩
    obtain ⟨j, hj⟩ := List.getElem?_of_mem hm2
    have hji : j < i := by
      rcases Nat.lt_trichotomy j i with w | w | w
      · exact w
      · subst w; rw [hm] at hj; have := Option.some.inj hj; omega
      · have := gaps_lt hv hm hj w; omega
    cases i with
    | zero => omega
    | succ k =>
      have hk : k < (gapsF xs o).length := by have := (List.getElem?_eq_some_iff.1 hg).1; omega
      have e := List.getElem?_eq_getElem hk
      rw [nextF_succ e] at hn
      have e2 := gaps_mem hv e
      rcases Nat.lt_or_ge j k with w | w
      · have := gaps_lt hv hj e2 w; omega
      · have : j = k := by omega
        subst this
        rw [e2] at hj; have := Option.some.inj hj; omega
/-- What holds while the gaps are added. -/
structure GapI (xs : List Sn) (o : Int) (i : Nat) (zs : List Sn) : Prop where
  v : validS zs
  s : Sm zs
  m : ∀ o' m', inS zs o' m' ↔ inS xs o' m' ∨ (o' = o ∧ m' ∈ (gapsF xs o).take i)
theorem GapI.zero {xs : List Sn} {o : Int} (hv : validS xs) (hs : Sm xs) : GapI xs o 0 xs := ⟨hv, hs, fun o' m' => by simp⟩
theorem gap_in {xs : List Sn} {o : Int} (hv : validS xs) {i : Nat} {g : Int} (hg : (gapsF xs o)[i]? = some g) : 0 ≤ o ∧ o ≤ 59 := by
  have h := gap_at hv hg
  by_cases hq : ∃ (j : Nat) (x : Sn), xs[j]? = some x ∧ x.1 = o
  · obtain ⟨j, x, hx, rfl⟩ := hq
    exact (chk_split hv.2 hx).2.2.1
  · have e : ofF xs o = [] := ofF_no fun x hx e => by
      obtain ⟨j, hj⟩ := List.getElem?_of_mem hx
      exact hq ⟨j, x, hj, e⟩
    have h1 := h.2.1
    rw [e] at h1
    have h2 : topF 0 ([] : List Rg) = 0 := rfl
    have := h.2.2.2.2
    omega
theorem GapI.fresh {xs zs : List Sn} {o : Int} (hv : validS xs) {i : Nat} {g : Int} (h : GapI xs o i zs) (hg : (gapsF xs o)[i]? = some g) : okA zs o g ∧ ¬ hasP zs o g := by
  have a := gap_at hv hg
  have b := gap_in hv hg
  have c := topF_le (o := o) hv
  refine ⟨⟨h.v, b, a.2.2.2.2, by omega⟩, fun w => ?_⟩
  rcases (h.m o g).1 (holds_in.1 w.2) with q | ⟨_, q⟩
  · exact a.2.2.1 ⟨hv, holds_in.2 q⟩
  · obtain ⟨j, hj⟩ := List.getElem?_of_mem q
    rw [List.getElem?_take] at hj
    split at hj
    · rename_i hji
      have := gaps_lt hv (gaps_mem hv hj) (gaps_mem hv hg) hji
      omega
    · cases hj
theorem GapI.succ {xs zs ys : List Sn} {o : Int} (hv : validS xs) {i : Nat} {g : Int} {t : Bool} {e : Int} (h : GapI xs o i zs) (hg : (gapsF xs o)[i]? = some g) (r : addF zs o g = (ys, t, e)) (he : ¬ e = 10) : e = 0 ∧ t = true ∧ GapI xs o (i + 1) ys := by
  obtain ⟨gA, hn⟩ := h.fresh hv hg
  rcases add_res r with ⟨w, _⟩ | ⟨rfl, _, v2, rfl, hh, _⟩
  · rcases room gA r rfl with ⟨_, _, q⟩ | ⟨_, _, _, q⟩ | ⟨_, _, q, _⟩
    · exact absurd q w
    · exact absurd q he
    · exact absurd q w
  · refine ⟨rfl, by simp [hn], v2, addF_sm r h.s, fun o' m' => ?_⟩
    have := hh o' m'
    unfold hasP at this
    have h1 : inS ys o' m' ↔ inS zs o' m' ∨ (o' = o ∧ m' = g) := by
      unfold inS
      rw [← holds_in, ← holds_in]
      exact ⟨fun w => (this.1 ⟨v2, w⟩).imp (fun w => w.2) id, fun w => (this.2 (w.imp (fun q => ⟨h.v, q⟩) id)).2⟩
    rw [h1, h.m, take_get' hg, List.mem_append, List.mem_singleton]
    constructor
    · rintro ((w | w) | w)
      · exact .inl w
      · exact .inr ⟨w.1, .inl w.2⟩
      · exact .inr ⟨w.1, .inr w.2⟩
    · rintro (w | ⟨w, q | q⟩)
      · exact .inl (.inl w)
      · exact .inl (.inr ⟨w, q⟩)
      · exact .inr ⟨w, q⟩
theorem GapI.done {xs zs : List Sn} {o : Int} (hv : validS xs) (h : GapI xs o (gapsF xs o).length zs) (hl : (gapsF xs o).length < 200) : (∀ x ∈ zs, x.1 = o → x.2 = [(1, topF 0 (ofF xs o))]) ∧ missF zs o 5 = [] := by
  have eg : gapsF xs o = missL 1 (ofF xs o) := by
    have := gaps_eq (o := o) hv
    rw [this] at hl ⊢
    rw [List.length_take] at hl
    exact List.take_of_length_le (by omega)
  have hm : ∀ m, inS zs o m ↔ 1 ≤ m ∧ m ≤ topF 0 (ofF xs o) := by
    intro m
    rw [h.m, List.take_of_length_le (Nat.le_refl _), eg, gaps_spec hv]
    have hb : inS xs o m → 1 ≤ m ∧ m ≤ topF 0 (ofF xs o) := fun ⟨x, hx, w⟩ => by
      have h1 := of_pos (o := o) hv x hx
      have h2 := (topF_ge (rs := ofF xs o) (p := -1) (of_chk hv.2)).2 x hx
      have h3 : topF (-1) (ofF xs o) = topF 0 (ofF xs o) := by cases hq : ofF xs o with
        | nil => rw [hq] at hx; cases hx
        | cons y l => rfl
      omega
    constructor
    · rintro (w | ⟨_, w⟩)
      · exact hb w
      · omega
    · intro w
      by_cases q : inS xs o m
      · exact .inl q
      · refine .inr ⟨rfl, w.1, ?_, q⟩
        rcases Int.lt_or_le m (topF 0 (ofF xs o)) with v | v
        · exact v
        · exfalso
          have e : m = topF 0 (ofF xs o) := by omega
          apply q
          cases hq : ofF xs o with
          | nil => rw [hq] at e; have : topF 0 ([] : List Rg) = 0 := rfl; omega
          | cons y l =>
            have hk : (ofF xs o)[l.length]? = some ((ofF xs o)[l.length]'(by rw [hq]; simp)) := List.getElem?_eq_getElem _
            have ht := topF_last (p := 0) hk (by rw [hq]; simp)
            have hmem := List.mem_of_getElem? hk
            have hc := chkR_mem (of_chk (o := o) hv.2) _ hmem
            exact ⟨_, hmem, by omega, by omega⟩
  have hc := of_chk (o := o) h.v.2
  have hof : ofF zs o = [] ∨ ofF zs o = [(1, topF 0 (ofF xs o))] := by
    rcases Int.lt_or_le (topF 0 (ofF xs o)) 1 with w | w
    · refine .inl ?_
      refine chkR_canon (q := 0) hc (show chkR 0 [] from trivial) fun m => ⟨fun q => ?_, fun q => absurd q inR_nil⟩
      have := (hm m).1 q
      omega
    · refine .inr ?_
      have hb := topF_le (o := o) hv
      refine chkR_canon (q := -1) hc (show chkR (-1) [(1, topF 0 (ofF xs o))] from ⟨by unfold okE; simp only; omega, trivial⟩) fun m => ?_
      have h1 := hm m
      unfold inS at h1
      rw [h1, inR_cons]
      exact ⟨fun q => .inl q, fun q => q.elim id fun q => absurd q inR_nil⟩
  refine ⟨fun x hx e => ?_, ?_⟩
  · obtain ⟨j, hj⟩ := List.getElem?_of_mem hx
    have h1 := of_mem h.v.2 hj
    have h2 := (chk_split h.v.2 hj).1.1
    rw [e] at h1
    rcases hof with q | q
    · rw [q] at h1; exact absurd h1.symm h2
    · rw [q] at h1; exact h1.symm
  · unfold missF
    rw [if_pos h.v]
    rcases hof with q | q
    · rw [q]; rfl
    · rw [q]
      show (gap 1 1 ++ []).take 5 = []
      rw [gap_nil (Int.le_refl _)]; rfl

end Go.Proofs.Ytjibgfihfbdcaaa.SeenOwn
