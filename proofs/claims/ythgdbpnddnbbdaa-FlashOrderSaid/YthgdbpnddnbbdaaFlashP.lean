/- The flash package: the plain laws of what its functions compute. -/
import Derived.Test.YthgdbpnddnbbdaaFlash11
namespace Go.Proofs.Ythgdbpnddnbbdaa.FlashOwn
open Go Go.Sx
set_option linter.unusedVariables false
set_option linter.unusedSimpArgs false
theorem band8_eq (x y : Int) : band8 x y = ((BitVec.ofInt 8 x &&& BitVec.ofInt 8 y).toNat : Int) := by
  have h := (BitVec.ofInt 8 x &&& BitVec.ofInt 8 y).isLt
  exact wu8 ⟨by omega, by show ((BitVec.ofInt 8 x &&& BitVec.ofInt 8 y).toNat : Int) ≤ 255; omega⟩
theorem ofInt_nat8 (v : BitVec 8) : BitVec.ofInt 8 (v.toNat : Int) = v := by simp
theorem band8_right (x y z : Int) : band8 (band8 x y) z = band8 (band8 x z) y := by
  simp only [band8_eq, ofInt_nat8]
  rw [BitVec.and_assoc, BitVec.and_comm (BitVec.ofInt 8 y), ← BitVec.and_assoc]
theorem band8_assoc (x y z : Int) : band8 (band8 x y) z = band8 x (band8 y z) := by
  simp only [band8_eq, ofInt_nat8]
  rw [BitVec.and_assoc]
theorem band8_idem (x y : Int) : band8 (band8 x y) y = band8 x y := by
  simp only [band8_eq, ofInt_nat8]
  rw [BitVec.and_assoc, BitVec.and_self]
theorem band8_255 {y : Int} (h : 0 ≤ y ∧ y ≤ 255) : band8 255 y = y := by
  rw [band8_eq]
  obtain ⟨n, rfl⟩ : ∃ n : Nat, y = n := ⟨y.toNat, by omega⟩
  have : n < 256 := by omega
  rw [show BitVec.ofInt 8 255 = BitVec.allOnes 8 from by decide, BitVec.allOnes_and]
  simp; omega
theorem band8_bd (x y : Int) : 0 ≤ band8 x y ∧ band8 x y ≤ 255 := wu8b _
theorem getD_set (zs : List Int) (p : Nat) (x : Int) (j : Nat) : (zs.set p x).getD j 0 = if p = j ∧ j < zs.length then x else zs.getD j 0 := by
  rw [List.getD_eq_getElem?_getD, List.getD_eq_getElem?_getD, List.getElem?_set]
  by_cases h : p = j
  · subst h
    by_cases h2 : p < zs.length
    · simp [h2]
    · simp [h2]
  · simp [h]
theorem stp_get (g : Nat → Int → Int) (a : Nat) (zs : List Int) : ∀ i j, (stp g a zs i).getD j 0 = if a ≤ j ∧ j < a + i ∧ j < zs.length then g (j - a) (zs.getD j 0) else zs.getD j 0
  | 0, j => by rw [if_neg (by omega)]; rfl
  | i + 1, j => by
    show ((stp g a zs i).set (a + i) (g i ((stp g a zs i).getD (a + i) 0))).getD j 0 = _
    rw [getD_set, stp_len, stp_get g a zs i j, stp_get g a zs i (a + i), if_neg (c := a ≤ a + i ∧ a + i < a + i ∧ a + i < zs.length) (by omega)]
    by_cases h : a + i = j ∧ j < zs.length
    · obtain ⟨rfl, h⟩ := h
      rw [if_pos ⟨rfl, h⟩, if_pos ⟨by omega, by omega, h⟩, show a + i - a = i by omega]
    · rw [if_neg h]
      by_cases h2 : a ≤ j ∧ j < a + i ∧ j < zs.length
      · rw [if_pos h2, if_pos (by omega)]
      · rw [if_neg h2, if_neg (by omega)]
theorem ext_getD {xs ys : List Int} (hl : xs.length = ys.length) (h : ∀ j, j < xs.length → xs.getD j 0 = ys.getD j 0) : xs = ys := by
  apply List.ext_getElem hl
  intro i h1 h2
  have := h i h1
  simpa [List.getD_eq_getElem?_getD, h1, h2] using this
theorem stp_again {ds : List Int} {a : Nat} {zs : List Int} {i n : Nat} (h : i ≤ n) : stp (gP ds) a (stp (gP ds) a zs i) n = stp (gP ds) a zs n := by
  apply ext_getD (by simp only [stp_len])
  intro j hj
  simp only [stp_get, stp_len]
  by_cases h1 : a ≤ j ∧ j < a + n ∧ j < zs.length
  · rw [if_pos h1, if_pos h1]
    by_cases h2 : a ≤ j ∧ j < a + i ∧ j < zs.length
    · rw [if_pos h2]; exact band8_idem _ _
    · rw [if_neg h2]
  · rw [if_neg h1, if_neg h1, if_neg (by omega)]
theorem stpE_again {a : Nat} {zs : List Int} {i n : Nat} (h : i ≤ n) : stp gE a (stp gE a zs i) n = stp gE a zs n := by
  apply ext_getD (by simp only [stp_len])
  intro j hj
  simp only [stp_get, stp_len]
  by_cases h1 : a ≤ j ∧ j < a + n ∧ j < zs.length
  · rw [if_pos h1, if_pos h1]; rfl
  · rw [if_neg h1, if_neg h1, if_neg (by omega)]
theorem stp_swap {ds es : List Int} {a b n m : Nat} {zs : List Int} : stp (gP es) b (stp (gP ds) a zs n) m = stp (gP ds) a (stp (gP es) b zs m) n := by
  apply ext_getD (by simp only [stp_len])
  intro j hj
  simp only [stp_get, stp_len]
  by_cases h1 : b ≤ j ∧ j < b + m ∧ j < zs.length
  · rw [if_pos h1]
    by_cases h2 : a ≤ j ∧ j < a + n ∧ j < zs.length
    · rw [if_pos h2, if_pos h2, if_pos h1]; exact band8_right _ _ _
    · rw [if_neg h2, if_neg h2, if_pos h1]
  · rw [if_neg h1, if_neg h1]
theorem stp_congr {g h : Nat → Int → Int} {a : Nat} {zs : List Int} : ∀ {i : Nat}, (∀ k, k < i → ∀ x, g k x = h k x) → stp g a zs i = stp h a zs i
  | 0, _ => rfl
  | i + 1, e => by
    show (stp g a zs i).set _ _ = (stp h a zs i).set _ _
    rw [stp_congr (i := i) (fun k hk x => e k (by omega) x), e i (by omega)]
theorem stp_add {g : Nat → Int → Int} {a k : Nat} {zs : List Int} : ∀ i, stp g a zs (k + i) = stp (fun j x => g (k + j) x) (a + k) (stp g a zs k) i
  | 0 => rfl
  | i + 1 => by
    show (stp g a zs (k + i)).set _ _ = _
    rw [stp_add i]; show (stp _ _ _ i).set (a + (k + i)) (g (k + i) ((stp g a zs (k + i)).getD (a + (k + i)) 0)) = _
    rw [stp_add i, show a + (k + i) = a + k + i by omega]; rfl
theorem getD_take (ds : List Int) (k j : Nat) (h : j < k) : (ds.take k).getD j 0 = ds.getD j 0 := by
  rw [List.getD_eq_getElem?_getD, List.getD_eq_getElem?_getD, List.getElem?_take, if_pos h]
theorem getD_drop (ds : List Int) (k j : Nat) : (ds.drop k).getD j 0 = ds.getD (k + j) 0 := by
  rw [List.getD_eq_getElem?_getD, List.getD_eq_getElem?_getD, List.getElem?_drop]
theorem stp_take {ds : List Int} {a k i : Nat} {zs : List Int} (h : i ≤ k) : stp (gP (ds.take k)) a zs i = stp (gP ds) a zs i :=
  stp_congr fun j hj x => by unfold gP; rw [getD_take _ _ _ (by omega)]
theorem stp_drop {ds : List Int} {a k i : Nat} {zs : List Int} : stp (gP (ds.drop k)) (a + k) (stp (gP ds) a zs k) i = stp (gP ds) a zs (k + i) := by
  rw [stp_add]
  exact stp_congr fun j hj x => by unfold gP; rw [getD_drop]
theorem mems_parts {s : Int} {ds : List Int} {a k n : Nat} {zs : List Int} (h : k ≤ n) :
    mems s (gP ds) a zs (n + 1) = mems s (gP (ds.take k)) a zs (k + 1) ++ (mems s (gP (ds.drop k)) (a + k) (stp (gP ds) a zs k) (n - k + 1)).drop 1 := by
  apply List.ext_getElem?
  intro i
  by_cases h1 : i < k + 1
  · rw [List.getElem?_append_left (by rw [mems_len]; exact h1)]
    simp only [mems, List.getElem?_map, List.getElem?_range h1, List.getElem?_range (show i < n + 1 by omega), Option.map_some]
    rw [stp_take (by omega)]
  · rw [List.getElem?_append_right (by rw [mems_len]; omega), mems_len, List.getElem?_drop]
    by_cases h2 : i < n + 1
    · simp only [mems, List.getElem?_map, List.getElem?_range h2, List.getElem?_range (show 1 + (i - (k + 1)) < n - k + 1 by omega), Option.map_some]
      rw [stp_drop, show k + (1 + (i - (k + 1))) = i by omega]
    · rw [List.getElem?_eq_none (by rw [mems_len]; omega), List.getElem?_eq_none (by rw [mems_len]; omega)]
theorem mems_get {s : Int} {g : Nat → Int → Int} {a n i : Nat} {zs : List Int} (h : i < n) : (mems s g a zs n)[i]? = some (s, stp g a zs i) := by
  simp [mems, List.getElem?_range h]
theorem mems_getD {s : Int} {g : Nat → Int → Int} {a n i : Nat} {zs : List Int} (h : i < n) : (mems s g a zs n).getD i (0, []) = (s, stp g a zs i) := by
  rw [List.getD_eq_getElem?_getD, mems_get h]; rfl
/-- A list, and it with one element changed. -/
theorem oneF_set {zs : List Int} {p : Nat} {x : Int} : ∀ {n : Nat}, n ≤ zs.length → oneF zs (zs.set p x) n = if p < n ∧ zs.getD p 0 ≠ x then (1, (p : Int)) else (0, -1)
  | 0, _ => by rw [if_neg (by omega)]; rfl
  | n + 1, h => by
    have e : oneF zs (zs.set p x) (n + 1) = if n < (zs.set p x).length ∧ zs.getD n 0 ≠ (zs.set p x).getD n 0 then ((oneF zs (zs.set p x) n).1 + 1, (n : Int)) else oneF zs (zs.set p x) n := rfl
    rw [e, oneF_set (n := n) (by omega), getD_set, List.length_set]
    by_cases hp : p = n
    · subst hp
      rw [if_pos (c := p = p ∧ p < zs.length) ⟨rfl, by omega⟩, if_neg (c := p < p ∧ zs.getD p 0 ≠ x) (by omega)]
      by_cases hx : zs.getD p 0 = x
      · rw [if_neg (fun q => q.2 hx), if_neg (fun q => q.2 hx)]
      · rw [if_pos ⟨by omega, hx⟩, if_pos ⟨by omega, hx⟩]; rfl
    · rw [if_neg (c := p = n ∧ n < zs.length) (fun q => hp q.1), if_neg (c := n < zs.length ∧ zs.getD n 0 ≠ zs.getD n 0) (fun q => q.2 rfl)]
      by_cases hx : zs.getD p 0 = x
      · rw [if_neg (fun q => q.2 hx), if_neg (fun q => q.2 hx)]
      · by_cases hn : p < n
        · rw [if_pos ⟨hn, hx⟩, if_pos ⟨by omega, hx⟩]
        · rw [if_neg (fun q => hn q.1), if_neg (fun q => hp (by omega))]
theorem oneF_stp {g : Nat → Int → Int} {a i : Nat} {zs : List Int} : oneF (stp g a zs i) (stp g a zs (i + 1)) zs.length = (0, -1) ∨ oneF (stp g a zs i) (stp g a zs (i + 1)) zs.length = (1, ((a + i : Nat) : Int)) := by
  show oneF (stp g a zs i) ((stp g a zs i).set _ _) _ = _ ∨ oneF (stp g a zs i) ((stp g a zs i).set _ _) _ = _
  rw [oneF_set (by rw [stp_len]; exact Nat.le_refl _)]
  split
  · exact .inr rfl
  · exact .inl rfl
/-- A program that succeeds. -/
theorem progF_ok {s : Int} {zs : List Int} {a : Int} {ds : List Int} {ms : List (Int × List Int)} (h : progF s zs a ds = (ms, 0)) :
    validF s zs.length ∧ 0 ≤ a ∧ a + ds.length ≤ zs.length ∧ ms = mems s (gP ds) a.toNat zs (ds.length + 1) := by
  unfold progF at h
  split at h
  · simp at h
  · rename_i h1
    split at h
    · simp at h
    · rename_i h2
      simp only [not_or, Decidable.not_not] at h1
      exact ⟨h1.1, by omega, by omega, by simpa using h.symm⟩
theorem progF_mk {s : Int} {zs : List Int} {a : Int} {ds : List Int} (h1 : validF s zs.length) (h2 : 0 ≤ a) (h3 : a + ds.length ≤ zs.length) : progF s zs a ds = (mems s (gP ds) a.toNat zs (ds.length + 1), 0) := by
  unfold progF
  rw [if_neg (by simp only [not_or, Decidable.not_not]; exact ⟨h1, by omega⟩), if_neg (by omega)]
theorem progF_bad {s : Int} {zs : List Int} {a : Int} {ds : List Int} {ms : List (Int × List Int)} {e : Int} (h : progF s zs a ds = (ms, e)) (he : e ≠ 0) : ms = [] := by
  unfold progF at h
  split at h
  · simp at h; exact h.1
  · split at h
    · simp at h; exact h.1
    · simp at h; omega
theorem erasF_ok {s : Int} {zs : List Int} {k : Int} {ms : List (Int × List Int)} (h : erasF s zs k = (ms, 0)) :
    validF s zs.length ∧ 0 ≤ k ∧ k < (zs.length : Int) / s ∧ ms = mems s gE (k * s).toNat zs (s.toNat + 1) := by
  unfold erasF at h
  split at h
  · simp at h
  · rename_i h1
    simp only [not_or, Decidable.not_not] at h1
    exact ⟨h1.1, by omega, by omega, by simpa using h.symm⟩
theorem erasF_mk {s : Int} {zs : List Int} {k : Int} (h1 : validF s zs.length) (h2 : 0 ≤ k) (h3 : k < (zs.length : Int) / s) : erasF s zs k = (mems s gE (k * s).toNat zs (s.toNat + 1), 0) := by
  unfold erasF
  rw [if_neg (by simp only [not_or, Decidable.not_not]; exact ⟨h1, by omega⟩)]
theorem erasF_bad {s : Int} {zs : List Int} {k : Int} {ms : List (Int × List Int)} {e : Int} (h : erasF s zs k = (ms, e)) (he : e ≠ 0) : ms = [] := by
  unfold erasF at h
  split at h
  · simp at h; exact h.1
  · simp at h; omega
theorem lastF_ok {ms : List (Int × List Int)} {n : Nat} (h : ms.length = n + 1) : lastF ms 0 (n + 1) = (ms.getD n (0, []), true) := by
  unfold lastF
  rw [if_neg (by omega), show ((n : Int) + 1 - 1).toNat = n by omega]
theorem doneF_mk {s : Int} {zs : List Int} {a : Int} {ds : List Int} (h1 : validF s zs.length) (h2 : 0 ≤ a) (h3 : a + ds.length ≤ zs.length) : doneF s zs a ds = ((s, stp (gP ds) a.toNat zs ds.length), true) := by
  unfold doneF
  rw [progF_mk h1 h2 h3]
  show lastF _ 0 _ = _
  rw [lastF_ok (mems_len _ _ _ _ _), mems_getD (by omega)]
theorem doneF_ok {s : Int} {zs : List Int} {a : Int} {ds : List Int} {m : Int × List Int} (h : doneF s zs a ds = (m, true)) :
    validF s zs.length ∧ 0 ≤ a ∧ a + ds.length ≤ zs.length ∧ m = (s, stp (gP ds) a.toNat zs ds.length) := by
  by_cases e : (progF s zs a ds).2 = 0
  · obtain ⟨h1, h2, h3, _⟩ := progF_ok (show progF s zs a ds = ((progF s zs a ds).1, 0) by rw [← e])
    rw [doneF_mk h1 h2 h3] at h
    exact ⟨h1, h2, h3, by simpa using h.symm⟩
  · unfold doneF lastF at h
    rw [if_pos (.inl e)] at h
    simp at h
theorem newF_ok {a b : Int} (h1 : 1 ≤ a ∧ a ≤ 1024) (h2 : 1 ≤ b) (h3 : a * b ≤ 16384) : newF a b = ((a, List.replicate (a * b).toNat 255), 0) := by
  unfold newF
  have : b ≤ 16384 / a := (Int.le_ediv_iff_mul_le (by omega)).2 (by rw [Int.mul_comm]; exact h3)
  rw [if_neg (by omega)]
theorem eq3 {a b : Int} {x y : List Int} {p q : Bool} (h : ((a, x), p) = ((b, y), q)) : a = b ∧ x = y ∧ p = q := by
  obtain ⟨h1, h2⟩ := Prod.mk.inj h
  obtain ⟨h3, h4⟩ := Prod.mk.inj h1
  exact ⟨h3, h4, h2⟩
theorem eq3e {a b : Int} {x y : List Int} {p q : Int} (h : ((a, x), p) = ((b, y), q)) : a = b ∧ x = y ∧ p = q := by
  obtain ⟨h1, h2⟩ := Prod.mk.inj h
  obtain ⟨h3, h4⟩ := Prod.mk.inj h1
  exact ⟨h3, h4, h2⟩
theorem wf8 {x : Int} (h : (Lit.int .u8 x).wf = true) : 0 ≤ x ∧ x ≤ 255 := by
  simp only [Lit.wf, Bool.and_eq_true, decide_eq_true_eq, show IntKind.u8.min = 0 from rfl, show IntKind.u8.max = 255 from rfl] at h
  exact h
theorem wf16 {x : Int} (h : (Lit.int .u16 x).wf = true) : 0 ≤ x ∧ x ≤ 65535 := by
  simp only [Lit.wf, Bool.and_eq_true, decide_eq_true_eq, show IntKind.u16.min = 0 from rfl, show IntKind.u16.max = 65535 from rfl] at h
  exact h
theorem tmodN {x : Int} {n : Nat} (hx : 0 ≤ x) (hn : 0 < n) : ∃ k : Nat, Int.tmod x (n : Int) = k ∧ k < n := by
  rw [Int.tmod_eq_emod_of_nonneg hx]
  have h1 := Int.emod_nonneg x (show (n : Int) ≠ 0 by omega)
  have h2 := Int.emod_lt_of_pos x (show (0 : Int) < n by omega)
  exact ⟨(x % n).toNat, by omega, by omega⟩
theorem Bs.sub {E E' : Mem} {b b' : Option Addr} {l c lo hi : Nat} {zs : List Int} (h : Bs E b l c zs)
    (hF : ∀ cs, E (.slice b l c) cs → E' (.slice b' (hi - lo) (c - lo)) (List.take ((hi - lo) * 1) (List.drop (lo * 1) cs))) (hN : b'.isNone = b.isNone) (h1 : lo ≤ hi) (h2 : hi ≤ l) : Bs E' b' (hi - lo) (c - lo) ((zs.drop lo).take (hi - lo)) := by
  have hlen := h.2.1
  refine ⟨?_, by rw [List.length_take, List.length_drop, hlen]; omega, by have := h.2.2.1; omega, fun z hz => h.2.2.2.1 z (List.drop_subset _ _ (List.take_subset _ _ hz)), fun e => ?_⟩
  · rcases h.1 with q | q
    · exact .inl (by rw [q]; simp)
    · refine .inr ?_
      have := hF _ q
      rw [Nat.mul_one, Nat.mul_one, ← List.map_drop, ← List.map_take] at this
      exact this
  · have : zs = [] := h.2.2.2.2 (by cases b with | none => rfl | some x => rw [e] at hN; cases hN)
    rw [this]; simp
theorem FL.cap {E : Mem} {b : Option Addr} {n c : Nat} {ms : List (Int × List Int)} (h : FL E b n c ms) : n ≤ c := by
  obtain ⟨rs, h1, h2, h3, _⟩ := h; exact h3
theorem rows_one (rs : List FRow) : ∀ x : Value, List.Mem x (rs.flatMap rowV) → x.oneCell' = true := fun x hx => by
  obtain ⟨r, _, h⟩ := List.mem_flatMap.1 hx
  simp only [rowV, List.mem_cons, List.not_mem_nil, or_false] at h
  rcases h with rfl | rfl <;> rfl
theorem FL.src {E : Mem} {b : Option Addr} {n c : Nat} {ms : List (Int × List Int)} (h : FL E b n c ms) :
    ∃ rs : List FRow, FLr E rs ms ∧ (rs.flatMap rowV = [] ∨ E (.slice b n c) (rs.flatMap rowV)) ∧ n * 2 ≤ (rs.flatMap rowV).length ∧ (∀ x : Value, List.Mem x (rs.flatMap rowV) → x.oneCell' = true) ∧ rs.length = n := by
  obtain ⟨rs, h1, h2, h3, h4, h5⟩ := h
  have hl : rs.length = n := by rw [h1.1, h2]
  refine ⟨rs, h1, ?_, by rw [rows_len, hl]; exact Nat.le_refl _, rows_one rs, hl⟩
  rcases h4 with rfl | h4
  · exact .inl (by rw [List.length_eq_zero_iff.1 hl]; rfl)
  · exact .inr h4
theorem rows_drop (rs : List FRow) : (rs.flatMap rowV).drop 2 = (rs.drop 1).flatMap rowV := by
  cases rs with
  | nil => rfl
  | cons r rs => rfl
theorem FL.tail {E E' : Mem} {b b' : Option Addr} {n c : Nat} {ms : List (Int × List Int)} (h : FL E b n c ms) (he : Mem.le E E')
    (hF : ∀ cs, E (.slice b n c) cs → E' (.slice b' (n - 1) (c - 1)) (List.take ((n - 1) * 2) (List.drop 2 cs))) (hN : b'.isNone = b.isNone) (hn : 1 ≤ n) : FL E' b' (n - 1) (c - 1) (ms.drop 1) := by
  obtain ⟨rs, h1, h2, h3, h4, h5⟩ := h
  have hl : rs.length = n := by rw [h1.1, h2]
  refine ⟨rs.drop 1, ⟨by simp [h1.1], fun i r m g1 g2 => ?_⟩, by simp [h2], by omega, .inr ?_, fun e => ?_⟩
  · rw [List.getElem?_drop] at g1 g2
    exact ⟨(h1.2 _ r m g1 g2).1, ((h1.2 _ r m g1 g2).2).mono he⟩
  · have := hF _ (h4.resolve_left (by omega))
    rw [rows_drop, List.take_of_length_le (by rw [rows_len]; simp; omega)] at this
    exact this
  · have := h5 (by cases b with | none => rfl | some x => rw [e] at hN; cases hN)
    omega
theorem FLr.app {E : Mem} {rs rt : List FRow} {ms ns : List (Int × List Int)} (h : FLr E rs ms) (k : FLr E rt ns) : FLr E (rs ++ rt) (ms ++ ns) := by
  refine ⟨by simp [h.1, k.1], fun i r m g1 g2 => ?_⟩
  have hl := h.1
  by_cases hi : i < rs.length
  · rw [List.getElem?_append_left hi] at g1
    rw [List.getElem?_append_left (by omega)] at g2
    exact h.2 i r m g1 g2
  · rw [List.getElem?_append_right (by omega)] at g1
    rw [List.getElem?_append_right (by omega), ← hl] at g2
    exact k.2 _ r m g1 g2
theorem sect {i : Nat} {s k : Int} (hs : 1 ≤ s) (hk : 0 ≤ k) : (i : Int) / s = k ↔ ((k * s).toNat ≤ i ∧ i < (k * s).toNat + s.toNat) := by
  have h0 : 0 ≤ k * s := Int.mul_nonneg hk (by omega)
  constructor
  · rintro rfl
    have h1 := Int.mul_ediv_add_emod (i : Int) s
    have h2 := Int.emod_nonneg (i : Int) (show s ≠ 0 by omega)
    have h3 := Int.emod_lt_of_pos (i : Int) (show 0 < s by omega)
    rw [Int.mul_comm] at h1
    omega
  · rintro ⟨h1, h2⟩
    have h3 : k ≤ (i : Int) / s := (Int.le_ediv_iff_mul_le (by omega)).2 (by omega)
    have h4 : (i : Int) / s < k + 1 := (Int.ediv_lt_iff_lt_mul (by omega)).2 (by rw [Int.add_mul]; omega)
    omega
theorem erz {i : Nat} {s k : Int} {zs : List Int} (hs : 1 ≤ s) (hk : 0 ≤ k) (hi : i < zs.length) : (stp gE (k * s).toNat zs s.toNat).getD i 0 = if (i : Int) / s = k then 255 else zs.getD i 0 := by
  rw [stp_get]
  by_cases h : (i : Int) / s = k
  · rw [if_pos h, if_pos ⟨((sect hs hk).1 h).1, ((sect hs hk).1 h).2, hi⟩]; rfl
  · rw [if_neg h, if_neg (fun q => h ((sect hs hk).2 ⟨q.1, q.2.1⟩))]
theorem tdivW {i : Nat} {s : Int} (hs : 1 ≤ s) (hi : i ≤ 100000) : IntKind.wrap .i64 (Int.tdiv (i : Int) s) = (i : Int) / s := by
  have h1 : (i : Int) / s ≤ i := Int.ediv_le_self _ (by omega)
  have h0 : 0 ≤ (i : Int) / s := Int.ediv_nonneg (by omega) (by omega)
  rw [Int.tdiv_eq_ediv_of_nonneg (by omega), wrap_i64 (by omega)]
theorem band8_not (x d : Int) : IntKind.wrap .u8 (((BitVec.ofInt (IntKind.bits .u8) (band8 x d) &&& ~~~BitVec.ofInt (IntKind.bits .u8) x).toNat : Nat) : Int) = 0 := by
  have e : (BitVec.ofInt 8 (band8 x d) &&& ~~~BitVec.ofInt 8 x) = 0#8 := by
    rw [band8_eq, ofInt_nat8]
    apply BitVec.eq_of_getLsbD_eq
    intro i hi
    simp only [BitVec.getLsbD_and, BitVec.getLsbD_not, BitVec.getLsbD_zero, hi, decide_true, Bool.true_and]
    cases (BitVec.ofInt 8 x).getLsbD i <;> simp
  show IntKind.wrap .u8 (((BitVec.ofInt 8 (band8 x d) &&& ~~~BitVec.ofInt 8 x).toNat : Nat) : Int) = 0
  rw [e]; rfl
theorem stp_common {ds es : List Int} {a n m : Nat} {zs : List Int} (h : m ≤ n) (hn : n ≤ ds.length) : stp (gP es) a (stp (gP ds) a zs n) m = stp (gP (stp (gP es) 0 ds m)) a zs n := by
  apply ext_getD (by simp only [stp_len])
  intro j hj
  rw [stp_get, stp_get, stp_len, stp_get (gP (stp (gP es) 0 ds m))]
  by_cases h1 : a ≤ j ∧ j < a + n ∧ j < zs.length
  · rw [if_pos h1, if_pos h1]
    show _ = band8 _ ((stp (gP es) 0 ds m).getD (j - a) 0)
    rw [stp_get]
    by_cases h2 : a ≤ j ∧ j < a + m ∧ j < zs.length
    · rw [if_pos h2, if_pos ⟨by omega, by omega, by omega⟩]; exact band8_assoc _ _ _
    · rw [if_neg h2, if_neg (by omega)]; rfl
  · rw [if_neg h1, if_neg h1, if_neg (by omega)]
theorem layS {ds es : List Int} {i : Nat} (h : i < ds.length) : layV (vB (stp (gP es) 0 ds i)) i [Value.int .u8 (IntKind.wrap .u8 (((BitVec.ofInt (IntKind.bits .u8) ((stp (gP es) 0 ds i).getD i 0) &&& BitVec.ofInt (IntKind.bits .u8) (es.getD i 0)).toNat : Nat) : Int))] = vB (stp (gP es) 0 ds (i + 1)) := by
  rw [layV_set (by rw [stp_len]; exact h)]
  show _ = vB ((stp (gP es) 0 ds i).set (0 + i) (gP es i ((stp (gP es) 0 ds i).getD (0 + i) 0)))
  rw [Nat.zero_add]; rfl
theorem tkB {l : Nat} {zs : List Int} (h : zs.length ≤ l) : List.take (l * 1) (vB zs) = vB zs := List.take_of_length_le (by simp; omega)
end Go.Proofs.Ythgdbpnddnbbdaa.FlashOwn
