/- The wire package: the plain laws of its bytes. -/
import Derived.Test.YtjlpfhekhpebpaaWire11
namespace Go.Proofs.Ytjlpfhekhpebpaa.WireOwn
open Go Go.Sx
set_option maxRecDepth 100000
set_option maxHeartbeats 4000000
set_option linter.unusedVariables false
set_option linter.unusedSimpArgs false
theorem unzig_zig (n : Int) : unzig (zig n) = n := by
  unfold zig unzig
  split
  · split <;> omega
  · split <;> omega
theorem zig_unzig {v : Int} (h : 0 ≤ v) : zig (unzig v) = v := by
  unfold unzig
  split
  · unfold zig; split <;> omega
  · unfold zig; split <;> omega
theorem zig_lt {n : Int} (h : okN n) : zig n < 562949953421312 := by
  unfold okN at h; unfold zig; split <;> omega
theorem getD_app {xs ts : List Int} {i : Nat} (h : xs.length = i) (c : Int) (cs : List Int) : (xs ++ (c :: cs) ++ ts).getD i 0 = c := by
  rw [List.getD_eq_getElem?_getD, List.append_assoc, List.getElem?_append_right (by omega)]
  simp [h]
theorem rdF_dig {a : Int} {ts : List Int} : ∀ (k : Nat) (j : Nat) (u' acc : Int) (pre : List Int), 0 ≤ u' → u' < 128 ^ (k + 1) → u' < 128 ^ (j + 1) → (0 < u' ∨ pre.length = 0) → okN (unzig (acc + u' * 128 ^ pre.length)) →
    rdF a (pre ++ digF j u' ++ ts) (k + 1) pre.length acc = (unzig (acc + u' * 128 ^ pre.length), a + pre.length + (digF j u').length, 0) := by
  have last : ∀ (k j : Nat) (u' acc : Int) (pre : List Int), 0 ≤ u' → u' < 128 → (0 < u' ∨ pre.length = 0) → okN (unzig (acc + u' * 128 ^ pre.length)) →
    rdF a (pre ++ digF j u' ++ ts) (k + 1) pre.length acc = (unzig (acc + u' * 128 ^ pre.length), a + pre.length + (digF j u').length, 0) := by
    intro k j u' acc pre h0 h1 h3 h4
    have hd : digF j u' = [u'] := by cases j with | zero => rfl | succ j => unfold digF; rw [if_pos h1]
    rw [hd]
    unfold rdF
    rw [if_neg (by simp), getD_app rfl u' [], if_neg (by omega), if_pos ⟨h4, h3⟩]
    simp
  intro k
  induction k with
  | zero =>
    intro j u' acc pre h0 h1 h2 h3 h4
    exact last 0 j u' acc pre h0 (by simpa using h1) h3 h4
  | succ k ih =>
    intro j u' acc pre h0 h1 h2 h3 h4
    by_cases hu : u' < 128
    · exact last (k + 1) j u' acc pre h0 hu h3 h4
    · obtain ⟨j', rfl⟩ : ∃ j', j = j' + 1 := by
        cases j with
        | zero => simp at h2; omega
        | succ j => exact ⟨j, rfl⟩
      have hd : digF (j' + 1) u' = (u' % 128 + 128) :: digF j' (u' / 128) := by
        show (if u' < 128 then _ else _) = _
        rw [if_neg hu]
      have hm : 0 ≤ u' % 128 ∧ u' % 128 < 128 := ⟨Int.emod_nonneg _ (by omega), Int.emod_lt_of_pos _ (by omega)⟩
      rw [hd]
      unfold rdF
      rw [if_neg (by simp), getD_app rfl _ _, if_pos (by omega), if_neg (by omega)]
      have e1 : pre ++ (u' % 128 + 128) :: digF j' (u' / 128) ++ ts = (pre ++ [u' % 128 + 128]) ++ digF j' (u' / 128) ++ ts := by simp
      have e2 : pre.length + 1 = (pre ++ [u' % 128 + 128]).length := by simp
      have e3 : acc + (u' % 128 + 128 - 128) * 128 ^ pre.length + u' / 128 * 128 ^ (pre.length + 1) = acc + u' * 128 ^ pre.length := by
        rw [Int.pow_succ, Int.add_sub_cancel, Int.add_assoc, Int.mul_comm (128 ^ pre.length) 128, ← Int.mul_assoc, ← Int.add_mul]
        have : u' % 128 + u' / 128 * 128 = u' := by omega
        rw [this]
      rw [e1, e2]
      rw [ih j' (u' / 128) _ (pre ++ [u' % 128 + 128]) (by omega) (by rw [Int.pow_succ] at h1; omega) (by rw [Int.pow_succ] at h2; omega) (.inl (by omega)) (by rw [← e2, e3]; exact h4)]
      rw [← e2, e3]
      simp
      omega
theorem rd_put {zs ts : List Int} {n : Int} (h : okN n) : rd (zs ++ dig (zig n) ++ ts) zs.length = (n, (zs.length : Int) + ((dig (zig n)).length : Int), 0) := by
  have hz := zig_b h
  have hl := zig_lt h
  unfold rd
  rw [if_neg (by simp; omega)]
  rw [Int.toNat_natCast, List.append_assoc, List.drop_left]
  have := rdF_dig (a := zs.length) (ts := ts) 6 9 (zig n) 0 [] hz.1 (by simpa using hl) (by simp; omega) (.inr rfl) (by simpa [unzig_zig] using h)
  simp only [List.nil_append, List.length_nil, Int.zero_add, Int.pow_zero, Int.mul_one, unzig_zig] at this
  rw [show ((0 : Nat) : Int) = 0 from rfl, Int.add_zero] at this
  exact this
theorem dig_len8 {u : Int} (h0 : 0 ≤ u) (h : u < 562949953421312) : (dig u).length ≤ 7 ∧ ((dig u).length = 1 ↔ u < 128) := by
  have key : ∀ (k j : Nat) (u : Int), 0 ≤ u → u < 128 ^ (k + 1) → (digF j u).length ≤ k + 1 := by
    intro k
    induction k with
    | zero => intro j u h0 h1; have h1 : u < 128 := by simpa using h1
              cases j with
              | zero => simp [digF]
              | succ j => unfold digF; rw [if_pos h1]; simp
    | succ k ih => intro j u h0 h1
                   cases j with
                   | zero => simp [digF]
                   | succ j =>
                     unfold digF
                     split
                     · simp
                     · have := ih j (u / 128) (by omega) (by rw [Int.pow_succ] at h1; omega)
                       simp; omega
  refine ⟨key 6 9 u h0 (by simpa using h), ?_⟩
  by_cases hu : u < 128
  · rw [dig_last hu]; simp [hu]
  · rw [dig_step hu (by omega)]
    have := (dig_len (u / 128)).1
    exact ⟨fun e => by simp only [List.length_cons] at e; omega, fun e => absurd e hu⟩
theorem rdF_inv {a : Int} {ws : List Int} (hw : ∀ z ∈ ws, 0 ≤ z ∧ z ≤ 255) : ∀ (k i : Nat) (u n e' : Int), i + k = 7 → 0 ≤ u → rdF a ws k i u = (n, e', 0) →
    ∃ (m : Nat) (w : Int), e' = a + m ∧ i < m ∧ m ≤ ws.length ∧ 0 ≤ w ∧ w < 128 ^ k ∧ (0 < w ∨ i = 0) ∧ n = unzig (u + 128 ^ i * w) ∧ dig w = (ws.drop i).take (m - i)
  | 0, i, u, n, e', _, _, h => by simp [rdF] at h
  | k + 1, i, u, n, e', hik, hu, h => by
    unfold rdF at h
    split at h
    · simp at h
    · rename_i h1
      have hil : i < ws.length := by omega
      have hc : 0 ≤ ws.getD i 0 ∧ ws.getD i 0 ≤ 255 := by
        refine hw _ ?_
        rw [List.getD_eq_getElem?_getD, List.getElem?_eq_getElem hil]; exact List.getElem_mem _
      have hdr : ws.drop i = ws.getD i 0 :: ws.drop (i + 1) := by
        rw [List.drop_eq_getElem_cons hil, List.getD_eq_getElem?_getD, List.getElem?_eq_getElem hil]; rfl
      split at h
      · rename_i h2
        split at h
        · simp at h
        · rename_i h3
          have hp : (0 : Int) < 128 ^ i := Int.pow_pos (by omega)
          have hu2 : 0 ≤ u + (ws.getD i 0 - 128) * 128 ^ i := by
            have := Int.mul_nonneg (show 0 ≤ ws.getD i 0 - 128 by omega) (Int.le_of_lt hp); omega
          obtain ⟨m, w, g1, g2, g3, g4, g5, g6, g7, g8⟩ := rdF_inv hw k (i + 1) _ n e' (by omega) hu2 h
          have hw0 : 0 < w := by rcases g6 with q | q; exact q; omega
          refine ⟨m, ws.getD i 0 - 128 + 128 * w, g1, by omega, g3, by omega, ?_, .inl (by omega), ?_, ?_⟩
          · rw [Int.pow_succ]; omega
          · rw [g7, Int.pow_succ, Int.mul_add, Int.mul_comm (128 ^ i) (ws.getD i 0 - 128), Int.mul_assoc]; congr 1; omega
          · have hwb : w < 4398046511104 := by
              have : (128 : Int) ^ k ≤ 128 ^ 6 := by
                have := Nat.pow_le_pow_right (show 128 > 0 by omega) (show k ≤ 6 by omega)
                exact_mod_cast this
              simp at this; omega
            rw [dig_step (by omega) (by omega), show (ws.getD i 0 - 128 + 128 * w) / 128 = w by omega, show (ws.getD i 0 - 128 + 128 * w) % 128 + 128 = ws.getD i 0 by omega, g8, hdr, show m - i = (m - (i + 1)) + 1 by omega, List.take_succ_cons]
      · rename_i h2
        split at h
        · rename_i h3
          simp only [Prod.mk.injEq] at h
          obtain ⟨h4, h5, _⟩ := h
          refine ⟨i + 1, ws.getD i 0, by omega, by omega, by omega, hc.1, ?_, h3.2, ?_, ?_⟩
          · have : (128 : Int) ^ 1 ≤ 128 ^ (k + 1) := by
              have := Nat.pow_le_pow_right (show 128 > 0 by omega) (show 1 ≤ k + 1 by omega)
              exact_mod_cast this
            simp at this; omega
          · rw [← h4, Int.mul_comm]
          · rw [dig_last (by omega), hdr, show i + 1 - i = 1 by omega, List.take_succ_cons, List.take_zero]
        · simp at h
theorem dig_rd {zs : List Int} {a n e' : Int} (hw : ∀ z ∈ zs, 0 ≤ z ∧ z ≤ 255) (h : rd zs a = (n, e', 0)) : dig (zig n) = (zs.drop a.toNat).take (e'.toNat - a.toNat) := by
  have h0 := rd_ok h
  unfold rd at h
  rw [if_neg (by omega)] at h
  obtain ⟨m, w, g1, g2, g3, g4, g5, g6, g7, g8⟩ := rdF_inv (fun z hz => hw z (List.drop_subset _ _ hz)) 7 0 0 n e' rfl (Int.le_refl _) h
  rw [Int.pow_zero, Int.one_mul, Int.zero_add] at g7
  rw [g7, zig_unzig g4, g8, List.drop_zero]
  congr 1
  omega
theorem rdAt {L pre ts : List Int} {n p : Int} (hL : L = pre ++ dig (zig n) ++ ts) (hp : p = pre.length) (h : okN n) : rd L p = (n, p + ((dig (zig n)).length : Int), 0) := by
  subst hL hp; exact rd_put h
theorem rdBAt {L pre xs ts : List Int} {p : Int} (hL : L = pre ++ dig (zig xs.length) ++ xs ++ ts) (hp : p = pre.length) (h : xs.length ≤ 4000) : rdB L p = (xs, p + ((dig (zig xs.length)).length : Int) + xs.length, 0) := by
  have h1 := rdAt (L := L) (pre := pre) (ts := xs ++ ts) (n := xs.length) (p := p) (by rw [hL]; simp) hp ⟨by omega, by omega⟩
  have hlen : (L.length : Int) = pre.length + (dig (zig xs.length)).length + xs.length + ts.length := by rw [hL]; simp only [List.length_append]; omega
  rw [rdB_o h1 (by omega) (by omega)]
  have e : (p + ((dig (zig xs.length)).length : Int)).toNat = (pre ++ dig (zig xs.length)).length := by rw [List.length_append]; omega
  rw [e, hL, List.append_assoc (pre ++ dig (zig xs.length)), List.drop_left, Int.toNat_natCast, List.take_left]
def pkL (k f t a y : Int) (zs : List Int) : List Int := dig (zig k) ++ dig (zig f) ++ dig (zig t) ++ dig (zig a) ++ dig (zig y) ++ dig (zig zs.length) ++ zs
theorem fld_inv {zs : List Int} {p lo hi n p' : Int} (h : fld zs p lo hi = (n, p', 0)) : rd zs p = (n, p', 0) ∧ lo ≤ n ∧ n ≤ hi := by
  unfold fld at h
  split at h
  rename_i n1 e1 e2 he
  split at h
  · rename_i q
    simp only [Prod.mk.injEq] at h
    exact absurd h.2.2 q
  · rename_i q
    split at h
    · rename_i q2
      simp only [Prod.mk.injEq] at h
      obtain ⟨rfl, rfl, _⟩ := h
      exact ⟨by rw [he]; simp at q; rw [q], q2⟩
    · simp at h
theorem uk5_inv {zs : List Int} {p k f t a y : Int} {l ys : List Int} (h : uk5 zs p k f t a y = (l, ys, 0)) : ∃ e', rdB zs p = (ys, e', 0) ∧ ¬ e' < zs.length ∧ l = [k, f, t, a, y] := by
  unfold uk5 at h
  split at h
  rename_i w e' e hw
  split at h
  · rename_i q
    simp only [bad, Prod.mk.injEq] at h
    exact absurd h.2.2 q
  · rename_i q
    split at h
    · simp [bad] at h
    · rename_i q2
      simp only [Prod.mk.injEq] at h
      obtain ⟨rfl, rfl, _⟩ := h
      exact ⟨e', by rw [hw]; simp at q; rw [q], q2, rfl⟩
theorem rdB_inv {zs : List Int} {a e' : Int} {ys : List Int} (h : rdB zs a = (ys, e', 0)) : ∃ p : Int, rd zs a = ((ys.length : Int), p, 0) ∧ ys = (zs.drop p.toNat).take ys.length ∧ e' = p + ys.length ∧ e' ≤ zs.length ∧ ys.length ≤ 4000 := by
  unfold rdB at h
  split at h
  rename_i n p e he
  split at h
  · rename_i q
    simp only [Prod.mk.injEq] at h
    exact absurd h.2.2 q
  · rename_i q
    have q : e = 0 := by simpa using q
    subst q
    have h0 := rd_ok he
    split at h
    · simp at h
    · split at h
      · simp at h
      · simp only [Prod.mk.injEq] at h
        obtain ⟨rfl, rfl, _⟩ := h
        have hl : ((zs.drop p.toNat).take n.toNat).length = n.toNat := by rw [List.length_take, List.length_drop]; omega
        refine ⟨p, by rw [hl, he]; congr 1; omega, by rw [hl], by rw [hl]; omega, by omega, by rw [hl]; omega⟩
theorem take_add {zs : List Int} {p q : Nat} (h : p ≤ q) : zs.take p ++ (zs.drop p).take (q - p) = zs.take q := by
  rw [show q = p + (q - p) by omega, List.take_add]; simp
theorem uk4_inv {zs : List Int} {p k f t a : Int} {l ys : List Int} (h : uk4 zs p k f t a = (l, ys, 0)) : ∃ n p', rd zs p = (n, p', 0) ∧ ((0) ≤ n ∧ n ≤ 2000000) ∧ uk5 zs p' k f t a n = (l, ys, 0) := by
  unfold uk4 at h
  split at h
  rename_i n p' e he
  split at h
  · rename_i q
    simp only [bad, Prod.mk.injEq] at h
    exact absurd h.2.2 q
  · rename_i q
    have q : e = 0 := by simpa using q
    subst q
    have := fld_inv he
    exact ⟨n, p', this.1, this.2, h⟩
theorem uk3_inv {zs : List Int} {p k f t : Int} {l ys : List Int} (h : uk3 zs p k f t = (l, ys, 0)) : ∃ n p', rd zs p = (n, p', 0) ∧ ((0) ≤ n ∧ n ≤ 1000000000) ∧ uk4 zs p' k f t n = (l, ys, 0) := by
  unfold uk3 at h
  split at h
  rename_i n p' e he
  split at h
  · rename_i q
    simp only [bad, Prod.mk.injEq] at h
    exact absurd h.2.2 q
  · rename_i q
    have q : e = 0 := by simpa using q
    subst q
    have := fld_inv he
    exact ⟨n, p', this.1, this.2, h⟩
theorem uk2_inv {zs : List Int} {p k f : Int} {l ys : List Int} (h : uk2 zs p k f = (l, ys, 0)) : ∃ n p', rd zs p = (n, p', 0) ∧ ((-1) ≤ n ∧ n ≤ 59) ∧ uk3 zs p' k f n = (l, ys, 0) := by
  unfold uk2 at h
  split at h
  rename_i n p' e he
  split at h
  · rename_i q
    simp only [bad, Prod.mk.injEq] at h
    exact absurd h.2.2 q
  · rename_i q
    have q : e = 0 := by simpa using q
    subst q
    have := fld_inv he
    exact ⟨n, p', this.1, this.2, h⟩
theorem uk1_inv {zs : List Int} {p k : Int} {l ys : List Int} (h : uk1 zs p k = (l, ys, 0)) : ∃ n p', rd zs p = (n, p', 0) ∧ ((0) ≤ n ∧ n ≤ 59) ∧ uk2 zs p' k n = (l, ys, 0) := by
  unfold uk1 at h
  split at h
  rename_i n p' e he
  split at h
  · rename_i q
    simp only [bad, Prod.mk.injEq] at h
    exact absurd h.2.2 q
  · rename_i q
    have q : e = 0 := by simpa using q
    subst q
    have := fld_inv he
    exact ⟨n, p', this.1, this.2, h⟩
theorem uk0_inv {zs : List Int} {p : Int} {l ys : List Int} (h : uk0 zs p = (l, ys, 0)) : ∃ n p', rd zs p = (n, p', 0) ∧ ((1) ≤ n ∧ n ≤ 4) ∧ uk1 zs p' n = (l, ys, 0) := by
  unfold uk0 at h
  split at h
  rename_i n p' e he
  split at h
  · rename_i q
    simp only [bad, Prod.mk.injEq] at h
    exact absurd h.2.2 q
  · rename_i q
    have q : e = 0 := by simpa using q
    subst q
    have := fld_inv he
    exact ⟨n, p', this.1, this.2, h⟩
theorem uk_run {k f t a y : Int} {zs ts : List Int} (h : okF k f t a y) (hz : zs.length ≤ 4000) : uk0 (pkL k f t a y zs ++ ts) 0 = uk5 (pkL k f t a y zs ++ ts) (0 + ((dig (zig k)).length : Int) + ((dig (zig f)).length : Int) + ((dig (zig t)).length : Int) + ((dig (zig a)).length : Int) + ((dig (zig y)).length : Int)) k f t a y ∧ rdB (pkL k f t a y zs ++ ts) (0 + ((dig (zig k)).length : Int) + ((dig (zig f)).length : Int) + ((dig (zig t)).length : Int) + ((dig (zig a)).length : Int) + ((dig (zig y)).length : Int)) = (zs, ((pkL k f t a y zs).length : Int), 0) := by
  unfold okF at h
  obtain ⟨h1, h2, h3, h4, h5⟩ := h
  have k0 : okN k := ⟨by omega, by omega⟩
  have k1 : okN f := ⟨by omega, by omega⟩
  have k2 : okN t := ⟨by omega, by omega⟩
  have k3 : okN a := ⟨by omega, by omega⟩
  have k4 : okN y := ⟨by omega, by omega⟩
  have r0 := rdAt (L := pkL k f t a y zs ++ ts) (pre := []) (ts := (dig (zig f) ++ dig (zig t) ++ dig (zig a) ++ dig (zig y) ++ dig (zig zs.length) ++ zs ++ ts)) (n := k) (p := 0) (by unfold pkL; simp) (by first | (simp; done) | (simp only [List.length_append]; omega) | (simp; omega)) k0
  have r1 := rdAt (L := pkL k f t a y zs ++ ts) (pre := dig (zig k)) (ts := (dig (zig t) ++ dig (zig a) ++ dig (zig y) ++ dig (zig zs.length) ++ zs ++ ts)) (n := f) (p := 0 + ((dig (zig k)).length : Int)) (by unfold pkL; simp) (by first | (simp; done) | (simp only [List.length_append]; omega) | (simp; omega)) k1
  have r2 := rdAt (L := pkL k f t a y zs ++ ts) (pre := dig (zig k) ++ dig (zig f)) (ts := (dig (zig a) ++ dig (zig y) ++ dig (zig zs.length) ++ zs ++ ts)) (n := t) (p := 0 + ((dig (zig k)).length : Int) + ((dig (zig f)).length : Int)) (by unfold pkL; simp) (by first | (simp; done) | (simp only [List.length_append]; omega) | (simp; omega)) k2
  have r3 := rdAt (L := pkL k f t a y zs ++ ts) (pre := dig (zig k) ++ dig (zig f) ++ dig (zig t)) (ts := (dig (zig y) ++ dig (zig zs.length) ++ zs ++ ts)) (n := a) (p := 0 + ((dig (zig k)).length : Int) + ((dig (zig f)).length : Int) + ((dig (zig t)).length : Int)) (by unfold pkL; simp) (by first | (simp; done) | (simp only [List.length_append]; omega) | (simp; omega)) k3
  have r4 := rdAt (L := pkL k f t a y zs ++ ts) (pre := dig (zig k) ++ dig (zig f) ++ dig (zig t) ++ dig (zig a)) (ts := (dig (zig zs.length) ++ zs ++ ts)) (n := y) (p := 0 + ((dig (zig k)).length : Int) + ((dig (zig f)).length : Int) + ((dig (zig t)).length : Int) + ((dig (zig a)).length : Int)) (by unfold pkL; simp) (by first | (simp; done) | (simp only [List.length_append]; omega) | (simp; omega)) k4
  refine ⟨?_, ?_⟩
  · rw [uk0_o (fld_o r0 h1), uk1_o (fld_o r1 h2), uk2_o (fld_o r2 h3), uk3_o (fld_o r3 h4), uk4_o (fld_o r4 h5)]
  · rw [rdBAt (L := pkL k f t a y zs ++ ts) (pre := dig (zig k) ++ dig (zig f) ++ dig (zig t) ++ dig (zig a) ++ dig (zig y)) (xs := zs) (ts := ts) (by unfold pkL; simp) (by simp only [List.length_append]; omega) hz]
    congr 2
    unfold pkL; simp only [List.length_append]; omega
theorem uk_pk {k f t a y : Int} {zs : List Int} (h : okF k f t a y) (hz : zs.length ≤ 4000) : uk0 (pkL k f t a y zs) 0 = ([k, f, t, a, y], zs, 0) := by
  have := uk_run (ts := []) h hz
  rw [List.append_nil] at this
  rw [this.1, uk5_o this.2 (by omega)]
theorem uk_long {k f t a y : Int} {zs ts : List Int} (h : okF k f t a y) (hz : zs.length ≤ 4000) (ht : 0 < ts.length) : uk0 (pkL k f t a y zs ++ ts) 0 = bad 11 := by
  have := uk_run (ts := ts) h hz
  rw [this.1, uk5_s this.2 (by rw [List.length_append]; omega)]
theorem uk_inv {zs : List Int} {k f t a y : Int} {ys : List Int} (hw : ∀ z ∈ zs, 0 ≤ z ∧ z ≤ 255) (h : uk0 zs 0 = ([k, f, t, a, y], ys, 0)) : okF k f t a y ∧ ys.length ≤ 4000 ∧ zs = pkL k f t a y ys := by
  obtain ⟨n0, p0, r0, l0, h⟩ := uk0_inv h
  obtain ⟨n1, p1, r1, l1, h⟩ := uk1_inv h
  obtain ⟨n2, p2, r2, l2, h⟩ := uk2_inv h
  obtain ⟨n3, p3, r3, l3, h⟩ := uk3_inv h
  obtain ⟨n4, p4, r4, l4, h⟩ := uk4_inv h
  obtain ⟨e', rb, he, hl⟩ := uk5_inv h
  obtain ⟨p5, r5, hy, he', hle, hle2⟩ := rdB_inv rb
  simp only [List.cons.injEq, and_true] at hl
  obtain ⟨rfl, rfl, rfl, rfl, rfl⟩ := hl
  have o0 := rd_ok r0; have o1 := rd_ok r1; have o2 := rd_ok r2; have o3 := rd_ok r3; have o4 := rd_ok r4; have o5 := rd_ok r5
  have d0 := dig_rd hw r0; have d1 := dig_rd hw r1; have d2 := dig_rd hw r2; have d3 := dig_rd hw r3; have d4 := dig_rd hw r4; have d5 := dig_rd hw r5
  refine ⟨⟨l0, l1, l2, l3, l4⟩, hle2, ?_⟩
  unfold pkL
  rw [d0, d1, d2, d3, d4, d5]
  rw [show Int.toNat 0 = 0 from rfl, List.drop_zero, Nat.sub_zero]
  rw [take_add (by omega), take_add (by omega), take_add (by omega), take_add (by omega), take_add (by omega)]
  have e6 : ys = (zs.drop p5.toNat).take (zs.length - p5.toNat) := by
    rw [hy]; congr 1; omega
  rw [e6, take_add (by omega), List.take_length]
theorem rdF_cut {a : Int} : ∀ (k j q : Nat) (u' acc : Int) (pre : List Int), 0 ≤ u' → u' < 128 ^ (k + 1) → u' < 128 ^ (j + 1) → q < (digF j u').length →
    rdF a (pre ++ (digF j u').take q) (k + 1) pre.length acc = (0, 0, 11) := by
  intro k
  induction k with
  | zero =>
    intro j q u' acc pre h0 h1 h2 h3
    have hu : u' < 128 := by simpa using h1
    have hd : digF j u' = [u'] := by cases j with | zero => rfl | succ j => unfold digF; rw [if_pos hu]
    rw [hd] at h3 ⊢
    have : q = 0 := by simp at h3; omega
    subst this
    unfold rdF
    rw [if_pos (by simp)]
  | succ k ih =>
    intro j q u' acc pre h0 h1 h2 h3
    cases q with
    | zero => unfold rdF; rw [if_pos (by simp)]
    | succ q =>
      have hu : ¬ u' < 128 := fun hu => by
        have hd : digF j u' = [u'] := by cases j with | zero => rfl | succ j => unfold digF; rw [if_pos hu]
        rw [hd] at h3; simp at h3
      obtain ⟨j', rfl⟩ : ∃ j', j = j' + 1 := by
        cases j with
        | zero => simp at h2; omega
        | succ j => exact ⟨j, rfl⟩
      have hd : digF (j' + 1) u' = (u' % 128 + 128) :: digF j' (u' / 128) := by
        show (if u' < 128 then _ else _) = _
        rw [if_neg hu]
      rw [hd] at h3 ⊢
      rw [List.take_succ_cons]
      have e0 : (pre ++ (u' % 128 + 128) :: (digF j' (u' / 128)).take q).getD pre.length 0 = u' % 128 + 128 := by
        have := getD_app (xs := pre) (ts := []) rfl (u' % 128 + 128) ((digF j' (u' / 128)).take q)
        rwa [List.append_nil] at this
      unfold rdF
      rw [if_neg (by simp), e0, if_pos (by omega), if_neg (by omega)]
      have e1 : pre ++ (u' % 128 + 128) :: (digF j' (u' / 128)).take q = (pre ++ [u' % 128 + 128]) ++ (digF j' (u' / 128)).take q := by simp
      have e2 : pre.length + 1 = (pre ++ [u' % 128 + 128]).length := by simp
      rw [e1, e2]
      exact ih j' q (u' / 128) _ (pre ++ [u' % 128 + 128]) (by omega) (by rw [Int.pow_succ] at h1; omega) (by rw [Int.pow_succ] at h2; omega) (by simpa using h3)
theorem rd_cut {zs : List Int} {n : Int} {q : Nat} (h : okN n) (hq : q < (dig (zig n)).length) : rd (zs ++ (dig (zig n)).take q) zs.length = (0, 0, 11) := by
  have hz := zig_b h
  have hl := zig_lt h
  unfold rd
  rw [if_neg (by simp; omega)]
  rw [Int.toNat_natCast, List.drop_left]
  have := rdF_cut (a := zs.length) 6 9 q (zig n) 0 [] hz.1 (by simpa using hl) (by simp; omega) hq
  simpa [dig] using this
theorem rd_stage {pre ts L : List Int} {n p : Int} {c : Nat} (hL : L = (pre ++ dig (zig n) ++ ts).take c) (hp : p = pre.length) (hc : pre.length ≤ c) (h : okN n) :
    (c < pre.length + (dig (zig n)).length ∧ rd L p = (0, 0, 11)) ∨ (pre.length + (dig (zig n)).length ≤ c ∧ rd L p = (n, p + ((dig (zig n)).length : Int), 0)) := by
  by_cases hcc : c < pre.length + (dig (zig n)).length
  · refine .inl ⟨hcc, ?_⟩
    have : L = pre ++ (dig (zig n)).take (c - pre.length) := by
      rw [hL, List.take_append_of_le_length (by rw [List.length_append]; omega), List.take_append, List.take_of_length_le hc]
    rw [this, hp]; exact rd_cut h (by omega)
  · refine .inr ⟨by omega, ?_⟩
    refine rdAt (pre := pre) (ts := ts.take (c - (pre ++ dig (zig n)).length)) ?_ hp h
    rw [hL, List.take_append, List.take_of_length_le (by rw [List.length_append]; omega)]
theorem uk_cut {k f t a y : Int} {zs : List Int} {c : Nat} (h : okF k f t a y) (hz : zs.length ≤ 4000) (hc : c < (pkL k f t a y zs).length) : uk0 ((pkL k f t a y zs).take c) 0 = bad 11 := by
  unfold okF at h
  obtain ⟨h1, h2, h3, h4, h5⟩ := h
  have k0 : okN k := ⟨by omega, by omega⟩
  have k1 : okN f := ⟨by omega, by omega⟩
  have k2 : okN t := ⟨by omega, by omega⟩
  have k3 : okN a := ⟨by omega, by omega⟩
  have k4 : okN y := ⟨by omega, by omega⟩
  rcases rd_stage (L := (pkL k f t a y zs).take c) (pre := []) (ts := (dig (zig f) ++ dig (zig t) ++ dig (zig a) ++ dig (zig y) ++ dig (zig zs.length) ++ zs)) (n := k) (p := 0) (c := c) (by unfold pkL; simp) (by first | (simp; done) | (simp only [List.length_append]; omega) | (simp; omega)) (Nat.zero_le _) k0 with ⟨c0, r0⟩ | ⟨c0, r0⟩
  · rw [uk0_e (fld_e r0 (by omega)) (by omega)]
  rcases rd_stage (L := (pkL k f t a y zs).take c) (pre := dig (zig k)) (ts := (dig (zig t) ++ dig (zig a) ++ dig (zig y) ++ dig (zig zs.length) ++ zs)) (n := f) (p := 0 + ((dig (zig k)).length : Int)) (c := c) (by unfold pkL; simp) (by first | (simp; done) | (simp only [List.length_append]; omega) | (simp; omega)) (by first | (simp only [List.length_append]; omega) | omega) k1 with ⟨c1, r1⟩ | ⟨c1, r1⟩
  · rw [uk0_o (fld_o r0 h1), uk1_e (fld_e r1 (by omega)) (by omega)]
  try simp only [List.length_append] at c1
  rcases rd_stage (L := (pkL k f t a y zs).take c) (pre := dig (zig k) ++ dig (zig f)) (ts := (dig (zig a) ++ dig (zig y) ++ dig (zig zs.length) ++ zs)) (n := t) (p := 0 + ((dig (zig k)).length : Int) + ((dig (zig f)).length : Int)) (c := c) (by unfold pkL; simp) (by first | (simp; done) | (simp only [List.length_append]; omega) | (simp; omega)) (by first | (simp only [List.length_append]; omega) | omega) k2 with ⟨c2, r2⟩ | ⟨c2, r2⟩
  · rw [uk0_o (fld_o r0 h1), uk1_o (fld_o r1 h2), uk2_e (fld_e r2 (by omega)) (by omega)]
  try simp only [List.length_append] at c2
  rcases rd_stage (L := (pkL k f t a y zs).take c) (pre := dig (zig k) ++ dig (zig f) ++ dig (zig t)) (ts := (dig (zig y) ++ dig (zig zs.length) ++ zs)) (n := a) (p := 0 + ((dig (zig k)).length : Int) + ((dig (zig f)).length : Int) + ((dig (zig t)).length : Int)) (c := c) (by unfold pkL; simp) (by first | (simp; done) | (simp only [List.length_append]; omega) | (simp; omega)) (by first | (simp only [List.length_append]; omega) | omega) k3 with ⟨c3, r3⟩ | ⟨c3, r3⟩
  · rw [uk0_o (fld_o r0 h1), uk1_o (fld_o r1 h2), uk2_o (fld_o r2 h3), uk3_e (fld_e r3 (by omega)) (by omega)]
  try simp only [List.length_append] at c3
  rcases rd_stage (L := (pkL k f t a y zs).take c) (pre := dig (zig k) ++ dig (zig f) ++ dig (zig t) ++ dig (zig a)) (ts := (dig (zig zs.length) ++ zs)) (n := y) (p := 0 + ((dig (zig k)).length : Int) + ((dig (zig f)).length : Int) + ((dig (zig t)).length : Int) + ((dig (zig a)).length : Int)) (c := c) (by unfold pkL; simp) (by first | (simp; done) | (simp only [List.length_append]; omega) | (simp; omega)) (by first | (simp only [List.length_append]; omega) | omega) k4 with ⟨c4, r4⟩ | ⟨c4, r4⟩
  · rw [uk0_o (fld_o r0 h1), uk1_o (fld_o r1 h2), uk2_o (fld_o r2 h3), uk3_o (fld_o r3 h4), uk4_e (fld_e r4 (by omega)) (by omega)]
  try simp only [List.length_append] at c4
  rcases rd_stage (L := (pkL k f t a y zs).take c) (pre := dig (zig k) ++ dig (zig f) ++ dig (zig t) ++ dig (zig a) ++ dig (zig y)) (ts := zs) (n := zs.length) (p := 0 + ((dig (zig k)).length : Int) + ((dig (zig f)).length : Int) + ((dig (zig t)).length : Int) + ((dig (zig a)).length : Int) + ((dig (zig y)).length : Int)) (c := c) (by unfold pkL; simp) (by first | (simp only [List.length_append]; omega) | omega) (by simp only [List.length_append]; omega) ⟨by omega, by omega⟩ with ⟨c5, r5⟩ | ⟨c5, r5⟩
  · rw [uk0_o (fld_o r0 h1), uk1_o (fld_o r1 h2), uk2_o (fld_o r2 h3), uk3_o (fld_o r3 h4), uk4_o (fld_o r4 h5), uk5_e (rdB_e r5 (by omega)) (by omega)]
  · rw [uk0_o (fld_o r0 h1), uk1_o (fld_o r1 h2), uk2_o (fld_o r2 h3), uk3_o (fld_o r3 h4), uk4_o (fld_o r4 h5), uk5_e (rdB_s r5 (by omega) ?_) (by omega)]
    rw [List.length_take]; unfold pkL at hc ⊢; simp only [List.length_append] at hc ⊢; omega
end Go.Proofs.Ytjlpfhekhpebpaa.WireOwn
