/- The symbolic evaluator, part Q: slices that are appended to, copied and made. Conditions: none; generic over programs. -/
import Derived.Test.YtjibgfihfbdcaaaSyJ
import Derived.Maps.AppendAt
import Derived.Laws.MakeOwn
import Derived.Laws.StructEq
import Derived.Lib.AppendZerosOnto
namespace Go.Sx
open Go.RowKit (Below)

theorem get_lt {α : Type} {l : List α} {i : Nat} {x : α} (h : l[i]? = some x) : i < l.length := by
  rcases Nat.lt_or_ge i l.length with h' | h'
  · exact h'
  · simp [List.getElem?_eq_none h'] at h

section
variable {w0 w : World} {mu : Fm} {bx : List Box} {E : Mem} {ρ : Env}

/-- A row is given up. -/
theorem Rel.kill (h : Rel w0 mu bx E ρ w) (b : Nat) (y : Box) : Rel w0 mu (bx.set b (dead y)) E ρ w := by
  have hd : (dead y).live = false := rfl
  refine ⟨h.keep, by simpa using h.len, ?_, ?_, h.hold, ?_, h.src⟩
  · intro j b' oa h1 h2
    by_cases hj : b = j
    · subst hj
      have hb : b < bx.length := by simpa using get_lt h1
      rw [List.getElem?_set_self hb] at h1
      simp only [Option.some.injEq] at h1; subst h1
      have hbox := h.box b _ oa (List.getElem?_eq_getElem hb) h2
      cases oa with
      | none => exact ⟨rfl, rfl⟩
      | some a => exact ⟨hbox.1, [], rfl, by simp [dead]⟩
    · rw [List.getElem?_set_ne hj] at h1
      exact h.box j b' oa h1 h2
  · intro j b' a h1 ho h2
    by_cases hj : b = j
    · subst hj
      have hb : b < bx.length := by simpa using get_lt h1
      rw [List.getElem?_set_self hb] at h1
      simp only [Option.some.injEq] at h1; subst h1
      cases ho
    · rw [List.getElem?_set_ne hj] at h1
      obtain ⟨t1, t2, t3⟩ := h.sep j b' a h1 ho h2
      refine ⟨t1, ?_, t3⟩
      intro k b3 a3 hkj hk1 hl3 hk2
      by_cases hk : b = k
      · subst hk
        have hb : b < bx.length := by simpa using get_lt hk1
        rw [List.getElem?_set_self hb] at hk1
        simp only [Option.some.injEq] at hk1; subst hk1
        cases hl3
      · rw [List.getElem?_set_ne hk] at hk1
        exact t2 k b3 a3 hkj hk1 hl3 hk2
  · intro j b' a h1 hl h2
    by_cases hj : b = j
    · subst hj
      have hb : b < bx.length := by simpa using get_lt h1
      rw [List.getElem?_set_self hb] at h1
      simp only [Option.some.injEq] at h1; subst h1
      cases hl
    · rw [List.getElem?_set_ne hj] at h1
      exact h.bsrc j b' a h1 hl h2

theorem getElem?_snoc {α : Type} {l : List α} {x y : α} {i : Nat} (h : (l ++ [x])[i]? = some y) : (i < l.length ∧ l[i]? = some y) ∨ (i = l.length ∧ y = x) := by
  by_cases hi : i < l.length
  · rw [List.getElem?_append_left hi] at h; exact .inl ⟨hi, h⟩
  · have hlt := get_lt h
    simp only [List.length_append, List.length_singleton] at hlt
    have : i = l.length := by omega
    subst this
    rw [List.getElem?_append_right (Nat.le_refl _), Nat.sub_self] at h
    simp only [List.getElem?_cons_zero, Option.some.injEq] at h
    exact .inr ⟨rfl, h.symm⟩

/-- One box more: a row that lies where no other box and no fact of memory leads to. -/
theorem Rel.addBox (h : Rel w0 mu bx E ρ w) (y : Box) (oa : Option Addr) (hb : ∀ ρ', ρ <+: ρ' → BoxAt w ρ' oa y)
    (hs : ∀ a, oa = some a → (w0.heap.size ≤ a.block ∨ a.block ∈ mu.mu) ∧
      (∀ (j : Nat) b' a', bx[j]? = some b' → b'.live = true → ρ[j]? = some (some a') → a'.block ≠ a.block) ∧ (∀ v cs, E v cs → cs ≠ [] → blk v ≠ some a.block)) :
    Rel w0 mu (bx ++ [y]) E (ρ ++ [oa]) w := by
  have hp : ρ <+: ρ ++ [oa] := List.prefix_append _ _
  have hl := h.len
  refine ⟨h.keep, by simp [hl], ?_, ?_, h.hold, ?_, h.src⟩
  · intro i b o h1 h2
    rcases getElem?_snoc h1 with ⟨hi, h1⟩ | ⟨rfl, rfl⟩
    · rcases getElem?_snoc h2 with ⟨_, h2⟩ | ⟨rfl, rfl⟩
      · exact (h.box i b o h1 h2).mono hp
      · omega
    · rcases getElem?_snoc h2 with ⟨h2, _⟩ | ⟨_, rfl⟩
      · omega
      · exact hb _ hp
  · intro i b a h1 ho h2
    rcases getElem?_snoc h1 with ⟨hi, h1⟩ | ⟨rfl, rfl⟩
    · rcases getElem?_snoc h2 with ⟨_, h2⟩ | ⟨rfl, _⟩
      · obtain ⟨t1, t2, t3⟩ := h.sep i b a h1 ho h2
        refine ⟨t1, ?_, t3⟩
        intro j b' a' hji hj1 hlv hj2
        rcases getElem?_snoc hj1 with ⟨_, hj1⟩ | ⟨rfl, rfl⟩
        · rcases getElem?_snoc hj2 with ⟨_, hj2⟩ | ⟨rfl, _⟩
          · exact t2 j b' a' hji hj1 hlv hj2
          · omega
        · rcases getElem?_snoc hj2 with ⟨hj2, _⟩ | ⟨_, hj2⟩
          · omega
          · exact Ne.symm ((hs a' hj2.symm).2.1 i b a (by rwa [List.getElem?_append_left hi] at h1) (by simp [Box.live, ho]) h2)
      · omega
    · rcases getElem?_snoc h2 with ⟨h2, _⟩ | ⟨_, h2⟩
      · omega
      · obtain ⟨t1, t2, t3⟩ := hs a h2.symm
        refine ⟨t1, ?_, t3⟩
        intro j b' a' hji hj1 hlv hj2
        rcases getElem?_snoc hj1 with ⟨hj, hj1⟩ | ⟨rfl, rfl⟩
        · rcases getElem?_snoc hj2 with ⟨_, hj2⟩ | ⟨rfl, _⟩
          · exact t2 j b' a' hj1 hlv hj2
          · omega
        · exact absurd rfl hji
  · intro i b a h1 hlv h2
    rcases getElem?_snoc h1 with ⟨hi, h1⟩ | ⟨rfl, rfl⟩
    · rcases getElem?_snoc h2 with ⟨_, h2⟩ | ⟨rfl, _⟩
      · exact h.bsrc i b a h1 hlv h2
      · omega
    · rcases getElem?_snoc h2 with ⟨h2, _⟩ | ⟨_, h2⟩
      · omega
      · exact (hs a h2.symm).1

/-- A row that no box and no fact of memory leads to is written. -/
theorem Rel.write (h : Rel w0 mu bx E ρ w) {g : Nat} (hg : w0.heap.size ≤ g ∨ g ∈ mu.mu)
    (hb : ∀ (j : Nat) b' a', bx[j]? = some b' → b'.live = true → ρ[j]? = some (some a') → a'.block ≠ g) (hE : ∀ v cs, E v cs → cs ≠ [] → blk v ≠ some g) (cs : Array Value) : Rel w0 mu bx E ρ (w.setRow g cs) := by
  refine ⟨h.keep.setRow hg _, h.len, ?_, h.sep, ?_, h.bsrc, h.src⟩
  · intro j b' oa h1 h2
    refine (h.box j b' oa h1 h2).of_block fun a ha hlive => ?_
    subst ha
    exact setRow_other w g _ _ (hb j b' a h1 hlive h2)
  · intro v cs hv
    exact (h.hold v cs hv).of_block fun bb hne hbb => setRow_other w g bb _ (by
      rintro rfl
      exact hE v cs hv hne hbb)
end

section
variable {P : Program} {w0 w : World} {mu : Fm} {bx : List Box} {E : Mem} {ρ : Env}

theorem firstCells_addr {z m : Nat} {a : Addr} {len cap : Nat} {news : List Value} {w' : World} (hl : news.length = m * z) (h : ∀ j u, news[j]? = some u → w'.cell? (a.add j) = some u) :
    (Builtin.firstCells z m (.slice (some a) len cap)).run P w' = .ok news.toArray w' := run_firstCells_some w' z m a len cap news hl h

theorem cell_heap {w w' : World} (h : w'.heap = w.heap) (a : Addr) : w'.cell? a = w.cell? a := by unfold World.cell?; rw [h]

/-- What a source of append or copy holds. -/
structure Src (P : Program) (w : World) (ρ : Env) (z : Nat) (xv : Value) (m : Nat) (row : Row) (news : List Value) : Prop where
  den : SV.denL ρ row.cells = some news
  len : news.length = m * z
  one : ∀ u ∈ news, u.oneCell' = true
  lenOf : ∀ w, (Builtin.lenOf xv).run P w = .ok m w
  cells : ∀ k, k ≤ m → ∀ w', w'.heap = w.heap → (Builtin.firstCells z k xv).run P w' = .ok (news.take (k * z)).toArray w'

theorem all_one_den' {ρ : Env} {l : List SV} {vs : List Value} (h : l.all SV.one = true) (hv : SV.denL ρ l = some vs) : ∀ x ∈ vs, x.oneCell' = true := all_one_den h hv

theorem Src.of_cells {z m cap : Nat} {a : Addr} {row : Row} {news : List Value} (hd : SV.denL ρ row.cells = some news) (hl : news.length = m * z) (h1 : ∀ u ∈ news, u.oneCell' = true)
    (hc : ∀ j u, news[j]? = some u → w.cell? (a.add j) = some u) : Src P w ρ z (.slice (some a) m cap) m row news :=
  ⟨hd, hl, h1, fun w => by simp [Builtin.lenOf], fun k hk w' hw => by
    refine firstCells_addr ?_ ?_
    · rw [List.length_take, hl, Nat.min_eq_left (Nat.mul_le_mul_right _ hk)]
    · intro j u hu
      rw [cell_heap hw]
      have hj : j < k * z := by
        have := get_lt hu
        rw [List.length_take] at this; omega
      rw [List.getElem?_take_of_lt hj] at hu
      exact hc j u hu⟩

theorem Src.of_none {z m cap : Nat} {row : Row} (hd : SV.denL ρ row.cells = some []) (hm : m * z = 0) : Src P w ρ z (.slice none m cap) m row [] :=
  ⟨hd, by simp [hm], by simp, fun w => by simp [Builtin.lenOf], fun k hk w' hw => by simp [Builtin.firstCells]⟩

theorem srcW_sound {z : Nat} {x : SV} {K : Nat → Row → Prop} (h : srcW z x bx E K) (hR : Rel w0 mu bx E ρ w) {xv : Value} (hx : x.den ρ = some xv) :
    ∃ m row news, K m row ∧ Src P w ρ z xv m row news := by
  unfold srcW at h
  split at h
  · rename_i base m cap
    simp only [SV.den, Option.some.injEq] at hx; subst hx
    obtain ⟨cs, hE, hle, h1, h⟩ := h
    refine ⟨m, _, cs.take (m * z), h, ?_⟩
    have hrow : RowAt w (.slice base m cap) cs := by
      rcases hE with rfl | hE
      · exact .inl rfl
      · exact hR.hold _ _ hE
    have hd : SV.denL ρ (Row.cells (.vals (cs.take (m * z)))) = some (cs.take (m * z)) := denL_raw _
    have hlen : (cs.take (m * z)).length = m * z := by rw [List.length_take]; omega
    have hone : ∀ u ∈ cs.take (m * z), u.oneCell' = true := fun u hu => h1 u (List.mem_of_mem_take hu)
    cases base with
    | none =>
      have hnil : cs = [] := by
        rcases hrow with hrow | ⟨a, _, _, e, _⟩
        · exact hrow
        · cases e
      subst hnil
      simp only [List.take_nil] at hd ⊢
      exact Src.of_none hd (by simp only [List.length_nil] at hle; omega)
    | some a =>
      refine Src.of_cells hd hlen hone ?_
      intro j u hu
      rcases hrow with rfl | ⟨a', _, _, e, hs, hc⟩
      · simp at hu
      · cases e
        have hj := get_lt hu
        rw [List.length_take] at hj
        rw [List.getElem?_take_of_lt (by omega)] at hu
        rw [add_eq hs]; exact hc j u hu
  · rename_i b off m cap
    split at h
    case h_2 => exact h.elim
    rename_i y hy
    have hi := get_lt hy
    have hρi : b < ρ.length := by rw [hR.len]; exact hi
    -- the box's cells
    have key : ∀ cells row, y.cells = cells → off + m * z ≤ cells.length → row.cells = (cells.drop off).take (m * z) → (∀ vs, SV.denL ρ cells = some vs → ∀ u ∈ vs, u.oneCell' = true) → ∃ news, Src P w ρ z xv m row news := by
      intro cells row hcl hle hrow hone
      simp only [SV.den] at hx
      rcases slcDen_some hx with ⟨c, hc, rfl⟩ | ⟨hn, rfl, rfl, rfl, rfl⟩
      · obtain ⟨h1, vs, h2, h3⟩ := hR.read' hy hc
        rw [hcl] at h2
        have hvl := denL_length h2
        have hd := denL_take (denL_drop h2 off) (m * z)
        refine ⟨(vs.drop off).take (m * z), Src.of_cells (by rw [hrow]; exact hd) (by simp only [List.length_take, List.length_drop]; omega) (fun u hu => hone vs h2 u (List.mem_of_mem_drop (List.mem_of_mem_take hu))) ?_⟩
        intro j u hu
        have hj := get_lt hu
        simp only [List.length_take, List.length_drop] at hj
        rw [List.getElem?_take_of_lt (by omega), List.getElem?_drop] at hu
        rw [add_add h1]; exact h3 _ _ hu
      · refine ⟨[], Src.of_none ?_ (by simp)⟩
        rw [hrow]; simp [SV.denL]
    split at h
    · rename_i cells hcl
      split at h
      case isFalse => exact h.elim
      rename_i hc
      obtain ⟨news, hs⟩ := key cells (.lst ((cells.drop off).take (m * z))) (by simp [Box.cells, hcl, Row.cells]) hc.1 rfl (fun vs hd => all_one_den hc.2 hd)
      exact ⟨m, _, news, h, hs⟩
    · rename_i vs hcl
      obtain ⟨h1, h2, h⟩ := h
      obtain ⟨news, hs⟩ := key (vs.map .raw) (.vals ((vs.drop off).take (m * z))) (by simp [Box.cells, hcl, Row.cells]) (by simpa using h1) (by simp [Row.cells, List.map_take, List.map_drop]) (fun us hd => by
        rw [denL_raw] at hd; cases hd; exact h2)
      exact ⟨m, _, news, h, hs⟩
  · exact h.elim

/-- The first cells of a row of values, and what they denote. -/
theorem rowTake_den {n : Nat} {r : Row} {vs : List Value} (h : SV.denL ρ r.cells = some vs) : SV.denL ρ (rowTake n r).cells = some (vs.take n) := by
  have e : (rowTake n r).cells = r.cells.take n := by cases r <;> simp [rowTake, Row.cells, List.map_take]
  rw [e]; exact denL_take h n

theorem rowApp_sound {a b : Row} {K : Row → Prop} {us vs : List Value} (h : rowApp a b K) (ha : SV.denL ρ a.cells = some us) (hb : SV.denL ρ b.cells = some vs) : ∃ r, K r ∧ SV.denL ρ r.cells = some (us ++ vs) := by
  unfold rowApp at h
  split at h
  · exact ⟨_, h, denL_append ha hb⟩
  · refine ⟨_, h, ?_⟩
    have := denL_append ha hb
    simpa [Row.cells, List.map_append] using this
  · split at h
    case h_2 => exact h.elim
    rename_i hl
    refine ⟨_, h, ?_⟩
    have h1 := SV.denL_of_val ρ _ hl
    simp only [Row.cells] at ha hb ⊢
    rw [h1] at ha; cases ha
    have := denL_append (denL_raw (ρ := ρ) us) hb
    simpa [List.map_append] using this
  · split at h
    case h_2 => exact h.elim
    rename_i hl
    refine ⟨_, h, ?_⟩
    have h1 := SV.denL_of_val ρ _ hl
    simp only [Row.cells] at ha hb ⊢
    rw [h1] at hb; cases hb
    have := denL_append ha (denL_raw (ρ := ρ) vs)
    simpa [List.map_append] using this

/-- append, by what is read. -/
theorem run_append' {t u ty e f : TypeId} {i : TypeInfo} {zv : Value} (ht : P.underlying t = some (.slice e)) (hu : P.underlying u = some (.slice f)) (hi : P.info? e = some i) (hz : i.zero = some zv)
    {base : Option Addr} {n cap m : Nat} {xv : Value} {row : Row} {olds news : List Value} (hx : Src P w ρ i.size xv m row news)
    (ho : ∀ w', w'.heap = w.heap → (Builtin.firstCells i.size n (.slice base n cap)).run P w' = .ok olds.toArray w') (hb : (n + m) * max i.bytes 1 ≤ 140737488355328) :
    (n + m ≤ cap → (base = none → (Builtin.append_ #[t, u] ty #[.slice base n cap, xv]).run P w = .ok (.slice none (n + m) cap) w) ∧
      (∀ g cur e', base = some ⟨g, 0, none⟩ → w.heap[g]? = some (.cells cur e' (0, 0)) → n * i.size + news.length ≤ cur.size →
        (Builtin.append_ #[t, u] ty #[.slice base n cap, xv]).run P w = .ok (.slice (some ⟨g, 0, none⟩) (n + m) cap) (w.setRow g (cur.toList.take (n * i.size) ++ news ++ cur.toList.drop (n * i.size + news.length)).toArray))) ∧
    (cap < n + m → ∃ C, n + m ≤ C ∧ (Builtin.append_ #[t, u] ty #[.slice base n cap, xv]).run P w = .ok (.slice (some ⟨w.heap.size, 0, none⟩) (n + m) C)
      (w.drew.alloc (.cells ((olds ++ news) ++ (Builtin.zeroCells zv.cells (C - (n + m))).toList).toArray e))) := by
  have harr : ∀ (a b : List Value) (c : Array Value), a.toArray ++ (b.toArray ++ c) = (a ++ (b ++ c.toList)).toArray := fun a b c => by apply Array.ext'; simp
  have h1 : n + m ≤ (n + m) * max i.bytes 1 := Nat.le_mul_of_pos_right _ (by omega)
  have h2 : (n + m) * i.bytes ≤ (n + m) * max i.bytes 1 := Nat.mul_le_mul_left _ (by omega)
  have hnews : ∀ w', w'.heap = w.heap → (Builtin.firstCells i.size m xv).run P w' = .ok news.toArray w' := fun w' hw => by
    have := hx.cells m (Nat.le_refl _) w' hw
    rwa [List.take_of_length_le (by rw [hx.len]; exact Nat.le_refl _)] at this
  constructor
  · intro hroom
    constructor
    · rintro rfl
      simp [Builtin.append_, run_underlying ht, run_underlying hu, sizeOf, typeInfo, hi, hx.lenOf, hroom, hnews w rfl]
    · rintro g cur e' rfl hg hfit
      have hst := run_storeCells_at (P := P) g (n * i.size) e' news 0 cur w hg (by simpa using hfit) hx.one
      simp only [Nat.add_zero] at hst
      simp [Builtin.append_, run_underlying ht, run_underlying hu, sizeOf, typeInfo, hi, hx.lenOf, hroom, hnews w rfl, Addr.add_lit, hst]
  · intro hg
    have hn : ¬ (n + m ≤ cap) := by omega
    have h63' : ¬ (9223372036854775807 < ((n : Int) + (m : Int))) := by omega
    have hfit := growslice_fits (bytes := i.bytes) hg (by omega)
    have h48' : ¬ (281474976710656 < Builtin.nextslicecap (n + m) cap * i.bytes) := by omega
    refine ⟨grownCap w (n + m) cap e, grownCap_ge w _ _ e, ?_⟩
    simp [Builtin.append_, run_underlying ht, run_underlying hu, sizeOf, typeInfo, zeroValue, hi, hz, hx.lenOf, hn, h63', h48', Question.forced, ho w.drew rfl, hnews w.drew rfl, newRow, grownCap, harr]

theorem appendC_sound {t u ty e f : TypeId} (ht : P.underlying t = some (.slice e)) (hu : P.underlying u = some (.slice f)) {s : SV} {K : KT} {i : TypeInfo} {zv : Value} (hi : P.info? e = some i) (hz : i.zero = some zv)
    (hzs : zv.cells.size = i.size) (_ : 0 < i.size) {m : Nat} {new : Row} {news : List Value} {xv : Value} (h : appendC e i s m new bx E K) (hsrc : Src P w ρ i.size xv m new news) (hR : Rel w0 mu bx E ρ w) {sv : Value} (hs : s.den ρ = some sv) :
    ∃ v w' s' bx' ρ', (Builtin.append_ #[t, u] ty #[sv, xv]).run P w = .ok v w' ∧ ρ <+: ρ' ∧ s'.den ρ' = some v ∧ Rel w0 mu bx' E ρ' w' ∧ K s' bx' E := by
  unfold appendC at h
  have hdrew : Rel w0 mu bx E ρ w.drew := hR.drew _
  split at h
  · -- nil
    rename_i base n cap
    simp only [SV.den, Option.some.injEq] at hs; subst hs
    split at h
    case h_2 => exact h.elim
    split at h
    case isFalse => exact h.elim
    rename_i hn
    obtain ⟨rfl, rfl⟩ := hn
    obtain ⟨hb, h⟩ := req_elim h
    have hrun := run_append' (ty := ty) (base := none) (n := 0) (cap := 0) (olds := []) ht hu hi hz hsrc (fun w' hw => by simp [Builtin.firstCells]) (by simpa using hb)
    simp only [Nat.zero_add, List.nil_append] at hrun
    by_cases hroom : m ≤ 0
    · obtain rfl : m = 0 := by omega
      have hnil : news = [] := by have := hsrc.len; simpa using this
      subst hnil
      have hcn : new.cells = [] := by
        have := denL_length hsrc.den
        exact List.eq_nil_of_length_eq_zero this.symm
      refine ⟨_, w, _, _, ρ ++ [none], by simpa using (hrun.1 (Nat.le_refl _)).1, List.prefix_append _ _, ?_, hR.addBox ⟨e, new, 0, true⟩ none (fun ρ' _ => ⟨hcn, rfl⟩) (fun a ha => by cases ha), h 0 0 (Nat.le_refl _) (by simp)⟩
      simp [SV.den, slcDen, ← hR.len]
    · obtain ⟨C, hC, hr⟩ := hrun.2 (by omega)
      have hR' := hdrew.alloc e new news (Builtin.zeroCells zv.cells (C - m)).toList (C * i.size) hsrc.den (by
        simp only [List.length_append, hsrc.len, Array.length_toList, size_zeroCells, hzs, ← Nat.add_mul]
        congr 1; omega)
      refine ⟨_, _, _, _, _, hr, List.prefix_append _ _, ?_, hR', h C _ hC (Nat.le_refl _)⟩
      simp only [SV.den, slcDen, ← hR.len, List.getElem?_append_right (Nat.le_refl _), Nat.sub_self, List.getElem?_cons_zero]
      rfl
  · rename_i b off n cap
    split at h
    case isFalse => exact h.elim
    rename_i hof
    subst hof
    split at h
    case h_2 => exact h.elim
    rename_i e' r tot hbx
    split at h
    case isFalse => exact h.elim
    rename_i he
    subst he
    obtain ⟨hlen, hcap, hnc, h⟩ := h
    obtain ⟨hb, h⟩ := req_elim h
    have hi' := get_lt hbx
    simp only [SV.den] at hs
    -- what the old row holds
    have hkill := hR.kill b ⟨e', r, tot, true⟩
    rcases slcDen_some hs with ⟨c, hc, rfl⟩ | ⟨hn, _, rfl, rfl, rfl⟩
    · obtain ⟨hsp, olds, hold, h3⟩ := hR.box b _ _ hbx hc
      simp only [if_true] at h3
      obtain ⟨hoff, junk, hheap, htot⟩ := h3
      have hcg : c = ⟨c.block, 0, none⟩ := by cases c; simp only at hsp hoff; subst hsp; subst hoff; rfl
      have hc0 : c.add 0 = c := by rw [add_eq hsp]; simp only [Nat.add_zero]; rw [← hsp]
      rw [hc0]
      have holdl : olds.length = r.cells.length := denL_length hold
      obtain ⟨row, h, hrow⟩ := rowApp_sound h (rowTake_den (n := n * i.size) hold) hsrc.den
      obtain ⟨t1, t2, t3⟩ := hR.sep b _ c hbx rfl hc
      have hrun := run_append' (ty := ty) (base := some c) (n := n) (cap := cap) (olds := olds.take (n * i.size)) ht hu hi hz hsrc (fun w' hw => by
        refine firstCells_addr (by rw [List.length_take]; omega) ?_
        intro j u hu
        have hj := get_lt hu
        rw [List.length_take] at hj
        rw [List.getElem?_take_of_lt (by omega)] at hu
        rw [cell_heap hw, add_eq hsp, cell_of_row w c.block (c.off + j) _ _ _ hheap, hoff, Nat.zero_add]
        simp [List.getElem?_append_left (show j < olds.length by omega), hu]) hb
      by_cases hroom : n + m ≤ cap
      · -- in place
        have hfit : n * i.size + news.length ≤ (olds ++ junk).toArray.size := by
          rw [List.size_toArray, htot, hsrc.len, ← Nat.add_mul]
          exact Nat.le_trans (Nat.mul_le_mul_right _ hroom) hcap
        have hr := (hrun.1 hroom).2 c.block _ _ (by rw [← hcg]) hheap hfit
        have hw := hkill.write (g := c.block) t1 (fun j b' a' hj1 hl hj2 => by
          by_cases hj : b = j
          · subst hj
            rw [List.getElem?_set_self hi'] at hj1
            simp only [Option.some.injEq] at hj1; subst hj1; cases hl
          · rw [List.getElem?_set_ne hj] at hj1
            exact t2 j b' a' (Ne.symm hj) hj1 hl hj2) t3 ((olds ++ junk).toArray.toList.take (n * i.size) ++ news ++ (olds ++ junk).toArray.toList.drop (n * i.size + news.length)).toArray
        have hadd := hw.addBox ⟨e', row, tot, true⟩ (some c) (fun ρ' hp => ⟨hsp, _, SV.denL_mono hp _ hrow, by
          simp only [if_true]
          refine ⟨hoff, (olds ++ junk).drop (n * i.size + news.length), ?_, ?_⟩
          · rw [setRow_heap w c.block _ _ _ (0, 0) hheap]
            simp only [List.append_assoc]
            rw [List.take_append_of_le_length (by omega)]
          · simp only [List.size_toArray] at hfit
            simp only [List.length_append, List.length_take, List.length_drop] at htot hfit ⊢
            omega⟩) (fun a ha => by
          cases ha
          refine ⟨t1, ?_, t3⟩
          intro j b' a' hj1 hl hj2
          by_cases hj : b = j
          · subst hj
            rw [List.getElem?_set_self hi'] at hj1
            simp only [Option.some.injEq] at hj1; subst hj1; cases hl
          · rw [List.getElem?_set_ne hj] at hj1
            exact t2 j b' a' (Ne.symm hj) hj1 hl hj2)
        refine ⟨_, _, _, _, _, hr, List.prefix_append _ _, ?_, hadd, h cap tot hroom hcap⟩
        simp only [SV.den, slcDen, ← hR.len, List.getElem?_append_right (Nat.le_refl _), Nat.sub_self, List.getElem?_cons_zero]
        rw [hc0, ← hcg]
      · obtain ⟨C, hC, hr⟩ := hrun.2 (by omega)
        have hR' := (Rel.drew hkill (w.drawn + 1)).alloc e' row _ (Builtin.zeroCells zv.cells (C - (n + m))).toList (C * i.size) hrow (by
          simp only [List.length_append, List.length_take, hsrc.len, Array.length_toList, size_zeroCells, hzs]
          rw [Nat.min_eq_left (by omega), ← Nat.add_mul, ← Nat.add_mul]
          congr 1; omega)
        refine ⟨_, _, _, _, _, hr, List.prefix_append _ _, ?_, hR', h C _ hC (Nat.le_refl _)⟩
        simp only [SV.den, slcDen, ← hR.len, List.getElem?_append_right (Nat.le_refl _), Nat.sub_self, List.getElem?_cons_zero]
        rfl
    · -- a nil slice in a box
      have hbox := hR.box b _ _ hbx hn
      have hr0 : r.cells = [] := hbox.1
      have ht0 : tot = 0 := hbox.2
      subst ht0
      have hold : SV.denL ρ r.cells = some [] := by rw [hr0]; rfl
      obtain ⟨row, h, hrow⟩ := rowApp_sound h (rowTake_den (n := 0 * i.size) hold) hsrc.den
      simp only [List.take_nil, List.nil_append] at hrow
      have hrun := run_append' (ty := ty) (base := none) (n := 0) (cap := 0) (olds := []) ht hu hi hz hsrc (fun w' hw => by simp [Builtin.firstCells]) (by simpa using hb)
      simp only [Nat.zero_add, List.nil_append] at hrun h
      by_cases hroom : m ≤ 0
      · obtain rfl : m = 0 := by omega
        have hnil : news = [] := by have := hsrc.len; simpa using this
        subst hnil
        have hcn : row.cells = [] := by
          have := denL_length hrow
          exact List.eq_nil_of_length_eq_zero this.symm
        refine ⟨_, w, _, _, ρ ++ [none], by simpa using (hrun.1 (Nat.le_refl _)).1, List.prefix_append _ _, ?_, hkill.addBox ⟨e', row, 0, true⟩ none (fun ρ' _ => ⟨hcn, rfl⟩) (fun a ha => by cases ha), h 0 0 (Nat.le_refl _) (by simp)⟩
        simp [SV.den, slcDen, ← hR.len]
      · obtain ⟨C, hC, hr⟩ := hrun.2 (by omega)
        have hR' := (Rel.drew hkill (w.drawn + 1)).alloc e' row news (Builtin.zeroCells zv.cells (C - m)).toList (C * i.size) hrow (by
          simp only [List.length_append, hsrc.len, Array.length_toList, size_zeroCells, hzs, ← Nat.add_mul]
          congr 1; omega)
        refine ⟨_, _, _, _, _, hr, List.prefix_append _ _, ?_, hR', h C _ hC (Nat.le_refl _)⟩
        simp only [SV.den, slcDen, ← hR.len, List.getElem?_append_right (Nat.le_refl _), Nat.sub_self, List.getElem?_cons_zero]
        rfl
  · exact h.elim
theorem appendW_sound {t u ty e f : TypeId} (ht : P.underlying t = some (.slice e)) (hu : P.underlying u = some (.slice f)) {s x : SV} {K : KT} (h : appendW P e s x bx E K) (hR : Rel w0 mu bx E ρ w) {sv xv : Value} (hs : s.den ρ = some sv) (hx : x.den ρ = some xv) :
    ∃ v w' s' bx' E' ρ', (Builtin.append_ #[t, u] ty #[sv, xv]).run P w = .ok v w' ∧ ρ <+: ρ' ∧ s'.den ρ' = some v ∧ Rel w0 mu bx' E' ρ' w' ∧ K s' bx' E' := by
  unfold appendW at h
  split at h
  case h_2 => exact h.elim
  rename_i i hi
  split at h
  case h_2 => exact h.elim
  rename_i zv hz
  split at h
  case isFalse => exact h.elim
  rename_i hc
  obtain ⟨hzs, hpos⟩ := hc
  have h0 := srcW_sound (P := P) h hR hx
  clear h
  obtain ⟨m, new, news, h, hsrc⟩ := h0
  have fin : ∀ {row : Row} {bx2 : List Box} {E2 : Mem}, appendC e i s m row bx2 E2 K → Src P w ρ i.size xv m row news → Rel w0 mu bx2 E2 ρ w →
      ∃ v w' s' bx' E' ρ', (Builtin.append_ #[t, u] ty #[sv, xv]).run P w = .ok v w' ∧ ρ <+: ρ' ∧ s'.den ρ' = some v ∧ Rel w0 mu bx' E' ρ' w' ∧ K s' bx' E' := by
    intro row bx2 E2 h1 h2 h3
    obtain ⟨v, w', s', bx', ρ', q⟩ := appendC_sound (ty := ty) ht hu hi hz hzs hpos h1 h2 h3 hs
    exact ⟨v, w', s', bx', E2, ρ', q⟩
  cases hr : rawRow s bx with
  | false => rw [hr] at h; exact fin h hsrc hR
  | true =>
    rw [hr] at h
    simp only [cond] at h
    split at h
    · rename_i l
      split at h
      · exact fin h hsrc hR
      · obtain ⟨l', bx2, E2, h1, h2, h3⟩ := pubW_sound 8 l bx E news h hR hsrc.den
        exact fin h3 { hsrc with den := h1 } h2
    · exact fin h hsrc hR
/-- Cells laid over a row of the activation's own, and the number of elements. -/
theorem copy_own {t u ty e f : TypeId} (ht : P.underlying t = some (.slice e)) (_hu : P.underlying u = some (.slice f)) {i : TypeInfo} (hi : P.info? e = some i) (hR : Rel w0 mu bx E ρ w) {b off n cap m : Nat} {e' : TypeId} {r row : Row} {tot : Nat} {sv xv : Value} {new : Row} {news : List Value}
    (hbx : bx[b]? = some ⟨e', r, tot, true⟩) (hs : slcDen ρ b off n cap = some sv) (hsrc : Src P w ρ i.size xv m new news) (hle : off + n * i.size ≤ r.cells.length)
    (hrow : ∀ vs, SV.denL ρ r.cells = some vs → SV.denL ρ row.cells = some (vs.take off ++ news.take (min m n * i.size) ++ vs.drop (off + (news.take (min m n * i.size)).length))) :
    ∃ w', (Builtin.copy_ #[t, u] ty #[sv, xv]).run P w = .ok (.int .i64 (min m n : Nat)) w' ∧ Rel w0 mu (bx.set b ⟨e', row, tot, true⟩) E ρ w' := by
  have hnews : ∀ k, k ≤ m → (Builtin.firstCells i.size k xv).run P w = .ok (news.take (k * i.size)).toArray w := fun k hk => hsrc.cells k hk w rfl
  have hmin : (Builtin.firstCells i.size (min m n) xv).run P w = .ok (news.take (min m n * i.size)).toArray w := hnews _ (Nat.min_le_left _ _)
  rcases slcDen_some hs with ⟨c, hc, rfl⟩ | ⟨hn, rfl, rfl, rfl, rfl⟩
  · obtain ⟨hsp, olds, hold, h3⟩ := hR.box b _ _ hbx hc
    simp only [if_true] at h3
    obtain ⟨hoff, junk, hheap, htot⟩ := h3
    have hcg : c = ⟨c.block, 0, none⟩ := by cases c; simp only at hsp hoff; subst hsp; subst hoff; rfl
    have holdl : olds.length = r.cells.length := denL_length hold
    have hnl : (news.take (min m n * i.size)).length = min m n * i.size := by
      rw [List.length_take, hsrc.len, Nat.min_eq_left (Nat.mul_le_mul_right _ (Nat.min_le_left _ _))]
    have hmul : min m n * i.size ≤ n * i.size := Nat.mul_le_mul_right _ (Nat.min_le_right _ _)
    have hst := run_storeCells_at (P := P) c.block off e' (news.take (min m n * i.size)) 0 _ w hheap (by
      simp only [List.size_toArray, List.length_append]; omega) (fun v hv => hsrc.one v (List.mem_of_mem_take hv))
    simp only [Nat.add_zero] at hst
    have hadd : c.add off = ⟨c.block, off, none⟩ := by rw [add_eq hsp, hoff, Nat.zero_add]
    have hset := hR.setRow (r := row) (vs := olds.take off ++ news.take (min m n * i.size) ++ olds.drop (off + (news.take (min m n * i.size)).length)) (junk := junk) hbx rfl (by rw [← hcg]; exact hc) (hrow olds hold) (by
      simp only [List.length_append, List.length_drop] at htot ⊢
      rw [List.length_take]
      omega)
    refine ⟨_, ?_, hset⟩
    rw [hadd]
    have hr : (Builtin.copy_ #[t, u] ty #[.slice (some ⟨c.block, off, none⟩) n cap, xv]).run P w = .ok (.int .i64 (min m n : Nat)) (w.setRow c.block ((olds ++ junk).toArray.toList.take off ++ news.take (min m n * i.size) ++ (olds ++ junk).toArray.toList.drop (off + (news.take (min m n * i.size)).length)).toArray) := by
      have e1 : Nat.min m n = min m n := rfl
      simp [Builtin.copy_, run_underlying ht, sizeOf, typeInfo, hi, hsrc.lenOf, e1, hmin, hst, goInt]
    rw [hr]
    congr 2
    simp only [List.append_assoc]
    rw [List.take_append_of_le_length (by omega), List.drop_append_of_le_length (by omega)]
  · have hbox := hR.box b _ _ hbx hn
    have hr0 : r.cells = [] := hbox.1
    have ht0 : tot = 0 := hbox.2
    subst ht0
    have hd := hrow [] (by rw [hr0]; rfl)
    have hrc : row.cells = [] := by
      have := denL_length hd
      refine List.eq_nil_of_length_eq_zero ?_
      rw [← this]; simp
    have e1 : Nat.min m 0 = 0 := Nat.min_zero m
    have e2 : min m 0 = 0 := Nat.min_zero m
    rw [e2] at hmin ⊢
    refine ⟨w, ?_, ?_⟩
    · simp [Builtin.copy_, run_underlying ht, sizeOf, typeInfo, hi, hsrc.lenOf, hmin, goInt]
    · -- a nil row, named anew
      have hi' := get_lt hbx
      have hk := hR.kill b ⟨e', r, 0, true⟩
      refine ⟨hR.keep, by simpa using hR.len, ?_, ?_, hR.hold, ?_, hR.src⟩
      · intro j b' oa h1 h2
        by_cases hj : b = j
        · subst hj
          rw [List.getElem?_set_self hi'] at h1
          simp only [Option.some.injEq] at h1; subst h1
          rw [hn] at h2; cases h2
          exact ⟨hrc, rfl⟩
        · rw [List.getElem?_set_ne hj] at h1
          exact hR.box j b' oa h1 h2
      · intro j b' a h1 ho h2
        have hj : b ≠ j := by rintro rfl; rw [hn] at h2; cases h2
        rw [List.getElem?_set_ne hj] at h1
        obtain ⟨t1, t2, t3⟩ := hR.sep j b' a h1 ho h2
        refine ⟨t1, ?_, t3⟩
        intro k b3 a3 hkj hk1 hl3 hk2
        have hk : b ≠ k := by rintro rfl; rw [hn] at hk2; cases hk2
        rw [List.getElem?_set_ne hk] at hk1
        exact t2 k b3 a3 hkj hk1 hl3 hk2
      · intro j b' a h1 hl h2
        have hj : b ≠ j := by rintro rfl; rw [hn] at h2; cases h2
        rw [List.getElem?_set_ne hj] at h1
        exact hR.bsrc j b' a h1 hl h2

theorem asVals_den {r src : Row} {vs : List Value} (h : SV.denL ρ src.cells = some vs) : SV.denL ρ (asVals r src).cells = some vs := by
  unfold asVals
  split
  · rename_i l
    split
    · rename_i us hus
      have := SV.denL_of_val ρ l hus
      simp only [Row.cells] at h ⊢
      rw [this] at h; cases h; exact denL_raw _
    · exact h
  · exact h
/-- Cells laid over a row of values of the activation's own; only what is copied need be known. -/
theorem copy_vals {t u ty e f : TypeId} (ht : P.underlying t = some (.slice e)) (_hu : P.underlying u = some (.slice f)) {i : TypeInfo} (hi : P.info? e = some i) (hR : Rel w0 mu bx E ρ w) {b off n cap m : Nat} {e' : TypeId} {vs : List Value} {tot : Nat} {sv xv : Value} {news : List Value}
    (hbx : bx[b]? = some ⟨e', .vals vs, tot, true⟩) (hs : slcDen ρ b off n cap = some sv) (hlen : ∀ w, (Builtin.lenOf xv).run P w = .ok m w) (hmin : (Builtin.firstCells i.size (min m n) xv).run P w = .ok news.toArray w)
    (hnl : news.length = min m n * i.size) (hone : ∀ u ∈ news, u.oneCell' = true) (hle0 : off ≤ vs.length) (hle : off + min m n * i.size ≤ vs.length ∨ off + min m n * i.size ≤ tot) :
    ∃ w', (Builtin.copy_ #[t, u] ty #[sv, xv]).run P w = .ok (.int .i64 (min m n : Nat)) w' ∧ Rel w0 mu (bx.set b ⟨e', .vals (layV vs off news), tot, true⟩) E ρ w' := by
  have e1 : Nat.min m n = min m n := rfl
  rcases slcDen_some hs with ⟨c, hc, rfl⟩ | ⟨hn, rfl, rfl, rfl, rfl⟩
  · obtain ⟨hsp, olds, hold, h3⟩ := hR.box b _ _ hbx hc
    simp only [if_true] at h3
    obtain ⟨hoff, junk, hheap, htot⟩ := h3
    have hcg : c = ⟨c.block, 0, none⟩ := by cases c; simp only at hsp hoff; subst hsp; subst hoff; rfl
    have holds : olds = vs := by
      have := denL_raw (ρ := ρ) vs
      have h9 : SV.denL ρ (vs.map .raw) = some olds := hold
      rw [this] at h9; cases h9; rfl
    subst holds
    simp only [List.length_append] at htot
    have hst := run_storeCells_at (P := P) c.block off e' news 0 _ w hheap (by
      simp only [List.size_toArray, List.length_append]; omega) hone
    simp only [Nat.add_zero] at hst
    have hadd : c.add off = ⟨c.block, off, none⟩ := by rw [add_eq hsp, hoff, Nat.zero_add]
    have hset := hR.setRow (r := .vals (layV olds off news)) (vs := layV olds off news) (junk := junk.drop (off + news.length - olds.length)) hbx rfl (by rw [← hcg]; exact hc) (denL_raw _) (by
      simp only [layV, List.length_append, List.length_drop, List.length_take]
      omega)
    refine ⟨_, ?_, hset⟩
    rw [hadd]
    have hr : (Builtin.copy_ #[t, u] ty #[.slice (some ⟨c.block, off, none⟩) n cap, xv]).run P w = .ok (.int .i64 (min m n : Nat)) (w.setRow c.block ((olds ++ junk).toArray.toList.take off ++ news ++ (olds ++ junk).toArray.toList.drop (off + news.length)).toArray) := by
      simp [Builtin.copy_, run_underlying ht, sizeOf, typeInfo, hi, hlen, e1, hmin, hst, goInt]
    rw [hr]
    congr 2
    simp only [layV, List.append_assoc]
    rw [List.take_append_of_le_length (by omega), List.drop_append]
  · have hbox := hR.box b _ _ hbx hn
    have hr0 : vs = [] := by simpa [Box.cells, Row.cells] using hbox.1
    have ht0 : tot = 0 := hbox.2
    subst ht0
    subst hr0
    have e2 : min m 0 = 0 := Nat.min_zero m
    rw [e2] at hmin hnl ⊢
    have hnn : news = [] := List.eq_nil_of_length_eq_zero (by simpa using hnl)
    subst hnn
    refine ⟨w, ?_, ?_⟩
    · simp [Builtin.copy_, run_underlying ht, sizeOf, typeInfo, hi, hlen, hmin, goInt]
    · have e3 : layV [] 0 [] = ([] : List Value) := rfl
      rw [e3, show bx.set b ⟨e', .vals [], 0, true⟩ = bx from by
        apply List.ext_getElem?; intro k
        by_cases hk : b = k
        · subst hk; rw [List.getElem?_set_self (get_lt hbx), hbx]
        · rw [List.getElem?_set_ne hk]]
      exact hR

theorem copyW_sound {t u ty e f : TypeId} (ht : P.underlying t = some (.slice e)) (hu : P.underlying u = some (.slice f)) {s x : SV} {K : KT} (h : copyW P e s x bx E K) (hR : Rel w0 mu bx E ρ w) {sv xv : Value} (hs : s.den ρ = some sv) (hx : x.den ρ = some xv) :
    ∃ v w' s' bx', (Builtin.copy_ #[t, u] ty #[sv, xv]).run P w = .ok v w' ∧ s'.den ρ = some v ∧ Rel w0 mu bx' E ρ w' ∧ K s' bx' E := by
  unfold copyW at h
  split at h
  case h_2 => exact h.elim
  rename_i i hi
  split at h
  · rename_i b off n e' vs tot y hd hy
    unfold rowV at hd
    split at hd
    case h_2 => cases hd
    rename_i b0 off0 n0 cap
    split at hd
    case h_2 => cases hd
    rename_i hbx
    cases hd
    obtain ⟨b', off', m, e2, us, tot2, o2⟩ := y
    unfold rowV at hy
    split at hy
    case h_2 => cases hy
    rename_i b1 off1 m1 cap1
    split at hy
    case h_2 => cases hy
    rename_i hbx1
    cases hy
    obtain ⟨q1, q2, q3, q4, h⟩ := h
    simp only [SV.den] at hs hx
    have hnl : ((us.drop off').take (min m n * i.size)).length = min m n * i.size := by
      rw [List.length_take, List.length_drop]; omega
    have hone : ∀ u ∈ (us.drop off').take (min m n * i.size), u.oneCell' = true := fun u hu => q4 u (List.mem_of_mem_drop (List.mem_of_mem_take hu))
    have hfc : (Builtin.firstCells i.size (min m n) xv).run P w = .ok ((us.drop off').take (min m n * i.size)).toArray w ∧ ∀ w, (Builtin.lenOf xv).run P w = .ok m w := by
      rcases slcDen_some hx with ⟨c, hc, rfl⟩ | ⟨hn, rfl, rfl, rfl, rfl⟩
      · obtain ⟨h1, ws, h2, h3⟩ := hR.read' hbx1 hc
        have hws : ws = us := by
          have := denL_raw (ρ := ρ) us
          have h9 : SV.denL ρ (us.map .raw) = some ws := h2
          rw [this] at h9; cases h9; rfl
        subst hws
        refine ⟨firstCells_addr hnl ?_, fun w => by simp [Builtin.lenOf]⟩
        intro j u hu
        have hj := get_lt hu
        rw [hnl] at hj
        rw [List.getElem?_take_of_lt hj, List.getElem?_drop] at hu
        rw [add_add h1]; exact h3 _ _ hu
      · have hbox := hR.box b' _ _ hbx1 hn
        have hr0 : us = [] := by
          simpa [Box.cells, Row.cells] using hbox.1
        subst hr0
        refine ⟨by simp [Builtin.firstCells], fun w => by simp [Builtin.lenOf]⟩
    obtain ⟨w', h1, h2⟩ := copy_vals (ty := ty) ht hu hi hR hbx hs hfc.2 hfc.1 hnl hone q2 q3
    exact ⟨_, w', .raw _, _, h1, rfl, h2, h⟩
  rename_i hno
  clear hno
  have h0 := srcW_sound (P := P) h hR hx
  clear h
  obtain ⟨m, new, news, h, hsrc⟩ := h0
  split at h
  case h_2 => exact h.elim
  rename_i b off n cap
  split at h
  case h_2 => exact h.elim
  rename_i e' r tot hbx
  simp only [SV.den] at hs
  have hden := rowTake_den (n := min m n * i.size) (asVals_den (r := r) hsrc.den)
  split at h
  · rename_i cells l hl
    split at h
    case isFalse => exact h.elim
    rename_i hle
    rw [hl] at hden
    have hll := denL_length hden
    obtain ⟨w', h1, h2⟩ := copy_own (ty := ty) (row := .lst (lay cells off l)) ht hu hi hR hbx hs hsrc hle (fun vs hv => by
      have := denL_append (denL_append (denL_take hv off) hden) (denL_drop hv (off + l.length))
      rw [hll]; exact this)
    exact ⟨_, w', .raw _, _, h1, rfl, h2, h⟩
  · rename_i vs l hl
    obtain ⟨hle, h⟩ := h
    rw [hl] at hden
    have hll : l = news.take (min m n * i.size) := by
      have := denL_raw (ρ := ρ) l
      simp only [Row.cells] at hden
      rw [this] at hden; cases hden; rfl
    obtain ⟨w', h1, h2⟩ := copy_own (ty := ty) (row := .vals (layV vs off l)) ht hu hi hR hbx hs hsrc (by simpa [Row.cells] using hle) (fun us hv => by
      have : us = vs := by
        have := denL_raw (ρ := ρ) vs
        simp only [Row.cells] at hv
        rw [this] at hv; cases hv; rfl
      subst this
      rw [← hll]; exact denL_raw _)
    exact ⟨_, w', .raw _, _, h1, rfl, h2, h⟩
  · rename_i cells l hl
    split at h
    case h_2 => exact h.elim
    rename_i vs hvs
    obtain ⟨hle, h⟩ := h
    rw [hl] at hden
    have hvl := valL_length hvs
    have hll : l = news.take (min m n * i.size) := by
      have := denL_raw (ρ := ρ) l
      simp only [Row.cells] at hden
      rw [this] at hden; cases hden; rfl
    obtain ⟨w', h1, h2⟩ := copy_own (ty := ty) (row := .vals (layV vs off l)) ht hu hi hR hbx hs hsrc (by simp only [Row.cells]; omega) (fun us hv => by
      have : us = vs := by
        have := SV.denL_of_val ρ _ hvs
        simp only [Row.cells] at hv
        rw [this] at hv; cases hv; rfl
      subst this
      rw [← hll]; exact denL_raw _)
    exact ⟨_, w', .raw _, _, h1, rfl, h2, h⟩
  · rename_i vs l hl
    split at h
    case h_2 => exact h.elim
    rename_i l' hvs
    obtain ⟨hle, h⟩ := h
    rw [hl] at hden
    have hll : l' = news.take (min m n * i.size) := by
      have := SV.denL_of_val ρ _ hvs
      simp only [Row.cells] at hden
      rw [this] at hden; cases hden; rfl
    obtain ⟨w', h1, h2⟩ := copy_own (ty := ty) (row := .vals (layV vs off l')) ht hu hi hR hbx hs hsrc (by simpa [Row.cells] using hle) (fun us hv => by
      have : us = vs := by
        have := denL_raw (ρ := ρ) vs
        simp only [Row.cells] at hv
        rw [this] at hv; cases hv; rfl
      subst this
      rw [← hll]; exact denL_raw _)
    exact ⟨_, w', .raw _, _, h1, rfl, h2, h⟩

theorem madeCells_list {z : Array Value} {n : Nat} {sz : Nat} (hsz : z.size = sz) : (madeCells z (n * sz)).toList = zerosV z.toList n := by
  subst hsz
  unfold madeCells zerosV
  apply List.ext_getElem?
  intro k
  have hpos : k < n * z.size → 0 < z.size := fun hk => by
    rcases Nat.eq_zero_or_pos z.size with h0 | h0
    · rw [h0] at hk; simp at hk
    · exact h0
  have e : ∀ (n k : Nat), k < n * z.size → ((List.replicate n z.toList).flatten)[k]? = z.toList[k % z.size]? := by
    intro n
    induction n with
    | zero => intro k hk; simp at hk
    | succ n ih =>
      intro k hk
      rw [List.replicate_succ, List.flatten_cons]
      rcases Nat.lt_or_ge k z.size with h1 | h1
      · rw [List.getElem?_append_left (by simpa using h1), Nat.mod_eq_of_lt h1]
      · rw [List.getElem?_append_right (by simpa using h1)]
        simp only [Array.length_toList]
        rw [ih (k - z.size) (by rw [Nat.succ_mul] at hk; omega), Nat.mod_eq_sub_mod h1]
  rcases Nat.lt_or_ge k (n * z.size) with hk | hk
  · rw [e n k hk]
    have hm := Nat.mod_lt k (hpos hk)
    simp [hk, hm]
  · rw [List.getElem?_eq_none (by simpa using hk), List.getElem?_eq_none (by simpa using hk)]

theorem makeW_sound {t e : TypeId} (ht : P.underlying t = some (.slice e)) {kl kc : IntKind} {l c : Int} {K : KT} (h : makeW P e l c bx E K) (hR : Rel w0 mu bx E ρ w) :
    ∃ v w' s' bx' ρ', (Instr.makeSlice t (.int kl l) (.int kc c)).run P w = .ok v w' ∧ ρ <+: ρ' ∧ s'.den ρ' = some v ∧ Rel w0 mu bx' E ρ' w' ∧ bx <+: bx' ∧ K s' bx' E := by
  unfold makeW at h
  split at h
  case h_2 => exact h.elim
  rename_i i hi
  split at h
  case h_2 => exact h.elim
  rename_i zv hz
  split at h
  case isFalse => exact h.elim
  rename_i hc
  obtain ⟨hzs, hone⟩ := hc
  obtain ⟨⟨h0, hlc⟩, h⟩ := req_elim h
  obtain ⟨hb, h⟩ := req_elim h
  have hcn : (c.toNat : Int) = c := Int.toNat_of_nonneg (by omega)
  have hb' : c.toNat * max i.bytes 1 ≤ 140737488355328 := by
    have : ((c.toNat * max i.bytes 1 : Nat) : Int) ≤ 140737488355328 := by rw [Int.natCast_mul, hcn]; exact hb
    omega
  have h1 : c.toNat ≤ c.toNat * max i.bytes 1 := Nat.le_mul_of_pos_right _ (by omega)
  have h2 : c.toNat * i.bytes ≤ c.toNat * max i.bytes 1 := Nat.mul_le_mul_left _ (by omega)
  have hrun := run_make (P := P) w t e i zv ht hi hz kl kc l c h0 hlc (by
    have : ((i.bytes * c.toNat : Nat) : Int) ≤ 281474976710656 := by rw [Nat.mul_comm]; omega
    rwa [Int.natCast_mul, hcn] at this) (by omega)
  have hcells : madeCells zv.cells (c.toNat * i.size) = (zerosV zv.cells.toList c.toNat ++ []).toArray := by
    apply Array.ext'
    rw [madeCells_list hzs]; simp
  rw [hcells] at hrun
  have hR' := hR.alloc e (.vals (zerosV zv.cells.toList c.toNat)) (zerosV zv.cells.toList c.toNat) [] (c.toNat * i.size) (denL_raw _) (by
    rw [List.append_nil, ← madeCells_list hzs]; simp [madeCells])
  refine ⟨_, _, _, _, _, hrun, List.prefix_append _ _, ?_, hR', List.prefix_append _ _, h⟩
  simp only [SV.den, slcDen, ← hR.len, List.getElem?_append_right (Nat.le_refl _), Nat.sub_self, List.getElem?_cons_zero]
  rfl

theorem zeroCells_list (z : Array Value) (n : Nat) : (Builtin.zeroCells z n).toList = zerosV z.toList n := madeCells_list (sz := z.size) rfl
theorem appendZ_sound {t u ty e : TypeId} {kn : IntKind} (ht : P.underlying t = some (.slice e)) (hu : P.underlying u = some (.int kn)) {s x : SV} {K : KT} (h : appendZ P e s x bx E K) (hR : Rel w0 mu bx E ρ w) {sv xv : Value} (hs : s.den ρ = some sv) (hx : x.den ρ = some xv) :
    ∃ v w' s' bx' ρ', (Builtin.append_ #[t, u] ty #[sv, xv]).run P w = .ok v w' ∧ ρ <+: ρ' ∧ s'.den ρ' = some v ∧ Rel w0 mu bx' E ρ' w' ∧ K s' bx' E := by
  unfold appendZ at h
  split at h
  case h_2 => exact h.elim
  rename_i i hi
  split at h
  case h_2 => exact h.elim
  rename_i kq k
  simp only [SV.den, Option.some.injEq] at hx; subst hx
  split at h
  case h_2 => exact h.elim
  rename_i zv hz
  split at h
  case isFalse => exact h.elim
  rename_i hzs
  obtain ⟨hzs, hpos⟩ := hzs
  split at h
  case h_2 => exact h.elim
  rename_i b off n cap
  split at h
  case isFalse => exact h.elim
  rename_i hof
  subst hof
  split at h
  case h_2 => exact h.elim
  rename_i e' vs tot hbx
  obtain ⟨hlen, h⟩ := h
  obtain ⟨hk, h⟩ := req_elim h
  obtain ⟨hcap, h⟩ := req_elim h
  obtain ⟨hb, h⟩ := req_elim h
  obtain ⟨m, rfl⟩ : ∃ m : Nat, k = m := ⟨k.toNat, by omega⟩
  simp only [Int.toNat_natCast] at h
  have hm : 0 < m := by omega
  have hg : cap < n + m := by omega
  have hbn : (n + m) * max i.bytes 1 ≤ 140737488355328 := by
    rw [← Int.natCast_add, ← Int.natCast_mul] at hb
    omega
  have h1 : n + m ≤ (n + m) * max i.bytes 1 := Nat.le_mul_of_pos_right _ (by omega)
  have h2 : (n + m) * i.bytes ≤ (n + m) * max i.bytes 1 := Nat.mul_le_mul_left _ (by omega)
  have h3 : m * i.bytes ≤ (n + m) * i.bytes := Nat.mul_le_mul_right _ (by omega)
  have hfit := growslice_fits (bytes := i.bytes) hg (by omega)
  have hdrew : Rel w0 mu bx E ρ w.drew := hR.drew _
  simp only [SV.den] at hs
  have key : ∀ (base : Option Addr), (Builtin.firstCells i.size n (.slice base n cap)).run P w.drew = .ok (vs.take (n * i.size)).toArray w.drew → sv = .slice base n cap →
      ∃ v w' s' bx' ρ', (Builtin.append_ #[t, u] ty #[sv, .int kq m]).run P w = .ok v w' ∧ ρ <+: ρ' ∧ s'.den ρ' = some v ∧ Rel w0 mu bx' E ρ' w' ∧ K s' bx' E := by
    rintro base hold rfl
    have hrun := Lib.run_append_grow_zeros w t u ty e i zv kq kn ht hu hi hz base n cap (vs.take (n * i.size)) hold m hm hpos hg (by omega) (by omega) (by omega)
    have hC := grownCap_ge w (n + m) cap e
    have hR' := hdrew.alloc e (.vals (vs.take (n * i.size) ++ zerosV zv.cells.toList m)) (vs.take (n * i.size) ++ zerosV zv.cells.toList m) (zerosV zv.cells.toList (grownCap w (n + m) cap e - (n + m))) (grownCap w (n + m) cap e * i.size) (denL_raw _) (by
      have hz1 : ∀ q, (zerosV zv.cells.toList q).length = q * i.size := fun q => by rw [← zeroCells_list, Array.length_toList, size_zeroCells, hzs]
      simp only [List.length_append, List.length_take, hz1]
      rw [Nat.min_eq_left hlen, ← Nat.add_mul, ← Nat.add_mul]
      congr 1; omega)
    have harr : ((vs.take (n * i.size)).toArray ++ Builtin.zeroCells zv.cells m ++ Builtin.zeroCells zv.cells (grownCap w (n + m) cap e - (n + m))) = (vs.take (n * i.size) ++ zerosV zv.cells.toList m ++ zerosV zv.cells.toList (grownCap w (n + m) cap e - (n + m))).toArray := by
      apply Array.ext'
      simp [zeroCells_list]
    rw [harr] at hrun
    refine ⟨_, _, _, _, _, hrun, List.prefix_append _ _, ?_, hR', h _ _ hC (Nat.le_refl _)⟩
    simp only [SV.den, slcDen, ← hR.len, List.getElem?_append_right (Nat.le_refl _), Nat.sub_self, List.getElem?_cons_zero]
    rfl
  rcases slcDen_some hs with ⟨c, hc, rfl⟩ | ⟨hn, _, rfl, rfl, rfl⟩
  · obtain ⟨hsp, olds, hold, h3⟩ := hR.box b _ _ hbx hc
    simp only [if_true] at h3
    obtain ⟨hoff, junk, hheap, htot⟩ := h3
    have ho : olds = vs := by
      have := denL_raw (ρ := ρ) vs
      simp only [Box.cells, Row.cells] at hold
      rw [this] at hold; cases hold; rfl
    subst ho
    refine key _ (firstCells_addr (by rw [List.length_take]; omega) ?_) rfl
    intro j u hu
    have hj := get_lt hu
    rw [List.length_take] at hj
    rw [List.getElem?_take_of_lt (by omega)] at hu
    have hc0 : c.add 0 = c := by rw [add_eq hsp]; simp only [Nat.add_zero]; rw [← hsp]
    rw [hc0, cell_heap (w' := w.drew) (w := w) rfl, add_eq hsp, cell_of_row w c.block (c.off + j) _ _ _ hheap, hoff, Nat.zero_add]
    simp [List.getElem?_append_left (show j < olds.length by omega), hu]
  · exact key none (by simp [Builtin.firstCells]) rfl

theorem equalIn_slc {T e : TypeId} (he : P.underlying T = some (.slice e)) {base : Option Addr} {n c l' c' : Nat} (d : Nat) (w : World) :
    (Op.equalIn (d + 1) T (.slice base n c) (.slice none l' c')).run P w = .ok base.isNone w := by
  cases base <;> simp [Op.equalIn, run_underlying he]

/-- A slice, beside nil. -/
theorem nilSlcW_sound {T e : TypeId} (ht : P.underlying T = some (.slice e)) {s t : SV} {K : Bool → Prop} (h : nilSlcW s t K) {sv tv : Value} (hs : s.den ρ = some sv) (htv : t.den ρ = some tv) :
    ∃ r : Bool, K r ∧ (∀ x y w, (eqGuard .eql T x y sv tv).run P w = .ok () w) ∧ (∀ x y w, (eqGuard .neq T x y sv tv).run P w = .ok () w) ∧ (∀ w, (binOp .eql T sv tv).run P w = .ok (.bool r) w) ∧ ∀ w, (binOp .neq T sv tv).run P w = .ok (.bool !r) w := by
  unfold nilSlcW at h
  split at h
  case h_2 => exact h.elim
  rename_i l' c'
  simp only [SV.den, Option.some.injEq] at htv; subst htv
  have key : ∀ base n c, sv = .slice base n c → (∀ x y w, (eqGuard .eql T x y sv (.slice none l' c')).run P w = .ok () w) ∧ (∀ x y w, (eqGuard .neq T x y sv (.slice none l' c')).run P w = .ok () w) ∧ (∀ w, (binOp .eql T sv (.slice none l' c')).run P w = .ok (.bool base.isNone) w) ∧ ∀ w, (binOp .neq T sv (.slice none l' c')).run P w = .ok (.bool !base.isNone) w := by
    rintro base n c rfl
    have heq : ∀ w, (Op.equal T (.slice base n c) (.slice none l' c')).run P w = .ok base.isNone w := fun w => equalIn_slc ht 9999 w
    refine ⟨fun x y w => rfl, fun x y w => rfl, fun w => ?_, fun w => ?_⟩
    · have hb : binOp .eql T (.slice base n c) (.slice none l' c') = (do pure (.bool (← Op.equal T (.slice base n c) (.slice none l' c')))) := rfl
      simp only [hb, Sem.run_bind, heq, Result.andThen_ok, Sem.run_pure]
    · have hb : binOp .neq T (.slice base n c) (.slice none l' c') = (do pure (.bool (!(← Op.equal T (.slice base n c) (.slice none l' c'))))) := rfl
      simp only [hb, Sem.run_bind, heq, Result.andThen_ok, Sem.run_pure]
  split at h
  · rename_i b off n c
    simp only [SV.den] at hs
    rcases slcDen_some hs with ⟨d, hd, rfl⟩ | ⟨hn, rfl, rfl, rfl, rfl⟩
    · exact ⟨false, h false (by simp), key _ _ _ rfl⟩
    · exact ⟨true, h true (by simp), key _ _ _ rfl⟩
  · rename_i base n c
    simp only [SV.den, Option.some.injEq] at hs; subst hs
    exact ⟨base.isNone, h, key _ _ _ rfl⟩
  · exact h.elim

theorem eqSV_sound : ∀ (n : Nat) (T : TypeId) (s t : SV) (b : Bool) (x y : Value), eqSV P n T s t = some b → s.den ρ = some x → t.den ρ = some y → ∀ (d : Nat) (w : World), (Op.equalIn (n + d) T x y).run P w = .ok b w
  | 0, _, _, _, _, _, _, h, _, _, _, _ => by cases h
  | n + 1, T, s, t, b, x, y, h, hx, hy, d, w => by
    have hd : n + 1 + d = n + d + 1 := by omega
    rw [hd]
    unfold eqSV at h
    split at h
    · rename_i k hu
      split at h
      · rename_i k1 a k2 c
        split at h
        · rename_i hk
          subst hk
          simp only [SV.den, Option.some.injEq] at h hx hy
          subst h; subst hx; subst hy
          exact run_equalIn_int w (n + d) T _ _ a c hu
        · cases h
      · cases h
    · rename_i hu
      split at h
      · rename_i a c
        simp only [SV.den, Option.some.injEq] at h hx hy
        subst h; subst hx; subst hy
        exact run_equalIn_bool w (n + d) T a c hu
      · cases h
    · rename_i fs hu
      split at h
      · rename_i cs ds hcs hds
        split at h
        · rename_i hheld
          obtain ⟨xs, rfl, h1⟩ := asCells_den hcs hx
          obtain ⟨ys, rfl, h2⟩ := asCells_den hds hy
          have hf : P.fieldsOf T = fs := by simp [Program.fieldsOf, hu]
          rw [run_equalIn_struct w (n + d) T _ _ (by rw [hf]; exact hu) hheld, hf]
          have go : ∀ (l : List Field) (b : Bool), eqFs P (eqSV P n) cs ds l = some b → (Op.eqFields (n + d) xs.toArray ys.toArray l).run P w = .ok b w := by
            intro l
            induction l with
            | nil => intro b h; simp only [eqFs, Option.some.injEq] at h; subst h; rfl
            | cons f l ih =>
              intro b h
              simp only [eqFs] at h
              simp only [Op.eqFields]
              split at h
              · rename_i hn
                rw [if_pos hn]
                split at h
                case h_2 => cases h
                rename_i p q hp hq
                split at h
                case h_2 => cases h
                rename_i b1 b2 e1 e2
                simp only [Option.some.injEq] at h; subst h
                obtain ⟨v1, g1, g2⟩ := run_part (P := P) (w := w) hp h1
                obtain ⟨v2, g3, g4⟩ := run_part (P := P) (w := w) hq h2
                have := eqSV_sound n f.type p q b1 v1 v2 e1 g1 g3 d w
                simp only [Sem.run_bind, g2, g4, Result.andThen_ok, this, Sem.run_ite]
                cases b1
                · simp
                · simp [ih b2 e2]
              · rename_i hn
                rw [if_neg hn]
                exact ih b h
          exact go fs.toList b h
        · cases h
      · cases h
    · cases h

/-- Two structs, compared. -/
theorem eqStruct_sound {T : TypeId} {fs : Array Field} (hu : P.underlying T = some (.struct fs)) (hg : P.eqGuardType P.depth T = false) {s t : SV} {b : Bool} {sv tv : Value} (h : eqSV P 12 T s t = some b) (hs : s.den ρ = some sv) (ht : t.den ρ = some tv) :
    (∀ x y w, (eqGuard .eql T x y sv tv).run P w = .ok () w) ∧ (∀ x y w, (eqGuard .neq T x y sv tv).run P w = .ok () w) ∧ (∀ w, (binOp .eql T sv tv).run P w = .ok (.bool b) w) ∧ ∀ w, (binOp .neq T sv tv).run P w = .ok (.bool !b) w := by
  have heq : ∀ w, (Op.equal T sv tv).run P w = .ok b w := fun w => eqSV_sound 12 T s t b sv tv h hs ht 9988 w
  have hc : ∃ xs ys, sv = .agg xs ∧ tv = .agg ys := by
    unfold eqSV at h
    rw [hu] at h
    simp only at h
    split at h
    · rename_i cs ds hcs hds
      obtain ⟨xs, e1, _⟩ := asCells_den hcs hs
      obtain ⟨ys, e2, _⟩ := asCells_den hds ht
      exact ⟨_, _, e1, e2⟩
    · cases h
  obtain ⟨xs, ys, rfl, rfl⟩ := hc
  refine ⟨fun x y w => by simp [eqGuard, hg], fun x y w => by simp [eqGuard, hg], fun w => ?_, fun w => ?_⟩
  · have hb : binOp .eql T (.agg xs) (.agg ys) = (do pure (.bool (← Op.equal T (.agg xs) (.agg ys)))) := rfl
    simp only [hb, Sem.run_bind, heq, Result.andThen_ok, Sem.run_pure]
  · have hb : binOp .neq T (.agg xs) (.agg ys) = (do pure (.bool (!(← Op.equal T (.agg xs) (.agg ys))))) := rfl
    simp only [hb, Sem.run_bind, heq, Result.andThen_ok, Sem.run_pure]

end
end Go.Sx
