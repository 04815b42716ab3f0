/- The symbolic evaluator, part R: a call sees the boxes that it is handed, and no others. Conditions: none; generic over programs. -/
import Derived.Test.YtjibgfihfbdcaaaSyQ
namespace Go.Sx
open Go.RowKit (Below)

def setAll : List Box → List Nat → List Box → List Box
  | bx, j :: σ, b :: bs => setAll (bx.set j b) σ bs
  | bx, _, _ => bx

/-- The boxes behind a call that was handed those of σ. -/
def merge (σ : List Nat) (bx bxs' : List Box) : List Box :=
  setAll bx σ ((bxs'.take σ.length).map (Box.ren σ bx.length)) ++ (bxs'.drop σ.length).map (Box.ren σ bx.length)

theorem setAll_length : ∀ (σ : List Nat) (bx bs : List Box), (setAll bx σ bs).length = bx.length
  | [], bx, bs => by cases bs <;> rfl
  | j :: σ, bx, [] => rfl
  | j :: σ, bx, b :: bs => by simp only [setAll, setAll_length σ, List.length_set]

theorem setAll_other : ∀ (σ : List Nat) (bx bs : List Box) (k : Nat), k ∉ σ → (setAll bx σ bs)[k]? = bx[k]?
  | [], bx, bs, k, _ => by cases bs <;> rfl
  | j :: σ, bx, [], k, _ => rfl
  | j :: σ, bx, b :: bs, k, h => by
    simp only [List.mem_cons, not_or] at h
    simp only [setAll]
    rw [setAll_other σ _ bs k h.2, List.getElem?_set_ne (Ne.symm h.1)]

theorem setAll_at : ∀ (σ : List Nat) (bx bs : List Box) (i k : Nat) (b : Box), σ.Nodup → σ[i]? = some k → k < bx.length → bs[i]? = some b → (setAll bx σ bs)[k]? = some b
  | [], _, _, i, k, _, _, h, _, _ => by simp at h
  | j :: σ, bx, [], i, k, b, _, _, _, h => by simp at h
  | j :: σ, bx, c :: bs, 0, k, b, hn, h, hl, hb => by
    simp only [List.getElem?_cons_zero, Option.some.injEq] at h hb
    subst h; subst hb
    simp only [setAll]
    rw [setAll_other σ _ bs j (List.nodup_cons.1 hn).1, List.getElem?_set_self hl]
  | j :: σ, bx, c :: bs, i + 1, k, b, hn, h, hl, hb => by
    simp only [List.getElem?_cons_succ] at h hb
    simp only [setAll]
    exact setAll_at σ _ bs i k b (List.nodup_cons.1 hn).2 h (by simpa using hl) hb

mutual
theorem ren_of_val (σ : List Nat) (n : Nat) : ∀ (s : SV) {v : Value}, s.val = some v → s.ren σ n = s
  | .raw v, _, _ => by simp only [SV.ren]
  | .loc b off, _, e => by simp [SV.val] at e
  | .slc b off len cap, _, e => by simp [SV.val] at e
  | .rp v off, _, e => by simp [SV.val] at e
  | .clo f m l, _, e => by simp [SV.val] at e
  | .agg l, _, e => by
    simp only [SV.val, Option.map_eq_some_iff] at e
    obtain ⟨vs, h1, _⟩ := e
    simp only [SV.ren, renL_of_val σ n l h1]
  | .tup l, _, e => by
    simp only [SV.val, Option.map_eq_some_iff] at e
    obtain ⟨vs, h1, _⟩ := e
    simp only [SV.ren, renL_of_val σ n l h1]
  | .ifc t x, _, e => by
    simp only [SV.val, Option.map_eq_some_iff] at e
    obtain ⟨vs, h1, _⟩ := e
    simp only [SV.ren, ren_of_val σ n x h1]
theorem renL_of_val (σ : List Nat) (n : Nat) : ∀ (l : List SV) {vs : List Value}, SV.valL l = some vs → SV.renL σ n l = l
  | [], _, _ => rfl
  | x :: l, vs, e => by
    simp only [SV.valL] at e
    split at e
    · rename_i v ws h1 h2
      simp only [SV.renL, ren_of_val σ n x h1, renL_of_val σ n l h2]
    · cases e
end

/-- The boxes that a call is handed: those of the list σ, all of them the activation's own. -/
structure Part (σ : List Nat) (bx bxs : List Box) : Prop where
  nodup : σ.Nodup
  len : bxs.length = σ.length
  box : ∀ (i : Nat) (b : Box), bxs[i]? = some b → b.own = true ∧ ∃ j : Nat, σ[i]? = some j ∧ bx[j]? = some (b.ren σ bx.length)

theorem frame {P : Program} {f : FuncId} {args args' : List SV} {bx bxs : List Box} {E : Mem} {K K' : KT} {σ : List Nat} (hp : Part σ bx bxs)
    (hargs : args = SV.renL σ bx.length args') (h : CallSem P f args' bxs E K')
    (hK : ∀ s bxs' E', K' s bxs' E' → K (s.ren σ bx.length) (merge σ bx bxs') E') : CallSem P f args bx E K := by
  subst hargs
  intro w0 mu ρ w vs hR hd
  have hn := hR.len
  -- what the callee is handed
  have hσ : ∀ (i j : Nat), σ[i]? = some j → ∃ b, bxs[i]? = some b ∧ b.own = true ∧ bx[j]? = some (b.ren σ bx.length) := by
    intro i j hj
    have hi : i < bxs.length := by rw [hp.len]; exact get_lt hj
    obtain ⟨h1, j', h2, h3⟩ := hp.box i _ (List.getElem?_eq_getElem hi)
    rw [hj] at h2; cases h2
    exact ⟨_, List.getElem?_eq_getElem hi, h1, h3⟩
  let ρs : Env := σ.map fun j => (ρ[j]?).getD none
  have hρs : ∀ (i j : Nat), σ[i]? = some j → ρs[i]? = ρ[j]? := by
    intro i j hj
    obtain ⟨b, _, _, hb⟩ := hσ i j hj
    have hjl : j < ρ.length := by rw [hn]; exact get_lt hb
    simp only [ρs, List.getElem?_map, hj, Option.map_some, List.getElem?_eq_getElem hjl, Option.getD_some]
  have hρl : ρs.length = σ.length := by simp [ρs]
  have hren : ∀ i, ρ[renF σ bx.length i]? = ρs[i]? := by
    intro i
    unfold renF
    cases hi : σ[i]? with
    | some j => exact (hρs i j hi).symm
    | none =>
      have h1 : σ.length ≤ i := by
        rcases Nat.lt_or_ge i σ.length with q | q
        · rw [List.getElem?_eq_getElem q] at hi; cases hi
        · exact q
      simp only
      rw [List.getElem?_eq_none (by omega), List.getElem?_eq_none (by omega)]
  rw [renL_den hren] at hd
  let mus : List Nat := ρs.filterMap fun o => o.map Addr.block
  have hmus : ∀ (i : Nat) a, ρs[i]? = some (some a) → a.block ∈ mus := by
    intro i a ha
    refine List.mem_filterMap.2 ⟨some a, List.mem_of_getElem? ha, rfl⟩
  have hmus' : ∀ g, g ∈ mus → ∃ (i j : Nat) (a : Addr) (b : Box), σ[i]? = some j ∧ ρs[i]? = some (some a) ∧ ρ[j]? = some (some a) ∧ a.block = g ∧ bxs[i]? = some b ∧ b.own = true ∧ bx[j]? = some (b.ren σ bx.length) := by
    intro g hg
    obtain ⟨o, ho, e⟩ := List.mem_filterMap.1 hg
    cases o with
    | none => cases e
    | some a =>
      simp only [Option.map_some, Option.some.injEq] at e
      obtain ⟨i, hi, hio⟩ := List.getElem_of_mem ho
      have hio' : ρs[i]? = some (some a) := by rw [List.getElem?_eq_getElem hi, hio]
      have hi' : i < σ.length := by rw [← hρl]; exact hi
      obtain ⟨b, h1, h2, h3⟩ := hσ i _ (List.getElem?_eq_getElem hi')
      exact ⟨i, _, a, b, List.getElem?_eq_getElem hi', hio', by rw [← hρs i _ (List.getElem?_eq_getElem hi')]; exact hio', e, h1, h2, h3⟩
  -- of a box's own: whatever the whole says
  have hsepσ : ∀ (i j : Nat) (a : Addr) (b : Box), σ[i]? = some j → ρ[j]? = some (some a) → b.own = true → bx[j]? = some (b.ren σ bx.length) →
      (w0.heap.size ≤ a.block ∨ a.block ∈ mu.mu) ∧ (∀ (k : Nat) b' a', k ≠ j → bx[k]? = some b' → b'.live = true → ρ[k]? = some (some a') → a'.block ≠ a.block) ∧ (∀ v cs, E v cs → cs ≠ [] → blk v ≠ some a.block) :=
    fun i j a b _ ha ho hb => hR.sep j _ a hb (by simpa [Box.ren] using ho) ha
  have hRs : Rel w ⟨mus, E, none, []⟩ bxs E ρs w := by
    refine ⟨Keep.refl _ _, by rw [hρl, hp.len], ?_, ?_, hR.hold, ?_, fun v cs g hne => .inr ⟨v, cs, g, hne, rfl⟩⟩
    · intro i b oa h1 h2
      obtain ⟨ho, j, hj, hb⟩ := hp.box i b h1
      rw [hρs i j hj] at h2
      exact (BoxAt.ren hren).1 (hR.box j _ oa hb h2)
    · intro i b a h1 ho h2
      obtain ⟨_, j, hj, hb⟩ := hp.box i b h1
      have h2' := h2
      rw [hρs i j hj] at h2
      obtain ⟨t1, t2, t3⟩ := hsepσ i j a b hj h2 ho hb
      refine ⟨.inr (hmus i a h2'), ?_, t3⟩
      intro k b' a' hki hk1 hl hk2
      obtain ⟨_, j', hj', hb'⟩ := hp.box k b' hk1
      rw [hρs k j' hj'] at hk2
      refine t2 j' _ a' ?_ hb' (by rw [Box.ren_live]; exact hl) hk2
      rintro rfl
      exact hki ((List.getElem?_inj (get_lt hj) hp.nodup).1 (by rw [hj, hj'])).symm
    · intro i b a h1 hl h2
      exact .inr (hmus i a h2)
  refine (h w ⟨mus, E, none, []⟩ ρs w vs hRs hd).mono fun e w' he => ?_
  obtain ⟨v, s, bxs', E', ρs', rfl, hpre, hsd, hR', hK'⟩ := he
  have hl' := hR'.len
  have hle : σ.length ≤ ρs'.length := by rw [← hρl]; exact hpre.length_le
  have hpg : ∀ (i : Nat) o, ρs[i]? = some o → ρs'[i]? = some o := fun i o ho => get_prefix hpre ho
  let ρ' : Env := ρ ++ ρs'.drop σ.length
  have hpp : ρ <+: ρ' := List.prefix_append _ _
  have hren' : ∀ i, ρ'[renF σ bx.length i]? = ρs'[i]? := by
    intro i
    unfold renF
    cases hi : σ[i]? with
    | some j =>
      simp only
      obtain ⟨b, _, _, hb⟩ := hσ i j hi
      have hjl : j < ρ.length := by rw [hn]; exact get_lt hb
      have h1 := hρs i j hi
      rw [List.getElem?_append_left hjl]
      have h2 : ρ[j]? = some ρ[j] := List.getElem?_eq_getElem hjl
      rw [h2] at h1 ⊢
      exact (hpg i _ h1).symm
    | none =>
      have h1 : σ.length ≤ i := by
        rcases Nat.lt_or_ge i σ.length with q | q
        · rw [List.getElem?_eq_getElem q] at hi; cases hi
        · exact q
      simp only
      rw [List.getElem?_append_right (by omega), List.getElem?_drop, hn]
      congr 1; omega
  -- where a box of the whole comes from
  have hmlen : (merge σ bx bxs').length = bx.length + (bxs'.length - σ.length) := by
    simp only [merge, List.length_append, setAll_length, List.length_map, List.length_drop]
  have hfrom : ∀ (k : Nat) y, (merge σ bx bxs')[k]? = some y →
      (k < bx.length ∧ k ∉ σ ∧ bx[k]? = some y ∧ ρ'[k]? = ρ[k]?) ∨ ∃ i b, k = renF σ bx.length i ∧ bxs'[i]? = some b ∧ y = b.ren σ bx.length ∧ ρ'[k]? = ρs'[i]? := by
    intro k y hy
    by_cases hk : k < bx.length
    · have hk1 : (merge σ bx bxs')[k]? = (setAll bx σ ((bxs'.take σ.length).map (Box.ren σ bx.length)))[k]? := List.getElem?_append_left (by rw [setAll_length]; exact hk)
      rw [hk1] at hy
      by_cases hm : k ∈ σ
      · obtain ⟨i, hi, hik⟩ := List.getElem_of_mem hm
        have hik' : σ[i]? = some k := by rw [List.getElem?_eq_getElem hi, hik]
        have hib : i < bxs'.length := by rw [← hl']; omega
        have hb : ((bxs'.take σ.length).map (Box.ren σ bx.length))[i]? = some (bxs'[i].ren σ bx.length) := by
          rw [List.getElem?_map, List.getElem?_take_of_lt hi, List.getElem?_eq_getElem hib]; rfl
        rw [setAll_at σ bx _ i k _ hp.nodup hik' hk hb] at hy
        cases hy
        have hrk : k = renF σ bx.length i := by simp [renF, hik']
        refine .inr ⟨i, _, hrk, List.getElem?_eq_getElem hib, rfl, ?_⟩
        rw [hrk]; exact hren' i
      · rw [setAll_other σ bx _ k hm] at hy
        refine .inl ⟨hk, hm, hy, ?_⟩
        exact List.getElem?_append_left (by rw [hn]; exact hk)
    · have hk1 : (merge σ bx bxs')[k]? = ((bxs'.drop σ.length).map (Box.ren σ bx.length))[k - bx.length]? := by
        have := List.getElem?_append_right (l₁ := setAll bx σ ((bxs'.take σ.length).map (Box.ren σ bx.length))) (l₂ := (bxs'.drop σ.length).map (Box.ren σ bx.length)) (i := k) (by rw [setAll_length]; omega)
        rw [setAll_length] at this
        exact this
      rw [hk1, List.getElem?_map, List.getElem?_drop] at hy
      cases hb : bxs'[σ.length + (k - bx.length)]? with
      | none => rw [hb] at hy; cases hy
      | some b =>
        rw [hb] at hy
        simp only [Option.map_some, Option.some.injEq] at hy
        have hrk : k = renF σ bx.length (σ.length + (k - bx.length)) := by
          unfold renF
          rw [List.getElem?_eq_none (by omega)]
          simp only; omega
        refine .inr ⟨_, b, hrk, hb, hy.symm, ?_⟩
        exact (congrArg (ρ'[·]?) hrk).trans (hren' _)
  -- blocks that the callee may have written
  have hold : ∀ (k : Nat) y a, bx[k]? = some y → k ∉ σ → y.live = true → ρ[k]? = some (some a) → a.block < w.heap.size ∧ a.block ∉ mus := by
    intro k y a hk hm hl ha
    refine ⟨(hR.box k y _ hk ha).lt hl, fun hg => ?_⟩
    obtain ⟨i, j, a2, b, h1, h2, h3, h4, h5, h6, h7⟩ := hmus' _ hg
    refine (hsepσ i j a2 b h1 h3 h6 h7).2.1 k y a ?_ hk hl ha h4.symm
    rintro rfl
    exact hm (List.mem_of_getElem? h1)
  have hmusrc : ∀ g, g ∈ mus → w0.heap.size ≤ g ∨ g ∈ mu.mu := by
    intro g hg
    obtain ⟨i, j, a2, b, h1, h2, h3, h4, h5, h6, h7⟩ := hmus' _ hg
    rw [← h4]; exact (hsepσ i j a2 b h1 h3 h6 h7).1
  have hsrc2 : ∀ g, (w.heap.size ≤ g ∨ g ∈ mus) → w0.heap.size ≤ g ∨ g ∈ mu.mu := by
    rintro g (hg | hg)
    · exact .inl (Nat.le_trans hR.keep.size hg)
    · exact hmusrc g hg
  refine ⟨v, s.ren σ bx.length, merge σ bx bxs', E', ρ', rfl, hpp, by rw [ren_den hren']; exact hsd, ?_, hK s bxs' E' hK'⟩
  refine ⟨?_, ?_, ?_, ?_, hR'.hold, ?_, ?_⟩
  · have hk := hR'.keep
    refine ⟨hk.os.trans hR.keep.os, hk.tape.trans hR.keep.tape, hk.output.trans hR.keep.output, Nat.le_trans hR.keep.size hk.size, fun k h1 h2 => ?_⟩
    rw [hk.block k (Nat.lt_of_lt_of_le h1 hR.keep.size) (fun hg => by
      rcases hmusrc k hg with q | q
      · omega
      · exact h2 q)]
    exact hR.keep.block k h1 h2
  · rw [hmlen]
    simp only [ρ', List.length_append, List.length_drop, hn, hl']
  · intro k y oa h1 h2
    rcases hfrom k y h1 with ⟨hk, hm, hy, hρk⟩ | ⟨i, b, rfl, hb, rfl, hρk⟩
    · rw [hρk] at h2
      refine ((hR.box k y oa hy h2).mono hpp).of_block fun a ha hlive => ?_
      subst ha
      obtain ⟨q1, q2⟩ := hold k y a hy hm hlive h2
      exact hR'.keep.block _ q1 q2
    · rw [hρk] at h2
      exact (BoxAt.ren hren').2 (hR'.box i b oa hb h2)
  · intro k y a h1 ho h2
    rcases hfrom k y h1 with ⟨hk, hm, hy, hρk⟩ | ⟨i, b, rfl, hb, rfl, hρk⟩
    · rw [hρk] at h2
      obtain ⟨t1, t2, t3⟩ := hR.sep k y a hy ho h2
      obtain ⟨q1, q2⟩ := hold k y a hy hm (by simp [Box.live, ho]) h2
      refine ⟨t1, ?_, ?_⟩
      · intro j b' a' hjk hj1 hl hj2
        rcases hfrom j b' hj1 with ⟨_, hm', hy', hρj⟩ | ⟨i', c, rfl, hc, rfl, hρj⟩
        · rw [hρj] at hj2
          exact t2 j b' a' hjk hy' hl hj2
        · rw [hρj] at hj2
          rw [Box.ren_live] at hl
          rcases hR'.bsrc i' c a' hc hl hj2 with q | q
          · omega
          · rintro e; rw [e] at q; exact q2 q
      · intro v cs hE hne hb
        rcases hR'.src v cs hE hne with ⟨g, e1, e2⟩ | ⟨v0, cs0, e1, e2, e3⟩
        · rw [hb] at e1; cases e1
          rcases e2 with q | q
          · omega
          · exact q2 q
        · rw [hb] at e3; exact t3 v0 cs0 e1 e2 e3.symm
    · rw [hρk] at h2
      have ho' : b.own = true := by simpa [Box.ren] using ho
      obtain ⟨t1, t2, t3⟩ := hR'.sep i b a hb ho' h2
      refine ⟨hsrc2 _ t1, ?_, t3⟩
      intro j b' a' hjk hj1 hl hj2
      rcases hfrom j b' hj1 with ⟨_, hm', hy', hρj⟩ | ⟨i', c, rfl, hc, rfl, hρj⟩
      · rw [hρj] at hj2
        obtain ⟨q1, q2⟩ := hold j b' a' hy' hm' hl hj2
        rcases t1 with q | q
        · omega
        · rintro e; rw [e] at q2; exact q2 q
      · rw [hρj] at hj2
        rw [Box.ren_live] at hl
        exact t2 i' c a' (fun e => hjk (by rw [e])) hc hl hj2
  · intro k y a h1 hl h2
    rcases hfrom k y h1 with ⟨hk, hm, hy, hρk⟩ | ⟨i, b, rfl, hb, rfl, hρk⟩
    · rw [hρk] at h2
      exact hR.bsrc k y a hy hl h2
    · rw [hρk] at h2
      rw [Box.ren_live] at hl
      exact hsrc2 _ (hR'.bsrc i b a hb hl h2)
  · intro v cs hE hne
    rcases hR'.src v cs hE hne with ⟨g, e1, e2⟩ | ⟨v0, cs0, e1, e2, e3⟩
    · exact .inl ⟨g, e1, hsrc2 g e2⟩
    · rw [e3]; exact hR.src v0 cs0 e1 e2

/-- No box is handed over. -/
theorem frame0 {P : Program} {f : FuncId} {args : List SV} {bx : List Box} {E : Mem} {K K' : KT} {vs : List Value} (hv : SV.valL args = some vs) (h : CallSem P f args [] E K')
    (hK : ∀ s bxs' E', K' s bxs' E' → K (s.ren [] bx.length) (bx ++ bxs'.map (Box.ren [] bx.length)) E') : CallSem P f args bx E K :=
  frame (σ := []) ⟨List.nodup_nil, rfl, fun i b h => by simp at h⟩ (renL_of_val [] _ args hv).symm h (fun s bxs' E' h => by simpa [merge, setAll] using hK s bxs' E' h)

end Go.Sx
