/- The symbolic evaluator, part J: rows that are handed out, and contracts. Conditions: none; generic over programs. -/
import Derived.Test.YtjibgfihfbdcaaaSyG
namespace Go.Sx
open Go.RowKit (Below)

theorem slcDen_base {ρ : Env} {b off len cap : Nat} {v : Value} {base : Option Addr} (hb : ρ[b]? = some base) (h : slcDen ρ b off len cap = some v) : v = slcAs base off len cap := by
  unfold slcDen at h
  rw [hb] at h
  cases base with
  | some c => simp only [Option.some.injEq] at h; exact h.symm
  | none =>
    simp only at h
    split at h
    · rename_i hh; obtain ⟨rfl, rfl, rfl⟩ := hh; simp only [Option.some.injEq] at h; exact h.symm
    · cases h

mutual
theorem subst_den {ρ : Env} {b : Nat} {base : Option Addr} (hb : ρ[b]? = some base) : ∀ (s : SV) {v : Value}, s.den ρ = some v → (s.subst b base).den ρ = some v
  | .slc b' off len cap, v, h => by
    simp only [SV.subst]
    split
    · rename_i e; subst e
      simp only [SV.den] at h
      simp only [SV.den, slcDen_base hb h]
    · exact h
  | .agg l, v, h => by
    simp only [SV.subst, SV.den, Option.map_eq_some_iff] at *
    obtain ⟨vs, h1, h2⟩ := h; exact ⟨vs, substL_den hb l h1, h2⟩
  | .tup l, v, h => by
    simp only [SV.subst, SV.den, Option.map_eq_some_iff] at *
    obtain ⟨vs, h1, h2⟩ := h; exact ⟨vs, substL_den hb l h1, h2⟩
  | .clo f m l, v, h => by
    simp only [SV.den] at h
    split at h
    · rename_i us vs h1 h2
      simp only [SV.subst, SV.den, substL_den hb m h1, substL_den hb l h2]; exact h
    · cases h
  | .ifc t x, v, h => by
    simp only [SV.subst, SV.den, Option.map_eq_some_iff] at *
    obtain ⟨vs, h1, h2⟩ := h; exact ⟨vs, subst_den hb x h1, h2⟩
  | .raw _, v, h => h
  | .loc _ _, v, h => h
  | .rp _ _, v, h => h
theorem substL_den {ρ : Env} {b : Nat} {base : Option Addr} (hb : ρ[b]? = some base) : ∀ (l : List SV) {vs : List Value}, SV.denL ρ l = some vs → SV.denL ρ (SV.substL b base l) = some vs
  | [], vs, h => h
  | x :: l, vs, h => by
    simp only [SV.denL] at h
    split at h
    · rename_i v ws h1 h2
      simp only [SV.substL, SV.denL, subst_den hb x h1, substL_den hb l h2]; exact h
    · cases h
end

theorem Box.live_share {y : Box} (h : ({ y with own := false } : Box).live = true) : y.live = true := by
  have h' : (!y.row.cells.isEmpty) = true := by simpa [Box.live, Box.cells] using h
  simp only [Box.live, Box.cells, h', Bool.or_true]

theorem BoxAt.share {w : World} {ρ : Env} {oa : Option Addr} {b : Box} (h : BoxAt w ρ oa b) : BoxAt w ρ oa { b with own := false } := by
  cases oa with
  | none => exact h
  | some a =>
    obtain ⟨h1, vs, h2, h3⟩ := h
    refine ⟨h1, vs, h2, ?_⟩
    simp only [Bool.false_eq_true, if_false]
    by_cases ho : b.own = true
    · rw [if_pos ho] at h3
      obtain ⟨h4, junk, hj, _⟩ := h3
      intro i x hx
      have hi : i < vs.length := by
        rcases Nat.lt_or_ge i vs.length with h' | h'
        · exact h'
        · simp [List.getElem?_eq_none h'] at hx
      simp only [World.cell?, hj, Option.isSome_none, h4, Nat.zero_add]
      simp [List.getElem?_append_left hi, hx]
    · rw [if_neg ho] at h3
      exact h3

theorem Rel.share {w0 : World} {mu : Fm} {bx : List Box} {E : Mem} {ρ : Env} {w : World} (h : Rel w0 mu bx E ρ w) {b : Nat} {y : Box} (hb : bx[b]? = some y) : Rel w0 mu (bx.set b { y with own := false }) E ρ w := by
  have hi : b < bx.length := by
    rcases Nat.lt_or_ge b bx.length with h' | h'
    · exact h'
    · simp [List.getElem?_eq_none h'] at hb
  refine ⟨h.keep, by simpa using h.len, ?_, ?_, h.hold, ?_, h.src⟩
  · intro j b' oa h1 h2
    by_cases hj : b = j
    · subst hj
      rw [List.getElem?_set_self hi] at h1
      simp only [Option.some.injEq] at h1; subst h1
      exact (h.box b y oa hb h2).share
    · rw [List.getElem?_set_ne hj] at h1
      exact h.box j b' oa h1 h2
  · intro j b' a h1 ho h2
    by_cases hj : b = j
    · subst hj
      rw [List.getElem?_set_self hi] at h1
      simp only [Option.some.injEq] at h1; subst h1
      simp at ho
    · rw [List.getElem?_set_ne hj] at h1
      obtain ⟨t1, t2, t3⟩ := h.sep j b' a h1 ho h2
      refine ⟨t1, ?_, t3⟩
      intro k b3 a3 hkj hk1 hl3 hk2
      by_cases hk : b = k
      · subst hk
        rw [List.getElem?_set_self hi] at hk1
        simp only [Option.some.injEq] at hk1; subst hk1
        refine t2 b y a3 hkj hb ?_ hk2
        exact Box.live_share hl3
      · rw [List.getElem?_set_ne hk] at hk1
        exact t2 k b3 a3 hkj hk1 hl3 hk2
  · intro j b' a h1 hl h2
    by_cases hj : b = j
    · subst hj
      rw [List.getElem?_set_self hi] at h1
      simp only [Option.some.injEq] at h1; subst h1
      exact h.bsrc b y a hb (Box.live_share hl) h2
    · rw [List.getElem?_set_ne hj] at h1
      exact h.bsrc j b' a h1 hl h2

theorem substL_length (b : Nat) (base : Option Addr) : ∀ (l : List SV), (SV.substL b base l).length = l.length
  | [] => rfl
  | x :: l => by simp only [SV.substL, List.length_cons, substL_length b base l]

theorem Box.subst_live (b : Nat) (base : Option Addr) (y : Box) : (y.subst b base).live = y.live := by
  obtain ⟨e, r, t, o⟩ := y
  cases r with
  | lst l =>
    simp only [Box.subst, Box.live, Box.cells, Row.cells]
    cases l <;> rfl
  | vals l => rfl

theorem Box.subst_own (b : Nat) (base : Option Addr) (y : Box) : (y.subst b base).own = y.own := by
  obtain ⟨e, r, t, o⟩ := y
  cases r <;> rfl

theorem BoxAt.subst {w : World} {ρ : Env} {b : Nat} {base oa : Option Addr} (hb : ρ[b]? = some base) {y : Box} (h : BoxAt w ρ oa y) : BoxAt w ρ oa (y.subst b base) := by
  obtain ⟨e, r, t, o⟩ := y
  cases r with
  | vals l => exact h
  | lst l =>
    cases oa with
    | none =>
      obtain ⟨h1, h2⟩ := h
      simp only [Box.cells, Row.cells] at h1
      subst h1
      exact ⟨rfl, h2⟩
    | some a =>
      obtain ⟨h1, vs, h2, h3⟩ := h
      exact ⟨h1, vs, substL_den hb l h2, h3⟩

theorem Rel.subst {w0 : World} {mu : Fm} {bx : List Box} {E : Mem} {ρ : Env} {w : World} (h : Rel w0 mu bx E ρ w) {b : Nat} {base : Option Addr} (hb : ρ[b]? = some base) : Rel w0 mu (bx.map (Box.subst b base)) E ρ w := by
  have key : ∀ (i : Nat) y, (bx.map (Box.subst b base))[i]? = some y → ∃ z, bx[i]? = some z ∧ y = z.subst b base := by
    intro i y hy
    rw [List.getElem?_map] at hy
    cases hz : bx[i]? with
    | none => rw [hz] at hy; cases hy
    | some z => rw [hz] at hy; simp only [Option.map_some, Option.some.injEq] at hy; exact ⟨z, rfl, hy.symm⟩
  refine ⟨h.keep, by simpa using h.len, ?_, ?_, h.hold, ?_, h.src⟩
  · intro i y oa h1 h2
    obtain ⟨z, hz, rfl⟩ := key i y h1
    exact (h.box i z oa hz h2).subst hb
  · intro i y a h1 ho h2
    obtain ⟨z, hz, rfl⟩ := key i y h1
    rw [Box.subst_own] at ho
    obtain ⟨t1, t2, t3⟩ := h.sep i z a hz ho h2
    refine ⟨t1, fun j y' a' hji hj1 hl hj2 => ?_, t3⟩
    obtain ⟨z', hz', rfl⟩ := key j y' hj1
    rw [Box.subst_live] at hl
    exact t2 j z' a' hji hz' hl hj2
  · intro i y a h1 hl h2
    obtain ⟨z, hz, rfl⟩ := key i y h1
    rw [Box.subst_live] at hl
    exact h.bsrc i z a hz hl h2

theorem Row.val_den {r : Row} {cs : List Value} (h : r.val = some cs) (ρ : Env) : SV.denL ρ r.cells = some cs := by
  cases r with
  | lst l => exact SV.denL_of_val ρ l h
  | vals l => simp only [Row.val, Option.some.injEq] at h; subst h; exact denL_raw l

theorem pubW_sound {w0 : World} {mu : Fm} {ρ : Env} {w : World} {K : List SV → List Box → Mem → Prop} : ∀ (n : Nat) (ss : List SV) (bx : List Box) (E : Mem) (vs : List Value),
    pubW n ss bx E K → Rel w0 mu bx E ρ w → SV.denL ρ ss = some vs → ∃ ss' bx' E', SV.denL ρ ss' = some vs ∧ Rel w0 mu bx' E' ρ w ∧ K ss' bx' E'
  | 0, _, _, _, _, h, _, _ => h.elim
  | n + 1, ss, bx, E, vs, h, hR, hd => by
    unfold pubW at h
    split at h
    · exact ⟨ss, bx, E, hd, hR, h⟩
    · rename_i b0 hb0
      obtain ⟨b, hbd⟩ : ∃ b, deep bx 4 b0 = b := ⟨_, rfl⟩
      rw [hbd] at h
      simp only at h
      split at h
      case h_2 => exact h.elim
      rename_i y hy
      split at h
      case h_2 => exact h.elim
      rename_i cs hcs
      have hi : b < bx.length := by
        rcases Nat.lt_or_ge b bx.length with h' | h'
        · exact h'
        · simp [List.getElem?_eq_none h'] at hy
      have hρ : ∃ base, ρ[b]? = some base := ⟨_, List.getElem?_eq_getElem (by rw [hR.len]; exact hi)⟩
      obtain ⟨base, hρ⟩ := hρ
      have hbox := hR.box b y base hy hρ
      have hshare := hR.share hy
      have hval := Row.val_den hcs
      have hnil : base = none → cs = [] := by
        rintro rfl
        have h1 := hbox.1
        have h2 := hval []
        rw [show y.row.cells = [] from h1] at h2
        simp only [SV.denL, Option.some.injEq] at h2
        exact h2.symm
      let E' : Mem := fun v c => E v c ∨ ∃ off m len cap, off + m ≤ cs.length ∧ v = slcAs base off len cap ∧ c = (cs.drop off).take m
      have hrow : ∀ off m len cap, off + m ≤ cs.length → RowAt w (slcAs base off len cap) ((cs.drop off).take m) ∧
          ((cs.drop off).take m ≠ [] → ∃ a, base = some a ∧ a.spot = none ∧ y.live = true) := by
        intro off m len cap hle
        cases base with
        | none =>
          have h0 : cs = [] := by
            have h1 := hbox.1
            have h2 := hval []
            rw [show y.row.cells = [] from h1] at h2
            simp only [SV.denL, Option.some.injEq] at h2
            exact h2.symm
          subst h0
          exact ⟨.inl (by simp), fun h => by simp at h⟩
        | some a =>
          obtain ⟨h1, vs', h2, h3⟩ := hbox.share
          have : vs' = cs := by
            have := hval ρ
            rw [show ({ y with own := false } : Box).cells = y.row.cells from rfl, this] at h2
            cases h2; rfl
          subst this
          simp only [Bool.false_eq_true, if_false] at h3
          constructor
          · right
            refine ⟨a.add off, len, cap, rfl, by rw [add_eq h1], fun i x hx => ?_⟩
            rw [add_eq h1]
            simp only
            have hi : i < m := by
              rcases Nat.lt_or_ge i m with q | q
              · exact q
              · rw [List.getElem?_eq_none (by simp; omega)] at hx; cases hx
            rw [List.getElem?_take_of_lt hi, List.getElem?_drop] at hx
            rw [Nat.add_assoc]
            exact h3 _ _ hx
          · intro hne
            refine ⟨a, rfl, h1, ?_⟩
            simp only [Box.live, Bool.or_eq_true]
            right
            cases hc : y.cells with
            | nil =>
              have h2 := hval []
              rw [show y.row.cells = [] from hc] at h2
              simp only [SV.denL, Option.some.injEq] at h2
              subst h2; simp at hne
            | cons => rfl
      have hR' : Rel w0 mu (bx.set b { y with own := false }) E' ρ w := hshare.addE (fun v c g => by
          rcases g with g | ⟨off, m, len, cap, hle, rfl, rfl⟩
          · exact hR.hold v c g
          · exact (hrow off m len cap hle).1) (fun v c g hne => by
          rcases g with g | ⟨off, m, len, cap, hle, rfl, rfl⟩
          · exact .inl g
          · right
            obtain ⟨a, rfl, h1, hl⟩ := (hrow off m len cap hle).2 hne
            intro j b' c' g1 g2 g3
            have hj : b ≠ j := by
              rintro rfl
              rw [List.getElem?_set_self hi] at g1
              simp only [Option.some.injEq] at g1; subst g1
              simp at g2
            rw [List.getElem?_set_ne hj] at g1
            have := (hR.sep j b' c' g1 g2 g3).2.1 b y a hj hy hl hρ
            simp only [slcAs, Option.map_some, blk, add_eq h1]
            intro e; simp only [Option.some.injEq] at e; exact this e) (fun v c g hne => by
          rcases g with g | ⟨off, m, len, cap, hle, rfl, rfl⟩
          · exact hR.src _ _ g hne
          · obtain ⟨a, rfl, h1, hl⟩ := (hrow off m len cap hle).2 hne
            exact .inl ⟨a.block, by simp only [slcAs, Option.map_some, blk, add_eq h1], hR.bsrc b y a hy hl hρ⟩)
      exact pubW_sound n _ _ _ vs (h base E' (fun _ _ g => .inl g) ⟨hnil, fun off m len cap hle => .inr ⟨off, m, len, cap, hle, rfl, rfl⟩⟩) (hR'.subst hρ) (substL_den hρ ss hd)

section
variable {P : Program}

/-! ### contracts -/
def NewE (w : World) (E E' : Mem) : Prop := ∀ v cs, E' v cs → cs ≠ [] → (∃ b, blk v = some b ∧ w.heap.size ≤ b) ∨ ∃ v0 cs0, E v0 cs0 ∧ cs0 ≠ [] ∧ blk v = blk v0

/-- A contract: called with these values where E is known of memory, f returns; of what was there nothing has changed, and K holds of the result and of what is known of memory then. -/
def TabSem (P : Program) (f : FuncId) (args : List SV) (E : Mem) (K : SV → Mem → Prop) : Prop :=
  EnterOK P f ∧ ∃ vs, SV.valL args = some vs ∧ ∀ w, Hold E w → Calls P f vs.toArray w fun e w' =>
    ∃ v s E', e = .returned v ∧ s.val = some v ∧ Keep [] w w' ∧ Mem.le E E' ∧ Hold E' w' ∧ NewE w E E' ∧ K s E'

def TabOK (P : Program) (tab : FuncId → List SV → Mem → (SV → Mem → Prop) → Prop) : Prop := ∀ f args E K, tab f args E K → TabSem P f args E K

theorem TabSem.call {f : FuncId} {args : List SV} {bx : List Box} {E : Mem} {K : KT} (h : TabSem P f args E fun s E' => K s bx E') : CallSem P f args bx E K := by
  obtain ⟨hen, vs, hv, h⟩ := h
  intro w0 mu ρ w ws hR hd
  refine hen.reach ?_
  have : ws = vs := by have := SV.denL_of_val ρ args hv; rw [hd] at this; cases this; rfl
  subst this
  refine (h w hR.hold).mono fun e w' he => ?_
  obtain ⟨v, s, E', rfl, h1, h2, h3, h4, h5, h6⟩ := he
  refine ⟨v, s, bx, E', ρ, rfl, List.prefix_refl _, SV.den_of_val ρ s h1, ?_, h6⟩
  refine (hR.grow h2).addE h4 (fun v cs g hne => ?_) (fun v cs g hne => ?_)
  · rcases h5 v cs g hne with ⟨b, e1, e2⟩ | ⟨v0, cs0, g0, hne0, e⟩
    · right
      intro i bb c b1 b2 b3 e3
      have := (hR.box i bb _ b1 b3).lt (by simp [Box.live, b2])
      rw [e1] at e3; cases e3; omega
    · right
      intro i bb c b1 b2 b3
      rw [e]; exact (hR.sep i bb c b1 b2 b3).2.2 v0 cs0 g0 hne0
  · rcases h5 v cs g hne with ⟨b, e1, e2⟩ | ⟨v0, cs0, g0, hne0, e⟩
    · exact .inl ⟨b, e1, .inl (Nat.le_trans hR.keep.size e2)⟩
    · rw [e]; exact hR.src v0 cs0 g0 hne0

theorem TabSem.intro {f : FuncId} {args : List SV} {E : Mem} {K : SV → Mem → Prop} {vs : List Value} (hv : SV.valL args = some vs) (h : CallSemO none P f args [] E (pubK E K)) : TabSem P f args E K := by
  obtain ⟨hen, h⟩ := h
  refine ⟨hen, vs, hv, fun w hE => ?_⟩
  have hR : Rel w ⟨[], E, none, []⟩ [] E [] w := ⟨Keep.refl _ _, rfl, by intro i b oa h; simp at h, by intro i b a h; simp at h, hE, by intro i b a h; simp at h, fun v cs g hne => .inr ⟨v, cs, g, hne, rfl⟩⟩
  refine (h w ⟨[], E, none, []⟩ [] w vs ⟨⟨rfl, trivial⟩, trivial⟩ hR (SV.denL_of_val [] args hv)).mono fun e w' he => ?_
  rcases he with he | ⟨_, q, _⟩
  case inr => cases q
  obtain ⟨v, s, bx', E', ρ', rfl, h1, h2, h3, h4⟩ := he
  unfold pubK at h4
  obtain ⟨ss, bx2, E2, h5, h6, h7, h9⟩ := pubW_sound 16 [s] bx' E' [v] h4 h3 (by simp only [SV.denL, h2])
  split at h9
  case h_2 => exact h9.elim
  rename_i r
  split at h9
  case h_2 => exact h9.elim
  rename_i x h8
  have hx : x = v := by
    simp only [SV.denL, SV.den_of_val ρ' r h8, Option.some.injEq, List.cons.injEq, and_true] at h5
    exact h5
  subst hx
  refine ⟨x, r, E2, rfl, h8, h6.keep, h7, h6.hold, fun v cs g hne => ?_, h9⟩
  rcases h6.src v cs g hne with ⟨b, e1, e2⟩ | e
  · rcases e2 with e2 | e2
    · exact .inl ⟨b, e1, e2⟩
    · cases e2
  · exact .inr e

theorem pubW_mono {K K' : List SV → List Box → Mem → Prop} (h : ∀ ss bx E, K ss bx E → K' ss bx E) : ∀ (n : Nat) (ss : List SV) (bx : List Box) (E : Mem), pubW n ss bx E K → pubW n ss bx E K'
  | 0, _, _, _, x => x
  | n + 1, ss, bx, E, x => by
    unfold pubW at x ⊢
    split at x
    · rename_i hb; exact h _ _ _ x
    · rename_i b0 hb0
      obtain ⟨b, hbd⟩ : ∃ b, deep bx 4 b0 = b := ⟨_, rfl⟩
      rw [hbd] at x ⊢
      simp only at x ⊢
      split at x
      case h_2 => exact x.elim
      split at x
      case h_2 => exact x.elim
      exact fun base E' h1 h2 => pubW_mono h n _ _ _ (x base E' h1 h2)

theorem pubK_mono {E : Mem} {K K' : SV → Mem → Prop} (h : ∀ s E', Mem.le E E' → K s E' → K' s E') {s : SV} {bx : List Box} {E' : Mem} (x : pubK E K s bx E') : pubK E K' s bx E' := by
  unfold pubK at *
  refine pubW_mono (fun ss bx E'' y => ?_) _ _ _ _ x
  refine ⟨y.1, ?_⟩
  obtain ⟨y1, y2⟩ := y
  match ss, y2 with
  | [r], y2 =>
    simp only at y2 ⊢
    split at y2
    · exact h _ _ y1 y2
    · exact y2.elim

theorem TabSem.mono {f : FuncId} {args : List SV} {E : Mem} {K K' : SV → Mem → Prop} (x : TabSem P f args E K) (h : ∀ s E', K s E' → K' s E') : TabSem P f args E K' :=
  ⟨x.1, let ⟨vs, h1, h2⟩ := x.2; ⟨vs, h1, fun w hw => (h2 w hw).mono fun _ _ he => let ⟨v, s, E', a1, a2, a3, a4, a5, a6, a7⟩ := he; ⟨v, s, E', a1, a2, a3, a4, a5, a6, h _ _ a7⟩⟩⟩

end
end Go.Sx
