/- The symbolic evaluator, part O: the frame of a law: the arguments opened by their types, and what the law answers shut. Conditions: none; generic over programs. -/
import Derived.Test.YtjibgfihfbdcaaaSyS
import Derived.ProofKit
import Derived.OpenShut
import Derived.ChangeOld
import Derived.Carry
import Derived.ChangeArms
namespace Go.Sx
open Go.RowKit (Below)
open Go.ChangeShapes

/-- What a value of a type looks like, cell by cell. -/
def Shp (P : Program) (W : World) : Nat → TypeId → List Value → Prop
  | 0, _, _ => True
  | n + 1, T, cs =>
    match P.underlying T with
    | some (.int k) => ∃ z : Int, cs = [.int k z] ∧ (Lit.int k z).wf = true
    | some .bool => ∃ b : Bool, cs = [.bool b]
    | some .string => ∃ s : ByteArray, cs = [.string s] ∧ s.size ≤ maxLen
    | some (.slice e) => ∃ (base : Option Addr) (len cap : Nat) (rows : List (List Value)), cs = [.slice base len cap] ∧ len ≤ cap ∧ cap ≤ maxLen ∧ (base = none → cap = 0) ∧ rows.length = cap ∧
        RowAt W (.slice base len cap) rows.flatten ∧ ∀ r ∈ rows, r.length = P.cellsOf e ∧ Shp P W n e r
    | some (.struct fs) => cs.length = P.cellsOf T ∧ ∀ f ∈ fs.toList, Shp P W n f.type ((cs.drop f.offset).take (P.cellsOf f.type))
    | some (.array k e) => cs.length = P.cellsOf T ∧ ∀ i, i < k → Shp P W n e ((cs.drop (i * P.cellsOf e)).take (P.cellsOf e))
    | _ => True

section
variable {H : Type} {enc : TypeId × Value → H} {P : Program} {W : World} {base b0 : Nat} {held : Bool}

theorem cells?_get {a : Addr} {n : Nat} {r : List Value} (h : W.cells? base a n = some r) : r.length = n ∧ ∀ i x, r[i]? = some x → W.cell? (a.add i) = some x := by
  unfold World.cells? at h
  split at h
  case isFalse => cases h
  have hl := mapM_some_length h
  simp at hl
  refine ⟨hl, fun i x hx => ?_⟩
  have hi : i < n := by
    rw [← hl]
    rcases Nat.lt_or_ge i r.length with h' | h'
    · exact h'
    · rw [List.getElem?_eq_none h'] at hx; cases hx
  rw [mapM_some_get h i i (by simp [hi]), hx]

theorem add_two (a : Addr) (i j : Nat) : (a.add i).add j = a.add (i + j) := by
  cases a with
  | mk b o s =>
    unfold Addr.add
    split <;> split <;> simp_all <;> omega

theorem spot_of_cell {a : Addr} {x : Value} (h : W.cell? a = some x) : a.spot = none := by
  unfold World.cell? at h
  split at h
  · split at h
    · cases h
    · rename_i hs; simpa using hs
  · cases h

theorem flatten_get {m : Nat} : ∀ {rows : List (List Value)} (_ : ∀ r ∈ rows, r.length = m) {i : Nat} {x : Value}, rows.flatten[i]? = some x → ∃ r j, rows[i / m]? = some r ∧ j = i % m ∧ r[j]? = some x
  | [], _, i, x, h => by simp at h
  | r :: rows, hm, i, x, h => by
    have hr : r.length = m := hm r (by simp)
    rw [List.flatten_cons] at h
    by_cases hi : i < m
    · rw [List.getElem?_append_left (by omega)] at h
      exact ⟨r, i, by rw [Nat.div_eq_of_lt hi]; rfl, (Nat.mod_eq_of_lt hi).symm, h⟩
    · rw [List.getElem?_append_right (by omega), hr] at h
      obtain ⟨r', j, h1, h2, h3⟩ := flatten_get (fun r h => hm r (by simp [h])) h
      have hm0 : 0 < m := by
        rcases Nat.eq_zero_or_pos m with e | e
        · subst e
          exfalso
          have hz : rows.flatten = [] := by
            rw [List.flatten_eq_nil_iff]
            intro q hq
            exact List.eq_nil_of_length_eq_zero (hm q (by simp [hq]))
          rw [hz] at h
          simp at h
        · exact e
      refine ⟨r', j, ?_, ?_, h3⟩
      · rw [Nat.div_eq_sub_div hm0 (by omega), List.getElem?_cons_succ]; exact h1
      · rw [h2]; exact (Nat.mod_eq_sub_mod (by omega)).symm

theorem trod_shp : ∀ (n fuel : Nat) (T : TypeId) (cs : List Value) (x : DataW H × List MemPlace), DataW.trod enc P W base (fun _ => true) held fuel T cs = some x → Shp P W n T cs
  | 0, _, _, _, _, _ => trivial
  | n + 1, fuel, T, cs, x, h => by
    unfold Shp
    split
    · rename_i k ht
      obtain ⟨z, h1, _, h2⟩ := DataW.trod_int ht h
      exact ⟨z, h1, h2⟩
    · rename_i ht
      obtain ⟨b, h1, _⟩ := DataW.trod_bool ht h
      exact ⟨b, h1⟩
    · rename_i ht
      obtain ⟨s, h1, _, h2⟩ := DataW.trod_string ht h
      exact ⟨s, h1, h2⟩
    · rename_i e ht
      rcases DataW.trod_slice ht h with ⟨h1, _⟩ | ⟨a, len, cap, elems, rest, m, _, h1, _, hb, hl, hm, hlen, hel, hsp, _⟩
      · exact ⟨none, 0, 0, [], h1, Nat.le_refl _, Nat.zero_le _, fun _ => rfl, rfl, .inl rfl, by simp⟩
      · obtain ⟨hrl, hre⟩ := hsp rfl
        have each : ∀ i, i < cap → ∃ r, W.cells? base (a.add (i * P.cellsOf e)) (P.cellsOf e) = some r ∧ ∃ y, DataW.trod enc P W base (fun _ => true) held m e r = some y := by
          intro i hi
          have : ∃ y, (W.cells? base (a.add (i * P.cellsOf e)) (P.cellsOf e)).bind (DataW.trod enc P W base (fun _ => true) held m e) = some y := by
            by_cases hi2 : i < len
            · exact ⟨_, by rw [hel i hi2, List.getElem?_eq_getElem (by omega)]⟩
            · obtain ⟨j, rfl⟩ : ∃ j, i = len + j := ⟨i - len, by omega⟩
              exact ⟨_, by rw [hre j (by omega), List.getElem?_eq_getElem (by omega)]⟩
          obtain ⟨y, hy⟩ := this
          simp only [Option.bind_eq_some_iff] at hy
          obtain ⟨r, h2, h3⟩ := hy
          exact ⟨r, h2, y, h3⟩
        let row (i : Nat) : List Value := (W.cells? base (a.add (i * P.cellsOf e)) (P.cellsOf e)).getD []
        have hrow : ∀ r ∈ (List.range cap).map row, r.length = P.cellsOf e ∧ ∃ i, i < cap ∧ W.cells? base (a.add (i * P.cellsOf e)) (P.cellsOf e) = some r := by
          intro r hr
          obtain ⟨i, hi, rfl⟩ := List.mem_map.mp hr
          simp at hi
          obtain ⟨r, h2, _⟩ := each i hi
          have : row i = r := by simp only [row, h2, Option.getD_some]
          rw [this]
          exact ⟨(cells?_get h2).1, i, hi, h2⟩
        refine ⟨some a, len, cap, (List.range cap).map row, h1, hl, hm, (fun h => by cases h), by simp, ?_, ?_⟩
        · have hcell : ∀ i x, ((List.range cap).map row).flatten[i]? = some x → W.cell? (a.add i) = some x := by
            intro i x hx
            obtain ⟨r, j, h2, h3, h4⟩ := flatten_get (m := P.cellsOf e) (fun r hr => (hrow r hr).1) hx
            have hi : i / P.cellsOf e < cap := by
              rcases Nat.lt_or_ge (i / P.cellsOf e) cap with h' | h'
              · exact h'
              · rw [List.getElem?_eq_none (by simpa using h')] at h2; cases h2
            obtain ⟨r', h5, _⟩ := each _ hi
            have : r = r' := by
              simp [hi] at h2
              rw [← h2]
              simp only [row, h5, Option.getD_some]
            subst this
            have := (cells?_get h5).2 j x h4
            rw [add_two, h3] at this
            rw [show i / P.cellsOf e * P.cellsOf e + i % P.cellsOf e = i by rw [Nat.mul_comm]; exact Nat.div_add_mod i _] at this
            exact this
          rcases hf : ((List.range cap).map row).flatten with _ | ⟨x, xs⟩
          · exact .inl rfl
          · rw [← hf]
            have h0 := hcell 0 x (by rw [hf]; rfl)
            have hs : a.spot = none := by
              have := spot_of_cell h0
              cases a with
              | mk b o s =>
                unfold Addr.add at this
                split at this <;> simp_all
            exact .inr ⟨a, len, cap, rfl, hs, fun i x hx => by rw [← add_eq hs]; exact hcell i x hx⟩
        · intro r hr
          obtain ⟨h2, i, hi, h3⟩ := hrow r hr
          obtain ⟨r', h4, y, h5⟩ := each i hi
          rw [h3] at h4; cases h4
          exact ⟨h2, trod_shp n m e r y h5⟩
    · rename_i fs ht
      obtain ⟨xs, m, _, _, hl, hlen, hf⟩ := DataW.trod_struct ht h
      refine ⟨hl, fun f hfm => ?_⟩
      obtain ⟨i, hi, he⟩ := List.getElem_of_mem hfm
      have hi' : i < fs.size := by simpa using hi
      have := hf i f (by rw [Array.getElem?_eq_getElem hi']; simpa using he)
      rw [List.getElem?_eq_getElem (by omega)] at this
      exact trod_shp n m _ _ _ this
    · rename_i k e ht
      obtain ⟨xs, m, _, _, hl, hlen, hf⟩ := DataW.trod_array ht h
      refine ⟨hl, fun i hi => ?_⟩
      have := hf i hi
      rw [List.getElem?_eq_getElem (by omega)] at this
      exact trod_shp n m _ _ _ this
    · trivial

/-- For whatever value of a type: its cells. -/
def opn (P : Program) (W : World) : Nat → TypeId → (List Value → Prop) → Prop
  | 0, _, _ => False
  | n + 1, T, K =>
    match P.underlying T with
    | some (.int k) => ∀ z : Int, (Lit.int k z).wf = true → K [.int k z]
    | some .bool => ∀ b : Bool, K [.bool b]
    | some .string => ∀ s : ByteArray, s.size ≤ maxLen → K [.string s]
    | some (.slice e) => match P.underlying e with
      | some (.int k) => ∀ (base : Option Addr) (len cap : Nat) (zs : List Int), len ≤ cap → cap ≤ maxLen → (base = none → cap = 0) → zs.length = cap → (∀ z ∈ zs, (Lit.int k z).wf = true) →
          RowAt W (.slice base len cap) (zs.map (.int k)) → K [.slice base len cap]
      | _ => ∀ (base : Option Addr) (len cap : Nat) (rows : List (List Value)), len ≤ cap → cap ≤ maxLen → (base = none → cap = 0) → rows.length = cap →
          RowAt W (.slice base len cap) rows.flatten → (∀ r ∈ rows, r.length = P.cellsOf e ∧ Shp P W 12 e r) → K [.slice base len cap]
    | some (.struct fs) => flds (fun t => opn P W n t) 0 (P.cellsOf T) fs.toList K
    | some (.array k e) => if P.cellsOf T = k * P.cellsOf e then elts (fun t => opn P W n t) e k K else False
    | _ => ∀ cs, K cs
where
  flds (r : TypeId → (List Value → Prop) → Prop) : Nat → Nat → List Field → (List Value → Prop) → Prop
    | off, tot, [], K => if off = tot then K [] else False
    | off, tot, f :: fs, K => if f.offset = off then r f.type fun c => flds r (off + P.cellsOf f.type) tot fs fun cs => K (c ++ cs) else False
  elts (r : TypeId → (List Value → Prop) → Prop) (e : TypeId) : Nat → (List Value → Prop) → Prop
    | 0, K => K []
    | k + 1, K => r e fun c => elts r e k fun cs => K (c ++ cs)


theorem ints_of_rows {W : World} {e : TypeId} {k : IntKind} (he : P.underlying e = some (.int k)) : ∀ {rows : List (List Value)} (_ : ∀ r ∈ rows, Shp P W 1 e r), ∃ zs : List Int, rows.flatten = zs.map (.int k) ∧ zs.length = rows.length ∧ ∀ z ∈ zs, (Lit.int k z).wf = true
  | [], _ => ⟨[], rfl, rfl, by simp⟩
  | r :: rows, h => by
    obtain ⟨zs, h1, h2, h3⟩ := ints_of_rows he (rows := rows) (fun r hr => h r (by simp [hr]))
    have := h r (by simp)
    simp only [Shp, he] at this
    obtain ⟨z, rfl, hz⟩ := this
    exact ⟨z :: zs, by simp [h1], by simp [h2], fun y hy => by
      rcases List.mem_cons.mp hy with rfl | hy
      · exact hz
      · exact h3 y hy⟩

theorem flds_sound {n : Nat} {cs : List Value} (ih : ∀ T K c, opn P W n T K → (∀ m, Shp P W m T c) → K c) : ∀ (fs : List Field) (off : Nat) (K : List Value → Prop),
    (∀ f ∈ fs, ∀ m, Shp P W m f.type ((cs.drop f.offset).take (P.cellsOf f.type))) → opn.flds P (fun t => opn P W n t) off cs.length fs K → K (cs.drop off)
  | [], off, K, _, h => by
    simp only [opn.flds] at h
    split at h
    · subst_vars; simpa using h
    · exact h.elim
  | f :: fs, off, K, hs, h => by
    simp only [opn.flds] at h
    split at h
    case isFalse => exact h.elim
    rename_i ho
    subst ho
    have h1 := ih _ _ _ h (hs f (by simp))
    have h2 := flds_sound ih fs _ _ (fun g hg => hs g (by simp [hg])) h1
    rw [← List.drop_drop, List.take_append_drop] at h2
    exact h2

theorem elts_sound {n : Nat} {e : TypeId} {cs : List Value} (ih : ∀ T K c, opn P W n T K → (∀ m, Shp P W m T c) → K c) : ∀ (k i : Nat) (K : List Value → Prop),
    cs.length = (i + k) * P.cellsOf e → (∀ j, j < k → ∀ m, Shp P W m e ((cs.drop ((i + j) * P.cellsOf e)).take (P.cellsOf e))) → opn.elts (fun t => opn P W n t) e k K → K (cs.drop (i * P.cellsOf e))
  | 0, i, K, hl, _, h => by
    simp only [opn.elts] at h
    rw [List.drop_eq_nil_of_le (by rw [hl]; simp)]; exact h
  | k + 1, i, K, hl, hs, h => by
    simp only [opn.elts] at h
    have h1 := ih _ _ _ h (hs 0 (by omega))
    have h2 := elts_sound ih k (i + 1) _ (by rw [hl]; congr 1; omega) (fun j hj => by have := hs (j + 1) (by omega); rwa [show i + (j + 1) = i + 1 + j by omega] at this) h1
    rw [Nat.add_zero, Nat.add_mul, Nat.one_mul, ← List.drop_drop, List.take_append_drop] at h2
    exact h2

theorem opn_sound : ∀ (n : Nat) (T : TypeId) (K : List Value → Prop) (cs : List Value), opn P W n T K → (∀ m, Shp P W m T cs) → K cs
  | 0, _, _, _, h, _ => h.elim
  | n + 1, T, K, cs, h, hs => by
    obtain ⟨k0, hk0⟩ : ∃ k0, k0 = 12 := ⟨_, rfl⟩
    have h0 := hs (k0 + 1)
    unfold opn at h
    try rw [← hk0] at h
    simp only [Shp] at h0
    split at h
    · rename_i k ht
      simp only [ht] at h0
      obtain ⟨z, rfl, hz⟩ := h0; exact h z hz
    · rename_i ht
      simp only [ht] at h0
      obtain ⟨z, rfl⟩ := h0; exact h z
    · rename_i ht
      simp only [ht] at h0
      obtain ⟨z, rfl, hz⟩ := h0; exact h z hz
    · rename_i e ht
      simp only [ht] at h0
      obtain ⟨base, len, cap, rows, rfl, h1, h2, h3, h4, h5, h6⟩ := h0
      split at h
      · rename_i k he
        subst hk0
        obtain ⟨zs, g1, g2, g3⟩ := ints_of_rows (W := W) he (rows := rows) (fun r hr => by
          have : Shp P W (11 + 1) e r := (h6 r hr).2
          unfold Shp at this ⊢
          rw [he] at this ⊢
          exact this)
        rw [g1] at h5
        exact h base len cap zs h1 h2 h3 (by omega) g3 h5
      · subst hk0; exact h base len cap rows h1 h2 h3 h4 h5 h6
    · rename_i fs ht
      simp only [ht] at h0
      rw [← h0.1] at h
      have := flds_sound (cs := cs) (opn_sound n) fs.toList 0 K (fun f hf m => by
        have := hs (m + 1)
        simp only [Shp, ht] at this
        exact this.2 f hf) h
      simpa using this
    · rename_i k e ht
      simp only [ht] at h0
      split at h
      case isFalse => exact h.elim
      rename_i hsz
      have := elts_sound (cs := cs) (opn_sound n) k 0 K (by rw [h0.1, hsz]; simp) (fun j hj m => by
        have := hs (m + 1)
        simp only [Shp, ht] at this
        rw [Nat.zero_add]
        exact this.2 j hj) h
      simpa using this
    · exact h cs

/-- For whatever arguments of a list of types. -/
def opnAll (P : Program) (W : World) : List TypeId → (List SV → Prop) → Prop
  | [], K => K []
  | T :: Ts, K =>
    match P.underlying T with
    | some (.struct _) | some (.array ..) => opn P W 12 T fun cs => opnAll P W Ts fun ss => K (.agg (cs.map .raw) :: ss)
    | some .bool | some (.int _) | some .string | some (.slice _) => opn P W 12 T fun cs => match cs with
      | [v] => opnAll P W Ts fun ss => K (.raw v :: ss)
      | _ => False
    | _ => ∀ v, opnAll P W Ts fun ss => K (.raw v :: ss)

theorem valL_raws : ∀ (cs : List Value), SV.valL (cs.map .raw) = some cs
  | [] => rfl
  | c :: cs => by simp [SV.valL, SV.val, valL_raws cs]

theorem opnAll_sound : ∀ {Ts : List TypeId} {vs : List Value} {ds : List (DataW H)} {ps : List MemPlace} {K : List SV → Prop}, DataW.TrodAll enc P W base (fun _ => true) held Ts vs ds ps →
    (∀ (j : Nat) t v, Ts[j]? = some t → vs[j]? = some v → Value.okWide P W .any b0 t v) → opnAll P W Ts K → ∃ ss, SV.valL ss = some vs ∧ K ss
  | [], vs, ds, ps, K, h, _, hk => by
    obtain ⟨rfl, rfl, rfl⟩ := trodAll_nil h
    exact ⟨[], rfl, hk⟩
  | T :: Ts, vs, ds, ps, K, h, hok, hk => by
    obtain ⟨v, vs, d, ds, p, q, rfl, rfl, rfl, ⟨fuel, h1⟩, h2⟩ := trodAll_cons h
    have hshp : ∀ m, Shp P W m T v.cells.toList := fun m => trod_shp m _ _ _ _ h1
    have hv := hok 0 T v rfl rfl
    have hrest : ∀ K', opnAll P W Ts K' → ∃ ss, SV.valL ss = some vs ∧ K' ss := fun K' hk' => opnAll_sound h2 (fun j t v ht hv => hok (j + 1) t v (by simpa using ht) (by simpa using hv)) hk'
    have hagg : (∃ cs, v = .agg cs) → (opn P W 12 T fun cs => opnAll P W Ts fun ss => K (.agg (cs.map .raw) :: ss)) → ∃ ss, SV.valL ss = some (v :: vs) ∧ K ss := by
      rintro ⟨cs, rfl⟩ hk
      have := opn_sound 12 T _ _ hk hshp
      obtain ⟨ss, h3, h4⟩ := hrest _ this
      exact ⟨_, by simp [SV.valL, SV.val, valL_raws, h3, Value.cells], h4⟩
    have hone : v.cells = #[v] → (opn P W 12 T fun cs => match cs with
      | [v] => opnAll P W Ts fun ss => K (.raw v :: ss)
      | _ => False) → ∃ ss, SV.valL ss = some (v :: vs) ∧ K ss := by
      intro hc hk
      have := opn_sound 12 T _ _ hk hshp
      rw [hc] at this
      obtain ⟨ss, h3, h4⟩ := hrest _ this
      exact ⟨_, by simp [SV.valL, SV.val, h3], h4⟩
    simp only [opnAll] at hk
    simp only [Value.okWide] at hv
    split at hk
    · rename_i fs ht
      simp only [ht] at hv
      exact hagg ⟨_, hv.choose_spec.1⟩ hk
    · rename_i n e ht
      simp only [ht] at hv
      exact hagg ⟨_, hv.choose_spec.1⟩ hk
    · rename_i ht
      simp only [ht, Cell.okWide, Cell.ok] at hv
      refine hone ?_ hk
      clear hk hone hagg hrest hshp h1 h2 hok
      cases v <;> simp_all [Value.cells]
    · rename_i k ht
      simp only [ht, Cell.okWide, Cell.ok] at hv
      refine hone ?_ hk
      clear hk hone hagg hrest hshp h1 h2 hok
      cases v <;> simp_all [Value.cells]
    · rename_i ht
      simp only [ht, Cell.okWide, Cell.ok] at hv
      refine hone ?_ hk
      clear hk hone hagg hrest hshp h1 h2 hok
      cases v <;> simp_all [Value.cells]
    · rename_i e ht
      simp only [ht, Cell.okWide, Cell.ok] at hv
      refine hone ?_ hk
      clear hk hone hagg hrest hshp h1 h2 hok
      cases v <;> simp_all [Value.cells]
    · obtain ⟨ss, h3, h4⟩ := hrest _ (hk v)
      exact ⟨_, by simp [SV.valL, SV.val, h3], h4⟩

/-- The arguments read as they did. -/
theorem trodAll_below {W' : World} (hl : laidOutB P = true) (hb : Below W.heap.size W W') : ∀ {Ts : List TypeId} {vs : List Value} {ds : List (DataW H)} {ps : List MemPlace}, (Ts.all fun t => P.readableRec t && decide (t < P.types.size)) = true →
    DataW.TrodAll enc P W 0 (fun _ => true) true Ts vs ds ps → DataW.TrodAll enc P W' 0 (fun b => decide (b < W.heap.size)) true Ts vs ds ps
  | [], vs, ds, ps, _, h => by
    obtain ⟨rfl, rfl, rfl⟩ := trodAll_nil h
    exact trodAll_mk0
  | T :: Ts, vs, ds, ps, hr, h => by
    obtain ⟨v, vs, d, ds, p, q, rfl, rfl, rfl, h1, h2⟩ := trodAll_cons h
    simp only [List.all_cons, Bool.and_eq_true, decide_eq_true_eq] at hr
    have lt : ∀ x ∈ p, x.block < W.heap.size := by obtain ⟨m, hm⟩ := h1; exact DataW.trod_lt m _ _ _ hm
    exact trodAll_cons_mk (Below.trod hl hr.1.1 hr.1.2 h1 hb lt) (trodAll_below hl hb (by simpa using hr.2) h2)

theorem trodAll_len : ∀ {Ts : List TypeId} {vs : List Value} {ds : List (DataW H)} {ps : List MemPlace} {sp : Nat → Bool}, DataW.TrodAll enc P W base sp held Ts vs ds ps → ds.length = Ts.length
  | [], _, _, _, _, h => by obtain ⟨_, rfl, _⟩ := trodAll_nil h; rfl
  | T :: Ts, _, _, _, _, h => by obtain ⟨_, _, _, _, _, _, _, rfl, _, _, h2⟩ := trodAll_cons h; simp [trodAll_len h2]

end

/-- A law that answers true and leaves its arguments alone. -/
theorem lift_true {C : Checked} {os : Os} {f : FuncId} {fn : Func} {s : ChangeSpec} {conds : List PathCond} {H : Type} {enc : TypeId × Value → H}
    (own : ownKnob C.prog.godebug = none) (lay : laidOutB C.prog = true) (started : os.Started) (noInit : C.prog.inits.idxOf? f = none) (hfn : C.prog.funcs[f]? = some fn)
    (witness : ∃ (w : World) (tape : Tape) (i : Input), w.os = os ∧ (w.forCall tape i).Shaped C.prog ∧ i.vars = [] ∧ Input.okWide C.prog (w.forCall tape i) .any w.heap.size f i ∧
      s.pre6 enc C.prog fn conds false (w.forCall tape i).memory i.args ∧ ({} : Assume).holds C.prog (lone (Frame.enter C.prog f i.args .normal) [] (w.forCall tape i)))
    {Tb : TypeId} (hres : fn.resultTypes = #[Tb]) (hTb : C.prog.underlying Tb = some .bool) (hread : (fn.params.toList.all fun t => C.prog.readableRec t && decide (t < C.prog.types.size)) = true)
    (hvars : s.vars = []) (hspec : ∀ (ds : List (DataW H)), ds.length = fn.params.toList.length → (s.fn H ds).results = [.lit (.bool true)] ∧ (s.fn H ds).args = ds ∧ (s.fn H ds).vars = [])
    (sem : ∀ W, opnAll C.prog W fn.params.toList fun ss => TabSem C.prog f ss (fun v cs => RowAt W v cs) fun r _ => r = .raw (.bool true)) :
    ReturnsInHanded {} C os f .any (s.pre6 enc C.prog fn conds false) (s.post enc C.prog fn false true false false) := by
  refine returnsInHanded_of_change own started noInit hfn witness ?_
  intro W base args ds gs before hval hW _ _
  have hW' := hW
  obtain ⟨p, q, hA, hV, rfl, hfz, hnd⟩ := hW
  rw [hvars] at hV
  obtain ⟨rfl, rfl⟩ := trodVars_none hV
  obtain ⟨ss, h1, h2⟩ := opnAll_sound (b0 := base) hA (fun j t v ht hv => hval j t v (by simpa using ht) (by simpa using hv)) (sem W)
  obtain ⟨hen, vs, h3, h4⟩ := h2
  rw [h1] at h3
  obtain rfl := Option.some.inj h3
  refine (h4 W (fun v cs h => h)).mono fun e W' he => ?_
  obtain ⟨v, r, E', rfl, hr, hk, _, _, _, rfl⟩ := he
  simp only [SV.val, Option.some.injEq] at hr
  subst hr
  obtain ⟨e1, e2, e3⟩ := hspec (ds ++ []) (by simpa using trodAll_len hA)
  refine ⟨_, rfl, ds, [], _, [], p, [], hW', ?_, ?_, ?_, hk.below.frame _, fun h => by cases h⟩
  · rw [e1, hres]
    exact trodAll_mk1 (Go.RowKit.shut_bool hTb true)
  · rw [e2, List.append_nil]
    exact trodAll_below lay hk.below hread hA
  · rw [e3, hvars]
    rfl

end Go.Sx
