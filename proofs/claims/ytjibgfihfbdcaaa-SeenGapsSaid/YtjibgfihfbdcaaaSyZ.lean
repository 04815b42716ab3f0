/- The symbolic evaluator, part Z: slices of structs, laid out row by row; whether two rows overlap. Conditions: none; generic over programs. -/
import Derived.Test.YtjibgfihfbdcaaaSyY
import Derived.Test.YtjibgfihfbdcaaaSyW
import Derived.Lib.Overlaps
namespace Go.Sx
open Go

/-! ### slices.overlaps, of two rows of the activation's own -/
theorem overlaps_sem {P : Program} {f : FuncId} {fn : Func} (hf : P.funcs[f]? = some fn) (h1 : (fn.name == "runtime.NumGoroutine") = false) (h2 : fn.body.isNone = true) (h3 : Extern.findNext fn = none) {tS tR e : TypeId}
    (h4 : Extern.find fn = some (Extern.SlicesOverlaps.overlaps #[tS, tS] #[tR])) (ht : P.underlying tS = some (.slice e)) {i : TypeInfo} (hi : P.info? e = some i)
    {b b' off n cap off' n' cap' : Nat} {y y' : Box} {bx : List Box} {E : Mem} {K : KT} (hb : bx[b]? = some y) (hb' : bx[b']? = some y') (ho : y.own = true) (ho' : y'.own = true) (hne : b ≠ b') (htot : 0 < y'.total)
    (h : K (.raw (.bool false)) bx E) : CallSem P f [.slc b off n cap, .slc b' off' n' cap'] bx E K := by
  intro w0 mu ρ w vs hR hd
  simp only [SV.denL, SV.den] at hd
  split at hd
  case h_2 => cases hd
  rename_i v us hv hus
  split at hus
  case h_2 => cases hus
  rename_i v' us' hv' hus'
  simp only [Option.some.injEq] at hd hus hus'
  subst hus'; subst hus; subst hd
  have hz : ∀ w, (Go.sizeOf e).run P w = .ok i.size w := fun w => run_sizeOf' hi w
  have hrun : (Extern.SlicesOverlaps.overlaps #[tS, tS] #[tR] #[v, v']).run P w = .ok (.bool false) w := by
    have hnone : ∀ a b la ca lb cb, (a = none ∨ b = none) → (Extern.SlicesOverlaps.overlaps #[tS, tS] #[tR] #[.slice a la ca, .slice b lb cb]).run P w = .ok (.bool false) w := by
      intro a b la ca lb cb hab
      have hdef : Extern.SlicesOverlaps.overlaps #[tS, tS] #[tR] #[.slice a la ca, .slice b lb cb] = (do
          let some t := (#[tS, tS] : Array TypeId)[0]? | stuck "slices.overlaps: no parameter types"
          let .slice elem ← underlying t | stuck "slices.overlaps: slice type expected"
          let size ← sizeOf elem
          match a, b with
          | some a, some b =>
            if la = 0 ∨ lb = 0 ∨ size = 0 then pure (Value.bool false)
            else if a.block != b.block && (← frozen a) && (← frozen b) then unsupported .addressObserved
            else do
              if a.block != b.block then do
                noView a; noView b
                if ← mayBeOne a b then return Value.bool ((← choose (.extern "sameAddr.stringBytes" 2)) == 1)
              pure (Value.bool (a.block == b.block && a.off < b.off + lb * size && b.off < a.off + la * size))
          | _, _ => pure (Value.bool false)) := rfl
      cases a with
      | none => rw [hdef]; simp [run_underlying ht, hz]
      | some a =>
        cases b with
        | none => rw [hdef]; simp [run_underlying ht, hz]
        | some b => rcases hab with h | h <;> cases h
    rcases slcDen_some hv with ⟨c, hc, rfl⟩ | ⟨_, _, _, _, rfl⟩
    · rcases slcDen_some hv' with ⟨c', hc', rfl⟩ | ⟨_, _, _, _, rfl⟩
      · obtain ⟨hsp, ws, hw, k⟩ := hR.box b _ _ hb hc
        obtain ⟨hsp', ws', hw', k'⟩ := hR.box b' _ _ hb' hc'
        rw [if_pos ho] at k
        rw [if_pos ho'] at k'
        obtain ⟨hoff, junk, hheap, hl⟩ := k
        obtain ⟨hoff', junk', hheap', hl'⟩ := k'
        have hblk := (hR.sep b' _ c' hb' ho' hc').2.1 b y c hne hb (by simp [Box.live, ho]) hc
        rw [add_eq hsp, add_eq hsp']
        refine Lib.run_overlaps_apart w tS tR e ht i.size hz _ _ n cap n' cap' hblk y.elem y'.elem (ws ++ junk).length (ws' ++ junk').length ?_ ?_ (by rw [hl']; omega) ?_ ?_
        · simp [World.shape?, hheap]
        · simp [World.shape?, hheap']
        · simp [World.frozen?, hheap]
        · simp [World.frozen?, hheap]
      · exact hnone _ _ _ _ _ _ (.inr rfl)
    · rcases slcDen_some hv' with ⟨c', hc', rfl⟩ | ⟨_, _, _, _, rfl⟩
      · exact hnone _ _ _ _ _ _ (.inl rfl)
      · exact hnone _ _ _ _ _ _ (.inl rfl)
  have hcall : (callFunc f [v, v'].toArray).run P w = .ok (.value (.bool false)) w := by
    unfold callFunc
    have hr' : (Extern.SlicesOverlaps.overlaps #[tS, tS] #[tR] [v, v'].toArray).run P w = _ := hrun
    simp only [Sem.run_bind, run_program, Result.andThen_ok, hf, h1, h2, h3, h4, Bool.false_eq_true, if_false, if_true, run_mark, Sem.run_pure, hr']
  exact .inr ⟨_, _, hcall, _, _, _, E, ρ, rfl, List.prefix_refl _, rfl, hR, h⟩

/-! ### slices of rows -/
/-- What the cells of an element say of it. -/
abbrev RowR (α : Type) := Mem → α → List Value → Prop
structure RowOK {α : Type} (k : Nat) (R : RowR α) : Prop where
  mono : ∀ {E E' : Mem} {x : α} {r : List Value}, Mem.le E E' → R E x r → R E' x r
  len : ∀ {E : Mem} {x : α} {r : List Value}, R E x r → r.length = k
  one : ∀ {E : Mem} {x : α} {r : List Value}, R E x r → ∀ v ∈ r, v.oneCell' = true
  pos : 0 < k

/-- Rows, and the elements that they stand for. -/
def SLr {α : Type} (R : RowR α) (E : Mem) (rs : List (List Value)) (xs : List α) : Prop := rs.length = xs.length ∧ ∀ (i : Nat) r x, rs[i]? = some r → xs[i]? = some x → R E x r
/-- A slice of them. -/
def SL {α : Type} (R : RowR α) (E : Mem) (b : Option Addr) (n c : Nat) (xs : List α) : Prop :=
  ∃ rs, SLr R E rs xs ∧ xs.length = n ∧ n ≤ c ∧ (n = 0 ∨ E (.slice b n c) rs.flatten) ∧ (b = none → n = 0)

section
variable {α : Type} {k : Nat} {R : RowR α} {E E' : Mem} {rs rt : List (List Value)} {xs ys : List α} {b b' : Option Addr} {n c : Nat}

theorem SLr.mono (ok : RowOK k R) (h : SLr R E rs xs) (he : Mem.le E E') : SLr R E' rs xs := ⟨h.1, fun i r x h1 h2 => ok.mono he (h.2 i r x h1 h2)⟩
theorem SLr.nil : SLr R E [] [] := ⟨rfl, fun i r x h => by simp at h⟩
theorem SLr.app (h : SLr R E rs xs) (q : SLr R E rt ys) : SLr R E (rs ++ rt) (xs ++ ys) := by
  refine ⟨by simp [h.1, q.1], fun i r m g1 g2 => ?_⟩
  have hl := h.1
  by_cases hi : i < rs.length
  · rw [List.getElem?_append_left hi] at g1
    rw [List.getElem?_append_left (by omega)] at g2
    exact h.2 i r m g1 g2
  · rw [List.getElem?_append_right (by omega)] at g1
    rw [List.getElem?_append_right (by omega), ← hl] at g2
    exact q.2 _ r m g1 g2
theorem SLr.one {r : List Value} {x : α} (h : R E x r) : SLr R E [r] [x] := ⟨rfl, fun i r' x' g1 g2 => by
  cases i with
  | zero => simp at g1 g2; subst g1; subst g2; exact h
  | succ i => simp at g1⟩
theorem SLr.snoc {r : List Value} {x : α} (h : SLr R E rs xs) (q : R E x r) : SLr R E (rs ++ [r]) (xs ++ [x]) := h.app (.one q)
theorem SLr.drop (h : SLr R E rs xs) (i : Nat) : SLr R E (rs.drop i) (xs.drop i) := ⟨by simp [h.1], fun j r x g1 g2 => by
  rw [List.getElem?_drop] at g1 g2; exact h.2 _ r x g1 g2⟩
theorem SLr.take (h : SLr R E rs xs) (i : Nat) : SLr R E (rs.take i) (xs.take i) := ⟨by simp [h.1], fun j r x g1 g2 => by
  rw [List.getElem?_take] at g1 g2
  split at g1
  · rename_i hj; rw [if_pos hj] at g2; exact h.2 _ r x g1 g2
  · cases g1⟩
theorem SLr.set {r : List Value} {x : α} (h : SLr R E rs xs) (i : Nat) (q : R E x r) : SLr R E (rs.set i r) (xs.set i x) := ⟨by simp [h.1], fun j r' x' g1 g2 => by
  rw [List.getElem?_set] at g1 g2
  by_cases hij : i = j
  · subst hij
    rw [if_pos rfl] at g1 g2
    have hl := h.1
    by_cases hi : i < rs.length
    · rw [if_pos hi] at g1; rw [if_pos (by omega)] at g2; cases g1; cases g2; exact q
    · rw [if_neg hi] at g1; cases g1
  · rw [if_neg hij] at g1 g2; exact h.2 _ _ _ g1 g2⟩
theorem flat_len : ∀ {rs : List (List Value)}, (∀ r ∈ rs, r.length = k) → rs.flatten.length = rs.length * k
  | [], _ => by simp
  | r :: rs, h => by
    rw [List.flatten_cons, List.length_append, h r (by simp), flat_len (rs := rs) (fun r hr => h r (by simp [hr])), List.length_cons, Nat.add_mul]; omega
theorem flat_drop : ∀ {rs : List (List Value)}, (∀ r ∈ rs, r.length = k) → ∀ i, rs.flatten.drop (i * k) = (rs.drop i).flatten
  | [], _, i => by simp
  | r :: rs, h, 0 => by simp
  | r :: rs, h, i + 1 => by
    rw [List.flatten_cons, Nat.add_mul, Nat.one_mul, List.drop_append, List.drop_eq_nil_of_le (by rw [h r (by simp)]; omega), List.nil_append, h r (by simp), Nat.add_sub_cancel, flat_drop (rs := rs) (fun r hr => h r (by simp [hr])), List.drop_succ_cons]
theorem flat_take : ∀ {rs : List (List Value)}, (∀ r ∈ rs, r.length = k) → ∀ i, rs.flatten.take (i * k) = (rs.take i).flatten
  | [], _, i => by simp
  | r :: rs, h, 0 => by simp
  | r :: rs, h, i + 1 => by
    rw [List.flatten_cons, Nat.add_mul, Nat.one_mul, List.take_append, List.take_of_length_le (by rw [h r (by simp)]; omega), h r (by simp), Nat.add_sub_cancel, flat_take (rs := rs) (fun r hr => h r (by simp [hr])), List.take_succ_cons, List.flatten_cons]
theorem SLr.lens (ok : RowOK k R) (h : SLr R E rs xs) : ∀ r ∈ rs, r.length = k := fun r hr => by
  obtain ⟨i, hi, rfl⟩ := List.getElem_of_mem hr
  have hl := h.1
  exact ok.len (h.2 i _ _ (List.getElem?_eq_getElem hi) (List.getElem?_eq_getElem (by omega)))
theorem SLr.flat (ok : RowOK k R) (h : SLr R E rs xs) : rs.flatten.length = xs.length * k := by rw [flat_len (h.lens ok), h.1]
theorem SLr.ones (ok : RowOK k R) (h : SLr R E rs xs) : ∀ v : Value, List.Mem v rs.flatten → v.oneCell' = true := fun v hv => by
  obtain ⟨r, hr, hv⟩ := List.mem_flatten.1 hv
  obtain ⟨i, hi, rfl⟩ := List.getElem_of_mem hr
  have hl := h.1
  exact ok.one (h.2 i _ _ (List.getElem?_eq_getElem hi) (List.getElem?_eq_getElem (by omega))) v hv
theorem SLr.get (ok : RowOK k R) (h : SLr R E rs xs) {i : Nat} {x : α} (hx : xs[i]? = some x) : ∃ r, rs[i]? = some r ∧ R E x r ∧ (rs.flatten.drop (i * k)).take k = r := by
  have hi : i < xs.length := (List.getElem?_eq_some_iff.1 hx).1
  have hl := h.1
  have hr := List.getElem?_eq_getElem (l := rs) (i := i) (by omega)
  refine ⟨_, hr, h.2 i _ x hr hx, ?_⟩
  rw [flat_drop (h.lens ok), List.drop_eq_getElem_cons (by omega), List.flatten_cons, List.take_append_of_le_length (by rw [h.lens ok _ (List.getElem_mem _)]; exact Nat.le_refl _), List.take_of_length_le (by rw [h.lens ok _ (List.getElem_mem _)]; exact Nat.le_refl _)]

theorem SL.mono (ok : RowOK k R) (h : SL R E b n c xs) (he : Mem.le E E') : SL R E' b n c xs :=
  let ⟨rs, h1, h2, h3, h4, h5⟩ := h; ⟨rs, h1.mono ok he, h2, h3, h4.imp_right (he _ _), h5⟩
theorem SL.nil : SL R E none 0 0 [] := ⟨[], SLr.nil, rfl, Nat.le_refl _, .inl rfl, fun _ => rfl⟩
theorem SL.nil' {b : Option Addr} {c : Nat} : SL R E b 0 c [] := ⟨[], SLr.nil, rfl, Nat.zero_le _, .inl rfl, fun _ => rfl⟩
theorem SL.len (h : SL R E b n c xs) : xs.length = n := by obtain ⟨rs, h1, h2, _⟩ := h; exact h2
theorem SL.cap (h : SL R E b n c xs) : n ≤ c := by obtain ⟨rs, h1, h2, h3, _⟩ := h; exact h3
theorem SL.none (h : SL R E none n c xs) : xs = [] := by
  obtain ⟨rs, h1, h2, h3, h4, h5⟩ := h
  exact List.eq_nil_of_length_eq_zero (by rw [h2]; exact h5 rfl)
theorem SL.win (ok : RowOK k R) {base : Option Addr} {vs : List Value} (h : WinE E base vs) (e : vs = rs.flatten) (hr : SLr R E rs xs) (hn : xs.length = n) (hc : n ≤ c) : SL R E (base.map fun x => x.add 0) n c xs := by
  subst e
  have hl : rs.flatten.length = n * k := by rw [hr.flat ok, hn]
  have := h.2 0 rs.flatten.length n c (by simp)
  simp only [List.drop_zero] at this
  rw [List.take_of_length_le (Nat.le_refl _)] at this
  refine ⟨rs, hr, hn, hc, .inr this, fun e => ?_⟩
  cases base with
  | none =>
    have h0 := h.1 rfl
    rw [h0] at hl
    have hk := ok.pos
    rcases Nat.eq_zero_or_pos n with hz | hz
    · exact hz
    · have := Nat.mul_pos hz hk
      simp only [List.length_nil] at hl
      omega
  | some a => cases e
theorem SL.src (ok : RowOK k R) (h : SL R E b n c xs) : ∃ rs, SLr R E rs xs ∧ (rs.flatten = [] ∨ E (.slice b n c) rs.flatten) ∧ n * k ≤ rs.flatten.length ∧ (∀ x : Value, List.Mem x rs.flatten → x.oneCell' = true) ∧ rs.length = n := by
  obtain ⟨rs, h1, h2, h3, h4, h5⟩ := h
  have hl : rs.length = n := by rw [h1.1, h2]
  refine ⟨rs, h1, ?_, by rw [h1.flat ok, h2]; exact Nat.le_refl _, h1.ones ok, hl⟩
  rcases h4 with rfl | h4
  · exact .inl (by rw [List.length_eq_zero_iff.1 hl]; rfl)
  · exact .inr h4
theorem SL.ne (ok : RowOK k R) (h : SL R E b n c xs) {i : Nat} (hi : i < n) : ∃ cs, E (.slice b n c) cs ∧ (cs = [] → False) := by
  obtain ⟨rs, h1, h2, h3, h4, h5⟩ := h
  refine ⟨_, h4.resolve_left (by omega), fun e => ?_⟩
  have hl := h1.flat ok
  rw [e, h2] at hl
  have := ok.pos
  have := Nat.mul_pos (show 0 < n by omega) this
  simp at hl; omega
/-- A part of a slice. -/
theorem SL.sub (ok : RowOK k R) {lo hi : Nat} (h : SL R E b n c xs) (he : Mem.le E E')
    (hF : ∀ cs, E (.slice b n c) cs → E' (.slice b' (hi - lo) (c - lo)) (List.take ((hi - lo) * k) (List.drop (lo * k) cs))) (hN : b'.isNone = b.isNone) (h1 : lo ≤ hi) (h2 : hi ≤ n) : SL R E' b' (hi - lo) (c - lo) ((xs.drop lo).take (hi - lo)) := by
  obtain ⟨rs, g1, g2, g3, g4, g5⟩ := h
  refine ⟨(rs.drop lo).take (hi - lo), ((g1.mono ok he).drop lo).take _, by rw [List.length_take, List.length_drop, g2]; omega, by omega, ?_, fun e => ?_⟩
  · rcases g4 with g4 | g4
    · exact .inl (by omega)
    · refine .inr ?_
      have := hF _ g4
      rw [flat_drop (g1.lens ok), flat_take (fun r hr => g1.lens ok r (List.drop_subset _ _ hr))] at this
      exact this
  · have := g5 (by cases b with | none => rfl | some x => rw [e] at hN; cases hN)
    omega

/-- An element, loaded whole. -/
theorem loadW_row {P : Program} {T : TypeId} (hu : (match P.underlying T with | some (.struct _) => true | _ => false) = true) (hi : (P.info? T).map (·.size) = some k) {cs : List SV} {off : Nat} {r : List SV} (hr : (cs.drop off).take k = r) (hl : r.length = k) : loadW P T cs off = some (.agg r) := by
  unfold loadW
  split at hu
  · rename_i fs hfs
    rw [hfs]
    cases hinf : P.info? T with
    | none => rw [hinf] at hi; cases hi
    | some inf =>
      rw [hinf] at hi
      simp only [Option.map_some, Option.some.injEq] at hi
      simp only [hi, hr, hl, if_true]
  · cases hu
theorem SL.load (ok : RowOK k R) (h : SL R E b n c xs) {i : Nat} {x : α} (hx : xs[i]? = some x) : ∃ cs r, E (.slice b n c) cs ∧ (cs.drop (i * k)).take k = r ∧ r.length = k ∧ R E x r := by
  obtain ⟨rs, g1, g2, g3, g4, g5⟩ := h
  have hi : i < xs.length := (List.getElem?_eq_some_iff.1 hx).1
  obtain ⟨r, _, h2, h3⟩ := g1.get ok hx
  exact ⟨_, r, g4.resolve_left (by omega), h3, ok.len h2, h2⟩
/-- An element, loaded whole out of memory that nobody writes. -/
theorem SL.loadE (ok : RowOK k R) (h : SL R E b n c xs) {P : Program} {T : TypeId} (hu : (match P.underlying T with | some (.struct _) => true | _ => false) = true) (hs : (P.info? T).map (·.size) = some k) {i : Nat} {x : α} (hx : xs[i]? = some x) :
    ∃ r, R E x r ∧ LoadE P E T (.slice b n c) (i * k) (.agg (r.map .raw)) := by
  obtain ⟨cs, r, h1, h2, h3, h4⟩ := h.load ok hx
  exact ⟨r, h4, cs, h1, loadW_row hu hs (by rw [← List.map_drop, ← List.map_take, h2]) (by rw [List.length_map, h3])⟩
/-- A cell of an element. -/
theorem SL.loadC (ok : RowOK k R) (h : SL R E b n c xs) {P : Program} {T : TypeId} {d : TypeDesc} (hu : P.underlying T = some d) (hd : isAggD d = false) {i j : Nat} {x : α} (hx : xs[i]? = some x) (hj : j < k) :
    ∃ r v, R E x r ∧ r[j]? = some v ∧ LoadE P E T (.slice b n c) (i * k + j) (.raw v) := by
  obtain ⟨cs, r, h1, h2, h3, h4⟩ := h.load ok hx
  have hv : r[j]? = some r[j] := List.getElem?_eq_getElem (by omega)
  refine ⟨r, r[j], h4, hv, cs, h1, ?_⟩
  have hc : (cs.map SV.raw)[i * k + j]? = some (.raw r[j]) := by
    rw [List.getElem?_map]
    have : cs[i * k + j]? = some r[j] := by
      rw [← hv, ← h2, List.getElem?_take, if_pos hj, List.getElem?_drop]
    rw [this]; rfl
  unfold loadW
  rw [hu]
  cases d <;> simp_all [isAggD]
/-- A cell of a row of values. -/
theorem loadV_cell {P : Program} {T : TypeId} {d : TypeDesc} (hu : P.underlying T = some d) (hd : isAggD d = false) {vs : List Value} {p : Nat} {v : Value} (h : vs[p]? = some v) : LoadV P T vs p (.raw v) := by
  unfold LoadV loadW
  rw [hu]
  cases d <;> simp_all [isAggD]
/-- An element of a row of values. -/
theorem loadV_row {P : Program} {T : TypeId} (hu : (match P.underlying T with | some (.struct _) => true | _ => false) = true) (hs : (P.info? T).map (·.size) = some k) {vs : List Value} {p : Nat} {r : List Value} (hr : (vs.drop p).take k = r) (hl : r.length = k) : LoadV P T vs p (.agg (r.map .raw)) :=
  loadW_row hu hs (by rw [← List.map_drop, ← List.map_take, hr]) (by rw [List.length_map, hl])
/-- A row, laid over others. -/
theorem layV_row (hrs : ∀ r ∈ rs, r.length = k) {i : Nat} {r : List Value} (hi : i < rs.length) (hl : r.length = k) : layV rs.flatten (i * k) r = (rs.set i r).flatten := by
  unfold layV
  rw [flat_take hrs, hl, show i * k + k = (i + 1) * k by rw [Nat.add_mul]; omega, flat_drop hrs, List.set_eq_take_append_cons_drop, if_pos hi, List.flatten_append, List.flatten_cons, List.append_assoc]
theorem take_get' {l : List α} {i : Nat} {x : α} (h : l[i]? = some x) : l.take (i + 1) = l.take i ++ [x] := by
  obtain ⟨h1, h2⟩ := List.getElem?_eq_some_iff.1 h
  rw [List.take_succ_eq_append_getElem h1, h2]
end
end Go.Sx
