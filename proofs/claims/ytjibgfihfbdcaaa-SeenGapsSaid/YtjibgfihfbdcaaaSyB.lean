/- The symbolic evaluator, part B: one operation. Conditions: none; generic over programs. -/
import Derived.Test.YtjibgfihfbdcaaaSyA
import Derived.Laws.CopyRow
import Derived.Laws.CopyOwn
namespace Go.Sx
open Go.RowKit (Below)

/-! ### values without pointers into boxes -/
mutual
def SV.val : SV → Option Value
  | .raw v => some v
  | .agg l => (SV.valL l).map fun vs => .agg vs.toArray
  | .tup l => (SV.valL l).map fun vs => .tuple vs.toArray
  | .ifc t v => (SV.val v).map fun x => .iface t x
  | _ => none
def SV.valL : List SV → Option (List Value)
  | [] => some []
  | x :: l => match SV.val x, SV.valL l with
    | some v, some vs => some (v :: vs)
    | _, _ => none
end

mutual
theorem SV.den_of_val (ρ : Env) : ∀ (s : SV) {v : Value}, s.val = some v → s.den ρ = some v
  | .raw v, _, e => by simpa [SV.den, SV.val] using e
  | .loc b off, _, e => by simp [SV.val] at e
  | .slc b off len cap, _, e => by simp [SV.val] at e
  | .rp v off, _, e => by simp [SV.val] at e
  | .agg l, _, e => by
    simp only [SV.den, SV.val, Option.map_eq_some_iff] at *
    obtain ⟨vs, h1, h2⟩ := e; exact ⟨vs, SV.denL_of_val ρ l h1, h2⟩
  | .tup l, _, e => by
    simp only [SV.den, SV.val, Option.map_eq_some_iff] at *
    obtain ⟨vs, h1, h2⟩ := e; exact ⟨vs, SV.denL_of_val ρ l h1, h2⟩
  | .clo f m l, _, e => by simp [SV.val] at e
  | .ifc t x, _, e => by
    simp only [SV.den, SV.val, Option.map_eq_some_iff] at *
    obtain ⟨vs, h1, h2⟩ := e; exact ⟨vs, SV.den_of_val ρ x h1, h2⟩
theorem SV.denL_of_val (ρ : Env) : ∀ (l : List SV) {vs : List Value}, SV.valL l = some vs → SV.denL ρ l = some vs
  | [], _, e => by simpa [SV.denL, SV.valL] using e
  | x :: l, vs, e => by
    simp only [SV.valL] at e
    split at e
    · rename_i v ws h1 h2
      simp only [SV.denL, SV.den_of_val ρ x h1, SV.denL_of_val ρ l h2]; exact e
    · cases e
end

/-- A run that touches no memory and asks nothing. -/
def pureVal (P : Program) : Sem Value → Option Value
  | .pure v => some v
  | .program k => pureVal P (k P)
  | _ => none

theorem pureVal_run {P : Program} : ∀ (s : Sem Value) {v : Value}, pureVal P s = some v → ∀ w, s.run P w = .ok v w
  | .pure x, v, h, w => by simp only [pureVal, Option.some.injEq] at h; subst h; rfl
  | .program k, v, h, w => by simp only [pureVal] at h; simp only [Sem.run]; exact pureVal_run (k P) h w
  | .load .., _, h, _ => by simp [pureVal] at h
  | .store .., _, h, _ => by simp [pureVal] at h
  | .new .., _, h, _ => by simp [pureVal] at h
  | .shape .., _, h, _ => by simp [pureVal] at h
  | .freeze .., _, h, _ => by simp [pureVal] at h
  | .frozen .., _, h, _ => by simp [pureVal] at h
  | .getObj .., _, h, _ => by simp [pureVal] at h
  | .setObj .., _, h, _ => by simp [pureVal] at h
  | .choose .., _, h, _ => by simp [pureVal] at h
  | .sys .., _, h, _ => by simp [pureVal] at h
  | .mark .., _, h, _ => by simp [pureVal] at h
  | .halt .., _, h, _ => by simp [pureVal] at h

/-! ### cells of a value; parts of a row of cells -/
def asCells : SV → Option (List SV)
  | .agg l => some l
  | .raw (.agg cs) => some (cs.toList.map .raw)
  | _ => none

def svCells (s : SV) : List SV := match asCells s with | some l => l | none => [s]

/-- Surely no array, struct or tuple. -/
def SV.one : SV → Bool
  | .raw (.agg _) | .raw (.tuple _) | .agg _ | .tup _ => false
  | _ => true

theorem asCells_den {ρ : Env} {s : SV} {l : List SV} {v : Value} (h : asCells s = some l) (hv : s.den ρ = some v) : ∃ vs : List Value, v = .agg vs.toArray ∧ SV.denL ρ l = some vs := by
  unfold asCells at h
  split at h
  · rename_i l'
    simp only [Option.some.injEq] at h; subst h
    simp only [SV.den, Option.map_eq_some_iff] at hv
    obtain ⟨vs, h1, h2⟩ := hv
    exact ⟨vs, h2.symm, h1⟩
  · rename_i cs
    simp only [Option.some.injEq] at h; subst h
    simp only [SV.den, Option.some.injEq] at hv; subst hv
    exact ⟨cs.toList, by simp, denL_raw _⟩
  · cases h

theorem one_den {ρ : Env} {s : SV} {v : Value} (h : s.one = true) (hv : s.den ρ = some v) : v.oneCell' = true := by
  cases s with
  | raw x => simp only [SV.den, Option.some.injEq] at hv; subst hv; cases x <;> simp_all [SV.one, Value.oneCell']
  | loc b off => simp only [SV.den, locDen] at hv; split at hv <;> simp_all; subst hv; rfl
  | slc b off len cap =>
    simp only [SV.den, slcDen] at hv
    split at hv
    · simp at hv; subst hv; rfl
    · split at hv
      · simp at hv; subst hv; rfl
      · cases hv
    · cases hv
  | rp x off =>
    simp only [SV.den, rpDen] at hv
    split at hv
    · split at hv
      · simp only [Option.some.injEq] at hv; subst hv; rfl
      · cases hv
    · cases hv
  | agg l => simp [SV.one] at h
  | tup l => simp [SV.one] at h
  | clo f m l =>
    simp only [SV.den] at hv
    split at hv
    · simp only [Option.some.injEq] at hv; subst hv; rfl
    · cases hv
  | ifc t x => simp only [SV.den, Option.map_eq_some_iff] at hv; obtain ⟨_, _, rfl⟩ := hv; rfl

def oneOrAgg (s : SV) : Bool := (asCells s).isSome || s.one

theorem svCells_den {ρ : Env} {s : SV} {v : Value} (h1 : oneOrAgg s = true) (hv : s.den ρ = some v) : SV.denL ρ (svCells s) = some v.cells.toList := by
  unfold svCells
  cases h : asCells s with
  | some l =>
    obtain ⟨vs, rfl, h2⟩ := asCells_den h hv
    simpa [Value.cells] using h2
  | none =>
    simp only [oneOrAgg, h, Option.isSome_none, Bool.false_or] at h1
    have := one_den h1 hv
    have hc : v.cells = #[v] := by cases v <;> simp_all [Value.oneCell', Value.cells]
    simp [SV.denL, hv, hc]

/-- The value of type T that lies at 'off' in a row of cells. -/
def loadW (P : Program) (T : TypeId) (cells : List SV) (off : Nat) : Option SV :=
  match P.underlying T with
  | some (.struct _) | some (.array ..) =>
    match P.info? T with
    | some i => if ((cells.drop off).take i.size).length = i.size then some (.agg ((cells.drop off).take i.size)) else none
    | none => none
  | some _ => cells[off]?
  | none => none

def isAggD : TypeDesc → Bool
  | .struct _ | .array .. => true
  | _ => false

theorem run_isAgg' {P : Program} {T : TypeId} {d : TypeDesc} (h : P.underlying T = some d) (w : World) : (isAgg T).run P w = .ok (isAggD d) w := by
  unfold isAgg
  simp only [Sem.run_bind, run_underlying h, Result.andThen_ok]
  cases d <;> rfl

theorem loadW_agg {P : Program} {T : TypeId} {cells : List SV} {off : Nat} {s : SV} {d : TypeDesc} (hu : P.underlying T = some d) (hd : isAggD d = true) (h : loadW P T cells off = some s) :
    ∃ i, P.info? T = some i ∧ ((cells.drop off).take i.size).length = i.size ∧ s = .agg ((cells.drop off).take i.size) := by
  unfold loadW at h
  rw [hu] at h
  cases d <;> simp only [isAggD, Bool.false_eq_true] at hd <;>
  · simp only at h
    split at h
    · rename_i i hi
      split at h
      · rename_i hl
        simp only [Option.some.injEq] at h
        exact ⟨i, hi, hl, h.symm⟩
      · cases h
    · cases h

theorem loadW_single {P : Program} {T : TypeId} {cells : List SV} {off : Nat} {s : SV} {d : TypeDesc} (hu : P.underlying T = some d) (hd : isAggD d = false) (h : loadW P T cells off = some s) :
    cells[off]? = some s := by
  unfold loadW at h
  rw [hu] at h
  cases d <;> simp_all [isAggD]

theorem loadW_type {P : Program} {T : TypeId} {cells : List SV} {off : Nat} {s : SV} (h : loadW P T cells off = some s) : ∃ d, P.underlying T = some d := by
  unfold loadW at h
  cases hu : P.underlying T with
  | none => rw [hu] at h; cases h
  | some d => exact ⟨d, rfl⟩

theorem run_typeInfo' {P : Program} {T : TypeId} {i : TypeInfo} (h : P.info? T = some i) (w : World) : (typeInfo T).run P w = .ok i w := by
  simp [typeInfo, h]

theorem run_sizeOf' {P : Program} {T : TypeId} {i : TypeInfo} (h : P.info? T = some i) (w : World) : (sizeOf T).run P w = .ok i.size w := by
  simp [sizeOf, run_typeInfo' h]

/-- A load out of memory that holds these cells from 'a' on. -/
theorem run_loadVar {P : Program} {T : TypeId} {cells : List SV} {off : Nat} {s : SV} {ρ : Env} {vs : List Value} {w : World} {a : Addr} (ha : a.spot = none)
    (h : loadW P T cells off = some s) (hv : SV.denL ρ cells = some vs) (hc : ∀ k x, vs[k]? = some x → w.cell? (a.add k) = some x) :
    ∃ v, s.den ρ = some v ∧ (loadVar T (a.add off)).run P w = .ok v w := by
  obtain ⟨d, hu⟩ := loadW_type h
  by_cases hd : isAggD d = true
  · obtain ⟨i, hi, hl, rfl⟩ := loadW_agg hu hd h
    have hden := denL_take (denL_drop hv off) i.size
    have hl2 := denL_length hden
    rw [hl] at hl2
    refine ⟨.agg ((vs.drop off).take i.size).toArray, by simp only [SV.den, hden, Option.map_some], ?_⟩
    have hr := run_loadCells_list (P := P) w (a.add off) ((vs.drop off).take i.size) (fun j x hx => by
      rw [add_eq (by rw [add_eq ha]) j, add_eq ha]
      have hj : j < i.size := by
        rcases Nat.lt_or_ge j ((vs.drop off).take i.size).length with h' | h'
        · omega
        · rw [List.getElem?_eq_none h'] at hx; cases hx
      rw [List.getElem?_take_of_lt hj, List.getElem?_drop] at hx
      have := hc _ _ hx
      rwa [add_eq ha, ← Nat.add_assoc] at this)
    rw [hl2] at hr
    unfold loadVar
    simp only [Sem.run_bind, run_isAgg' hu, hd, Result.andThen_ok, Sem.run_ite, if_true, run_sizeOf' hi, hr, Sem.run_pure]
  · have hd' : isAggD d = false := by simpa using hd
    have hs := loadW_single hu hd' h
    obtain ⟨v, h1, h2⟩ := denL_get hv hs
    refine ⟨v, h2, ?_⟩
    unfold loadVar
    simp only [Sem.run_bind, run_isAgg' hu, hd', Result.andThen_ok, Sem.run_ite, run_load, hc _ _ h1]
    rfl

/-- A part of a value. -/
theorem run_part {P : Program} {T : TypeId} {cells : List SV} {off : Nat} {s : SV} {ρ : Env} {vs : List Value} {w : World}
    (h : loadW P T cells off = some s) (hv : SV.denL ρ cells = some vs) :
    ∃ v, s.den ρ = some v ∧ (part T vs.toArray off).run P w = .ok v w := by
  obtain ⟨d, hu⟩ := loadW_type h
  by_cases hd : isAggD d = true
  · obtain ⟨i, hi, hl, rfl⟩ := loadW_agg hu hd h
    have hden := denL_take (denL_drop hv off) i.size
    refine ⟨.agg ((vs.drop off).take i.size).toArray, by simp only [SV.den, hden, Option.map_some], ?_⟩
    unfold part
    simp only [Sem.run_bind, run_isAgg' hu, hd, Result.andThen_ok, Sem.run_ite, if_true, run_sizeOf' hi, Sem.run_pure]
    congr 2
    simp [List.extract_toArray, List.extract_eq_take_drop]
  · have hd' : isAggD d = false := by simpa using hd
    have hs := loadW_single hu hd' h
    obtain ⟨v, h1, h2⟩ := denL_get hv hs
    refine ⟨v, h2, ?_⟩
    unfold part
    have : vs.toArray[off]? = some v := by simpa using h1
    simp only [Sem.run_bind, run_isAgg' hu, hd', Result.andThen_ok, Sem.run_ite, this]
    rfl

/-! ### stores -/
/-- The cells pc, laid over a row from 'off' on. -/
def lay (cells : List SV) (off : Nat) (pc : List SV) : List SV := cells.take off ++ pc ++ cells.drop (off + pc.length)

theorem Rel.own {w0 : World} {mu : Fm} {bx : List Box} {E : Mem} {ρ : Env} {w : World} (h : Rel w0 mu bx E ρ w) {i : Nat} {b : Box} (hb : bx[i]? = some b) (ho : b.own = true) (hc : b.cells ≠ []) :
    ∃ g vs junk, ρ[i]? = some (some ⟨g, 0, none⟩) ∧ SV.denL ρ b.cells = some vs ∧ w.heap[g]? = some (.cells (vs ++ junk).toArray b.elem (0, 0)) ∧ (vs ++ junk).length = b.total := by
  have hi : i < ρ.length := by
    rw [h.len]
    rcases Nat.lt_or_ge i bx.length with h' | h'
    · exact h'
    · simp [List.getElem?_eq_none h'] at hb
  have hbox := h.box i b _ hb (List.getElem?_eq_getElem hi)
  cases hρ : ρ[i] with
  | none => rw [hρ] at hbox; exact absurd hbox.1 hc
  | some a =>
    rw [hρ] at hbox
    obtain ⟨h1, vs, h2, h3⟩ := hbox
    rw [if_pos ho] at h3
    obtain ⟨h4, junk, hj, hk⟩ := h3
    refine ⟨a.block, vs, junk, ?_, h2, hj, hk⟩
    rw [List.getElem?_eq_getElem hi, hρ]
    cases a; simp at h1 h4; subst h1; subst h4; rfl

theorem Keep.setRow {mu : List Nat} {w0 w : World} (h : Keep mu w0 w) {g : Nat} (hg : w0.heap.size ≤ g ∨ g ∈ mu) (cs : Array Value) : Keep mu w0 (w.setRow g cs) :=
  ⟨h.os, h.tape, h.output, by simpa using h.size, fun k hk hm => by
    rw [setRow_other w g k cs (by rintro rfl; rcases hg with hg | hg; omega; exact hm hg)]
    exact h.block k hk hm⟩

/-- A row of the activation's own, written anew. -/
theorem Rel.setRow {w0 : World} {mu : Fm} {bx : List Box} {E : Mem} {ρ : Env} {w : World} (h : Rel w0 mu bx E ρ w) {i : Nat} {b : Box} (hb : bx[i]? = some b) (ho : b.own = true) {g : Nat}
    (hρ : ρ[i]? = some (some ⟨g, 0, none⟩)) {r : Row} {vs junk : List Value} (hv : SV.denL ρ r.cells = some vs) (hl : (vs ++ junk).length = b.total) :
    Rel w0 mu (bx.set i { b with row := r }) E ρ (w.setRow g (vs ++ junk).toArray) := by
  obtain ⟨s1, s2, s3⟩ := h.sep i b _ hb ho hρ
  have hi : i < bx.length := by
    rcases Nat.lt_or_ge i bx.length with h' | h'
    · exact h'
    · simp [List.getElem?_eq_none h'] at hb
  refine ⟨h.keep.setRow s1 _, by simpa using h.len, ?_, ?_, ?_, ?_, h.src⟩
  · intro j b' oa h1 h2
    by_cases hj : i = j
    · subst hj
      rw [List.getElem?_set_self hi] at h1
      simp only [Option.some.injEq] at h1; subst h1
      rw [hρ] at h2; simp only [Option.some.injEq] at h2; subst h2
      refine ⟨rfl, vs, hv, ?_⟩
      simp only [ho, if_true]
      have hbox := h.box i b _ hb hρ
      obtain ⟨_, vs0, _, h3⟩ := hbox
      rw [if_pos ho] at h3
      obtain ⟨_, junk0, hj0, _⟩ := h3
      exact ⟨trivial, junk, setRow_heap w g _ _ b.elem (0, 0) hj0, hl⟩
    · rw [List.getElem?_set_ne hj] at h1
      refine (h.box j b' oa h1 h2).of_block fun a ha hlive => ?_
      subst ha
      exact setRow_other w g _ _ (s2 j b' a (Ne.symm hj) h1 hlive h2)
  · intro j b' a h1 ho' h2
    have key : ∃ b2, bx[j]? = some b2 ∧ b2.own = true := by
      by_cases hj : i = j
      · subst hj; exact ⟨b, hb, ho⟩
      · rw [List.getElem?_set_ne hj] at h1; exact ⟨b', h1, ho'⟩
    obtain ⟨b2, hb2, ho2⟩ := key
    obtain ⟨t1, t2, t3⟩ := h.sep j b2 a hb2 ho2 h2
    refine ⟨t1, ?_, t3⟩
    intro k b3 a3 hkj hk1 hl3 hk2
    by_cases hk : i = k
    · subst hk
      exact t2 i b _ hkj hb (by simp [Box.live, ho]) hk2
    · rw [List.getElem?_set_ne hk] at hk1
      exact t2 k b3 a3 hkj hk1 hl3 hk2
  · intro v cs hE
    exact (h.hold v cs hE).of_block fun bb hne hbb => setRow_other w g bb _ (by
      rintro rfl
      exact s3 v cs hE hne hbb)
  · intro j b' a h1 hl h2
    by_cases hj : i = j
    · subst hj; exact h.bsrc i b a hb (by simp [Box.live, ho]) h2
    · rw [List.getElem?_set_ne hj] at h1
      exact h.bsrc j b' a h1 hl h2

theorem run_storeVar {P : Program} {T : TypeId} {i : TypeInfo} (hi : P.info? T = some i) {g off : Nat} {t : TypeId} {cur : Array Value} {w : World} {v : Value}
    (hg : w.heap[g]? = some (.cells cur t (0, 0))) (hs : v.cells.size = i.size) (hb : off + v.cells.toList.length ≤ cur.size) (h1 : ∀ x ∈ v.cells.toList, x.oneCell' = true) :
    (storeVar T ⟨g, off, none⟩ v).run P w = .ok () (w.setRow g (cur.toList.take off ++ v.cells.toList ++ cur.toList.drop (off + v.cells.toList.length)).toArray) := by
  unfold storeVar
  have := run_storeCells_at (P := P) g off t v.cells.toList 0 cur w hg (by simpa using hb) h1
  simp only [Nat.add_zero] at this
  simp only [Sem.run_bind, run_sizeOf' hi, Result.andThen_ok, hs, ne_eq, not_true_eq_false, if_false, this]

/-- The cells pc, laid over a row of values. -/
def layV (vs : List Value) (off : Nat) (ws : List Value) : List Value := vs.take off ++ ws ++ vs.drop (off + ws.length)

/-- What a store does. -/
def storeW (P : Program) (T : TypeId) (bx : List Box) (b off : Nat) (s : SV) (K : List Box → Prop) : Prop :=
  match bx[b]?, P.info? T with
  | some ⟨e, .lst cells, tot, true⟩, some i =>
    if oneOrAgg s && (svCells s).all SV.one && (svCells s).length == i.size && decide (off + (svCells s).length ≤ cells.length) && decide (0 < (svCells s).length)
    then K (bx.set b ⟨e, .lst (lay cells off (svCells s)), tot, true⟩) else False
  | some ⟨e, .vals vs, tot, true⟩, some i =>
    if oneOrAgg s && (svCells s).all SV.one && (svCells s).length == i.size && decide (0 < (svCells s).length)
    then match SV.valL (svCells s) with
      | some ws => off + i.size ≤ vs.length ∧ K (bx.set b ⟨e, .vals (layV vs off ws), tot, true⟩)
      | none => False
    else False
  | _, _ => False

theorem all_one_den {ρ : Env} : ∀ {l : List SV} {vs : List Value}, l.all SV.one = true → SV.denL ρ l = some vs → ∀ x ∈ vs, x.oneCell' = true := by
  intro l vs h hv x hx
  obtain ⟨k, hk, rfl⟩ := List.getElem_of_mem hx
  obtain ⟨s, hs, hd⟩ := denL_get' hv (List.getElem?_eq_getElem hk)
  have := List.mem_of_getElem? hs
  exact one_den (List.all_eq_true.1 h s this) hd

/-- A store into a row of the activation's own. -/
theorem store_own {P : Program} {T : TypeId} {i : TypeInfo} {w0 : World} {mu : Fm} {bx : List Box} {E : Mem} {ρ : Env} {w : World} (h : Rel w0 mu bx E ρ w) {b off : Nat} {x : Box} {s : SV} {v av : Value} {r : Row}
    (hi : P.info? T = some i) (hx : bx[b]? = some x) (ho : x.own = true) (hoa : oneOrAgg s = true) (hall : (svCells s).all SV.one = true) (hlen : (svCells s).length = i.size) (hle : off + (svCells s).length ≤ x.cells.length) (hpos : 0 < (svCells s).length)
    (hr : ∀ vs, SV.denL ρ x.cells = some vs → SV.denL ρ r.cells = some (vs.take off ++ v.cells.toList ++ vs.drop (off + v.cells.toList.length))) (hv : s.den ρ = some v) (ha : locDen ρ b off = some av) :
    ∃ w', (Instr.storeAt T av v).run P w = .ok () w' ∧ Rel w0 mu (bx.set b { x with row := r }) E ρ w' := by
  have hne : x.cells ≠ [] := fun e => by
    have h0 : x.cells.length = 0 := by rw [e]; rfl
    omega
  obtain ⟨g, vs, junk, hρ, hden, hg, htot⟩ := h.own hx ho hne
  have hvc := svCells_den hoa hv
  have hvl := denL_length hvc
  have hdl := denL_length hden
  unfold locDen at ha
  rw [hρ] at ha
  simp only [Option.some.injEq] at ha
  subst ha
  have hadd : (⟨g, 0, none⟩ : Addr).add off = ⟨g, off, none⟩ := by rw [add_eq rfl]; simp
  have hrun := run_storeVar (P := P) hi (g := g) (off := off) (v := v) hg (by rw [← Array.length_toList, hvl, hlen]) (by rw [hvl, List.size_toArray, List.length_append, hdl]; omega) (all_one_den hall hvc)
  refine ⟨w.setRow g ((vs.take off ++ v.cells.toList ++ vs.drop (off + v.cells.toList.length)) ++ junk).toArray, ?_, ?_⟩
  · unfold Instr.storeAt
    simp only [Instr.sureAddr, Sem.run_bind, Sem.run_pure, Result.andThen_ok, hadd, hrun]
    congr 2
    simp only [List.take_append_of_le_length (show off ≤ vs.length by omega), List.append_assoc]
    rw [List.drop_append_of_le_length (by omega)]
  · refine h.setRow hx ho hρ ?_ ?_
    · exact hr _ hden
    · simp only [List.length_append, List.length_take, List.length_drop] at htot ⊢
      omega

theorem valL_length : ∀ {l : List SV} {vs : List Value}, SV.valL l = some vs → vs.length = l.length
  | [], _, h => by simp only [SV.valL, Option.some.injEq] at h; subst h; rfl
  | x :: l, _, h => by
    simp only [SV.valL] at h
    split at h
    · rename_i v ws h1 h2
      simp only [Option.some.injEq] at h; subst h
      simp [valL_length h2]
    · cases h

theorem store_sound {P : Program} {T : TypeId} {w0 : World} {mu : Fm} {bx : List Box} {K : List Box → Prop} {E : Mem} {ρ : Env} {w : World} (h : Rel w0 mu bx E ρ w) {b off : Nat} {s : SV} {v av : Value}
    (hs : storeW P T bx b off s K) (hv : s.den ρ = some v) (ha : locDen ρ b off = some av) :
    ∃ w' bx', (Instr.storeAt T av v).run P w = .ok () w' ∧ Rel w0 mu bx' E ρ w' ∧ K bx' := by
  unfold storeW at hs
  split at hs
  · rename_i e cells tot i hx hi
    split at hs
    case isFalse => exact hs.elim
    rename_i hcond
    simp only [Bool.and_eq_true, beq_iff_eq, decide_eq_true_eq] at hcond
    obtain ⟨⟨⟨⟨hoa, hall⟩, hlen⟩, hle⟩, hpos⟩ := hcond
    have hvc := svCells_den hoa hv
    have hvl := denL_length hvc
    obtain ⟨w', h1, h2⟩ := store_own (r := .lst (lay cells off (svCells s))) h hi hx rfl hoa hall hlen hle hpos (fun vs hden => by
      have := denL_append (denL_append (denL_take hden off) hvc) (denL_drop hden (off + (svCells s).length))
      rw [hvl]; exact this) hv ha
    exact ⟨w', _, h1, h2, hs⟩
  · rename_i e vs tot i hx hi
    split at hs
    case isFalse => exact hs.elim
    rename_i hcond
    simp only [Bool.and_eq_true, beq_iff_eq, decide_eq_true_eq] at hcond
    obtain ⟨⟨⟨hoa, hall⟩, hlen⟩, hpos⟩ := hcond
    split at hs
    case h_2 => exact hs.elim
    rename_i ws hws
    obtain ⟨hle, hs⟩ := hs
    have hwl := valL_length hws
    have hvc := svCells_den hoa hv
    rw [SV.denL_of_val ρ _ hws] at hvc
    simp only [Option.some.injEq] at hvc
    obtain ⟨w', h1, h2⟩ := store_own (r := .vals (layV vs off ws)) h hi hx rfl hoa hall hlen (by simp only [Box.cells, Row.cells, List.length_map]; omega) hpos (fun us hden => by
      have : us = vs := by
        have := denL_raw (ρ := ρ) vs
        simp only [Box.cells, Row.cells] at hden
        rw [this] at hden; cases hden; rfl
      subst this
      rw [← hvc]
      exact denL_raw _) hv ha
    exact ⟨w', _, h1, h2, hs⟩
  · exact hs.elim

end Go.Sx
