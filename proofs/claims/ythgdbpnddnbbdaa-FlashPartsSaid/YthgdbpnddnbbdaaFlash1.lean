/- The flash package: what its functions answer. -/
import Derived.Test.YthgdbpnddnbbdaaProg
import Derived.Test.YthgdbpnddnbbdaaSyY
namespace Go.Proofs.Ythgdbpnddnbbdaa.FlashOwn
open Go Go.Sx
set_option maxRecDepth 100000
set_option maxHeartbeats 4000000
set_option linter.unusedVariables false
set_option linter.unusedSimpArgs false
variable {E : Mem} {K : SV → Mem → Prop}
noncomputable def F1 : Cx := { P := Try.prog, inl := fun f => List.contains [] f, tab := fun _ _ _ _ => False, isB := fun _ => false, tabB := fun _ _ _ _ _ => False, opt := { unroll := 0, carry := [], cuts := [5] }, muts := mutsD }
theorem okF1 : CxOK F1 := CxOK.four (fun _ _ _ _ h => h.elim) (by kernel_rfl) (okInl (by kernel_rfl)) (fun _ _ _ _ _ h => h.elim)

theorem condC {c : Bool} {p q : Prop} (h1 : c = true → p) (h0 : c = false → q) : bif c then p else q := by cases c; exact h0 rfl; exact h1 rfl
abbrev vB (l : List Int) : List Value := l.map (.int .u8)
theorem wu8 {x : Int} (h : 0 ≤ x ∧ x ≤ 255) : IntKind.wrap .u8 x = x := by
  rw [show IntKind.wrap .u8 x = x % 256 from rfl]; omega
theorem wu8b (x : Int) : 0 ≤ IntKind.wrap .u8 x ∧ IntKind.wrap .u8 x ≤ 255 := by
  rw [show IntKind.wrap .u8 x = x % 256 from rfl]; omega
/-- A memory of a list. -/
abbrev FRow := Int × Option Addr × Nat × Nat
def rowV (r : FRow) : List Value := [.int .i64 r.1, .slice r.2.1 r.2.2.1 r.2.2.2]
def FLr (E : Mem) (rs : List FRow) (ms : List (Int × List Int)) : Prop := rs.length = ms.length ∧ ∀ (i : Nat) r m, rs[i]? = some r → ms[i]? = some m → r.1 = m.1 ∧ Bs E r.2.1 r.2.2.1 r.2.2.2 m.2
theorem FLr.mono {E E' : Mem} {rs : List FRow} {ms : List (Int × List Int)} (h : FLr E rs ms) (he : Mem.le E E') : FLr E' rs ms := ⟨h.1, fun i r m h1 h2 => ⟨(h.2 i r m h1 h2).1, (h.2 i r m h1 h2).2.mono he⟩⟩
theorem FLr.nil (E : Mem) : FLr E [] [] := ⟨rfl, fun i r m h => by simp at h⟩
theorem FLr.snoc {E : Mem} {rs : List FRow} {ms : List (Int × List Int)} (h : FLr E rs ms) {r : FRow} {m : Int × List Int} (h1 : r.1 = m.1) (h2 : Bs E r.2.1 r.2.2.1 r.2.2.2 m.2) : FLr E (rs ++ [r]) (ms ++ [m]) := by
  refine ⟨by simp [h.1], fun i r' m' g1 g2 => ?_⟩
  have hl := h.1
  by_cases hi : i < rs.length
  · rw [List.getElem?_append_left hi] at g1
    rw [List.getElem?_append_left (by omega)] at g2
    exact h.2 i r' m' g1 g2
  · rw [List.getElem?_append_right (by omega)] at g1
    rw [List.getElem?_append_right (by omega), ← hl] at g2
    cases hk : i - rs.length with
    | zero => rw [hk] at g1 g2; simp at g1 g2; subst g1; subst g2; exact ⟨h1, h2⟩
    | succ k => rw [hk] at g1; simp at g1
theorem rows_len (rs : List FRow) : (rs.flatMap rowV).length = rs.length * 2 := by
  induction rs with
  | nil => rfl
  | cons r rs ih => simp only [List.flatMap_cons, List.length_append, ih, rowV, List.length_cons, List.length_nil]; omega
theorem rows_snoc (rs : List FRow) (r : FRow) : (rs ++ [r]).flatMap rowV = rs.flatMap rowV ++ rowV r := by simp
/-- A list of memories. -/
def FL (E : Mem) (b : Option Addr) (n c : Nat) (ms : List (Int × List Int)) : Prop := ∃ rs : List FRow, FLr E rs ms ∧ ms.length = n ∧ n ≤ c ∧ (n = 0 ∨ E (.slice b n c) (rs.flatMap rowV)) ∧ (b = none → n = 0)
theorem FL.mono {E E' : Mem} {b : Option Addr} {n c : Nat} {ms : List (Int × List Int)} (h : FL E b n c ms) (he : Mem.le E E') : FL E' b n c ms :=
  let ⟨rs, h1, h2, h3, h4, h5⟩ := h; ⟨rs, h1.mono he, h2, h3, h4.imp_right (he _ _), h5⟩
theorem FL.nil (E : Mem) : FL E none 0 0 [] := ⟨[], FLr.nil E, rfl, Nat.le_refl _, .inl rfl, fun _ => rfl⟩
theorem FL.win {E : Mem} {base : Option Addr} {vs : List Value} (h : WinE E base vs) {rs : List FRow} (e : vs = rs.flatMap rowV) {ms : List (Int × List Int)} (hr : FLr E rs ms) {n c : Nat} (hn : ms.length = n) (hc : n ≤ c) : FL E (base.map fun x => x.add 0) n c ms := by
  subst e
  have hl : (rs.flatMap rowV).length = n * 2 := by rw [rows_len, hr.1, hn]
  have := h.2 0 (rs.flatMap rowV).length n c (by simp)
  simp only [List.drop_zero] at this
  rw [List.take_of_length_le (Nat.le_refl _)] at this
  refine ⟨rs, hr, hn, hc, .inr this, fun e => ?_⟩
  cases base with
  | none => have := h.1 rfl; rw [this] at hl; simp at hl; omega
  | some a => cases e
/-- The bytes after some steps. -/
def stp (g : Nat → Int → Int) (a : Nat) (zs : List Int) : Nat → List Int
  | 0 => zs
  | i + 1 => (stp g a zs i).set (a + i) (g i ((stp g a zs i).getD (a + i) 0))
theorem stp_len (g : Nat → Int → Int) (a : Nat) (zs : List Int) : ∀ i, (stp g a zs i).length = zs.length
  | 0 => rfl
  | i + 1 => by simp [stp, stp_len g a zs i]
theorem stp_byte {g : Nat → Int → Int} {a : Nat} {zs : List Int} (hz : ∀ z ∈ zs, 0 ≤ z ∧ z ≤ 255) (hg : ∀ i x, 0 ≤ g i x ∧ g i x ≤ 255) : ∀ i, ∀ z ∈ stp g a zs i, 0 ≤ z ∧ z ≤ 255
  | 0, z, h => hz z h
  | i + 1, z, h => by
    rcases List.mem_or_eq_of_mem_set h with h | rfl
    · exact stp_byte hz hg i z h
    · exact hg _ _
/-- The memories. -/
def mems (s : Int) (g : Nat → Int → Int) (a : Nat) (zs : List Int) (n : Nat) : List (Int × List Int) := (List.range n).map fun i => (s, stp g a zs i)
theorem mems_succ (s : Int) (g : Nat → Int → Int) (a : Nat) (zs : List Int) (n : Nat) : mems s g a zs (n + 1) = mems s g a zs n ++ [(s, stp g a zs n)] := by simp [mems, List.range_succ]
theorem mems_len (s : Int) (g : Nat → Int → Int) (a : Nat) (zs : List Int) (n : Nat) : (mems s g a zs n).length = n := by simp [mems]
def band8 (x y : Int) : Int := IntKind.wrap .u8 (((BitVec.ofInt (IntKind.bits .u8) x &&& BitVec.ofInt (IntKind.bits .u8) y).toNat : Nat) : Int)
theorem layV_set {zs : List Int} {p : Nat} (h : p < zs.length) (x : Int) : layV (vB zs) p [.int .u8 x] = vB (zs.set p x) := by
  unfold layV vB
  rw [← List.map_take, ← List.map_drop, List.set_eq_take_append_cons_drop, if_pos h]
  simp
theorem loadV_byte {P : Program} {T : TypeId} (ht : P.underlying T = some (.int .u8)) {zs : List Int} {p : Nat} (h : p < zs.length) : LoadV P T (vB zs) p (.raw (.int .u8 (zs.getD p 0))) := by
  unfold LoadV loadW
  rw [ht]
  simp [h]
theorem vB_one (zs : List Int) : ∀ x : Value, List.Mem x (vB zs) → x.oneCell' = true := fun x hx => by
  obtain ⟨z, _, rfl⟩ := List.mem_map.1 hx
  rfl
noncomputable def F2 : Cx := { P := Try.prog, inl := fun f => List.contains [26, 30, 34] f, tab := fun _ _ _ _ => False, isB := fun _ => false, tabB := fun _ _ _ _ _ => False, opt := { unroll := 0, carry := [7] }, muts := (fun o => match o with | .call { callee := .value (.tmp 20), .. } => true | .call { callee := .value (.func 34), .. } => true | .call { callee := .value (.tmp 40), .. } => true | o => mutsD o) }
theorem okF2 : CxOK F2 := CxOK.four (fun _ _ _ _ h => h.elim) (by kernel_rfl) (okInl (by kernel_rfl)) (fun _ _ _ _ _ h => h.elim)

abbrev fr27 (n : Int) : List (Option SV) := [some (.clo 33 [] [.loc 2 0, .loc 4 0, .loc 5 0, .loc 3 0]), some (I n), none, none, some (L none 0 0), some (.loc 7 0), none, some (I n), some (.slc 6 0 0 (Int.toNat n)),
  some (.clo 33 [] [.loc 2 0, .loc 4 0, .loc 5 0, .loc 3 0]), none, none, none, none, none, none]
noncomputable def FY (n : Int) (c : Rc) : Cx := YCx F2 F1 6 (fr27 n) (sub (bodyOf Try.f27) [1, 1, 0, 1, 0]) c

end Go.Proofs.Ythgdbpnddnbbdaa.FlashOwn
