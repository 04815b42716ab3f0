/- What functions of the program compute; plain lemmas on it. Conditions: none. -/
import Derived.Test.YtiineecihncpfaaProg
import Derived.Test.YtiineecihncpfaaSyZ
import Derived.Lib.Bytes
import Derived.Lib.Walk
import Derived.Lib.Strings
namespace Go.Proofs.Ytiineecihncpfaa.JournalOwn
open Go Go.Sx
set_option maxRecDepth 100000
set_option maxHeartbeats 4000000
set_option linter.unusedVariables false
set_option linter.unusedSimpArgs false
variable {E : Mem} {K : SV → Mem → Prop}
abbrev WI (x : Int) : Int := IntKind.wrap .i64 x
abbrev NI (n : Nat) : Int := (n : Int)
abbrev U8 (x : Int) : Value := .int .u8 x
abbrev VS (b : Option Addr) (l c : Nat) : Value := .slice b l c
abbrev n2 (t : List (Option SV)) : List (Option SV) := none :: none :: t
abbrev n4 (t : List (Option SV)) : List (Option SV) := none :: none :: none :: none :: t
abbrev n8 (t : List (Option SV)) : List (Option SV) := none :: none :: none :: none :: none :: none :: none :: none :: t
abbrev n16 (t : List (Option SV)) : List (Option SV) := none :: none :: none :: none :: none :: none :: none :: none :: none :: none :: none :: none :: none :: none :: none :: none :: t
abbrev n32 (t : List (Option SV)) : List (Option SV) := none :: none :: none :: none :: none :: none :: none :: none :: none :: none :: none :: none :: none :: none :: none :: none :: none :: none :: none :: none :: none :: none :: none :: none :: none :: none :: none :: none :: none :: none :: none :: none :: t
def nodB : List Nat → Bool
  | [] => true
  | x :: l => !l.contains x && nodB l
theorem nodB_ok : ∀ {l : List Nat}, nodB l = true → l.Nodup
  | [], _ => List.nodup_nil
  | x :: l, h => by
    simp only [nodB, Bool.and_eq_true, Bool.not_eq_true', List.contains_eq_mem, decide_eq_false_iff_not] at h
    exact List.nodup_cons.2 ⟨h.1, nodB_ok h.2⟩
theorem wkG {n0 : Nat} {τ : Tau} {S T : St} (hE : Mem.le T.E S.E) (h1 : n0 ≤ S.bx.length := by first | (simp; done) | (simp [St.pub]; done)) (h2 : n0 ≤ τ.length := by first | (simp; done) | (simp [St.pub]; done))
    (h3 : ∀ j, j < n0 → τ[j]? = some (some j) := by decide) (h4 : T.bx.length = τ.length := by rfl)
    (h5 : wkFr τ S.bx.length S.fr T.fr := by repeat' first | exact True.intro | refine And.intro (Or.inl rfl) ?_ | refine And.intro (Or.inr ⟨rfl, rfl⟩) ?_)
    (h6 : wkBx τ S.bx.length S.bx 0 T.bx := by repeat' first | exact True.intro | exact rfl | exact Or.inl rfl | fail | refine And.intro ?_ ?_)
    (h7 : nodB (liveSrc τ T.bx) = true := by kernel_rfl) : S.wk n0 τ T := ⟨⟨h1, h2, h3⟩, h4, h5, h6, nodB_ok h7, hE⟩
noncomputable def F1 : Cx := { P := Try.prog, inl := fun f => List.contains [] f, tab := fun _ _ _ _ => False, isB := fun _ => false, tabB := fun _ _ _ _ _ => False, opt := { unroll := 0, carry := [], cuts := [5] }, muts := mutsD }
theorem okF1 : CxOK F1 := CxOK.four (fun _ _ _ _ h => h.elim) (by kernel_rfl) (okInl (by kernel_rfl)) (fun _ _ _ _ _ h => h.elim)
theorem condC {c : Bool} {p q : Prop} (h1 : c = true → p) (h0 : c = false → q) : bif c then p else q := by cases c; exact h0 rfl; exact h1 rfl
abbrev vB (l : List Int) : List Value := l.map (.int .u8)
theorem wu8 {x : Int} (h : 0 ≤ x ∧ x ≤ 255) : IntKind.wrap .u8 x = x := by
  rw [show IntKind.wrap .u8 x = x % 256 from rfl]; omega
theorem wu8b (x : Int) : 0 ≤ IntKind.wrap .u8 x ∧ IntKind.wrap .u8 x ≤ 255 := by
  rw [show IntKind.wrap .u8 x = x % 256 from rfl]; omega
abbrev FRow := Int × Option Addr × Nat × Nat
def rowV (r : FRow) : List Value := [.int .i64 r.1, .slice r.2.1 r.2.2.1 r.2.2.2]
def FLr (E : Mem) (rs : List FRow) (ms : List (Int × List Int)) : Prop := rs.length = ms.length ∧ ∀ (i : Nat) r m, rs[i]? = some r → ms[i]? = some m → r.1 = m.1 ∧ Bs E r.2.1 r.2.2.1 r.2.2.2 m.2
theorem FLr.mono {E E' : Mem} {rs : List FRow} {ms : List (Int × List Int)} (h : FLr E rs ms) (he : Mem.le E E') : FLr E' rs ms := ⟨h.1, fun i r m h1 h2 => ⟨(h.2 i r m h1 h2).1, (h.2 i r m h1 h2).2.mono he⟩⟩
theorem FLr.nil (E : Mem) : FLr E [] [] := ⟨rfl, fun i r m h => by simp at h⟩
theorem FLr.snoc {E : Mem} {rs : List FRow} {ms : List (Int × List Int)} (h : FLr E rs ms) {r : FRow} {m : Int × List Int} (h1 : r.1 = m.1) (h2 : Bs E r.2.1 r.2.2.1 r.2.2.2 m.2) : FLr E (rs ++ [r]) (ms ++ [m]) := by
  refine ⟨by simp [h.1], fun i r' m' g1 g2 => ?_⟩
  have hl := h.1
  by_cases hi : i < rs.length
  · rw [List.getElem?_append_left hi] at g1
    rw [List.getElem?_append_left (by omega)] at g2
    exact h.2 i r' m' g1 g2
  · rw [List.getElem?_append_right (by omega)] at g1
    rw [List.getElem?_append_right (by omega), ← hl] at g2
    cases hk : i - rs.length with
    | zero => rw [hk] at g1 g2; simp at g1 g2; subst g1; subst g2; exact ⟨h1, h2⟩
    | succ k => rw [hk] at g1; simp at g1
theorem rows_len (rs : List FRow) : (rs.flatMap rowV).length = rs.length * 2 := by
  induction rs with
  | nil => rfl
  | cons r rs ih => simp only [List.flatMap_cons, List.length_append, ih, rowV, List.length_cons, List.length_nil]; omega
theorem rows_snoc (rs : List FRow) (r : FRow) : (rs ++ [r]).flatMap rowV = rs.flatMap rowV ++ rowV r := by simp
def FL (E : Mem) (b : Option Addr) (n c : Nat) (ms : List (Int × List Int)) : Prop := ∃ rs : List FRow, FLr E rs ms ∧ ms.length = n ∧ n ≤ c ∧ (n = 0 ∨ E (.slice b n c) (rs.flatMap rowV)) ∧ (b = none → n = 0)
theorem FL.mono {E E' : Mem} {b : Option Addr} {n c : Nat} {ms : List (Int × List Int)} (h : FL E b n c ms) (he : Mem.le E E') : FL E' b n c ms :=
  let ⟨rs, h1, h2, h3, h4, h5⟩ := h; ⟨rs, h1.mono he, h2, h3, h4.imp_right (he _ _), h5⟩
theorem FL.nil (E : Mem) : FL E none 0 0 [] := ⟨[], FLr.nil E, rfl, Nat.le_refl _, .inl rfl, fun _ => rfl⟩
theorem FL.win {E : Mem} {base : Option Addr} {vs : List Value} (h : WinE E base vs) {rs : List FRow} (e : vs = rs.flatMap rowV) {ms : List (Int × List Int)} (hr : FLr E rs ms) {n c : Nat} (hn : ms.length = n) (hc : n ≤ c) : FL E (base.map fun x => x.add 0) n c ms := by
  subst e
  have hl : (rs.flatMap rowV).length = n * 2 := by rw [rows_len, hr.1, hn]
  have := h.2 0 (rs.flatMap rowV).length n c (by simp)
  simp only [List.drop_zero] at this
  rw [List.take_of_length_le (Nat.le_refl _)] at this
  refine ⟨rs, hr, hn, hc, .inr this, fun e => ?_⟩
  cases base with
  | none => have := h.1 rfl; rw [this] at hl; simp at hl; omega
  | some a => cases e
def stp (g : Nat → Int → Int) (a : Nat) (zs : List Int) : Nat → List Int
  | 0 => zs
  | i + 1 => (stp g a zs i).set (a + i) (g i ((stp g a zs i).getD (a + i) 0))
theorem stp_len (g : Nat → Int → Int) (a : Nat) (zs : List Int) : ∀ i, (stp g a zs i).length = zs.length
  | 0 => rfl
  | i + 1 => by simp [stp, stp_len g a zs i]
theorem stp_byte {g : Nat → Int → Int} {a : Nat} {zs : List Int} (hz : ∀ z ∈ zs, 0 ≤ z ∧ z ≤ 255) (hg : ∀ i x, 0 ≤ g i x ∧ g i x ≤ 255) : ∀ i, ∀ z ∈ stp g a zs i, 0 ≤ z ∧ z ≤ 255
  | 0, z, h => hz z h
  | i + 1, z, h => by
    rcases List.mem_or_eq_of_mem_set h with h | rfl
    · exact stp_byte hz hg i z h
    · exact hg _ _
def mems (s : Int) (g : Nat → Int → Int) (a : Nat) (zs : List Int) (n : Nat) : List (Int × List Int) := (List.range n).map fun i => (s, stp g a zs i)
theorem mems_succ (s : Int) (g : Nat → Int → Int) (a : Nat) (zs : List Int) (n : Nat) : mems s g a zs (n + 1) = mems s g a zs n ++ [(s, stp g a zs n)] := by simp [mems, List.range_succ]
theorem mems_len (s : Int) (g : Nat → Int → Int) (a : Nat) (zs : List Int) (n : Nat) : (mems s g a zs n).length = n := by simp [mems]
def band8 (x y : Int) : Int := IntKind.wrap .u8 (((BitVec.ofInt (IntKind.bits .u8) x &&& BitVec.ofInt (IntKind.bits .u8) y).toNat : Nat) : Int)
theorem layV_set {zs : List Int} {p : Nat} (h : p < zs.length) (x : Int) : layV (vB zs) p [.int .u8 x] = vB (zs.set p x) := by
  unfold layV vB
  rw [← List.map_take, ← List.map_drop, List.set_eq_take_append_cons_drop, if_pos h]
  simp
theorem loadV_byte {P : Program} {T : TypeId} (ht : P.underlying T = some (.int .u8)) {zs : List Int} {p : Nat} (h : p < zs.length) : LoadV P T (vB zs) p (.raw (.int .u8 (zs.getD p 0))) := by
  unfold LoadV loadW
  rw [ht]
  simp [h]
theorem vB_one (zs : List Int) : ∀ x : Value, List.Mem x (vB zs) → x.oneCell' = true := fun x hx => by
  obtain ⟨z, _, rfl⟩ := List.mem_map.1 hx
  rfl
noncomputable def F2 : Cx := { P := Try.prog, inl := fun f => List.contains [75, 64, 49] f, tab := fun _ _ _ _ => False, isB := fun _ => false, tabB := fun _ _ _ _ _ => False, opt := { unroll := 0, carry := [7] }, muts := (fun o => match o with | .call { callee := .value (.tmp 20), .. } => true | .call { callee := .value (.func 49), .. } => true | .call { callee := .value (.tmp 40), .. } => true | o => mutsD o) }
theorem okF2 : CxOK F2 := CxOK.four (fun _ _ _ _ h => h.elim) (by kernel_rfl) (okInl (by kernel_rfl)) (fun _ _ _ _ _ h => h.elim)
abbrev fr27 (n : Int) : List (Option SV) := [some (.clo 74 [] [.loc 2 0, .loc 4 0, .loc 5 0, .loc 3 0]), some (I n), none, none, some (L none 0 0), some (.loc 7 0), none, some (I n), some (.slc 6 0 0 (Int.toNat n)),
  some (.clo 74 [] [.loc 2 0, .loc 4 0, .loc 5 0, .loc 3 0]), none, none, none, none, none, none]
noncomputable def FY (n : Int) (c : Rc) : Cx := YCx F2 F1 6 (fr27 n) (sub (bodyOf Try.f65) [1, 1, 0, 1, 0]) c
def sh33 (s : Int) (a : Nat) (b db : Option Addr) (l c dl dc m : Nat) (rc : Rc) (i cap tot : Nat) (vs : List Value) (zs : List Int) (E : Mem) : St := ⟨[some (.raw (.func (.yield rc.l) #[] #[])), some (.loc 2 0), some (.loc 4 0), some (.loc 5 0), some (.loc 3 0), none, some (.loc 9 0), some (I (i : Nat))] ++ List.replicate 43 none,
  [⟨24, .lst [I s, L b l c], 2, true⟩, ⟨22, .lst [L db dl dc], 1, true⟩, ⟨24, .lst [I s, L b l c], 2, true⟩, ⟨3, .lst [I (a : Nat)], 1, true⟩, ⟨3, .lst [I (m : Nat)], 1, true⟩, ⟨91, .lst [.clo 75 [] [.loc 1 0]], 1, true⟩] ++ [⟨24, .lst [], 0, false⟩, ⟨34, .lst [.slc 10 0 i cap], 1, true⟩, ⟨5, .vals (vB zs), l * 1, true⟩, ⟨24, .lst [I s, .slc 8 0 l l], 2, true⟩, ⟨24, .vals vs, tot, true⟩], E⟩
def sh5 (s : Int) (a : Nat) (b db : Option Addr) (l c dl dc m : Nat) (n cap tot : Nat) (vs : List Value) (E : Mem) : St := ⟨[some (.clo 74 [] [.loc 2 0, .loc 4 0, .loc 5 0, .loc 3 0]), none, none, none, none, some (.loc 6 0)] ++ List.replicate 10 none,
  [⟨24, .lst [I s, L b l c], 2, true⟩, ⟨22, .lst [L db dl dc], 1, true⟩, ⟨24, .lst [I s, L b l c], 2, true⟩, ⟨3, .lst [I (a : Nat)], 1, true⟩, ⟨3, .lst [I (m : Nat)], 1, true⟩, ⟨91, .lst [.clo 75 [] [.loc 1 0]], 1, true⟩] ++ [⟨34, .lst [.slc 7 0 n cap], 1, true⟩, ⟨24, .vals vs, tot, true⟩], E⟩
structure I33 (E0 E : Mem) (s : Int) (g : Nat → Int → Int) (a l m : Nat) (zs0 : List Int) (i cap tot : Nat) (vs : List Value) (zs : List Int) (rs : List FRow) : Prop where
  le : Mem.le E0 E
  lm : 1 ≤ l ∧ l ≤ 16384 ∧ a + m ≤ l
  len : zs0.length = l
  byte : ∀ z ∈ zs0, 0 ≤ z ∧ z ≤ 255
  im : i ≤ m
  cap : i ≤ cap ∧ cap * 2 ≤ tot
  vs : i * 2 ≤ vs.length ∧ List.take (i * 2) vs = rs.flatMap rowV
  zs : zs = stp g a zs0 i
  rs : FLr E rs (mems s g a zs0 i)
def gP (ds : List Int) : Nat → Int → Int := fun i x => band8 x (ds.getD i 0)
theorem cn27 {K : KT} {s : Int} {a : Nat} {b db : Option Addr} {l c dl dc m k cap tot : Nat} {n0 : Int} {vs x8 x12 : List Value} {t8 t12 : Nat} {b3 b4 : Option Addr} {l3 c3 l4 c4 : Nat}
    (h : Ct F1 6 Try.f65 [1, 1, 1] 6 K (sh5 s a b db l c dl dc m k cap tot vs E)) :
    Pn F1 6 Try.f65 [1, 1, 0, 1, 0] 6 K ⟨fr27 n0, [⟨24, .lst [I s, L b l c], 2, true⟩, ⟨22, .lst [L db dl dc], 1, true⟩, ⟨24, .lst [I s, L b l c], 2, true⟩, ⟨3, .lst [I (a : Nat)], 1, true⟩, ⟨3, .lst [I (m : Nat)], 1, true⟩, ⟨91, .lst [.clo 75 [] [.loc 1 0]], 1, true⟩] ++ [⟨24, .lst [], 0, false⟩, ⟨34, .lst [.slc 15 0 k cap], 1, true⟩, ⟨5, .vals x8, t8, true⟩, ⟨24, .lst [I s, .slc 8 0 l l], 2, true⟩, ⟨24, .lst [], 0, false⟩, ⟨5, .lst [], 0, false⟩, ⟨5, .vals x12, t12, false⟩, ⟨24, .lst [I s, L b3 l3 c3], 2, true⟩, ⟨24, .lst [I s, L b4 l4 c4], 2, true⟩, ⟨24, .vals vs, tot, true⟩], E⟩ := by
  refine same (by kernel_rfl) (?_ : Ct F1 6 Try.f65 [1, 1, 1] 6 K { fr := some (SV.clo 74 [] [SV.loc 2 0, SV.loc 4 0, SV.loc 5 0, SV.loc 3 0]) :: some (I n0) :: none :: none :: some (L none 0 0) :: some (SV.loc 7 0) :: none :: some (I n0) :: some (SV.slc 6 0 0 (Int.toNat n0)) :: some (SV.clo 74 [] [SV.loc 2 0, SV.loc 4 0, SV.loc 5 0, SV.loc 3 0]) :: n4 (n2 []), bx := [⟨24, .lst [I s, L b l c], 2, true⟩, ⟨22, .lst [L db dl dc], 1, true⟩, ⟨24, .lst [I s, L b l c], 2, true⟩, ⟨3, .lst [I (NI a)], 1, true⟩, ⟨3, .lst [I (NI m)], 1, true⟩, ⟨91, .lst [SV.clo 75 [] [SV.loc 1 0]], 1, true⟩, ⟨24, .lst [], 0, false⟩, ⟨34, .lst [SV.slc 15 0 k cap], 1, true⟩, ⟨5, .vals x8, t8, true⟩, ⟨24, .lst [I s, SV.slc 8 0 l l], 2, true⟩, ⟨24, .lst [], 0, false⟩, ⟨5, .lst [], 0, false⟩, ⟨5, .vals x12, t12, false⟩, ⟨24, .lst [I s, L b3 l3 c3], 2, true⟩, ⟨24, .lst [I s, L b4 l4 c4], 2, true⟩, ⟨24, .vals vs, tot, true⟩], E := E : St })
  delta NI n2 n4
  exact Ct_re [some 0, some 1, some 2, some 3, some 4, some 5, some 7, some 15] h (wkG (Mem.le_refl _))
theorem rnd33 {E0 : Mem} {K : KT} {s : Int} {a : Nat} {b db : Option Addr} {l c dl dc m : Nat} {rc : Rc} {i cap tot : Nat} {vs : List Value} {zs zs0 ds : List Int} {rs : List FRow} {n0 : Int} (hn : n0 = ((m + 1 : Nat) : Int))
    (hI : I33 E0 E s (gP ds) a l m zs0 i cap tot vs zs rs) (hd : Bs E0 db dl dc ds) (hdl : m = dl)
    (hK : ∀ (E' : Mem) (rs : List FRow) (vs : List Value) (cap tot : Nat), Mem.le E0 E' → m + 1 ≤ cap → cap * 2 ≤ tot → vs = rs.flatMap rowV → FLr E' rs (mems s (gP ds) a zs0 (m + 1)) → Ct F1 6 Try.f65 [1, 1, 1] 6 K (sh5 s a b db l c dl dc m (m + 1) cap tot vs E'))
    (ih : ∀ (E' : Mem) (cap tot : Nat) (vs : List Value) (zs : List Int) (rs : List FRow), i < m → I33 E0 E' s (gP ds) a l m zs0 (i + 1) cap tot vs zs rs →
      Lp (FY n0 rc) 6 Try.f74 [1, 1, 1, 0] 8 (fun _ bx E => Cn F1 6 Try.f65 [1, 1, 0, 1, 0] 6 K { fr := fr27 n0, bx := bx, E := E }) (sh33 s a b db l c dl dc m rc (i + 1) cap tot vs zs E')) :
    Rnd (FY n0 rc) 6 Try.f74 [1, 1, 1, 0] 8 (fun _ bx E => Cn F1 6 Try.f65 [1, 1, 0, 1, 0] 6 K { fr := fr27 n0, bx := bx, E := E }) (sh33 s a b db l c dl dc m rc i cap tot vs zs E) := by
  refine same (by kernel_rfl) (?_ : Sx.Alike (AlikeT.n AlikeT.l AlikeT.l) (∀ (r : Bool), (r = true → Sx.Alike (AlikeT.n AlikeT.l AlikeT.l) (l = 0)) → bif r then rc.l = rc.l ∧ i * 2 ≤ List.length (Row.cells (Row.vals vs)) ∧ cap * 2 ≤ tot ∧ i ≤ cap ∧ req ((i + 1) * 32 ≤ 140737488355328) (∀ (cap' tot' : Nat), i + 1 ≤ cap' → cap' * 2 ≤ tot' → Sx.Alike (AlikeT.n AlikeT.l AlikeT.l) (bif bif true then decide ((NI i) < (NI m)) else false then req ((0 : Int) ≤ WI ((NI a) + (NI i)) ∧ WI ((NI a) + (NI i)) < (NI l)) (∃ (n : Int), LoadV (FY n0 rc).P 5 (vB zs) (0 + Int.toNat (WI ((NI a) + (NI i))) * 1) (SV.raw (U8 n)) ∧ Sx.Alike (AlikeT.n (AlikeT.n AlikeT.l AlikeT.l) (AlikeT.n (AlikeT.n AlikeT.l AlikeT.l) AlikeT.l)) (req ((0 : Int) ≤ (NI i) ∧ (NI i) < (NI dl)) ((∃ (cs : List Value), E (VS db dl dc) cs ∧ (cs = [] → False)) ∧ ∃ (n_1 : Int), LoadE (FY n0 rc).P E 5 (VS db dl dc) (Int.toNat (NI i) * 1) (SV.raw (U8 n_1)) ∧ req ((0 : Int) ≤ WI ((NI a) + (NI i)) ∧ WI ((NI a) + (NI i)) < (NI l)) (0 + Int.toNat (WI ((NI a) + (NI i))) * 1 + 1 ≤ List.length (vB zs) ∧ Lp (FY n0 rc) 6 Try.f74 [1, 1, 1, 0] 8 (fun (x : SV) (bx : List Box) (E : Mem) => Cn F1 6 Try.f65 [1, 1, 0, 1, 0] 6 K { fr := fr27 n0, bx := bx, E := E : St }) { fr := some (SV.raw (Value.func (Fn.yield rc.l) #[] #[])) :: some (SV.loc 2 0) :: some (SV.loc 4 0) :: some (SV.loc 5 0) :: some (SV.loc 3 0) :: none :: some (SV.loc 9 0) :: some (I (WI ((NI i) + (1 : Int)))) :: n32 (n8 (n2 (none :: []))), bx := [⟨24, .lst [I s, L b l c], 2, true⟩, ⟨22, .lst [L db dl dc], 1, true⟩, ⟨24, .lst [I s, L b l c], 2, true⟩, ⟨3, .lst [I (NI a)], 1, true⟩, ⟨3, .lst [I (NI m)], 1, true⟩, ⟨91, .lst [SV.clo 75 [] [SV.loc 1 0]], 1, true⟩, ⟨24, .lst [], 0, false⟩, ⟨34, .lst [SV.slc 13 0 (i + 1) cap'], 1, true⟩, ⟨5, .vals (layV (vB zs) (0 + Int.toNat (WI ((NI a) + (NI i))) * 1) [U8 (IntKind.wrap IntKind.u8 (NI (BitVec.toNat (BitVec.ofInt (IntKind.bits IntKind.u8) n &&& BitVec.ofInt (IntKind.bits IntKind.u8) n_1))))]), l * 1, true⟩, ⟨24, .lst [I s, SV.slc 8 0 l l], 2, true⟩, ⟨24, .lst [], 0, false⟩, ⟨24, .lst [I s, L none 0 0], 2, true⟩, ⟨24, .lst [I s, L none 0 0], 2, true⟩, ⟨24, .vals (List.take (i * 2) vs ++ [Value.int IntKind.i64 s, VS none 0 0]), tot', true⟩], E := E : St })))) else Cn F1 6 Try.f65 [1, 1, 0, 1, 0] 6 K { fr := some (SV.clo 74 [] [SV.loc 2 0, SV.loc 4 0, SV.loc 5 0, SV.loc 3 0]) :: some (I n0) :: none :: none :: some (L none 0 0) :: some (SV.loc 7 0) :: none :: some (I n0) :: some (SV.slc 6 0 0 (Int.toNat n0)) :: some (SV.clo 74 [] [SV.loc 2 0, SV.loc 4 0, SV.loc 5 0, SV.loc 3 0]) :: n4 (n2 []), bx := [⟨24, .lst [I s, L b l c], 2, true⟩, ⟨22, .lst [L db dl dc], 1, true⟩, ⟨24, .lst [I s, L b l c], 2, true⟩, ⟨3, .lst [I (NI a)], 1, true⟩, ⟨3, .lst [I (NI m)], 1, true⟩, ⟨91, .lst [SV.clo 75 [] [SV.loc 1 0]], 1, true⟩, ⟨24, .lst [], 0, false⟩, ⟨34, .lst [SV.slc 13 0 (i + 1) cap'], 1, true⟩, ⟨5, .vals (vB zs), l * 1, true⟩, ⟨24, .lst [I s, SV.slc 8 0 l l], 2, true⟩, ⟨24, .lst [], 0, false⟩, ⟨24, .lst [I s, L none 0 0], 2, true⟩, ⟨24, .lst [I s, L none 0 0], 2, true⟩, ⟨24, .vals (List.take (i * 2) vs ++ [Value.int IntKind.i64 s, VS none 0 0]), tot', true⟩], E := E : St })) else 0 + l * 1 ≤ List.length (vB zs) ∧ (∀ (x : Value), List.Mem x (vB zs) → Value.oneCell' x = true) ∧ 0 ≤ 0 ∧ 0 ≤ 0 ∧ 0 ≤ 0 ∧ req ((0 + l) * 1 ≤ 140737488355328) (∀ (cap' tot' : Nat), 0 + l ≤ cap' → cap' * 1 ≤ tot' → rc.l = rc.l ∧ ∀ (base : Option Addr) (E' : Mem), Mem.le E E' → WinE E' base ([] ++ List.take (l * 1) (List.drop 0 (vB zs))) → i * 2 ≤ List.length (Row.cells (Row.vals vs)) ∧ cap * 2 ≤ tot ∧ i ≤ cap ∧ req ((i + 1) * 32 ≤ 140737488355328) (∀ (cap'_1 tot'_1 : Nat), i + 1 ≤ cap'_1 → cap'_1 * 2 ≤ tot'_1 → Sx.Alike (AlikeT.n AlikeT.l AlikeT.l) (bif bif true then decide ((NI i) < (NI m)) else false then req ((0 : Int) ≤ WI ((NI a) + (NI i)) ∧ WI ((NI a) + (NI i)) < (NI l)) (∃ (n : Int), LoadV (FY n0 rc).P 5 (vB zs) (0 + Int.toNat (WI ((NI a) + (NI i))) * 1) (SV.raw (U8 n)) ∧ Sx.Alike (AlikeT.n (AlikeT.n AlikeT.l AlikeT.l) (AlikeT.n (AlikeT.n AlikeT.l AlikeT.l) AlikeT.l)) (req ((0 : Int) ≤ (NI i) ∧ (NI i) < (NI dl)) ((∃ (cs : List Value), E' (VS db dl dc) cs ∧ (cs = [] → False)) ∧ ∃ (n_1 : Int), LoadE (FY n0 rc).P E' 5 (VS db dl dc) (Int.toNat (NI i) * 1) (SV.raw (U8 n_1)) ∧ req ((0 : Int) ≤ WI ((NI a) + (NI i)) ∧ WI ((NI a) + (NI i)) < (NI l)) (0 + Int.toNat (WI ((NI a) + (NI i))) * 1 + 1 ≤ List.length (vB zs) ∧ Lp (FY n0 rc) 6 Try.f74 [1, 1, 1, 0] 8 (fun (x : SV) (bx : List Box) (E : Mem) => Cn F1 6 Try.f65 [1, 1, 0, 1, 0] 6 K { fr := fr27 n0, bx := bx, E := E : St }) { fr := some (SV.raw (Value.func (Fn.yield rc.l) #[] #[])) :: some (SV.loc 2 0) :: some (SV.loc 4 0) :: some (SV.loc 5 0) :: some (SV.loc 3 0) :: none :: some (SV.loc 9 0) :: some (I (WI ((NI i) + (1 : Int)))) :: n32 (n8 (n2 (none :: []))), bx := [⟨24, .lst [I s, L b l c], 2, true⟩, ⟨22, .lst [L db dl dc], 1, true⟩, ⟨24, .lst [I s, L b l c], 2, true⟩, ⟨3, .lst [I (NI a)], 1, true⟩, ⟨3, .lst [I (NI m)], 1, true⟩, ⟨91, .lst [SV.clo 75 [] [SV.loc 1 0]], 1, true⟩, ⟨24, .lst [], 0, false⟩, ⟨34, .lst [SV.slc 15 0 (i + 1) cap'_1], 1, true⟩, ⟨5, .vals (layV (vB zs) (0 + Int.toNat (WI ((NI a) + (NI i))) * 1) [U8 (IntKind.wrap IntKind.u8 (NI (BitVec.toNat (BitVec.ofInt (IntKind.bits IntKind.u8) n &&& BitVec.ofInt (IntKind.bits IntKind.u8) n_1))))]), l * 1, true⟩, ⟨24, .lst [I s, SV.slc 8 0 l l], 2, true⟩, ⟨24, .lst [], 0, false⟩, ⟨5, .lst [], 0, false⟩, ⟨5, .vals ([] ++ List.take (l * 1) (List.drop 0 (vB zs))), tot', false⟩, ⟨24, .lst [I s, L (Option.map (fun (x : Addr) => Addr.add x 0) base) (0 + l) cap'], 2, true⟩, ⟨24, .lst [I s, L (Option.map (fun (x : Addr) => Addr.add x 0) base) (0 + l) cap'], 2, true⟩, ⟨24, .vals (List.take (i * 2) vs ++ [Value.int IntKind.i64 s, slcAs base 0 (0 + l) cap']), tot'_1, true⟩], E := E' : St })))) else Cn F1 6 Try.f65 [1, 1, 0, 1, 0] 6 K { fr := some (SV.clo 74 [] [SV.loc 2 0, SV.loc 4 0, SV.loc 5 0, SV.loc 3 0]) :: some (I n0) :: none :: none :: some (L none 0 0) :: some (SV.loc 7 0) :: none :: some (I n0) :: some (SV.slc 6 0 0 (Int.toNat n0)) :: some (SV.clo 74 [] [SV.loc 2 0, SV.loc 4 0, SV.loc 5 0, SV.loc 3 0]) :: n4 (n2 []), bx := [⟨24, .lst [I s, L b l c], 2, true⟩, ⟨22, .lst [L db dl dc], 1, true⟩, ⟨24, .lst [I s, L b l c], 2, true⟩, ⟨3, .lst [I (NI a)], 1, true⟩, ⟨3, .lst [I (NI m)], 1, true⟩, ⟨91, .lst [SV.clo 75 [] [SV.loc 1 0]], 1, true⟩, ⟨24, .lst [], 0, false⟩, ⟨34, .lst [SV.slc 15 0 (i + 1) cap'_1], 1, true⟩, ⟨5, .vals (vB zs), l * 1, true⟩, ⟨24, .lst [I s, SV.slc 8 0 l l], 2, true⟩, ⟨24, .lst [], 0, false⟩, ⟨5, .lst [], 0, false⟩, ⟨5, .vals ([] ++ List.take (l * 1) (List.drop 0 (vB zs))), tot', false⟩, ⟨24, .lst [I s, L (Option.map (fun (x : Addr) => Addr.add x 0) base) (0 + l) cap'], 2, true⟩, ⟨24, .lst [I s, L (Option.map (fun (x : Addr) => Addr.add x 0) base) (0 + l) cap'], 2, true⟩, ⟨24, .vals (List.take (i * 2) vs ++ [Value.int IntKind.i64 s, slcAs base 0 (0 + l) cap']), tot'_1, true⟩], E := E' : St })))))
  delta WI NI U8 VS n2 n4 n8 n32
  obtain ⟨hle, ⟨l1, l2, l3⟩, hlen, hbyte, him, ⟨hc1, hc2⟩, ⟨hv1, hv2⟩, hzs, hrs⟩ := hI
  have hzl : zs.length = l := by rw [hzs, stp_len]; exact hlen
  have hzb : ∀ z ∈ zs, 0 ≤ z ∧ z ≤ 255 := by rw [hzs]; exact stp_byte hbyte (fun i x => wu8b _) i
  have him2 : i ≤ 16384 := by omega
  have eai : IntKind.wrap .i64 ((a : Int) + (i : Int)) = ((a + i : Nat) : Int) := by rw [wrap_i64 (by omega)]; simp
  have ei1 : IntKind.wrap .i64 ((i : Int) + 1) = ((i + 1 : Nat) : Int) := by rw [wrap_i64 (by omega)]; simp
  have hld : zs.length ≤ l := Nat.le_of_eq hzl
  refine alike (fun r hr => condC (fun h1 => by subst h1; exact absurd (show l = 0 from (hr rfl).1) (by omega)) (fun _ => ?_))
  refine ⟨by simp only [List.length_map, hzl]; omega, vB_one zs, Nat.le_refl _, Nat.le_refl _, Nat.le_refl _, req_intro (by omega) (fun cap1 tot1 c1 c2 => ⟨rfl, fun base E1 hE1 hW => ⟨?_, hc2, hc1, req_intro (by omega) (fun cap2 tot2 c3 c4 => ?_)⟩⟩)⟩
  · simp only [Row.cells, List.length_map]; exact hv1
  have etk : [] ++ List.take (l * 1) (List.drop 0 (vB zs)) = vB zs := by rw [List.nil_append, List.drop_zero, List.take_of_length_le (by simp only [List.length_map, hzl]; omega)]
  rw [etk] at hW
  have hBs : Bs E1 (base.map fun x => x.add 0) (0 + l) cap1 zs := Bs.win hW rfl (by omega) c1 hzb
  have hrs1 : FLr E1 (rs ++ [(s, base.map fun x => x.add 0, 0 + l, cap1)]) (mems s (gP ds) a zs0 (i + 1)) := by
    rw [mems_succ]; exact (hrs.mono hE1).snoc rfl (by rw [← hzs]; exact hBs)
  have hvs1 : List.take (i * 2) vs ++ [Value.int IntKind.i64 s, slcAs base 0 (0 + l) cap1] = (rs ++ [(s, base.map fun x => x.add 0, 0 + l, cap1)]).flatMap rowV := by
    rw [rows_snoc, hv2]; rfl
  have hrl : rs.length = i := by rw [hrs.1, mems_len]
  have hle1 : Mem.le E0 E1 := Mem.le_trans hle hE1
  refine alike (condC (fun hlt => ?_) (fun hge => ?_))
  · have hlt : i < m := by simpa using hlt
    have hal : a + i < l := by omega
    have hget : zs.getD (a + i) 0 = zs[a + i]'(by omega) := by rw [List.getD_eq_getElem?_getD, List.getElem?_eq_getElem (by omega)]; rfl
    refine req_intro (by rw [eai]; omega) ⟨zs.getD (a + i) 0, ?_, alike (req_intro (by omega) ⟨(hd.mono hle1).ne (i := i) (by omega), ds.getD i 0, ?_, req_intro (by rw [eai]; omega) ⟨?_, ?_⟩⟩)⟩
    · rw [eai]
      show LoadV _ _ _ (0 + ((a + i : Nat) : Int).toNat * 1) _
      rw [show 0 + ((a + i : Nat) : Int).toNat * 1 = a + i by omega]
      exact loadV_byte rfl (by omega)
    · exact (hd.mono hle1).load (i := i) rfl (by omega)
    · rw [eai]; simp only [List.length_map]; omega
    · have e1 : 0 + Int.toNat (IntKind.wrap IntKind.i64 ((a : Int) + (i : Int))) * 1 = a + i := by rw [eai]; omega
      rw [e1, ei1, layV_set (by omega)]
      refine Lp_re [some 0, some 1, some 2, some 3, some 4, some 5, some 6, some 7, some 8, some 9, some 15] (ih E1 cap2 tot2 _ _ _ hlt ⟨hle1, ⟨l1, l2, l3⟩, hlen, hbyte, by omega, ⟨c3, c4⟩, ⟨?_, ?_⟩, ?_, hrs1⟩) (wkG (Mem.le_refl _) (h6 := (by repeat' first | exact True.intro | exact rfl | exact Or.inl rfl | exact (by decide : 6 < 16) | refine And.intro ?_ ?_)))
      · rw [hvs1, rows_len]; simp [hrl]
      · rw [hvs1, List.take_of_length_le (by rw [rows_len]; simp [hrl])]
      · rw [hzs]; rfl
  · have hge : i = m := by simp at hge; omega
    subst hge
    subst hn
    exact Cn_intro (cn27 (hK E1 _ _ cap2 tot2 hle1 c3 c4 hvs1 hrs1))
abbrev Q27 (K : KT) (n0 : Int) : KT := fun _ bx E => Cn F1 6 Try.f65 [1, 1, 0, 1, 0] 6 K { fr := fr27 n0, bx := bx, E := E }
theorem lp33 {E0 : Mem} {K : KT} {s : Int} {a : Nat} {b db : Option Addr} {l c dl dc m : Nat} {rc : Rc} {zs0 ds : List Int} {n0 : Int} (hn : n0 = ((m + 1 : Nat) : Int)) (hd : Bs E0 db dl dc ds) (hdl : m = dl) (hrc : CxOK (FY n0 rc))
    (hK : ∀ (E' : Mem) (rs : List FRow) (vs : List Value) (cap tot : Nat), Mem.le E0 E' → m + 1 ≤ cap → cap * 2 ≤ tot → vs = rs.flatMap rowV → FLr E' rs (mems s (gP ds) a zs0 (m + 1)) → Ct F1 6 Try.f65 [1, 1, 1] 6 K (sh5 s a b db l c dl dc m (m + 1) cap tot vs E')) 
    {i cap tot : Nat} {vs : List Value} {zs : List Int} {rs : List FRow} {E : Mem} (hI : I33 E0 E s (gP ds) a l m zs0 i cap tot vs zs rs) :
    Lp (FY n0 rc) 6 Try.f74 [1, 1, 1, 0] 8 (Q27 K n0) (sh33 s a b db l c dl dc m rc i cap tot vs zs E) := by
  have key := Lp_ind hrc (n := 6) (fn := Try.f74) (p := [1, 1, 1, 0]) (n0 := 8) (K := Q27 K n0)
    (fun x : {x : Mem × Nat × Nat × Nat × List Value × List Int × List FRow // I33 E0 x.1 s (gP ds) a l m zs0 x.2.1 x.2.2.1 x.2.2.2.1 x.2.2.2.2.1 x.2.2.2.2.2.1 x.2.2.2.2.2.2} => sh33 s a b db l c dl dc m rc x.1.2.1 x.1.2.2.1 x.1.2.2.2.1 x.1.2.2.2.2.1 x.1.2.2.2.2.2.1 x.1.1)
    (fun x => m - x.1.2.1) (fun x ih => rnd33 hn x.2 hd hdl hK fun E' cap tot vs zs rs hlt h' => ih ⟨⟨E', x.1.2.1 + 1, cap, tot, vs, zs, rs⟩, h'⟩ (by show m - (_ + 1) < m - _; omega))
  exact key ⟨⟨E, i, cap, tot, vs, zs, rs⟩, hI⟩
theorem ent33 {K : KT} {s : Int} {a : Nat} {b db : Option Addr} {l c dl dc m : Nat} {rc : Rc} {zs0 ds : List Int} {n0 : Int} (hn : n0 = ((m + 1 : Nat) : Int)) (hd : Bs E db dl dc ds) (hdl : m = dl) (hrc : CxOK (FY n0 rc))
    (hz : Bs E b l c zs0) (hl : 1 ≤ l ∧ l ≤ 16384 ∧ a + m ≤ l)
    (hK : ∀ (E' : Mem) (rs : List FRow) (vs : List Value) (cap tot : Nat), Mem.le E E' → m + 1 ≤ cap → cap * 2 ≤ tot → vs = rs.flatMap rowV → FLr E' rs (mems s (gP ds) a zs0 (m + 1)) → Ct F1 6 Try.f65 [1, 1, 1] 6 K (sh5 s a b db l c dl dc m (m + 1) cap tot vs E')) :
    EntB (FY n0 rc) 6 Try.f74 [.raw (.func (.yield rc.l) #[] #[]), .loc 2 0, .loc 4 0, .loc 5 0, .loc 3 0]
    ([⟨24, .lst [I s, L b l c], 2, true⟩, ⟨22, .lst [L db dl dc], 1, true⟩, ⟨24, .lst [I s, L b l c], 2, true⟩, ⟨3, .lst [I (a : Nat)], 1, true⟩, ⟨3, .lst [I (m : Nat)], 1, true⟩, ⟨91, .lst [.clo 75 [] [.loc 1 0]], 1, true⟩] ++ [⟨24, .vals (zerosV [.int .i64 0, .slice none 0 0] (Int.toNat n0)), Int.toNat n0 * 2, true⟩, ⟨34, .lst [.slc 6 0 0 (Int.toNat n0)], 1, true⟩]) E (Q27 K n0) := by
  refine same (by kernel_rfl) (?_ : req ((0 : Int) ≤ (NI l) ∧ (NI l) ≤ (NI l)) (req ((NI l) * (NI 1) ≤ (140737488355328 : Int)) (∃ (cs : List Value), (cs = [] ∨ E (VS b l c) cs) ∧ l * 1 ≤ List.length cs ∧ (∀ (x : Value), List.Mem x cs → Value.oneCell' x = true) ∧ 0 + Int.toNat (NI l) * 1 ≤ List.length (zerosV [U8 0] (Int.toNat (NI l))) ∧ Lp (FY n0 rc) 6 Try.f74 [1, 1, 1, 0] 8 (Q27 K n0) { fr := some (SV.raw (Value.func (Fn.yield rc.l) #[] #[])) :: some (SV.loc 2 0) :: some (SV.loc 4 0) :: some (SV.loc 5 0) :: some (SV.loc 3 0) :: none :: some (SV.loc 9 0) :: some (I 0) :: some (SV.loc 2 0) :: some (I s) :: some (SV.loc 2 1) :: some (L b l c) :: some (I (NI l)) :: some (SV.slc 8 0 (Int.toNat (NI l)) (Int.toNat (NI l))) :: some (SV.agg [I s, SV.slc 8 0 (Int.toNat (NI l)) (Int.toNat (NI l))]) :: some (SV.loc 9 1) :: some (SV.slc 8 0 (Int.toNat (NI l)) (Int.toNat (NI l))) :: some (SV.loc 2 1) :: some (L b l c) :: some (I (NI (min l (Int.toNat (NI l))))) :: n16 (n8 (n4 (n2 (none :: [])))), bx := [⟨24, .lst [I s, L b l c], 2, true⟩, ⟨22, .lst [L db dl dc], 1, true⟩, ⟨24, .lst [I s, L b l c], 2, true⟩, ⟨3, .lst [I (NI a)], 1, true⟩, ⟨3, .lst [I (NI m)], 1, true⟩, ⟨91, .lst [SV.clo 75 [] [SV.loc 1 0]], 1, true⟩, ⟨24, .vals (zerosV [Value.int IntKind.i64 0, VS none 0 0] (Int.toNat n0)), Int.toNat n0 * 2, true⟩, ⟨34, .lst [SV.slc 6 0 0 (Int.toNat n0)], 1, true⟩, ⟨5, .vals (layV (zerosV [U8 0] (Int.toNat (NI l))) 0 (List.take (min l (Int.toNat (NI l)) * 1) (List.take (l * 1) cs))), Int.toNat (NI l) * 1, true⟩, ⟨24, .lst [I s, SV.slc 8 0 (Int.toNat (NI l)) (Int.toNat (NI l))], 2, true⟩], E := E : St })))
  delta NI U8 VS n2 n4 n8 n16
  obtain ⟨l1, l2, l3⟩ := hl
  obtain ⟨t1, t2, t3⟩ := hz.src
  have hzl := hz.2.1
  refine req_intro (by omega) (req_intro (by simp; omega) ⟨_, t1, t2, t3, ?_, ?_⟩)
  · simp [zerosV]
  have hn2 : Int.toNat n0 = m + 1 := by omega
  have e1 : layV (zerosV [Value.int IntKind.u8 0] (Int.toNat (l : Int))) 0 (List.take (min l (Int.toNat (l : Int)) * 1) (List.take (l * 1) (zs0.map (Value.int .u8)))) = vB zs0 := by
    rw [Int.toNat_natCast, Nat.min_self, List.take_of_length_le (l := List.take _ _) (by simp only [List.length_take, List.length_map]; omega), List.take_of_length_le (by simp; omega)]
    unfold layV
    rw [List.take_zero, List.nil_append, List.drop_eq_nil_of_le (by simp [zerosV]; omega), List.append_nil]
  rw [e1, Int.toNat_natCast]
  exact Lp_re [some 0, some 1, some 2, some 3, some 4, some 5, some 6, some 7, some 8, some 9, some 6] (lp33 hn hd hdl hrc hK (i := 0) (cap := Int.toNat n0) (tot := Int.toNat n0 * 2) (vs := zerosV [.int .i64 0, .slice none 0 0] (Int.toNat n0)) (zs := zs0) (rs := []) ⟨Mem.le_refl _, ⟨l1, l2, l3⟩, hzl, hz.2.2.2.1, Nat.zero_le _, ⟨Nat.zero_le _, Nat.le_refl _⟩, ⟨by simp, by simp⟩, rfl, FLr.nil _⟩) (wkG (Mem.le_refl _) (h6 := (by repeat' first | exact True.intro | exact rfl | exact Or.inl rfl | exact (by decide : 6 < 10) | refine And.intro ?_ ?_)))
theorem leaf27 {K : KT} {s : Int} {a : Nat} {b db : Option Addr} {l c dl dc m : Nat} {zs0 ds : List Int} {n0 : Int} (hn : n0 = ((m + 1 : Nat) : Int)) (hd : Bs E db dl dc ds) (hdl : m = dl)
    (hz : Bs E b l c zs0) (hl : 1 ≤ l ∧ l ≤ 16384 ∧ a + m ≤ l)
    (hK : ∀ (E' : Mem) (rs : List FRow) (vs : List Value) (cap tot : Nat), Mem.le E E' → m + 1 ≤ cap → cap * 2 ≤ tot → vs = rs.flatMap rowV → FLr E' rs (mems s (gP ds) a zs0 (m + 1)) → Ct F1 6 Try.f65 [1, 1, 1] 6 K (sh5 s a b db l c dl dc m (m + 1) cap tot vs E')) :
    Ct F1 6 Try.f65 [1, 1, 0, 1, 0] 6 K ⟨fr27 n0, [⟨24, .lst [I s, L b l c], 2, true⟩, ⟨22, .lst [L db dl dc], 1, true⟩, ⟨24, .lst [I s, L b l c], 2, true⟩, ⟨3, .lst [I (a : Nat)], 1, true⟩, ⟨3, .lst [I (m : Nat)], 1, true⟩, ⟨91, .lst [.clo 75 [] [.loc 1 0]], 1, true⟩] ++ [⟨24, .vals (zerosV [.int .i64 0, .slice none 0 0] (Int.toNat n0)), Int.toNat n0 * 2, true⟩, ⟨34, .lst [.slc 6 0 0 (Int.toNat n0)], 1, true⟩], E⟩ :=
  RfY okF1 okF2 (by kernel_rfl) (by kernel_rfl) Try.func74 ⟨by kernel_rfl, by kernel_rfl⟩ (gf := 74) (gfn := Try.f74) (first := []) (caps := [.loc 2 0, .loc 4 0, .loc 5 0, .loc 3 0]) (m := 6) (fun rc hrc => ent33 hn hd hdl hrc hz hl hK) rfl rfl
theorem pc5 {K : KT} {s : Int} {a : Nat} {b db : Option Addr} {l c dl dc m n cap tot : Nat} {vs : List Value} (h : K (.slc 7 0 n cap) (sh5 s a b db l c dl dc m n cap tot vs E).bx E) : Pc F1 6 Try.f65 [1, 1, 1] 6 K (sh5 s a b db l c dl dc m n cap tot vs E) := by
  refine same (by kernel_rfl) (?_ : K (SV.slc 7 0 n cap) [{ elem := 24, row := Row.lst [SV.raw (Value.int IntKind.i64 s), SV.raw (Value.slice b l c)], total := 2, own := true : Box }, { elem := 22, row := Row.lst [SV.raw (Value.slice db dl dc)], total := 1, own := true : Box }, { elem := 24, row := Row.lst [SV.raw (Value.int IntKind.i64 s), SV.raw (Value.slice b l c)], total := 2, own := true : Box }, { elem := 3, row := Row.lst [SV.raw (Value.int IntKind.i64 (↑a : Int))], total := 1, own := true : Box }, { elem := 3, row := Row.lst [SV.raw (Value.int IntKind.i64 (↑m : Int))], total := 1, own := true : Box }, { elem := 91, row := Row.lst [SV.clo 75 [] [SV.loc 1 0]], total := 1, own := true : Box }, { elem := 34, row := Row.lst [SV.slc 7 0 n cap], total := 1, own := true : Box }, { elem := 24, row := Row.vals vs, total := tot, own := true : Box }] E)
  exact h
theorem out27 {K : KT} {s : Int} {a : Nat} {b db : Option Addr} {l c dl dc m n cap tot : Nat} {rs : List FRow} {ms : List (Int × List Int)} (hr : FLr E rs ms) (hn : ms.length = n) (hc : n ≤ cap)
    (h : ∀ (fb : Option Addr) (E' : Mem), Mem.le E E' → FL E' fb n cap ms → K (L fb n cap) ([⟨24, .lst [I s, L b l c], 2, true⟩, ⟨22, .lst [L db dl dc], 1, true⟩, ⟨24, .lst [I s, L b l c], 2, true⟩, ⟨3, .lst [I (a : Nat)], 1, true⟩, ⟨3, .lst [I (m : Nat)], 1, true⟩, ⟨91, .lst [.clo 75 [] [.loc 1 0]], 1, true⟩]) E') : pubB (cloK 6 K) (.slc 7 0 n cap) (sh5 s a b db l c dl dc m n cap tot (rs.flatMap rowV) E).bx E := by
  refine same (q := ∀ (base : Option Addr) (E2 : Mem), Mem.le E E2 → WinE E2 base (rs.flatMap rowV) → cloK 6 K (.raw (slcAs base 0 n cap)) ([⟨24, .lst [I s, L b l c], 2, true⟩, ⟨22, .lst [L db dl dc], 1, true⟩, ⟨24, .lst [I s, L b l c], 2, true⟩, ⟨3, .lst [I (a : Nat)], 1, true⟩, ⟨3, .lst [I (m : Nat)], 1, true⟩, ⟨91, .lst [.clo 75 [] [.loc 1 0]], 1, true⟩] ++ [⟨34, .lst [.raw (slcAs base 0 n cap)], 1, true⟩, ⟨24, .vals (rs.flatMap rowV), tot, false⟩]) E2) (by kernel_rfl) ?_
  intro base E2 h1 h2
  exact cloK_intro [some 0, some 1, some 2, some 3, some 4, some 5] (h _ E2 h1 (FL.win h2 rfl (hr.mono h1) hn hc)) (wkG (Mem.le_refl _))
theorem s27 {K : KT} {s : Int} {a : Nat} {b db : Option Addr} {l c dl dc m : Nat} {zs0 ds : List Int} {n0 : Int} (hn : n0 = ((m + 1 : Nat) : Int)) (hd : Bs E db dl dc ds) (hdl : m = dl)
    (hz : Bs E b l c zs0) (hl : 1 ≤ l ∧ l ≤ 16384 ∧ a + m ≤ l)
    (h : ∀ (fb : Option Addr) (cap : Nat) (E' : Mem), Mem.le E E' → FL E' fb (m + 1) cap (mems s (gP ds) a zs0 (m + 1)) → K (L fb (m + 1) cap) ([⟨24, .lst [I s, L b l c], 2, true⟩, ⟨22, .lst [L db dl dc], 1, true⟩, ⟨24, .lst [I s, L b l c], 2, true⟩, ⟨3, .lst [I (a : Nat)], 1, true⟩, ⟨3, .lst [I (m : Nat)], 1, true⟩, ⟨91, .lst [.clo 75 [] [.loc 1 0]], 1, true⟩]) E') :
    EntB F1 6 Try.f65 [.clo 74 [] [.loc 2 0, .loc 4 0, .loc 5 0, .loc 3 0], I n0] ([⟨24, .lst [I s, L b l c], 2, true⟩, ⟨22, .lst [L db dl dc], 1, true⟩, ⟨24, .lst [I s, L b l c], 2, true⟩, ⟨3, .lst [I (a : Nat)], 1, true⟩, ⟨3, .lst [I (m : Nat)], 1, true⟩, ⟨91, .lst [.clo 75 [] [.loc 1 0]], 1, true⟩]) E (pubB (cloK 6 K)) := by
  refine same (by kernel_rfl) (?_ : req ((0 : Int) ≤ (0 : Int) ∧ (0 : Int) ≤ n0) (req (n0 * (32 : Int) ≤ (140737488355328 : Int)) (Ct F1 6 Try.f65 [1, 1, 0, 1, 0] 6 (pubB (cloK 6 K)) { fr := [some (SV.clo 74 [] [SV.loc 2 0, SV.loc 4 0, SV.loc 5 0, SV.loc 3 0]), some (I n0), none, none, some (L none 0 0), some (SV.loc 7 0), none, some (I n0), some (SV.slc 6 0 0 (Int.toNat n0)), some (SV.clo 74 [] [SV.loc 2 0, SV.loc 4 0, SV.loc 5 0, SV.loc 3 0]), none, none, none, none, none, none], bx := [⟨24, Row.lst [I s, L b l c], 2, true⟩, ⟨22, Row.lst [L db dl dc], 1, true⟩, ⟨24, Row.lst [I s, L b l c], 2, true⟩, ⟨3, Row.lst [I (↑a : Int)], 1, true⟩, ⟨3, Row.lst [I (↑m : Int)], 1, true⟩, ⟨91, Row.lst [SV.clo 75 [] [SV.loc 1 0]], 1, true⟩, ⟨24, Row.vals (zerosV [Value.int IntKind.i64 (0 : Int), Value.slice none 0 0] (Int.toNat n0)), Int.toNat n0 * 2, true⟩, ⟨34, Row.lst [SV.slc 6 0 0 (Int.toNat n0)], 1, true⟩], E := E : St })))
  refine req_intro (by omega) (req_intro (by omega) (leaf27 hn hd hdl hz hl fun E' rs vs cap tot h1 h2 h3 h4 h5 => ?_))
  subst h4
  exact Ct_intro okF1 (pc5 (out27 h5 (by simp [mems_len]) h2 fun fb E2 g1 g2 => h fb cap E2 (Mem.le_trans h1 g1) g2))
theorem sem27 {K : KT} {s : Int} {a : Nat} {b db : Option Addr} {l c dl dc m : Nat} {zs0 ds : List Int} {n0 : Int} (hn : n0 = ((m + 1 : Nat) : Int)) (hd : Bs E db dl dc ds) (hdl : m = dl)
    (hz : Bs E b l c zs0) (hl : 1 ≤ l ∧ l ≤ 16384 ∧ a + m ≤ l)
    (h : ∀ (fb : Option Addr) (cap : Nat) (E' : Mem), Mem.le E E' → FL E' fb (m + 1) cap (mems s (gP ds) a zs0 (m + 1)) → K (L fb (m + 1) cap) ([⟨24, .lst [I s, L b l c], 2, true⟩, ⟨22, .lst [L db dl dc], 1, true⟩, ⟨24, .lst [I s, L b l c], 2, true⟩, ⟨3, .lst [I (a : Nat)], 1, true⟩, ⟨3, .lst [I (m : Nat)], 1, true⟩, ⟨91, .lst [.clo 75 [] [.loc 1 0]], 1, true⟩]) E') :
    CallSem Try.prog 65 [.clo 74 [] [.loc 2 0, .loc 4 0, .loc 5 0, .loc 3 0], I n0] ([⟨24, .lst [I s, L b l c], 2, true⟩, ⟨22, .lst [L db dl dc], 1, true⟩, ⟨24, .lst [I s, L b l c], 2, true⟩, ⟨3, .lst [I (a : Nat)], 1, true⟩, ⟨3, .lst [I (m : Nat)], 1, true⟩, ⟨91, .lst [.clo 75 [] [.loc 1 0]], 1, true⟩]) E K :=
  (EntB.sem okF1 Try.func65 ⟨by kernel_rfl, by kernel_rfl⟩ (s27 hn hd hdl hz hl h)).pubB.clo
def gE : Nat → Int → Int := fun _ _ => 255
def sh33e (s : Int) (a : Nat) (b : Option Addr) (l c m : Nat) (rc : Rc) (i cap tot : Nat) (vs : List Value) (zs : List Int) (E : Mem) : St := ⟨[some (.raw (.func (.yield rc.l) #[] #[])), some (.loc 2 0), some (.loc 4 0), some (.loc 5 0), some (.loc 3 0), none, some (.loc 9 0), some (I (i : Nat))] ++ List.replicate 43 none,
  [⟨24, .lst [I s, L b l c], 2, true⟩, ⟨24, .lst [I s, L b l c], 2, true⟩, ⟨24, .lst [I s, L b l c], 2, true⟩, ⟨3, .lst [I (a : Nat)], 1, true⟩, ⟨3, .lst [I (m : Nat)], 1, true⟩, ⟨91, .lst [.clo 64 [] []], 1, true⟩] ++ [⟨24, .lst [], 0, false⟩, ⟨34, .lst [.slc 10 0 i cap], 1, true⟩, ⟨5, .vals (vB zs), l * 1, true⟩, ⟨24, .lst [I s, .slc 8 0 l l], 2, true⟩, ⟨24, .vals vs, tot, true⟩], E⟩
def sh5e (s : Int) (a : Nat) (b : Option Addr) (l c m : Nat) (n cap tot : Nat) (vs : List Value) (E : Mem) : St := ⟨[some (.clo 74 [] [.loc 2 0, .loc 4 0, .loc 5 0, .loc 3 0]), none, none, none, none, some (.loc 6 0)] ++ List.replicate 10 none,
  [⟨24, .lst [I s, L b l c], 2, true⟩, ⟨24, .lst [I s, L b l c], 2, true⟩, ⟨24, .lst [I s, L b l c], 2, true⟩, ⟨3, .lst [I (a : Nat)], 1, true⟩, ⟨3, .lst [I (m : Nat)], 1, true⟩, ⟨91, .lst [.clo 64 [] []], 1, true⟩] ++ [⟨34, .lst [.slc 7 0 n cap], 1, true⟩, ⟨24, .vals vs, tot, true⟩], E⟩
theorem cn27e {K : KT} {s : Int} {a : Nat} {b : Option Addr} {l c m k cap tot : Nat} {n0 : Int} {vs x8 x12 : List Value} {t8 t12 : Nat} {b3 b4 : Option Addr} {l3 c3 l4 c4 : Nat}
    (h : Ct F1 6 Try.f65 [1, 1, 1] 6 K (sh5e s a b l c m k cap tot vs E)) :
    Pn F1 6 Try.f65 [1, 1, 0, 1, 0] 6 K ⟨fr27 n0, [⟨24, .lst [I s, L b l c], 2, true⟩, ⟨24, .lst [I s, L b l c], 2, true⟩, ⟨24, .lst [I s, L b l c], 2, true⟩, ⟨3, .lst [I (a : Nat)], 1, true⟩, ⟨3, .lst [I (m : Nat)], 1, true⟩, ⟨91, .lst [.clo 64 [] []], 1, true⟩] ++ [⟨24, .lst [], 0, false⟩, ⟨34, .lst [.slc 15 0 k cap], 1, true⟩, ⟨5, .vals x8, t8, true⟩, ⟨24, .lst [I s, .slc 8 0 l l], 2, true⟩, ⟨24, .lst [], 0, false⟩, ⟨5, .lst [], 0, false⟩, ⟨5, .vals x12, t12, false⟩, ⟨24, .lst [I s, L b3 l3 c3], 2, true⟩, ⟨24, .lst [I s, L b4 l4 c4], 2, true⟩, ⟨24, .vals vs, tot, true⟩], E⟩ := by
  refine same (by kernel_rfl) (?_ : Ct F1 6 Try.f65 [1, 1, 1] 6 K { fr := some (SV.clo 74 [] [SV.loc 2 0, SV.loc 4 0, SV.loc 5 0, SV.loc 3 0]) :: some (I n0) :: none :: none :: some (L none 0 0) :: some (SV.loc 7 0) :: none :: some (I n0) :: some (SV.slc 6 0 0 (Int.toNat n0)) :: some (SV.clo 74 [] [SV.loc 2 0, SV.loc 4 0, SV.loc 5 0, SV.loc 3 0]) :: n4 (n2 []), bx := [⟨24, .lst [I s, L b l c], 2, true⟩, ⟨24, .lst [I s, L b l c], 2, true⟩, ⟨24, .lst [I s, L b l c], 2, true⟩, ⟨3, .lst [I (NI a)], 1, true⟩, ⟨3, .lst [I (NI m)], 1, true⟩, ⟨91, .lst [SV.clo 64 [] []], 1, true⟩, ⟨24, .lst [], 0, false⟩, ⟨34, .lst [SV.slc 15 0 k cap], 1, true⟩, ⟨5, .vals x8, t8, true⟩, ⟨24, .lst [I s, SV.slc 8 0 l l], 2, true⟩, ⟨24, .lst [], 0, false⟩, ⟨5, .lst [], 0, false⟩, ⟨5, .vals x12, t12, false⟩, ⟨24, .lst [I s, L b3 l3 c3], 2, true⟩, ⟨24, .lst [I s, L b4 l4 c4], 2, true⟩, ⟨24, .vals vs, tot, true⟩], E := E : St })
  delta NI n2 n4
  exact Ct_re [some 0, some 1, some 2, some 3, some 4, some 5, some 7, some 15] h (wkG (Mem.le_refl _))
theorem rnd33e {E0 : Mem} {K : KT} {s : Int} {a : Nat} {b : Option Addr} {l c m : Nat} {rc : Rc} {i cap tot : Nat} {vs : List Value} {zs zs0 : List Int} {rs : List FRow} {n0 : Int} (hn : n0 = ((m + 1 : Nat) : Int))
    (hI : I33 E0 E s (gE) a l m zs0 i cap tot vs zs rs) 
    (hK : ∀ (E' : Mem) (rs : List FRow) (vs : List Value) (cap tot : Nat), Mem.le E0 E' → m + 1 ≤ cap → cap * 2 ≤ tot → vs = rs.flatMap rowV → FLr E' rs (mems s (gE) a zs0 (m + 1)) → Ct F1 6 Try.f65 [1, 1, 1] 6 K (sh5e s a b l c m (m + 1) cap tot vs E'))
    (ih : ∀ (E' : Mem) (cap tot : Nat) (vs : List Value) (zs : List Int) (rs : List FRow), i < m → I33 E0 E' s (gE) a l m zs0 (i + 1) cap tot vs zs rs →
      Lp (FY n0 rc) 6 Try.f74 [1, 1, 1, 0] 8 (fun _ bx E => Cn F1 6 Try.f65 [1, 1, 0, 1, 0] 6 K { fr := fr27 n0, bx := bx, E := E }) (sh33e s a b l c m rc (i + 1) cap tot vs zs E')) :
    Rnd (FY n0 rc) 6 Try.f74 [1, 1, 1, 0] 8 (fun _ bx E => Cn F1 6 Try.f65 [1, 1, 0, 1, 0] 6 K { fr := fr27 n0, bx := bx, E := E }) (sh33e s a b l c m rc i cap tot vs zs E) := by
  refine same (by kernel_rfl) (?_ : Sx.Alike (AlikeT.n AlikeT.l AlikeT.l) (∀ (r : Bool), (r = true → Sx.Alike (AlikeT.n AlikeT.l AlikeT.l) (l = 0)) → bif r then rc.l = rc.l ∧ i * 2 ≤ List.length (Row.cells (Row.vals vs)) ∧ cap * 2 ≤ tot ∧ i ≤ cap ∧ req ((i + 1) * 32 ≤ 140737488355328) (∀ (cap' tot' : Nat), i + 1 ≤ cap' → cap' * 2 ≤ tot' → Sx.Alike (AlikeT.n AlikeT.l AlikeT.l) (bif bif true then decide ((NI i) < (NI m)) else false then req ((0 : Int) ≤ WI ((NI a) + (NI i)) ∧ WI ((NI a) + (NI i)) < (NI l)) (∃ (n : Int), LoadV (FY n0 rc).P 5 (vB zs) (0 + Int.toNat (WI ((NI a) + (NI i))) * 1) (SV.raw (U8 n)) ∧ Sx.Alike (AlikeT.n (AlikeT.n AlikeT.l AlikeT.l) (AlikeT.n (AlikeT.n AlikeT.l AlikeT.l) AlikeT.l)) (Mem.le E E ∧ req ((0 : Int) ≤ WI ((NI a) + (NI i)) ∧ WI ((NI a) + (NI i)) < (NI l)) (0 + Int.toNat (WI ((NI a) + (NI i))) * 1 + 1 ≤ List.length (vB zs) ∧ Lp (FY n0 rc) 6 Try.f74 [1, 1, 1, 0] 8 (fun (x : SV) (bx : List Box) (E : Mem) => Cn F1 6 Try.f65 [1, 1, 0, 1, 0] 6 K { fr := fr27 n0, bx := bx, E := E : St }) { fr := some (SV.raw (Value.func (Fn.yield rc.l) #[] #[])) :: some (SV.loc 2 0) :: some (SV.loc 4 0) :: some (SV.loc 5 0) :: some (SV.loc 3 0) :: none :: some (SV.loc 9 0) :: some (I (WI ((NI i) + (1 : Int)))) :: n32 (n8 (n2 (none :: []))), bx := [⟨24, .lst [I s, L b l c], 2, true⟩, ⟨24, .lst [I s, L b l c], 2, true⟩, ⟨24, .lst [I s, L b l c], 2, true⟩, ⟨3, .lst [I (NI a)], 1, true⟩, ⟨3, .lst [I (NI m)], 1, true⟩, ⟨91, .lst [SV.clo 64 [] []], 1, true⟩, ⟨24, .lst [], 0, false⟩, ⟨34, .lst [SV.slc 13 0 (i + 1) cap'], 1, true⟩, ⟨5, .vals (layV (vB zs) (0 + Int.toNat (WI ((NI a) + (NI i))) * 1) [U8 255]), l * 1, true⟩, ⟨24, .lst [I s, SV.slc 8 0 l l], 2, true⟩, ⟨24, .lst [], 0, false⟩, ⟨24, .lst [I s, L none 0 0], 2, true⟩, ⟨24, .lst [I s, L none 0 0], 2, true⟩, ⟨24, .vals (List.take (i * 2) vs ++ [Value.int IntKind.i64 s, VS none 0 0]), tot', true⟩], E := E : St }))) else Cn F1 6 Try.f65 [1, 1, 0, 1, 0] 6 K { fr := some (SV.clo 74 [] [SV.loc 2 0, SV.loc 4 0, SV.loc 5 0, SV.loc 3 0]) :: some (I n0) :: none :: none :: some (L none 0 0) :: some (SV.loc 7 0) :: none :: some (I n0) :: some (SV.slc 6 0 0 (Int.toNat n0)) :: some (SV.clo 74 [] [SV.loc 2 0, SV.loc 4 0, SV.loc 5 0, SV.loc 3 0]) :: n4 (n2 []), bx := [⟨24, .lst [I s, L b l c], 2, true⟩, ⟨24, .lst [I s, L b l c], 2, true⟩, ⟨24, .lst [I s, L b l c], 2, true⟩, ⟨3, .lst [I (NI a)], 1, true⟩, ⟨3, .lst [I (NI m)], 1, true⟩, ⟨91, .lst [SV.clo 64 [] []], 1, true⟩, ⟨24, .lst [], 0, false⟩, ⟨34, .lst [SV.slc 13 0 (i + 1) cap'], 1, true⟩, ⟨5, .vals (vB zs), l * 1, true⟩, ⟨24, .lst [I s, SV.slc 8 0 l l], 2, true⟩, ⟨24, .lst [], 0, false⟩, ⟨24, .lst [I s, L none 0 0], 2, true⟩, ⟨24, .lst [I s, L none 0 0], 2, true⟩, ⟨24, .vals (List.take (i * 2) vs ++ [Value.int IntKind.i64 s, VS none 0 0]), tot', true⟩], E := E : St })) else 0 + l * 1 ≤ List.length (vB zs) ∧ (∀ (x : Value), List.Mem x (vB zs) → Value.oneCell' x = true) ∧ 0 ≤ 0 ∧ 0 ≤ 0 ∧ 0 ≤ 0 ∧ req ((0 + l) * 1 ≤ 140737488355328) (∀ (cap' tot' : Nat), 0 + l ≤ cap' → cap' * 1 ≤ tot' → rc.l = rc.l ∧ ∀ (base : Option Addr) (E' : Mem), Mem.le E E' → WinE E' base ([] ++ List.take (l * 1) (List.drop 0 (vB zs))) → i * 2 ≤ List.length (Row.cells (Row.vals vs)) ∧ cap * 2 ≤ tot ∧ i ≤ cap ∧ req ((i + 1) * 32 ≤ 140737488355328) (∀ (cap'_1 tot'_1 : Nat), i + 1 ≤ cap'_1 → cap'_1 * 2 ≤ tot'_1 → Sx.Alike (AlikeT.n AlikeT.l AlikeT.l) (bif bif true then decide ((NI i) < (NI m)) else false then req ((0 : Int) ≤ WI ((NI a) + (NI i)) ∧ WI ((NI a) + (NI i)) < (NI l)) (∃ (n : Int), LoadV (FY n0 rc).P 5 (vB zs) (0 + Int.toNat (WI ((NI a) + (NI i))) * 1) (SV.raw (U8 n)) ∧ Sx.Alike (AlikeT.n (AlikeT.n AlikeT.l AlikeT.l) (AlikeT.n (AlikeT.n AlikeT.l AlikeT.l) AlikeT.l)) (Mem.le E' E' ∧ req ((0 : Int) ≤ WI ((NI a) + (NI i)) ∧ WI ((NI a) + (NI i)) < (NI l)) (0 + Int.toNat (WI ((NI a) + (NI i))) * 1 + 1 ≤ List.length (vB zs) ∧ Lp (FY n0 rc) 6 Try.f74 [1, 1, 1, 0] 8 (fun (x : SV) (bx : List Box) (E : Mem) => Cn F1 6 Try.f65 [1, 1, 0, 1, 0] 6 K { fr := fr27 n0, bx := bx, E := E : St }) { fr := some (SV.raw (Value.func (Fn.yield rc.l) #[] #[])) :: some (SV.loc 2 0) :: some (SV.loc 4 0) :: some (SV.loc 5 0) :: some (SV.loc 3 0) :: none :: some (SV.loc 9 0) :: some (I (WI ((NI i) + (1 : Int)))) :: n32 (n8 (n2 (none :: []))), bx := [⟨24, .lst [I s, L b l c], 2, true⟩, ⟨24, .lst [I s, L b l c], 2, true⟩, ⟨24, .lst [I s, L b l c], 2, true⟩, ⟨3, .lst [I (NI a)], 1, true⟩, ⟨3, .lst [I (NI m)], 1, true⟩, ⟨91, .lst [SV.clo 64 [] []], 1, true⟩, ⟨24, .lst [], 0, false⟩, ⟨34, .lst [SV.slc 15 0 (i + 1) cap'_1], 1, true⟩, ⟨5, .vals (layV (vB zs) (0 + Int.toNat (WI ((NI a) + (NI i))) * 1) [U8 255]), l * 1, true⟩, ⟨24, .lst [I s, SV.slc 8 0 l l], 2, true⟩, ⟨24, .lst [], 0, false⟩, ⟨5, .lst [], 0, false⟩, ⟨5, .vals ([] ++ List.take (l * 1) (List.drop 0 (vB zs))), tot', false⟩, ⟨24, .lst [I s, L (Option.map (fun (x : Addr) => Addr.add x 0) base) (0 + l) cap'], 2, true⟩, ⟨24, .lst [I s, L (Option.map (fun (x : Addr) => Addr.add x 0) base) (0 + l) cap'], 2, true⟩, ⟨24, .vals (List.take (i * 2) vs ++ [Value.int IntKind.i64 s, slcAs base 0 (0 + l) cap']), tot'_1, true⟩], E := E' : St }))) else Cn F1 6 Try.f65 [1, 1, 0, 1, 0] 6 K { fr := some (SV.clo 74 [] [SV.loc 2 0, SV.loc 4 0, SV.loc 5 0, SV.loc 3 0]) :: some (I n0) :: none :: none :: some (L none 0 0) :: some (SV.loc 7 0) :: none :: some (I n0) :: some (SV.slc 6 0 0 (Int.toNat n0)) :: some (SV.clo 74 [] [SV.loc 2 0, SV.loc 4 0, SV.loc 5 0, SV.loc 3 0]) :: n4 (n2 []), bx := [⟨24, .lst [I s, L b l c], 2, true⟩, ⟨24, .lst [I s, L b l c], 2, true⟩, ⟨24, .lst [I s, L b l c], 2, true⟩, ⟨3, .lst [I (NI a)], 1, true⟩, ⟨3, .lst [I (NI m)], 1, true⟩, ⟨91, .lst [SV.clo 64 [] []], 1, true⟩, ⟨24, .lst [], 0, false⟩, ⟨34, .lst [SV.slc 15 0 (i + 1) cap'_1], 1, true⟩, ⟨5, .vals (vB zs), l * 1, true⟩, ⟨24, .lst [I s, SV.slc 8 0 l l], 2, true⟩, ⟨24, .lst [], 0, false⟩, ⟨5, .lst [], 0, false⟩, ⟨5, .vals ([] ++ List.take (l * 1) (List.drop 0 (vB zs))), tot', false⟩, ⟨24, .lst [I s, L (Option.map (fun (x : Addr) => Addr.add x 0) base) (0 + l) cap'], 2, true⟩, ⟨24, .lst [I s, L (Option.map (fun (x : Addr) => Addr.add x 0) base) (0 + l) cap'], 2, true⟩, ⟨24, .vals (List.take (i * 2) vs ++ [Value.int IntKind.i64 s, slcAs base 0 (0 + l) cap']), tot'_1, true⟩], E := E' : St })))))
  delta WI NI U8 VS n2 n4 n8 n32
  obtain ⟨hle, ⟨l1, l2, l3⟩, hlen, hbyte, him, ⟨hc1, hc2⟩, ⟨hv1, hv2⟩, hzs, hrs⟩ := hI
  have hzl : zs.length = l := by rw [hzs, stp_len]; exact hlen
  have hzb : ∀ z ∈ zs, 0 ≤ z ∧ z ≤ 255 := by rw [hzs]; exact stp_byte hbyte (fun i x => ⟨(by decide : (0 : Int) ≤ 255), (by decide : (255 : Int) ≤ 255)⟩) i
  have him2 : i ≤ 16384 := by omega
  have eai : IntKind.wrap .i64 ((a : Int) + (i : Int)) = ((a + i : Nat) : Int) := by rw [wrap_i64 (by omega)]; simp
  have ei1 : IntKind.wrap .i64 ((i : Int) + 1) = ((i + 1 : Nat) : Int) := by rw [wrap_i64 (by omega)]; simp
  have hld : zs.length ≤ l := Nat.le_of_eq hzl
  refine alike (fun r hr => condC (fun h1 => by subst h1; exact absurd (show l = 0 from (hr rfl).1) (by omega)) (fun _ => ?_))
  refine ⟨by simp only [List.length_map, hzl]; omega, vB_one zs, Nat.le_refl _, Nat.le_refl _, Nat.le_refl _, req_intro (by omega) (fun cap1 tot1 c1 c2 => ⟨rfl, fun base E1 hE1 hW => ⟨?_, hc2, hc1, req_intro (by omega) (fun cap2 tot2 c3 c4 => ?_)⟩⟩)⟩
  · simp only [Row.cells, List.length_map]; exact hv1
  have etk : [] ++ List.take (l * 1) (List.drop 0 (vB zs)) = vB zs := by rw [List.nil_append, List.drop_zero, List.take_of_length_le (by simp only [List.length_map, hzl]; omega)]
  rw [etk] at hW
  have hBs : Bs E1 (base.map fun x => x.add 0) (0 + l) cap1 zs := Bs.win hW rfl (by omega) c1 hzb
  have hrs1 : FLr E1 (rs ++ [(s, base.map fun x => x.add 0, 0 + l, cap1)]) (mems s (gE) a zs0 (i + 1)) := by
    rw [mems_succ]; exact (hrs.mono hE1).snoc rfl (by rw [← hzs]; exact hBs)
  have hvs1 : List.take (i * 2) vs ++ [Value.int IntKind.i64 s, slcAs base 0 (0 + l) cap1] = (rs ++ [(s, base.map fun x => x.add 0, 0 + l, cap1)]).flatMap rowV := by
    rw [rows_snoc, hv2]; rfl
  have hrl : rs.length = i := by rw [hrs.1, mems_len]
  have hle1 : Mem.le E0 E1 := Mem.le_trans hle hE1
  refine alike (condC (fun hlt => ?_) (fun hge => ?_))
  · have hlt : i < m := by simpa using hlt
    have hal : a + i < l := by omega
    have hget : zs.getD (a + i) 0 = zs[a + i]'(by omega) := by rw [List.getD_eq_getElem?_getD, List.getElem?_eq_getElem (by omega)]; rfl
    refine req_intro (by rw [eai]; omega) ⟨zs.getD (a + i) 0, ?_, alike ⟨Mem.le_refl _, req_intro (by rw [eai]; omega) ⟨?_, ?_⟩⟩⟩
    · rw [eai]
      show LoadV _ _ _ (0 + ((a + i : Nat) : Int).toNat * 1) _
      rw [show 0 + ((a + i : Nat) : Int).toNat * 1 = a + i by omega]
      exact loadV_byte rfl (by omega)
    · rw [eai]; simp only [List.length_map]; omega
    · have e1 : 0 + Int.toNat (IntKind.wrap IntKind.i64 ((a : Int) + (i : Int))) * 1 = a + i := by rw [eai]; omega
      rw [e1, ei1, layV_set (by omega)]
      refine Lp_re [some 0, some 1, some 2, some 3, some 4, some 5, some 6, some 7, some 8, some 9, some 15] (ih E1 cap2 tot2 _ _ _ hlt ⟨hle1, ⟨l1, l2, l3⟩, hlen, hbyte, by omega, ⟨c3, c4⟩, ⟨?_, ?_⟩, ?_, hrs1⟩) (wkG (Mem.le_refl _) (h6 := (by repeat' first | exact True.intro | exact rfl | exact Or.inl rfl | exact (by decide : 6 < 16) | refine And.intro ?_ ?_)))
      · rw [hvs1, rows_len]; simp [hrl]
      · rw [hvs1, List.take_of_length_le (by rw [rows_len]; simp [hrl])]
      · rw [hzs]; rfl
  · have hge : i = m := by simp at hge; omega
    subst hge
    subst hn
    exact Cn_intro (cn27e (hK E1 _ _ cap2 tot2 hle1 c3 c4 hvs1 hrs1))
theorem lp33e {E0 : Mem} {K : KT} {s : Int} {a : Nat} {b : Option Addr} {l c m : Nat} {rc : Rc} {zs0 : List Int} {n0 : Int} (hn : n0 = ((m + 1 : Nat) : Int))  (hrc : CxOK (FY n0 rc))
    (hK : ∀ (E' : Mem) (rs : List FRow) (vs : List Value) (cap tot : Nat), Mem.le E0 E' → m + 1 ≤ cap → cap * 2 ≤ tot → vs = rs.flatMap rowV → FLr E' rs (mems s (gE) a zs0 (m + 1)) → Ct F1 6 Try.f65 [1, 1, 1] 6 K (sh5e s a b l c m (m + 1) cap tot vs E')) 
    {i cap tot : Nat} {vs : List Value} {zs : List Int} {rs : List FRow} {E : Mem} (hI : I33 E0 E s (gE) a l m zs0 i cap tot vs zs rs) :
    Lp (FY n0 rc) 6 Try.f74 [1, 1, 1, 0] 8 (Q27 K n0) (sh33e s a b l c m rc i cap tot vs zs E) := by
  have key := Lp_ind hrc (n := 6) (fn := Try.f74) (p := [1, 1, 1, 0]) (n0 := 8) (K := Q27 K n0)
    (fun x : {x : Mem × Nat × Nat × Nat × List Value × List Int × List FRow // I33 E0 x.1 s (gE) a l m zs0 x.2.1 x.2.2.1 x.2.2.2.1 x.2.2.2.2.1 x.2.2.2.2.2.1 x.2.2.2.2.2.2} => sh33e s a b l c m rc x.1.2.1 x.1.2.2.1 x.1.2.2.2.1 x.1.2.2.2.2.1 x.1.2.2.2.2.2.1 x.1.1)
    (fun x => m - x.1.2.1) (fun x ih => rnd33e hn x.2 hK fun E' cap tot vs zs rs hlt h' => ih ⟨⟨E', x.1.2.1 + 1, cap, tot, vs, zs, rs⟩, h'⟩ (by show m - (_ + 1) < m - _; omega))
  exact key ⟨⟨E, i, cap, tot, vs, zs, rs⟩, hI⟩
theorem ent33e {K : KT} {s : Int} {a : Nat} {b : Option Addr} {l c m : Nat} {rc : Rc} {zs0 : List Int} {n0 : Int} (hn : n0 = ((m + 1 : Nat) : Int))  (hrc : CxOK (FY n0 rc))
    (hz : Bs E b l c zs0) (hl : 1 ≤ l ∧ l ≤ 16384 ∧ a + m ≤ l)
    (hK : ∀ (E' : Mem) (rs : List FRow) (vs : List Value) (cap tot : Nat), Mem.le E E' → m + 1 ≤ cap → cap * 2 ≤ tot → vs = rs.flatMap rowV → FLr E' rs (mems s (gE) a zs0 (m + 1)) → Ct F1 6 Try.f65 [1, 1, 1] 6 K (sh5e s a b l c m (m + 1) cap tot vs E')) :
    EntB (FY n0 rc) 6 Try.f74 [.raw (.func (.yield rc.l) #[] #[]), .loc 2 0, .loc 4 0, .loc 5 0, .loc 3 0]
    ([⟨24, .lst [I s, L b l c], 2, true⟩, ⟨24, .lst [I s, L b l c], 2, true⟩, ⟨24, .lst [I s, L b l c], 2, true⟩, ⟨3, .lst [I (a : Nat)], 1, true⟩, ⟨3, .lst [I (m : Nat)], 1, true⟩, ⟨91, .lst [.clo 64 [] []], 1, true⟩] ++ [⟨24, .vals (zerosV [.int .i64 0, .slice none 0 0] (Int.toNat n0)), Int.toNat n0 * 2, true⟩, ⟨34, .lst [.slc 6 0 0 (Int.toNat n0)], 1, true⟩]) E (Q27 K n0) := by
  refine same (by kernel_rfl) (?_ : req ((0 : Int) ≤ (NI l) ∧ (NI l) ≤ (NI l)) (req ((NI l) * (NI 1) ≤ (140737488355328 : Int)) (∃ (cs : List Value), (cs = [] ∨ E (VS b l c) cs) ∧ l * 1 ≤ List.length cs ∧ (∀ (x : Value), List.Mem x cs → Value.oneCell' x = true) ∧ 0 + Int.toNat (NI l) * 1 ≤ List.length (zerosV [U8 0] (Int.toNat (NI l))) ∧ Lp (FY n0 rc) 6 Try.f74 [1, 1, 1, 0] 8 (Q27 K n0) { fr := some (SV.raw (Value.func (Fn.yield rc.l) #[] #[])) :: some (SV.loc 2 0) :: some (SV.loc 4 0) :: some (SV.loc 5 0) :: some (SV.loc 3 0) :: none :: some (SV.loc 9 0) :: some (I 0) :: some (SV.loc 2 0) :: some (I s) :: some (SV.loc 2 1) :: some (L b l c) :: some (I (NI l)) :: some (SV.slc 8 0 (Int.toNat (NI l)) (Int.toNat (NI l))) :: some (SV.agg [I s, SV.slc 8 0 (Int.toNat (NI l)) (Int.toNat (NI l))]) :: some (SV.loc 9 1) :: some (SV.slc 8 0 (Int.toNat (NI l)) (Int.toNat (NI l))) :: some (SV.loc 2 1) :: some (L b l c) :: some (I (NI (min l (Int.toNat (NI l))))) :: n16 (n8 (n4 (n2 (none :: [])))), bx := [⟨24, .lst [I s, L b l c], 2, true⟩, ⟨24, .lst [I s, L b l c], 2, true⟩, ⟨24, .lst [I s, L b l c], 2, true⟩, ⟨3, .lst [I (NI a)], 1, true⟩, ⟨3, .lst [I (NI m)], 1, true⟩, ⟨91, .lst [SV.clo 64 [] []], 1, true⟩, ⟨24, .vals (zerosV [Value.int IntKind.i64 0, VS none 0 0] (Int.toNat n0)), Int.toNat n0 * 2, true⟩, ⟨34, .lst [SV.slc 6 0 0 (Int.toNat n0)], 1, true⟩, ⟨5, .vals (layV (zerosV [U8 0] (Int.toNat (NI l))) 0 (List.take (min l (Int.toNat (NI l)) * 1) (List.take (l * 1) cs))), Int.toNat (NI l) * 1, true⟩, ⟨24, .lst [I s, SV.slc 8 0 (Int.toNat (NI l)) (Int.toNat (NI l))], 2, true⟩], E := E : St })))
  delta NI U8 VS n2 n4 n8 n16
  obtain ⟨l1, l2, l3⟩ := hl
  obtain ⟨t1, t2, t3⟩ := hz.src
  have hzl := hz.2.1
  refine req_intro (by omega) (req_intro (by simp; omega) ⟨_, t1, t2, t3, ?_, ?_⟩)
  · simp [zerosV]
  have hn2 : Int.toNat n0 = m + 1 := by omega
  have e1 : layV (zerosV [Value.int IntKind.u8 0] (Int.toNat (l : Int))) 0 (List.take (min l (Int.toNat (l : Int)) * 1) (List.take (l * 1) (zs0.map (Value.int .u8)))) = vB zs0 := by
    rw [Int.toNat_natCast, Nat.min_self, List.take_of_length_le (l := List.take _ _) (by simp only [List.length_take, List.length_map]; omega), List.take_of_length_le (by simp; omega)]
    unfold layV
    rw [List.take_zero, List.nil_append, List.drop_eq_nil_of_le (by simp [zerosV]; omega), List.append_nil]
  rw [e1, Int.toNat_natCast]
  exact Lp_re [some 0, some 1, some 2, some 3, some 4, some 5, some 6, some 7, some 8, some 9, some 6] (lp33e hn hrc hK (i := 0) (cap := Int.toNat n0) (tot := Int.toNat n0 * 2) (vs := zerosV [.int .i64 0, .slice none 0 0] (Int.toNat n0)) (zs := zs0) (rs := []) ⟨Mem.le_refl _, ⟨l1, l2, l3⟩, hzl, hz.2.2.2.1, Nat.zero_le _, ⟨Nat.zero_le _, Nat.le_refl _⟩, ⟨by simp, by simp⟩, rfl, FLr.nil _⟩) (wkG (Mem.le_refl _) (h6 := (by repeat' first | exact True.intro | exact rfl | exact Or.inl rfl | exact (by decide : 6 < 10) | refine And.intro ?_ ?_)))
theorem leaf27e {K : KT} {s : Int} {a : Nat} {b : Option Addr} {l c m : Nat} {zs0 : List Int} {n0 : Int} (hn : n0 = ((m + 1 : Nat) : Int)) 
    (hz : Bs E b l c zs0) (hl : 1 ≤ l ∧ l ≤ 16384 ∧ a + m ≤ l)
    (hK : ∀ (E' : Mem) (rs : List FRow) (vs : List Value) (cap tot : Nat), Mem.le E E' → m + 1 ≤ cap → cap * 2 ≤ tot → vs = rs.flatMap rowV → FLr E' rs (mems s (gE) a zs0 (m + 1)) → Ct F1 6 Try.f65 [1, 1, 1] 6 K (sh5e s a b l c m (m + 1) cap tot vs E')) :
    Ct F1 6 Try.f65 [1, 1, 0, 1, 0] 6 K ⟨fr27 n0, [⟨24, .lst [I s, L b l c], 2, true⟩, ⟨24, .lst [I s, L b l c], 2, true⟩, ⟨24, .lst [I s, L b l c], 2, true⟩, ⟨3, .lst [I (a : Nat)], 1, true⟩, ⟨3, .lst [I (m : Nat)], 1, true⟩, ⟨91, .lst [.clo 64 [] []], 1, true⟩] ++ [⟨24, .vals (zerosV [.int .i64 0, .slice none 0 0] (Int.toNat n0)), Int.toNat n0 * 2, true⟩, ⟨34, .lst [.slc 6 0 0 (Int.toNat n0)], 1, true⟩], E⟩ :=
  RfY okF1 okF2 (by kernel_rfl) (by kernel_rfl) Try.func74 ⟨by kernel_rfl, by kernel_rfl⟩ (gf := 74) (gfn := Try.f74) (first := []) (caps := [.loc 2 0, .loc 4 0, .loc 5 0, .loc 3 0]) (m := 6) (fun rc hrc => ent33e hn hrc hz hl hK) rfl rfl
theorem pc5e {K : KT} {s : Int} {a : Nat} {b : Option Addr} {l c m n cap tot : Nat} {vs : List Value} (h : K (.slc 7 0 n cap) (sh5e s a b l c m n cap tot vs E).bx E) : Pc F1 6 Try.f65 [1, 1, 1] 6 K (sh5e s a b l c m n cap tot vs E) := by
  refine same (by kernel_rfl) (?_ : K (SV.slc 7 0 n cap) [{ elem := 24, row := Row.lst [SV.raw (Value.int IntKind.i64 s), SV.raw (Value.slice b l c)], total := 2, own := true : Box }, { elem := 24, row := Row.lst [SV.raw (Value.int IntKind.i64 s), SV.raw (Value.slice b l c)], total := 2, own := true : Box }, { elem := 24, row := Row.lst [SV.raw (Value.int IntKind.i64 s), SV.raw (Value.slice b l c)], total := 2, own := true : Box }, { elem := 3, row := Row.lst [SV.raw (Value.int IntKind.i64 (↑a : Int))], total := 1, own := true : Box }, { elem := 3, row := Row.lst [SV.raw (Value.int IntKind.i64 (↑m : Int))], total := 1, own := true : Box }, { elem := 91, row := Row.lst [SV.clo 64 [] []], total := 1, own := true : Box }, { elem := 34, row := Row.lst [SV.slc 7 0 n cap], total := 1, own := true : Box }, { elem := 24, row := Row.vals vs, total := tot, own := true : Box }] E)
  exact h
theorem out27e {K : KT} {s : Int} {a : Nat} {b : Option Addr} {l c m n cap tot : Nat} {rs : List FRow} {ms : List (Int × List Int)} (hr : FLr E rs ms) (hn : ms.length = n) (hc : n ≤ cap)
    (h : ∀ (fb : Option Addr) (E' : Mem), Mem.le E E' → FL E' fb n cap ms → K (L fb n cap) ([⟨24, .lst [I s, L b l c], 2, true⟩, ⟨24, .lst [I s, L b l c], 2, true⟩, ⟨24, .lst [I s, L b l c], 2, true⟩, ⟨3, .lst [I (a : Nat)], 1, true⟩, ⟨3, .lst [I (m : Nat)], 1, true⟩, ⟨91, .lst [.clo 64 [] []], 1, true⟩]) E') : pubB (cloK 6 K) (.slc 7 0 n cap) (sh5e s a b l c m n cap tot (rs.flatMap rowV) E).bx E := by
  refine same (q := ∀ (base : Option Addr) (E2 : Mem), Mem.le E E2 → WinE E2 base (rs.flatMap rowV) → cloK 6 K (.raw (slcAs base 0 n cap)) ([⟨24, .lst [I s, L b l c], 2, true⟩, ⟨24, .lst [I s, L b l c], 2, true⟩, ⟨24, .lst [I s, L b l c], 2, true⟩, ⟨3, .lst [I (a : Nat)], 1, true⟩, ⟨3, .lst [I (m : Nat)], 1, true⟩, ⟨91, .lst [.clo 64 [] []], 1, true⟩] ++ [⟨34, .lst [.raw (slcAs base 0 n cap)], 1, true⟩, ⟨24, .vals (rs.flatMap rowV), tot, false⟩]) E2) (by kernel_rfl) ?_
  intro base E2 h1 h2
  exact cloK_intro [some 0, some 1, some 2, some 3, some 4, some 5] (h _ E2 h1 (FL.win h2 rfl (hr.mono h1) hn hc)) (wkG (Mem.le_refl _))
theorem s27e {K : KT} {s : Int} {a : Nat} {b : Option Addr} {l c m : Nat} {zs0 : List Int} {n0 : Int} (hn : n0 = ((m + 1 : Nat) : Int)) 
    (hz : Bs E b l c zs0) (hl : 1 ≤ l ∧ l ≤ 16384 ∧ a + m ≤ l)
    (h : ∀ (fb : Option Addr) (cap : Nat) (E' : Mem), Mem.le E E' → FL E' fb (m + 1) cap (mems s (gE) a zs0 (m + 1)) → K (L fb (m + 1) cap) ([⟨24, .lst [I s, L b l c], 2, true⟩, ⟨24, .lst [I s, L b l c], 2, true⟩, ⟨24, .lst [I s, L b l c], 2, true⟩, ⟨3, .lst [I (a : Nat)], 1, true⟩, ⟨3, .lst [I (m : Nat)], 1, true⟩, ⟨91, .lst [.clo 64 [] []], 1, true⟩]) E') :
    EntB F1 6 Try.f65 [.clo 74 [] [.loc 2 0, .loc 4 0, .loc 5 0, .loc 3 0], I n0] ([⟨24, .lst [I s, L b l c], 2, true⟩, ⟨24, .lst [I s, L b l c], 2, true⟩, ⟨24, .lst [I s, L b l c], 2, true⟩, ⟨3, .lst [I (a : Nat)], 1, true⟩, ⟨3, .lst [I (m : Nat)], 1, true⟩, ⟨91, .lst [.clo 64 [] []], 1, true⟩]) E (pubB (cloK 6 K)) := by
  refine same (by kernel_rfl) (?_ : req ((0 : Int) ≤ (0 : Int) ∧ (0 : Int) ≤ n0) (req (n0 * (32 : Int) ≤ (140737488355328 : Int)) (Ct F1 6 Try.f65 [1, 1, 0, 1, 0] 6 (pubB (cloK 6 K)) { fr := [some (SV.clo 74 [] [SV.loc 2 0, SV.loc 4 0, SV.loc 5 0, SV.loc 3 0]), some (I n0), none, none, some (L none 0 0), some (SV.loc 7 0), none, some (I n0), some (SV.slc 6 0 0 (Int.toNat n0)), some (SV.clo 74 [] [SV.loc 2 0, SV.loc 4 0, SV.loc 5 0, SV.loc 3 0]), none, none, none, none, none, none], bx := [⟨24, Row.lst [I s, L b l c], 2, true⟩, ⟨24, Row.lst [I s, L b l c], 2, true⟩, ⟨24, Row.lst [I s, L b l c], 2, true⟩, ⟨3, Row.lst [I (↑a : Int)], 1, true⟩, ⟨3, Row.lst [I (↑m : Int)], 1, true⟩, ⟨91, Row.lst [SV.clo 64 [] []], 1, true⟩, ⟨24, Row.vals (zerosV [Value.int IntKind.i64 (0 : Int), Value.slice none 0 0] (Int.toNat n0)), Int.toNat n0 * 2, true⟩, ⟨34, Row.lst [SV.slc 6 0 0 (Int.toNat n0)], 1, true⟩], E := E : St })))
  refine req_intro (by omega) (req_intro (by omega) (leaf27e hn hz hl fun E' rs vs cap tot h1 h2 h3 h4 h5 => ?_))
  subst h4
  exact Ct_intro okF1 (pc5e (out27e h5 (by simp [mems_len]) h2 fun fb E2 g1 g2 => h fb cap E2 (Mem.le_trans h1 g1) g2))
theorem sem27e {K : KT} {s : Int} {a : Nat} {b : Option Addr} {l c m : Nat} {zs0 : List Int} {n0 : Int} (hn : n0 = ((m + 1 : Nat) : Int)) 
    (hz : Bs E b l c zs0) (hl : 1 ≤ l ∧ l ≤ 16384 ∧ a + m ≤ l)
    (h : ∀ (fb : Option Addr) (cap : Nat) (E' : Mem), Mem.le E E' → FL E' fb (m + 1) cap (mems s (gE) a zs0 (m + 1)) → K (L fb (m + 1) cap) ([⟨24, .lst [I s, L b l c], 2, true⟩, ⟨24, .lst [I s, L b l c], 2, true⟩, ⟨24, .lst [I s, L b l c], 2, true⟩, ⟨3, .lst [I (a : Nat)], 1, true⟩, ⟨3, .lst [I (m : Nat)], 1, true⟩, ⟨91, .lst [.clo 64 [] []], 1, true⟩]) E') :
    CallSem Try.prog 65 [.clo 74 [] [.loc 2 0, .loc 4 0, .loc 5 0, .loc 3 0], I n0] ([⟨24, .lst [I s, L b l c], 2, true⟩, ⟨24, .lst [I s, L b l c], 2, true⟩, ⟨24, .lst [I s, L b l c], 2, true⟩, ⟨3, .lst [I (a : Nat)], 1, true⟩, ⟨3, .lst [I (m : Nat)], 1, true⟩, ⟨91, .lst [.clo 64 [] []], 1, true⟩]) E K :=
  (EntB.sem okF1 Try.func65 ⟨by kernel_rfl, by kernel_rfl⟩ (s27e hn hz hl h)).pubB.clo
def validF (s : Int) (l : Nat) : Prop := 1 ≤ s ∧ s ≤ 1024 ∧ s ≤ l ∧ l ≤ 16384 ∧ (l : Int) % s = 0
instance (s : Int) (l : Nat) : Decidable (validF s l) := by unfold validF; infer_instance
def progF (s : Int) (zs : List Int) (a : Int) (ds : List Int) : List (Int × List Int) × Int :=
  if ¬ validF s zs.length ∨ a < 0 then ([], 1) else if a > zs.length ∨ (ds.length : Int) > zs.length - a then ([], 3) else (mems s (gP ds) a.toNat zs (ds.length + 1), 0)
def erasF (s : Int) (zs : List Int) (k : Int) : List (Int × List Int) × Int :=
  if ¬ validF s zs.length ∨ k < 0 ∨ k ≥ (zs.length : Int) / s then ([], 1) else (mems s gE (k * s).toNat zs (s.toNat + 1), 0)
def tabP : CallT := fun f args bx E K => f = 65 ∧ ∃ (s : Int) (a : Nat) (b db : Option Addr) (l c dl dc m : Nat) (zs0 ds : List Int) (n0 : Int), args = [.clo 74 [] [.loc 2 0, .loc 4 0, .loc 5 0, .loc 3 0], I n0] ∧ bx = [⟨24, .lst [I s, L b l c], 2, true⟩, ⟨22, .lst [L db dl dc], 1, true⟩, ⟨24, .lst [I s, L b l c], 2, true⟩, ⟨3, .lst [I (a : Nat)], 1, true⟩, ⟨3, .lst [I (m : Nat)], 1, true⟩, ⟨91, .lst [.clo 75 [] [.loc 1 0]], 1, true⟩] ∧
  n0 = ((m + 1 : Nat) : Int) ∧ Bs E db dl dc ds ∧ m = dl ∧ Bs E b l c zs0 ∧ (1 ≤ l ∧ l ≤ 16384 ∧ a + m ≤ l) ∧ (∀ (fb : Option Addr) (cap : Nat) (E' : Mem), Mem.le E E' → FL E' fb (m + 1) cap (mems s (gP ds) a zs0 (m + 1)) → K (L fb (m + 1) cap) bx E')
theorem tabP_ok (f : FuncId) (args : List SV) (bx : List Box) (E : Mem) (K : KT) (h : tabP f args bx E K) : CallSem Try.prog f args bx E K := by
  obtain ⟨rfl, s, a, b, db, l, c, dl, dc, m, zs0, ds, n0, rfl, rfl, h1, h2, h3, h4, h5, h6⟩ := h
  exact sem27 h1 h2 h3 h4 h5 h6
def tabE : CallT := fun f args bx E K => f = 65 ∧ ∃ (s : Int) (a : Nat) (b : Option Addr) (l c m : Nat) (zs0 : List Int) (n0 : Int), args = [.clo 74 [] [.loc 2 0, .loc 4 0, .loc 5 0, .loc 3 0], I n0] ∧ bx = [⟨24, .lst [I s, L b l c], 2, true⟩, ⟨24, .lst [I s, L b l c], 2, true⟩, ⟨24, .lst [I s, L b l c], 2, true⟩, ⟨3, .lst [I (a : Nat)], 1, true⟩, ⟨3, .lst [I (m : Nat)], 1, true⟩, ⟨91, .lst [.clo 64 [] []], 1, true⟩] ∧
  n0 = ((m + 1 : Nat) : Int) ∧ Bs E b l c zs0 ∧ (1 ≤ l ∧ l ≤ 16384 ∧ a + m ≤ l) ∧ (∀ (fb : Option Addr) (cap : Nat) (E' : Mem), Mem.le E E' → FL E' fb (m + 1) cap (mems s gE a zs0 (m + 1)) → K (L fb (m + 1) cap) bx E')
theorem tabE_ok (f : FuncId) (args : List SV) (bx : List Box) (E : Mem) (K : KT) (h : tabE f args bx E K) : CallSem Try.prog f args bx E K := by
  obtain ⟨rfl, s, a, b, l, c, m, zs0, n0, rfl, rfl, h1, h4, h5, h6⟩ := h
  exact sem27e h1 h4 h5 h6
noncomputable def F5 : Cx := { P := Try.prog, inl := fun f => List.contains [] f, tab := fun _ _ _ _ => False, isB := fun _ => false, tabB := fun _ _ _ _ _ => False, opt := { unroll := 0, carry := [] }, muts := mutsD }
theorem okF5 : CxOK F5 := CxOK.four (fun _ _ _ _ h => h.elim) (by kernel_rfl) (okInl (by kernel_rfl)) (fun _ _ _ _ _ h => h.elim)
theorem validF_mod {s : Int} {l : Nat} (h1 : 1 ≤ s) : (Int.tmod (l : Int) s == 0) = decide ((l : Int) % s = 0) := by
  rw [Int.tmod_eq_emod_of_nonneg (by omega)]
  by_cases h : (l : Int) % s = 0 <;> simp [h]
theorem validF_no {s : Int} {l : Nat} (h : ¬ validF s l) : decide (validF s l) = false := by simp [h]
theorem s18 {a1 : Int} {b2 : Option Addr} {l3 : Nat} {c4 : Nat} (h : K (B (decide (validF a1 l3))) E) :
    Ent F5 6 Try.f42 [.agg [I a1, L b2 l3 c4]] E K := by
  refine same (by kernel_rfl) (?_ : bif decide (a1 < (1 : Int)) then Mem.le E E ∧ K (SV.raw (Value.bool false)) E else bif bif false then true else decide (a1 > (1024 : Int)) then Mem.le E E ∧ K (SV.raw (Value.bool false)) E else bif decide ((↑l3 : Int) < a1) then Mem.le E E ∧ K (SV.raw (Value.bool false)) E else bif bif false then true else decide ((↑l3 : Int) > (16384 : Int)) then Mem.le E E ∧ K (SV.raw (Value.bool false)) E else (a1 = (0 : Int) → False) ∧ Mem.le E E ∧ K (SV.raw (Value.bool (Int.tmod (↑l3 : Int) a1 == (0 : Int)))) E)
  have bad : ¬ validF a1 l3 → Mem.le E E ∧ K (B false) E := fun hn => ⟨Mem.le_refl _, by rw [validF_no hn] at h; exact h⟩
  unfold validF at bad
  refine condC (fun g => bad (by simp at g; omega)) (fun g1 => ?_)
  refine condC (fun g => bad (by simp at g; omega)) (fun g2 => ?_)
  refine condC (fun g => bad (by simp at g; omega)) (fun g3 => ?_)
  refine condC (fun g => bad (by simp at g; omega)) (fun g4 => ?_)
  have g1 : 1 ≤ a1 := by simpa using g1
  have g2 : a1 ≤ 1024 := by simpa using g2
  have g3 : a1 ≤ l3 := by simpa using g3
  have g4 : l3 ≤ 16384 := by simp at g4; omega
  refine ⟨by omega, Mem.le_refl _, ?_⟩
  rw [validF_mod g1]
  rw [show decide (validF a1 l3) = decide ((l3 : Int) % a1 = 0) from by unfold validF; simp [g1, g2, g3, g4]] at h
  exact h
theorem s19 {a1 : Int} {b2 : Option Addr} {l3 : Nat} {c4 : Nat} (h : K (B (decide (validF a1 l3))) E) :
    Ent F5 6 Try.f41 [.agg [I a1, L b2 l3 c4]] E K := by
  refine same (by kernel_rfl) (?_ : bif decide (a1 ≥ (1 : Int)) then bif bif true then decide (a1 ≤ (1024 : Int)) else false then bif bif true then decide ((↑l3 : Int) ≥ a1) else false then bif bif true then decide ((↑l3 : Int) ≤ (16384 : Int)) else false then (a1 = (0 : Int) → False) ∧ Mem.le E E ∧ K (SV.raw (Value.bool (bif true then Int.tmod (↑l3 : Int) a1 == (0 : Int) else false))) E else Mem.le E E ∧ K (SV.raw (Value.bool false)) E else Mem.le E E ∧ K (SV.raw (Value.bool false)) E else Mem.le E E ∧ K (SV.raw (Value.bool false)) E else Mem.le E E ∧ K (SV.raw (Value.bool false)) E)
  have bad : ¬ validF a1 l3 → Mem.le E E ∧ K (B false) E := fun hn => ⟨Mem.le_refl _, by rw [validF_no hn] at h; exact h⟩
  unfold validF at bad
  refine condC (fun g1 => ?_) (fun g => bad (by simp at g; omega))
  refine condC (fun g2 => ?_) (fun g => bad (by simp at g; omega))
  refine condC (fun g3 => ?_) (fun g => bad (by simp at g; omega))
  refine condC (fun g4 => ?_) (fun g => bad (by simp at g; omega))
  have g1 : 1 ≤ a1 := by simpa using g1
  have g2 : a1 ≤ 1024 := by simpa using g2
  have g3 : a1 ≤ l3 := by simpa using g3
  have g4 : l3 ≤ 16384 := by simp at g4; omega
  refine ⟨by omega, Mem.le_refl _, ?_⟩
  show K (B (Int.tmod (l3 : Int) a1 == 0)) E
  rw [validF_mod g1]
  rw [show decide (validF a1 l3) = decide ((l3 : Int) % a1 = 0) from by unfold validF; simp [g1, g2, g3, g4]] at h
  exact h
noncomputable def tab18 : FuncId → List SV → Mem → (SV → Mem → Prop) → Prop := fun f args E K => match f with
  | 42 => d1 args fun x0 => dC x0 fun l1 => d2 l1 fun x0_0 x0_1 => dI x0_0 fun a1 => dS x0_1 fun b2 l3 c4 => (K (B (decide (validF a1 l3))) E)
  | _ => False
theorem tab18_ok : TabOK Try.prog tab18 := by
  intro f args E K h
  unfold tab18 at h
  split at h
  · replace h := d1_elim h
    obtain ⟨x0, rfl, h⟩ := h
    replace h := dC_elim h
    obtain ⟨l1, hl1, h⟩ := h
    replace h := d2_elim h
    obtain ⟨x0_0, x0_1, rfl, h⟩ := h
    replace h := dI_elim h
    obtain ⟨a1, rfl, h⟩ := h
    replace h := dS_elim h
    obtain ⟨b2, l3, c4, rfl, h⟩ := h
    exact TabSem.congr (valL_cons (asCells_val hl1) rfl) (Ent.sem okF5 Try.func42 ⟨by kernel_rfl, by kernel_rfl⟩ rfl (s18 h))
  · exact h.elim
noncomputable def F3 : Cx := { P := Try.prog, inl := fun f => List.contains [66] f, tab := tab18, isB := fun f => f == 65, tabB := tabP, opt := { unroll := 0, carry := [] }, muts := (fun o => match o with | .call { callee := .value (.func 66), .. } => true | .call { callee := .value (.func 65), .. } => true | o => mutsD o) }
theorem okF3 : CxOK F3 := CxOK.four tab18_ok (by kernel_rfl) (okInl (by kernel_rfl)) tabP_ok
noncomputable def F4 : Cx := { P := Try.prog, inl := fun f => List.contains [42, 66] f, tab := fun _ _ _ _ => False, isB := fun f => f == 65, tabB := tabE, opt := { unroll := 0, carry := [] }, muts := (fun o => match o with | .call { callee := .value (.func 66), .. } => true | .call { callee := .value (.func 65), .. } => true | o => mutsD o) }
theorem okF4 : CxOK F4 := CxOK.four (fun _ _ _ _ h => h.elim) (by kernel_rfl) (okInl (by kernel_rfl)) tabE_ok
theorem s14 {a1 : Int} {b2 : Option Addr} {l3 : Nat} {c4 : Nat} {a5 : Int} {b6 : Option Addr} {l7 : Nat} {c8 : Nat} {zs : List Int} {ds : List Int} (h0 : Bs E b2 l3 c4 zs) (h1 : Bs E b6 l7 c8 ds) (h : ∀ (b' : Option Addr) (l' c' : Nat) (ms : List (Int × List Int)) (e : Int) (E' : Mem), Mem.le E E' → Hyp (progF a1 zs a5 ds = (ms, e)) → FL E' b' l' c' ms → K (.tup [L b' l' c', I e]) E') :
    Ent F3 6 Try.f67 [.agg [I a1, L b2 l3 c4], I a5, L b6 l7 c8] E K := by
  refine same (by kernel_rfl) (?_ : Mem.le E E ∧ bif !decide (validF a1 l3) then Mem.le E E ∧ K (SV.tup [SV.raw (VS none 0 0), SV.raw (Value.int IntKind.i64 1)]) E else bif bif false then true else decide (a5 < (0 : Int)) then Mem.le E E ∧ K (SV.tup [SV.raw (VS none 0 0), SV.raw (Value.int IntKind.i64 1)]) E else bif decide (a5 > (NI l3)) then Mem.le E E ∧ K (SV.tup [SV.raw (VS none 0 0), SV.raw (Value.int IntKind.i64 3)]) E else bif bif false then true else decide ((NI l7) > WI ((NI l3) - a5)) then Mem.le E E ∧ K (SV.tup [SV.raw (VS none 0 0), SV.raw (Value.int IntKind.i64 3)]) E else Sx.Alike (AlikeT.n AlikeT.l AlikeT.l) (65 = 65 ∧ ∃ (s : Int), ∃ (a : Nat), ∃ (b : Option Addr), ∃ (db : Option Addr), ∃ (l : Nat), ∃ (c : Nat), ∃ (dl : Nat), ∃ (dc : Nat), ∃ (m : Nat), ∃ (zs0 : List Int), ∃ (ds : List Int), ∃ (n0 : Int), [SV.clo 74 [] [SV.loc 2 0, SV.loc 4 0, SV.loc 5 0, SV.loc 3 0], SV.raw (Value.int IntKind.i64 (WI ((NI l7) + (1 : Int))))] = [SV.clo 74 [] [SV.loc 2 0, SV.loc 4 0, SV.loc 5 0, SV.loc 3 0], SV.raw (Value.int IntKind.i64 n0)] ∧ [{ elem := 24, row := Row.lst [SV.raw (Value.int IntKind.i64 a1), SV.raw (VS b2 l3 c4)], total := 2, own := true : Box }, { elem := 22, row := Row.lst [SV.raw (VS b6 l7 c8)], total := 1, own := true : Box }, { elem := 24, row := Row.lst [SV.raw (Value.int IntKind.i64 a1), SV.raw (VS b2 l3 c4)], total := 2, own := true : Box }, { elem := 3, row := Row.lst [SV.raw (Value.int IntKind.i64 a5)], total := 1, own := true : Box }, { elem := 3, row := Row.lst [SV.raw (Value.int IntKind.i64 (NI l7))], total := 1, own := true : Box }, { elem := 91, row := Row.lst [SV.clo 75 [] [SV.loc 1 0]], total := 1, own := true : Box }] = [{ elem := 24, row := Row.lst [SV.raw (Value.int IntKind.i64 s), SV.raw (VS b l c)], total := 2, own := true : Box }, { elem := 22, row := Row.lst [SV.raw (VS db dl dc)], total := 1, own := true : Box }, { elem := 24, row := Row.lst [SV.raw (Value.int IntKind.i64 s), SV.raw (VS b l c)], total := 2, own := true : Box }, { elem := 3, row := Row.lst [SV.raw (Value.int IntKind.i64 (NI a))], total := 1, own := true : Box }, { elem := 3, row := Row.lst [SV.raw (Value.int IntKind.i64 (NI m))], total := 1, own := true : Box }, { elem := 91, row := Row.lst [SV.clo 75 [] [SV.loc 1 0]], total := 1, own := true : Box }] ∧ n0 = (NI (m + 1)) ∧ Bs E db dl dc ds ∧ m = dl ∧ Bs E b l c zs0 ∧ (1 ≤ l ∧ l ≤ 16384 ∧ a + m ≤ l) ∧ ∀ (fb : Option Addr) (cap : Nat) (E' : Mem), Mem.le E E' → FL E' fb (m + 1) cap (mems s (gP ds) a zs0 (m + 1)) → Mem.le E E' ∧ K (SV.tup [SV.raw (VS fb (m + 1) cap), SV.raw (Value.int IntKind.i64 0)]) E'))
  delta WI NI VS
  have hz := h0.2.1
  have hd := h1.2.1
  have ex : ∀ {ms : List (Int × List Int)} {e : Int}, progF a1 zs a5 ds = (ms, e) → (∀ (b' : Option Addr) (l' c' : Nat) (E' : Mem), Mem.le E E' → FL E' b' l' c' ms → K (.tup [L b' l' c', I e]) E') := fun he b' l' c' E' hE hF => h b' l' c' _ _ E' hE he hF
  unfold progF at ex
  rw [hz, hd] at ex
  refine ⟨Mem.le_refl _, condC (fun g => ?_) (fun g => ?_)⟩
  · have g : ¬ validF a1 l3 := by simpa using g
    exact ⟨Mem.le_refl _, ex (if_pos (.inl g)) none 0 0 E (Mem.le_refl _) (FL.nil _)⟩
  have g : validF a1 l3 := by simpa using g
  have gl := g
  unfold validF at gl
  refine condC (fun g1 => ?_) (fun g1 => ?_)
  · exact ⟨Mem.le_refl _, ex (if_pos (.inr (by simpa using g1))) none 0 0 E (Mem.le_refl _) (FL.nil _)⟩
  have g1 : 0 ≤ a5 := by simpa using g1
  rw [if_neg (by simp only [not_or, Decidable.not_not]; exact ⟨g, by omega⟩)] at ex
  refine condC (fun g2 => ?_) (fun g2 => ?_)
  · exact ⟨Mem.le_refl _, ex (if_pos (.inl (by simpa using g2))) none 0 0 E (Mem.le_refl _) (FL.nil _)⟩
  have g2 : a5 ≤ l3 := by simpa using g2
  rw [wrap_i64 (by omega)]
  refine condC (fun g3 => ?_) (fun g3 => ?_)
  · exact ⟨Mem.le_refl _, ex (if_pos (.inr (by simpa using g3))) none 0 0 E (Mem.le_refl _) (FL.nil _)⟩
  have g3 : (l7 : Int) ≤ l3 - a5 := by simpa using g3
  rw [if_neg (by omega)] at ex
  obtain ⟨a, rfl⟩ : ∃ a : Nat, a5 = a := ⟨a5.toNat, by omega⟩
  refine alike ⟨rfl, a1, a, b2, b6, l3, c4, l7, c8, l7, zs, ds, _, rfl, rfl, by rw [wrap_i64 (by omega)]; simp, h1, rfl, h0, ⟨by omega, by omega, by omega⟩, fun fb cap E' hE hF => ⟨hE, ?_⟩⟩
  exact ex (by rw [Int.toNat_natCast]) fb _ cap E' hE hF
theorem s16 {a1 : Int} {b2 : Option Addr} {l3 : Nat} {c4 : Nat} {a5 : Int} {zs : List Int} (h0 : Bs E b2 l3 c4 zs) (h : ∀ (b' : Option Addr) (l' c' : Nat) (ms : List (Int × List Int)) (e : Int) (E' : Mem), Mem.le E E' → Hyp (erasF a1 zs a5 = (ms, e)) → FL E' b' l' c' ms → K (.tup [L b' l' c', I e]) E') :
    Ent F4 6 Try.f51 [.agg [I a1, L b2 l3 c4], I a5] E K := by
  refine same (by kernel_rfl) (?_ : bif decide (a1 < (1 : Int)) then Mem.le E E ∧ Mem.le E E ∧ K (SV.tup [SV.raw (VS none 0 0), SV.raw (Value.int IntKind.i64 1)]) E else bif bif false then true else decide (a1 > (1024 : Int)) then Mem.le E E ∧ Mem.le E E ∧ K (SV.tup [SV.raw (VS none 0 0), SV.raw (Value.int IntKind.i64 1)]) E else bif decide ((NI l3) < a1) then Mem.le E E ∧ Mem.le E E ∧ K (SV.tup [SV.raw (VS none 0 0), SV.raw (Value.int IntKind.i64 1)]) E else bif bif false then true else decide ((NI l3) > (16384 : Int)) then Mem.le E E ∧ Mem.le E E ∧ K (SV.tup [SV.raw (VS none 0 0), SV.raw (Value.int IntKind.i64 1)]) E else (a1 = (0 : Int) → False) ∧ Mem.le E E ∧ bif !Int.tmod (NI l3) a1 == (0 : Int) then Mem.le E E ∧ K (SV.tup [SV.raw (VS none 0 0), SV.raw (Value.int IntKind.i64 1)]) E else bif bif false then true else decide (a5 < (0 : Int)) then Mem.le E E ∧ K (SV.tup [SV.raw (VS none 0 0), SV.raw (Value.int IntKind.i64 1)]) E else (a1 = (0 : Int) → False) ∧ bif bif false then true else decide (a5 ≥ WI (Int.tdiv (NI l3) a1)) then Mem.le E E ∧ K (SV.tup [SV.raw (VS none 0 0), SV.raw (Value.int IntKind.i64 1)]) E else Sx.Alike (AlikeT.n AlikeT.l AlikeT.l) (65 = 65 ∧ ∃ (s : Int), ∃ (a : Nat), ∃ (b : Option Addr), ∃ (l : Nat), ∃ (c : Nat), ∃ (m : Nat), ∃ (zs0 : List Int), ∃ (n0 : Int), [SV.clo 74 [] [SV.loc 2 0, SV.loc 4 0, SV.loc 5 0, SV.loc 3 0], SV.raw (Value.int IntKind.i64 (WI (a1 + (1 : Int))))] = [SV.clo 74 [] [SV.loc 2 0, SV.loc 4 0, SV.loc 5 0, SV.loc 3 0], SV.raw (Value.int IntKind.i64 n0)] ∧ [{ elem := 24, row := Row.lst [SV.raw (Value.int IntKind.i64 a1), SV.raw (VS b2 l3 c4)], total := 2, own := true : Box }, { elem := 24, row := Row.lst [SV.raw (Value.int IntKind.i64 a1), SV.raw (VS b2 l3 c4)], total := 2, own := true : Box }, { elem := 24, row := Row.lst [SV.raw (Value.int IntKind.i64 a1), SV.raw (VS b2 l3 c4)], total := 2, own := true : Box }, { elem := 3, row := Row.lst [SV.raw (Value.int IntKind.i64 (WI (a5 * a1)))], total := 1, own := true : Box }, { elem := 3, row := Row.lst [SV.raw (Value.int IntKind.i64 a1)], total := 1, own := true : Box }, { elem := 91, row := Row.lst [SV.clo 64 [] []], total := 1, own := true : Box }] = [{ elem := 24, row := Row.lst [SV.raw (Value.int IntKind.i64 s), SV.raw (VS b l c)], total := 2, own := true : Box }, { elem := 24, row := Row.lst [SV.raw (Value.int IntKind.i64 s), SV.raw (VS b l c)], total := 2, own := true : Box }, { elem := 24, row := Row.lst [SV.raw (Value.int IntKind.i64 s), SV.raw (VS b l c)], total := 2, own := true : Box }, { elem := 3, row := Row.lst [SV.raw (Value.int IntKind.i64 (NI a))], total := 1, own := true : Box }, { elem := 3, row := Row.lst [SV.raw (Value.int IntKind.i64 (NI m))], total := 1, own := true : Box }, { elem := 91, row := Row.lst [SV.clo 64 [] []], total := 1, own := true : Box }] ∧ n0 = (NI (m + 1)) ∧ Bs E b l c zs0 ∧ (1 ≤ l ∧ l ≤ 16384 ∧ a + m ≤ l) ∧ ∀ (fb : Option Addr) (cap : Nat) (E' : Mem), Mem.le E E' → FL E' fb (m + 1) cap (mems s gE a zs0 (m + 1)) → Mem.le E E' ∧ K (SV.tup [SV.raw (VS fb (m + 1) cap), SV.raw (Value.int IntKind.i64 0)]) E'))
  delta WI NI VS
  have hz := h0.2.1
  have ex : ∀ {ms : List (Int × List Int)} {e : Int}, erasF a1 zs a5 = (ms, e) → (∀ (b' : Option Addr) (l' c' : Nat) (E' : Mem), Mem.le E E' → FL E' b' l' c' ms → K (.tup [L b' l' c', I e]) E') := fun he b' l' c' E' hE hF => h b' l' c' _ _ E' hE he hF
  unfold erasF at ex
  rw [hz] at ex
  have bad : ¬ validF a1 l3 ∨ a5 < 0 ∨ a5 ≥ (l3 : Int) / a1 → K (.tup [L none 0 0, I 1]) E := fun hb => ex (if_pos hb) none 0 0 E (Mem.le_refl _) (FL.nil _)
  have bad1 : ¬ validF a1 l3 → Mem.le E E ∧ Mem.le E E ∧ K (.tup [L none 0 0, I 1]) E := fun hb => ⟨Mem.le_refl _, Mem.le_refl _, bad (.inl hb)⟩
  unfold validF at bad1
  refine condC (fun g => bad1 (by simp at g; omega)) (fun g1 => ?_)
  refine condC (fun g => bad1 (by simp at g; omega)) (fun g2 => ?_)
  refine condC (fun g => bad1 (by simp at g; omega)) (fun g3 => ?_)
  refine condC (fun g => bad1 (by simp at g; omega)) (fun g4 => ?_)
  have g1 : 1 ≤ a1 := by simpa using g1
  have g2 : a1 ≤ 1024 := by simpa using g2
  have g3 : a1 ≤ l3 := by simpa using g3
  have g4 : l3 ≤ 16384 := by simp at g4; omega
  refine ⟨by omega, Mem.le_refl _, condC (fun g => ?_) (fun g5 => ?_)⟩
  · rw [validF_mod g1] at g
    exact (bad1 (by simp at g; omega)).2
  have g5 : (l3 : Int) % a1 = 0 := by rw [validF_mod g1] at g5; simpa using g5
  have hv : validF a1 l3 := ⟨g1, g2, g3, g4, g5⟩
  refine condC (fun g => ⟨Mem.le_refl _, bad (.inr (.inl (by simpa using g)))⟩) (fun g6 => ?_)
  have g6 : 0 ≤ a5 := by simpa using g6
  have hdv : Int.tdiv (l3 : Int) a1 = (l3 : Int) / a1 := Int.tdiv_eq_ediv_of_nonneg (by omega)
  have hd1 : (l3 : Int) / a1 ≤ l3 := Int.ediv_le_self _ (by omega)
  have hd0 : 0 ≤ (l3 : Int) / a1 := Int.ediv_nonneg (by omega) (by omega)
  refine ⟨by omega, ?_⟩
  rw [hdv, wrap_i64 (x := (l3 : Int) / a1) (by omega)]
  refine condC (fun g => ⟨Mem.le_refl _, bad (.inr (.inr (by simpa using g)))⟩) (fun g7 => ?_)
  have g7 : a5 < (l3 : Int) / a1 := by simpa using g7
  rw [if_neg (fun q => q.elim (fun q => q hv) (fun q => by omega))] at ex
  have h8 : (a5 + 1) * a1 ≤ l3 := by
    have := Int.mul_le_mul_of_nonneg_right (show a5 + 1 ≤ (l3 : Int) / a1 by omega) (show 0 ≤ a1 by omega)
    have h2 := Int.ediv_mul_le (l3 : Int) (show a1 ≠ 0 by omega)
    omega
  have h9 : 0 ≤ a5 * a1 := Int.mul_nonneg g6 (by omega)
  rw [Int.add_mul, Int.one_mul] at h8
  obtain ⟨a, ha⟩ : ∃ a : Nat, a5 * a1 = a := ⟨(a5 * a1).toNat, by omega⟩
  obtain ⟨m, rfl⟩ : ∃ m : Nat, a1 = m := ⟨a1.toNat, by omega⟩
  rw [ha] at ex h8
  rw [ha, wrap_i64 (x := (a : Int)) (by omega)]
  refine alike ⟨rfl, m, a, b2, l3, c4, m, zs, _, rfl, rfl, by rw [wrap_i64 (by omega)]; simp, h0, ⟨by omega, by omega, by omega⟩, fun fb cap E' hE hF => ⟨hE, ?_⟩⟩
  exact ex (by rw [Int.toNat_natCast, Int.toNat_natCast]) fb _ cap E' hE hF
theorem wu64 {x : Int} (h : 0 ≤ x ∧ x ≤ 100000000) : IntKind.wrap .u64 x = x := by
  rw [show IntKind.wrap .u64 x = x % 18446744073709551616 from rfl]; omega
theorem and32 {n : Int} (h : 0 ≤ n ∧ n ≤ 16384) : IntKind.wrap .u64 (((BitVec.ofInt (IntKind.bits .u64) n &&& BitVec.ofInt (IntKind.bits .u64) 4294967295).toNat : Nat) : Int) = n := by
  obtain ⟨m, rfl⟩ : ∃ m : Nat, n = m := ⟨n.toNat, by omega⟩
  rw [show IntKind.bits .u64 = 64 from rfl, BitVec.toNat_and, show BitVec.ofInt 64 (m : Int) = BitVec.ofNat 64 m from BitVec.ofInt_natCast _ _, show BitVec.ofInt 64 4294967295 = BitVec.ofNat 64 (2 ^ 32 - 1) from rfl,
    BitVec.toNat_ofNat, BitVec.toNat_ofNat, Nat.mod_eq_of_lt (by omega), Nat.mod_eq_of_lt (a := 2 ^ 32 - 1) (by decide), Nat.and_two_pow_sub_one_eq_mod, Nat.mod_eq_of_lt (by omega), wu64 (by omega)]
theorem fd32 {n : Int} (h : 0 ≤ n ∧ n ≤ 16384) : Int.fdiv n 4294967296 = 0 := by
  rw [Int.fdiv_eq_ediv_of_nonneg _ (by omega)]; omega
def tabZ : CallT := fun f args bx E K => f = 59 ∧ ∃ n : Nat, args = [I n] ∧ n ≤ 281474976710656 ∧ ∀ zs : List Int, n ≤ zs.length → K (.slc bx.length 0 n zs.length) (bx ++ [⟨5, .vals (vB zs), zs.length, true⟩]) E
theorem tabZ_ok (f : FuncId) (args : List SV) (bx : List Box) (E : Mem) (K : KT) (h : tabZ f args bx E K) : CallSem Try.prog f args bx E K := by
  obtain ⟨rfl, n, rfl, h1, h2⟩ := h
  exact makeNoZero_sem Try.func59 (by kernel_rfl) (by kernel_rfl) (by kernel_rfl) (ps := #[3]) (t := 22) (e := 5) (by kernel_rfl) (by kernel_rfl) h1 h2
noncomputable def F7 : Cx := { P := Try.prog, inl := fun f => List.contains [72] f, tab := fun _ _ _ _ => False, isB := fun _ => false, tabB := fun _ _ _ _ _ => False, opt := { unroll := 0, carry := [] }, muts := mutsD }
theorem okF7 : CxOK F7 := CxOK.four (fun _ _ _ _ h => h.elim) (by kernel_rfl) (okInl (by kernel_rfl)) (fun _ _ _ _ _ h => h.elim)
theorem s31 {a1 : Int} {a2 : Int} (h0 : (a1 = 1 ∧ 0 ≤ a2 ∧ a2 ≤ 16384)) (h : K (.tup [.raw (.int .u64 0), .raw (.int .u64 a2)]) E) :
    Ent F7 8 Try.f58 [.raw (.int .u64 a1), .raw (.int .u64 a2)] E K := by
  refine same (by kernel_rfl) (?_ : Mem.le E E ∧ Mem.le E E ∧ K (SV.tup [SV.raw (Value.int IntKind.u64 (IntKind.wrap IntKind.u64 (IntKind.wrap IntKind.u64 (IntKind.wrap IntKind.u64 (Int.fdiv a1 (4294967296 : Int) * Int.fdiv a2 4294967296) + Int.fdiv (IntKind.wrap IntKind.u64 (IntKind.wrap IntKind.u64 (Int.fdiv a1 (4294967296 : Int) * IntKind.wrap IntKind.u64 (NI (BitVec.toNat (BitVec.ofInt (IntKind.bits IntKind.u64) a2 &&& BitVec.ofInt (IntKind.bits IntKind.u64) 4294967295)))) + Int.fdiv (IntKind.wrap IntKind.u64 (IntKind.wrap IntKind.u64 (NI (BitVec.toNat (BitVec.ofInt (IntKind.bits IntKind.u64) a1 &&& BitVec.ofInt (IntKind.bits IntKind.u64) 4294967295))) * IntKind.wrap IntKind.u64 (NI (BitVec.toNat (BitVec.ofInt (IntKind.bits IntKind.u64) a2 &&& BitVec.ofInt (IntKind.bits IntKind.u64) 4294967295))))) 4294967296)) 4294967296) + Int.fdiv (IntKind.wrap IntKind.u64 (IntKind.wrap IntKind.u64 (NI (BitVec.toNat (BitVec.ofInt (IntKind.bits IntKind.u64) (IntKind.wrap IntKind.u64 (IntKind.wrap IntKind.u64 (Int.fdiv a1 ((2 : Int) ^ min (Int.toNat 32) (IntKind.bits IntKind.u64)) * IntKind.wrap IntKind.u64 (NI (BitVec.toNat (BitVec.ofInt (IntKind.bits IntKind.u64) a2 &&& BitVec.ofInt (IntKind.bits IntKind.u64) 4294967295)))) + Int.fdiv (IntKind.wrap IntKind.u64 (IntKind.wrap IntKind.u64 (NI (BitVec.toNat (BitVec.ofInt (IntKind.bits IntKind.u64) a1 &&& BitVec.ofInt (IntKind.bits IntKind.u64) 4294967295))) * IntKind.wrap IntKind.u64 (NI (BitVec.toNat (BitVec.ofInt (IntKind.bits IntKind.u64) a2 &&& BitVec.ofInt (IntKind.bits IntKind.u64) 4294967295))))) ((2 : Int) ^ min (Int.toNat 32) (IntKind.bits IntKind.u64)))) &&& BitVec.ofInt (IntKind.bits IntKind.u64) 4294967295))) + IntKind.wrap IntKind.u64 (IntKind.wrap IntKind.u64 (NI (BitVec.toNat (BitVec.ofInt (IntKind.bits IntKind.u64) a1 &&& BitVec.ofInt (IntKind.bits IntKind.u64) 4294967295))) * Int.fdiv a2 4294967296))) 4294967296))), SV.raw (Value.int IntKind.u64 (IntKind.wrap IntKind.u64 (a1 * a2)))]) E)
  delta NI
  obtain ⟨rfl, h0⟩ := h0
  rw [show min (Int.toNat 32) (IntKind.bits .u64) = 32 from rfl, show (2 : Int) ^ 32 = 4294967296 from rfl, show Int.fdiv 1 4294967296 = 0 from rfl, fd32 h0, and32 h0, and32 (n := 1) (by omega)]
  rw [show (0 : Int) * 0 = 0 from rfl, Int.zero_mul, Int.one_mul, Int.mul_zero, wu64 (x := a2) (by omega), wu64 (x := 0) (by omega), Int.zero_add, fd32 h0, Int.add_zero, wu64 (x := 0) (by omega), and32 (n := 0) (by omega), Int.add_zero, wu64 (x := 0) (by omega), show Int.fdiv 0 4294967296 = 0 from rfl, Int.add_zero, wu64 (x := 0) (by omega)]
  exact ⟨Mem.le_refl _, Mem.le_refl _, h⟩
noncomputable def tab31 : FuncId → List SV → Mem → (SV → Mem → Prop) → Prop := fun f args E K => match f with
  | 58 => d2 args fun x0 x1 => dN .u64 x0 fun a1 => dN .u64 x1 fun a2 => (a1 = 1 ∧ 0 ≤ a2 ∧ a2 ≤ 16384) ∧ (K (.tup [.raw (.int .u64 0), .raw (.int .u64 a2)]) E)
  | _ => False
theorem tab31_ok : TabOK Try.prog tab31 := by
  intro f args E K h
  unfold tab31 at h
  split at h
  · replace h := d2_elim h
    obtain ⟨x0, x1, rfl, h⟩ := h
    replace h := dN_elim h
    obtain ⟨a1, rfl, h⟩ := h
    replace h := dN_elim h
    obtain ⟨a2, rfl, h⟩ := h
    obtain ⟨g0, h⟩ := h
    exact TabSem.congr (valL_cons rfl (valL_cons rfl rfl)) (Ent.sem okF7 Try.func58 ⟨by kernel_rfl, by kernel_rfl⟩ rfl (s31 g0 h))
  · exact h.elim
noncomputable def F6 : Cx := { P := Try.prog, inl := fun f => List.contains [] f, tab := tab31, isB := fun f => f == 59, tabB := tabZ, opt := { unroll := 0, carry := [7, 8, 9, 10], cuts := [17] }, muts := mutsD }
theorem okF6 : CxOK F6 := CxOK.four tab31_ok (by kernel_rfl) (okInl (by kernel_rfl)) tabZ_ok
def sh17 (n ch tot : Nat) (zs : List Int) (E : Mem) : St := ⟨[some (.slc 1 0 1 1), none, none, none, none, none, none, some (I (n : Nat)), some (I (ch : Nat)), some (.slc 2 0 n n)] ++ List.replicate 67 none, [⟨24, .lst [I 0, L none 0 0], 2, true⟩, ⟨5, .lst [.raw (.int .u8 255)], 1, true⟩] ++ [⟨5, .vals (vB zs), tot, true⟩], E⟩
def sh18 (n ch bp tot : Nat) (zs : List Int) (E : Mem) : St := ⟨[none, none, none, none, none, none, none, some (I (n : Nat)), some (I (ch : Nat)), some (.slc 2 0 n n), some (I (bp : Nat))] ++ List.replicate 66 none, [⟨24, .lst [I 0, L none 0 0], 2, true⟩, ⟨5, .lst [.raw (.int .u8 255)], 1, true⟩] ++ [⟨5, .vals (vB zs), tot, true⟩], E⟩
theorem ent25 {n : Nat} {K : KT} (hn : 1 ≤ n ∧ n ≤ 16384) (h : ∀ (ch tot : Nat) (zs : List Int), 1 ≤ ch → n ≤ zs.length → Ct F6 8 Try.f40 [1, 1, 1, 1, 1, 1, 1, 1, 1, 1] 2 K (sh17 n ch tot zs E)) : EntB F6 8 Try.f40 [.slc 1 0 1 1, I n] [⟨24, .lst [I 0, L none 0 0], 2, true⟩, ⟨5, .lst [.raw (.int .u8 255)], 1, true⟩] E K := by
  refine same (by kernel_rfl) (?_ : bif (NI n) == (0 : Int) then K (SV.slc 2 0 0 0) [{ elem := 24, row := Row.lst [SV.raw (Value.int IntKind.i64 0), SV.raw (VS none 0 0)], total := 2, own := true : Box }, { elem := 5, row := Row.lst [SV.raw (U8 255)], total := 1, own := true : Box }, { elem := 5, row := Row.lst [], total := 0, own := true : Box }] E else IntKind.u64 = IntKind.u64 ∧ IntKind.u64 = IntKind.u64 ∧ ((1 : Int) = (1 : Int) ∧ (0 : Int) ≤ IntKind.wrap IntKind.u64 (NI n) ∧ IntKind.wrap IntKind.u64 (NI n) ≤ (16384 : Int)) ∧ Mem.le E E ∧ bif bif false then true else decide (IntKind.wrap IntKind.u64 (NI n) > (9223372036854775807 : Int)) then False else bif decide (WI (IntKind.wrap IntKind.u64 (NI n)) > (8192 : Int)) then ((1 : Int) = (0 : Int) → False) ∧ 59 = 59 ∧ ∃ (n_1 : Nat), [SV.raw (Value.int IntKind.i64 (WI (IntKind.wrap IntKind.u64 (NI n))))] = [SV.raw (Value.int IntKind.i64 (NI n_1))] ∧ n_1 ≤ 281474976710656 ∧ ∀ (zs : List Int), n_1 ≤ List.length zs → Mem.le E E ∧ req ((0 : Int) ≤ WI (IntKind.wrap IntKind.u64 (NI n)) ∧ WI (IntKind.wrap IntKind.u64 (NI n)) ≤ (NI (List.length zs))) (req ((0 : Int) ≤ WI (IntKind.wrap IntKind.u64 (NI n)) ∧ WI (IntKind.wrap IntKind.u64 (NI n)) ≤ (NI (toN (some (WI (IntKind.wrap IntKind.u64 (NI n)))) (List.length zs)))) (Ct F6 8 Try.f40 [1, 1, 1, 1, 1, 1, 1, 1, 1, 1] 2 K { fr := some (SV.slc 1 0 1 1) :: some (I (NI n)) :: none :: none :: some (L none 0 0) :: some (SV.raw (Value.int IntKind.u64 0)) :: some (SV.raw (Value.int IntKind.u64 (IntKind.wrap IntKind.u64 (NI n)))) :: some (I (WI (IntKind.wrap IntKind.u64 (NI n)))) :: some (I 8192) :: some (SV.slc 2 (if toN (some (WI (IntKind.wrap IntKind.u64 (NI n)))) (List.length zs) = 0 then 0 else 0) (toN (some (WI (IntKind.wrap IntKind.u64 (NI n)))) n_1 - 0) (toN (some (WI (IntKind.wrap IntKind.u64 (NI n)))) (List.length zs) - 0)) :: none :: none :: some (I (NI n)) :: some (B ((NI n) == (0 : Int))) :: none :: some (I (NI n)) :: some (B false) :: none :: some (SV.tup [SV.raw (Value.int IntKind.u64 0), SV.raw (Value.int IntKind.u64 (IntKind.wrap IntKind.u64 (NI n)))]) :: some (SV.slc 1 0 1 1) :: some (I 1) :: some (SV.raw (Value.int IntKind.u64 1)) :: some (I (NI n)) :: some (SV.raw (Value.int IntKind.u64 (IntKind.wrap IntKind.u64 (NI n)))) :: some (SV.tup [SV.raw (Value.int IntKind.u64 0), SV.raw (Value.int IntKind.u64 (IntKind.wrap IntKind.u64 (NI n)))]) :: some (SV.raw (Value.int IntKind.u64 0)) :: some (SV.raw (Value.int IntKind.u64 (IntKind.wrap IntKind.u64 (NI n)))) :: some (SV.raw (Value.int IntKind.u64 0)) :: some (B false) :: some (B false) :: some (SV.raw (Value.int IntKind.u64 (IntKind.wrap IntKind.u64 (NI n)))) :: some (B (decide (IntKind.wrap IntKind.u64 (NI n) > (9223372036854775807 : Int)))) :: some (B (bif false then true else decide (IntKind.wrap IntKind.u64 (NI n) > (9223372036854775807 : Int)))) :: none :: some (SV.raw (Value.int IntKind.u64 (IntKind.wrap IntKind.u64 (NI n)))) :: some (I (WI (IntKind.wrap IntKind.u64 (NI n)))) :: some (SV.slc 1 0 1 1) :: some (I 1) :: some (B false) :: none :: some (I (WI (IntKind.wrap IntKind.u64 (NI n)))) :: some (I (WI (IntKind.wrap IntKind.u64 (NI n)))) :: some (B (decide (WI (IntKind.wrap IntKind.u64 (NI n)) > (8192 : Int)))) :: some (SV.slc 1 0 1 1) :: some (I 1) :: some (I 8192) :: some (SV.slc 1 0 1 1) :: some (I 1) :: some (I 8192) :: some (I 8192) :: some (B false) :: none :: none :: some (I (WI (IntKind.wrap IntKind.u64 (NI n)))) :: some (SV.slc 2 0 n_1 (List.length zs)) :: some (I (WI (IntKind.wrap IntKind.u64 (NI n)))) :: some (I (WI (IntKind.wrap IntKind.u64 (NI n)))) :: some (SV.slc 2 (if toN (some (WI (IntKind.wrap IntKind.u64 (NI n)))) (List.length zs) = 0 then 0 else 0) (toN (some (WI (IntKind.wrap IntKind.u64 (NI n)))) n_1 - 0) (toN (some (WI (IntKind.wrap IntKind.u64 (NI n)))) (List.length zs) - 0)) :: n16 (n2 (none :: [])), bx := [⟨24, .lst [I 0, L none 0 0], 2, true⟩, ⟨5, .lst [SV.raw (U8 255)], 1, true⟩, ⟨5, .vals (vB zs), List.length zs, true⟩], E := E : St })) else 59 = 59 ∧ ∃ (n_1 : Nat), [SV.raw (Value.int IntKind.i64 (WI (IntKind.wrap IntKind.u64 (NI n))))] = [SV.raw (Value.int IntKind.i64 (NI n_1))] ∧ n_1 ≤ 281474976710656 ∧ ∀ (zs : List Int), n_1 ≤ List.length zs → Mem.le E E ∧ req ((0 : Int) ≤ WI (IntKind.wrap IntKind.u64 (NI n)) ∧ WI (IntKind.wrap IntKind.u64 (NI n)) ≤ (NI (List.length zs))) (req ((0 : Int) ≤ WI (IntKind.wrap IntKind.u64 (NI n)) ∧ WI (IntKind.wrap IntKind.u64 (NI n)) ≤ (NI (toN (some (WI (IntKind.wrap IntKind.u64 (NI n)))) (List.length zs)))) (Ct F6 8 Try.f40 [1, 1, 1, 1, 1, 1, 1, 1, 1, 1] 2 K { fr := some (SV.slc 1 0 1 1) :: some (I (NI n)) :: none :: none :: some (L none 0 0) :: some (SV.raw (Value.int IntKind.u64 0)) :: some (SV.raw (Value.int IntKind.u64 (IntKind.wrap IntKind.u64 (NI n)))) :: some (I (WI (IntKind.wrap IntKind.u64 (NI n)))) :: some (I (WI (IntKind.wrap IntKind.u64 (NI n)))) :: some (SV.slc 2 (if toN (some (WI (IntKind.wrap IntKind.u64 (NI n)))) (List.length zs) = 0 then 0 else 0) (toN (some (WI (IntKind.wrap IntKind.u64 (NI n)))) n_1 - 0) (toN (some (WI (IntKind.wrap IntKind.u64 (NI n)))) (List.length zs) - 0)) :: none :: none :: some (I (NI n)) :: some (B ((NI n) == (0 : Int))) :: none :: some (I (NI n)) :: some (B false) :: none :: some (SV.tup [SV.raw (Value.int IntKind.u64 0), SV.raw (Value.int IntKind.u64 (IntKind.wrap IntKind.u64 (NI n)))]) :: some (SV.slc 1 0 1 1) :: some (I 1) :: some (SV.raw (Value.int IntKind.u64 1)) :: some (I (NI n)) :: some (SV.raw (Value.int IntKind.u64 (IntKind.wrap IntKind.u64 (NI n)))) :: some (SV.tup [SV.raw (Value.int IntKind.u64 0), SV.raw (Value.int IntKind.u64 (IntKind.wrap IntKind.u64 (NI n)))]) :: some (SV.raw (Value.int IntKind.u64 0)) :: some (SV.raw (Value.int IntKind.u64 (IntKind.wrap IntKind.u64 (NI n)))) :: some (SV.raw (Value.int IntKind.u64 0)) :: some (B false) :: some (B false) :: some (SV.raw (Value.int IntKind.u64 (IntKind.wrap IntKind.u64 (NI n)))) :: some (B (decide (IntKind.wrap IntKind.u64 (NI n) > (9223372036854775807 : Int)))) :: some (B (bif false then true else decide (IntKind.wrap IntKind.u64 (NI n) > (9223372036854775807 : Int)))) :: none :: some (SV.raw (Value.int IntKind.u64 (IntKind.wrap IntKind.u64 (NI n)))) :: some (I (WI (IntKind.wrap IntKind.u64 (NI n)))) :: some (SV.slc 1 0 1 1) :: some (I 1) :: some (B false) :: none :: some (I (WI (IntKind.wrap IntKind.u64 (NI n)))) :: some (I (WI (IntKind.wrap IntKind.u64 (NI n)))) :: some (B (decide (WI (IntKind.wrap IntKind.u64 (NI n)) > (8192 : Int)))) :: n8 (n2 (some (I (WI (IntKind.wrap IntKind.u64 (NI n)))) :: some (SV.slc 2 0 n_1 (List.length zs)) :: some (I (WI (IntKind.wrap IntKind.u64 (NI n)))) :: some (I (WI (IntKind.wrap IntKind.u64 (NI n)))) :: some (SV.slc 2 (if toN (some (WI (IntKind.wrap IntKind.u64 (NI n)))) (List.length zs) = 0 then 0 else 0) (toN (some (WI (IntKind.wrap IntKind.u64 (NI n)))) n_1 - 0) (toN (some (WI (IntKind.wrap IntKind.u64 (NI n)))) (List.length zs) - 0)) :: n16 (n2 (none :: [])))), bx := [⟨24, .lst [I 0, L none 0 0], 2, true⟩, ⟨5, .lst [SV.raw (U8 255)], 1, true⟩, ⟨5, .vals (vB zs), List.length zs, true⟩], E := E : St })))
  delta WI NI U8 VS n2 n8 n16
  have e1 : IntKind.wrap .u64 (n : Int) = n := wu64 (by omega)
  have e2 : IntKind.wrap .i64 (n : Int) = n := wrap_i64 (by omega)
  have e3 : ∀ d, toN (some (n : Int)) d = n := fun d => by simp [toN]
  simp only [e1, e2, e3, ite_self, Nat.sub_zero]
  refine condC (fun g => absurd g (by simp; omega)) (fun _ => ⟨trivial, trivial, ⟨trivial, by omega, by omega⟩, Mem.le_refl _, condC (fun g => absurd g (by simp; omega)) (fun _ => condC (fun g => ?_) (fun g => ?_))⟩)
  · refine ⟨by omega, trivial, n, rfl, by omega, fun zs hz => ⟨Mem.le_refl _, req_intro (by omega) (req_intro (by omega) ?_)⟩⟩
    exact Ct_re [some 0, some 1, some 2] (h 8192 _ zs (by omega) hz) (wkG (Mem.le_refl _))
  · refine ⟨trivial, n, rfl, by omega, fun zs hz => ⟨Mem.le_refl _, req_intro (by omega) (req_intro (by omega) ?_)⟩⟩
    exact Ct_re [some 0, some 1, some 2] (h n _ zs (by omega) hz) (wkG (Mem.le_refl _))
theorem rep_step {zs : List Int} {bp q n : Nat} (h : zs.take bp = List.replicate bp 255) (hb : bp < n) (hn : n ≤ zs.length) (hq : q ≤ bp) :
    (zs.take bp ++ (zs.take q).take (min q (n - bp)) ++ zs.drop (bp + min q (n - bp))).take (bp + min q (n - bp)) = List.replicate (bp + min q (n - bp)) 255 ∧ n ≤ (zs.take bp ++ (zs.take q).take (min q (n - bp)) ++ zs.drop (bp + min q (n - bp))).length := by
  have h1 : (zs.take q).take (min q (n - bp)) = List.replicate (min q (n - bp)) 255 := by
    have : zs.take (min q (n - bp)) = (zs.take bp).take (min q (n - bp)) := by rw [List.take_take, Nat.min_eq_left (a := min q (n - bp)) (b := bp) (by omega)]
    rw [List.take_take, Nat.min_eq_left (a := min q (n - bp)) (b := q) (by omega), this, h, List.take_replicate, Nat.min_eq_left (a := min q (n - bp)) (b := bp) (by omega)]
  rw [h1, h]
  refine ⟨?_, ?_⟩
  · rw [List.take_append_of_le_length (by simp), List.take_of_length_le (by simp), List.replicate_append_replicate]
  · simp; omega
theorem pc17 {k ch tot : Nat} {zs : List Int} {K : KT} (hz : k + 1 ≤ zs.length) (h : Lp F6 8 Try.f40 [1, 1, 1, 1, 1, 1, 1, 1, 1, 1, 1, 0, 0] 2 K (sh18 (k + 1) ch 1 tot (255 :: zs.drop 1) E)) : Pc F6 8 Try.f40 [1, 1, 1, 1, 1, 1, 1, 1, 1, 1] 2 K (sh17 (k + 1) ch tot zs E) := by
  refine same (by kernel_rfl) (?_ : 0 + (k + 1) * 1 ≤ List.length (vB zs) ∧ Lp F6 8 Try.f40 [1, 1, 1, 1, 1, 1, 1, 1, 1, 1, 1, 0, 0] 2 K { fr := some (SV.slc 1 0 1 1) :: n4 (n2 (some (I (NI (k + 1))) :: some (I (NI ch)) :: some (SV.slc 2 0 (k + 1) (k + 1)) :: some (I (NI 1)) :: n32 (n8 (n4 (n2 (none :: (some (SV.slc 2 0 (k + 1) (k + 1)) :: some (SV.slc 1 0 1 1) :: some (I (NI 1)) :: n16 []))))))), bx := [⟨24, .lst [I 0, L none 0 0], 2, true⟩, ⟨5, .lst [SV.raw (U8 255)], 1, true⟩, ⟨5, .vals (U8 (255 : Int) :: (List.drop 1 (vB zs))), tot, true⟩], E := E : St })
  delta NI U8 n2 n4 n8 n16 n32
  refine ⟨by simp; omega, ?_⟩
  have e : Value.int IntKind.u8 255 :: (List.drop 1 (vB zs)) = vB (255 :: zs.drop 1) := by simp
  rw [e]
  exact Lp_re [some 0, some 1, some 2] h (wkG (Mem.le_refl _))
theorem rnd18 {n ch bp tot : Nat} {zs : List Int} {K : KT} (hn : 1 ≤ n ∧ n ≤ 16384) (hc : 1 ≤ ch) (hb : 1 ≤ bp ∧ bp ≤ n) (hz : n ≤ zs.length) (hr : zs.take bp = List.replicate bp 255)
    (h : ∀ zs : List Int, n ≤ zs.length → zs.take n = List.replicate n 255 → K (.slc 2 0 n n) ([⟨24, .lst [I 0, L none 0 0], 2, true⟩, ⟨5, .lst [.raw (.int .u8 255)], 1, true⟩] ++ [⟨5, .vals (vB zs), tot, true⟩]) E)
    (ih : ∀ (bp' : Nat) (zs : List Int), bp < bp' → bp' ≤ n → n ≤ zs.length → zs.take bp' = List.replicate bp' 255 → Lp F6 8 Try.f40 [1, 1, 1, 1, 1, 1, 1, 1, 1, 1, 1, 0, 0] 2 K (sh18 n ch bp' tot zs E)) :
    Rnd F6 8 Try.f40 [1, 1, 1, 1, 1, 1, 1, 1, 1, 1, 1, 0, 0] 2 K (sh18 n ch bp tot zs E) := by
  refine same (by kernel_rfl) (?_ : bif decide ((NI bp) < (NI n)) then req ((0 : Int) ≤ (NI bp) ∧ (NI bp) ≤ (NI (toN none n))) (req (((0 : Int) ≤ if (NI ch) < (NI bp) then (NI ch) else (NI bp)) ∧ (if (NI ch) < (NI bp) then (NI ch) else (NI bp)) ≤ (NI (toN none n))) ((if toN none n = 0 then 0 else 0) + min (toN (some (if (NI ch) < (NI bp) then (NI ch) else (NI bp))) n - 0) (toN none n - toN (some (NI bp)) 0) * 1 ≤ List.length (vB zs) ∧ (if toN none n = toN (some (NI bp)) 0 then 0 else 0 + toN (some (NI bp)) 0 * 1) ≤ List.length (vB zs) ∧ ((if toN none n = toN (some (NI bp)) 0 then 0 else 0 + toN (some (NI bp)) 0 * 1) + min (toN (some (if (NI ch) < (NI bp) then (NI ch) else (NI bp))) n - 0) (toN none n - toN (some (NI bp)) 0) * 1 ≤ List.length (vB zs) ∨ (if toN none n = toN (some (NI bp)) 0 then 0 else 0 + toN (some (NI bp)) 0 * 1) + min (toN (some (if (NI ch) < (NI bp) then (NI ch) else (NI bp))) n - 0) (toN none n - toN (some (NI bp)) 0) * 1 ≤ tot) ∧ (∀ (x : Value), List.Mem x (vB zs) → Value.oneCell' x = true) ∧ Lp F6 8 Try.f40 [1, 1, 1, 1, 1, 1, 1, 1, 1, 1, 1, 0, 0] 2 K { fr := n4 (n2 (none :: (some (I (NI n)) :: some (I (NI ch)) :: some (SV.slc 2 0 n n) :: some (I (WI ((NI bp) + (NI (min (toN (some (if (NI ch) < (NI bp) then (NI ch) else (NI bp))) n - 0) (toN none n - toN (some (NI bp)) 0)))))) :: n32 (n32 (n2 []))))), bx := [⟨24, .lst [I 0, L none 0 0], 2, true⟩, ⟨5, .lst [SV.raw (U8 255)], 1, true⟩, ⟨5, .vals (layV (vB zs) (if toN none n = toN (some (NI bp)) 0 then 0 else 0 + toN (some (NI bp)) 0 * 1) (List.take (min (toN (some (if (NI ch) < (NI bp) then (NI ch) else (NI bp))) n - 0) (toN none n - toN (some (NI bp)) 0) * 1) (List.drop (if toN none n = 0 then 0 else 0) (vB zs)))), tot, true⟩], E := E : St })) else K (SV.slc 2 0 n n) [{ elem := 24, row := Row.lst [SV.raw (Value.int IntKind.i64 0), SV.raw (VS none 0 0)], total := 2, own := true : Box }, { elem := 5, row := Row.lst [SV.raw (U8 255)], total := 1, own := true : Box }, { elem := 5, row := Row.vals (vB zs), total := tot, own := true : Box }] E)
  delta WI NI U8 VS n2 n4 n32
  refine condC (fun g => ?_) (fun g => ?_)
  · have g : bp < n := by simpa using g
    obtain ⟨q, hq⟩ : ∃ q, q = min bp ch := ⟨_, rfl⟩
    have eq : (if (ch : Int) < (bp : Int) then (ch : Int) else (bp : Int)) = (q : Int) := by split <;> omega
    have e2 : ∀ d, toN (some (q : Int)) d = q := fun d => by simp [toN]
    have e3 : ∀ d, toN (some (bp : Int)) d = bp := fun d => by simp [toN]
    have e4 : ∀ d, toN none d = d := fun d => rfl
    have e5 : IntKind.wrap .i64 ((bp : Int) + ((min q (n - bp) : Nat) : Int)) = ((bp + min q (n - bp) : Nat) : Int) := by rw [wrap_i64 (by omega)]; simp
    rw [eq]
    simp only [e2, e3, e4, ite_self, Nat.sub_zero]
    rw [if_neg (show ¬ n = bp by omega)]
    refine req_intro (by omega) (req_intro (by omega) ⟨by simp; omega, by simp; omega, .inl (by simp; omega), vB_one zs, ?_⟩)
    obtain ⟨s1, s2⟩ := rep_step hr g hz (show q ≤ bp by omega)
    have e6 : layV (vB zs) (0 + bp * 1) (List.take (min q (n - bp) * 1) (List.drop 0 (vB zs))) = vB (zs.take bp ++ (zs.take q).take (min q (n - bp)) ++ zs.drop (bp + min q (n - bp))) := by
      unfold layV vB
      rw [Nat.zero_add, Nat.mul_one, Nat.mul_one, List.drop_zero, show (zs.take q).take (min q (n - bp)) = zs.take (min q (n - bp)) by rw [List.take_take, Nat.min_eq_left (Nat.min_le_left _ _)]]
      simp only [← List.map_take, ← List.map_drop, ← List.map_append, List.length_map]
      rw [show (zs.take (min q (n - bp))).length = min q (n - bp) by simp; omega]
    rw [e5, e6]
    exact Lp_re [some 0, some 1, some 2] (ih _ _ (by omega) (by omega) s2 s1) (wkG (Mem.le_refl _))
  · have g : bp = n := by simp at g; omega
    subst g
    exact h zs hz hr
theorem lp18 {n ch bp tot : Nat} {zs : List Int} {K : KT} (hn : 1 ≤ n ∧ n ≤ 16384) (hc : 1 ≤ ch) (hb : 1 ≤ bp ∧ bp ≤ n) (hz : n ≤ zs.length) (hr : zs.take bp = List.replicate bp 255)
    (h : ∀ zs : List Int, n ≤ zs.length → zs.take n = List.replicate n 255 → K (.slc 2 0 n n) ([⟨24, .lst [I 0, L none 0 0], 2, true⟩, ⟨5, .lst [.raw (.int .u8 255)], 1, true⟩] ++ [⟨5, .vals (vB zs), tot, true⟩]) E) :
    Lp F6 8 Try.f40 [1, 1, 1, 1, 1, 1, 1, 1, 1, 1, 1, 0, 0] 2 K (sh18 n ch bp tot zs E) :=
  Lp_ind okF6 (fun x : {x : Nat × List Int // 1 ≤ x.1 ∧ x.1 ≤ n ∧ n ≤ x.2.length ∧ x.2.take x.1 = List.replicate x.1 255} => sh18 n ch x.1.1 tot x.1.2 E) (fun x => n - x.1.1)
    (fun x ih => rnd18 hn hc ⟨x.2.1, x.2.2.1⟩ x.2.2.2.1 x.2.2.2.2 h fun bp' zs g1 g2 g3 g4 => ih ⟨(bp', zs), by have := x.2.1; exact ⟨by omega, g2, g3, g4⟩⟩ (by show n - bp' < n - x.1.1; omega)) ⟨(bp, zs), hb.1, hb.2, hz, hr⟩
theorem s25 {n : Nat} {K : KT} (hn : 1 ≤ n ∧ n ≤ 16384) (h : ∀ (tot : Nat) (zs : List Int), n ≤ zs.length → zs.take n = List.replicate n 255 → K (.slc 2 0 n n) ([⟨24, .lst [I 0, L none 0 0], 2, true⟩, ⟨5, .lst [.raw (.int .u8 255)], 1, true⟩] ++ [⟨5, .vals (vB zs), tot, true⟩]) E) : EntB F6 8 Try.f40 [.slc 1 0 1 1, I n] [⟨24, .lst [I 0, L none 0 0], 2, true⟩, ⟨5, .lst [.raw (.int .u8 255)], 1, true⟩] E K := by
  obtain ⟨k, rfl⟩ : ∃ k, n = k + 1 := ⟨n - 1, by omega⟩
  exact ent25 hn fun ch tot zs hc hz => Ct_intro okF6 (pc17 hz (lp18 hn hc ⟨by omega, by omega⟩ (by simp; omega) (by simp) (h tot)))
def newF (s n : Int) : (Int × List Int) × Int := if s < 1 ∨ s > 1024 ∨ n < 1 ∨ n > 16384 / s then ((0, []), 1) else ((s, List.replicate (s * n).toNat 255), 0)
def tabR : CallT := fun f args bx E K => f = 40 ∧ ∃ n : Nat, args = [.slc 1 0 1 1, I n] ∧ bx = [⟨24, .lst [I 0, L none 0 0], 2, true⟩, ⟨5, .lst [.raw (.int .u8 255)], 1, true⟩] ∧ (1 ≤ n ∧ n ≤ 16384) ∧ ∀ (tot : Nat) (zs : List Int), n ≤ zs.length → zs.take n = List.replicate n 255 → K (.slc 2 0 n n) (bx ++ [⟨5, .vals (vB zs), tot, true⟩]) E
theorem tabR_ok (f : FuncId) (args : List SV) (bx : List Box) (E : Mem) (K : KT) (h : tabR f args bx E K) : CallSem Try.prog f args bx E K := by
  obtain ⟨rfl, n, rfl, rfl, h1, h2⟩ := h
  exact EntB.sem okF6 Try.func40 ⟨by kernel_rfl, by kernel_rfl⟩ (s25 h1 h2)
noncomputable def F8 : Cx := { P := Try.prog, inl := fun f => List.contains [] f, tab := fun _ _ _ _ => False, isB := fun f => f == 40, tabB := tabR, opt := { unroll := 0, carry := [] }, muts := mutsD }
theorem okF8 : CxOK F8 := CxOK.four (fun _ _ _ _ h => h.elim) (by kernel_rfl) (okInl (by kernel_rfl)) tabR_ok
noncomputable def F9 : Cx := { P := Try.prog, inl := fun f => List.contains [] f, tab := fun _ _ _ _ => False, isB := fun _ => false, tabB := fun _ _ _ _ _ => False, opt := { unroll := 0, carry := [7] }, muts := mutsD }
theorem okF9 : CxOK F9 := CxOK.four (fun _ _ _ _ h => h.elim) (by kernel_rfl) (okInl (by kernel_rfl)) (fun _ _ _ _ _ h => h.elim)
def sh12a (a1 a2 : Int) (i : Nat) (E : Mem) : St := ⟨[some (I a1), some (I a2), none, none, some (.loc 0 0), some (I 0), some (.loc 1 0), some (I (i : Nat))] ++ List.replicate 32 none, [⟨24, .lst [I 0, L none 0 0], 2, true⟩, ⟨24, .lst [I a1, L none 0 0], 2, true⟩], E⟩
def sh12 (a1 a2 : Int) (i cap tot : Nat) (E : Mem) : St := ⟨[some (I a1), some (I a2), none, none, some (.loc 0 0), some (I 0), some (.loc 1 0), some (I (i : Nat))] ++ List.replicate 32 none, [⟨24, .lst [I 0, L none 0 0], 2, true⟩, ⟨24, .lst [I a1, .slc 2 0 i cap], 2, true⟩, ⟨5, .vals (vB (List.replicate i 255)), tot, true⟩], E⟩
noncomputable def FB : Cx := { P := Try.prog, inl := fun f => List.contains [] f, tab := fun _ _ _ _ => False, isB := fun _ => false, tabB := fun _ _ _ _ _ => False, opt := { unroll := 0, carry := [] }, muts := (fun o => match o with | .buildSlice .. => true | .alloc _ => true | o => mutsD o) }
theorem loadW_row {rs : List FRow} {i : Nat} {r : FRow} (h : rs[i]? = some r) : loadW Try.prog 24 ((rs.flatMap rowV).map .raw) (i * 2) = some (.agg [I r.1, L r.2.1 r.2.2.1 r.2.2.2]) := by
  have key : ∀ (rs : List FRow) (i : Nat), rs[i]? = some r → (((rs.flatMap rowV).map SV.raw).drop (i * 2)).take 2 = [I r.1, L r.2.1 r.2.2.1 r.2.2.2] := by
    intro rs
    induction rs with
    | nil => intro i h; simp at h
    | cons x rs ih =>
      intro i h
      cases i with
      | zero => simp at h; subst h; simp [rowV]
      | succ i =>
        have := ih i (by simpa using h)
        rw [show (i + 1) * 2 = i * 2 + 2 by omega, List.flatMap_cons, List.map_append, List.drop_append, List.drop_eq_nil_of_le (by simp [rowV]), List.nil_append]
        simpa [rowV] using this
  have hu : (match Try.prog.underlying 24 with | some (.struct _) => true | _ => false) = true := by kernel_rfl
  have hi : (Try.prog.info? 24).map (·.size) = some 2 := by kernel_rfl
  unfold loadW
  split at hu
  · rename_i fs hfs
    rw [hfs]
    cases hinf : Try.prog.info? 24 with
    | none => rw [hinf] at hi; cases hi
    | some inf =>
      rw [hinf] at hi
      simp only [Option.map_some, Option.some.injEq] at hi
      simp only [hi, key rs i h]
      rfl
  · cases hu
theorem FL.load {b : Option Addr} {n c : Nat} {ms : List (Int × List Int)} (h : FL E b n c ms) {i : Nat} {m : Int × List Int} (hm : ms[i]? = some m) :
    (∃ cs, E (.slice b n c) cs ∧ (cs = [] → False)) ∧ ∃ (b' : Option Addr) (l' c' : Nat), LoadE Try.prog E 24 (.slice b n c) (i * 2) (.agg [I m.1, L b' l' c']) ∧ Bs E b' l' c' m.2 := by
  obtain ⟨rs, h1, h2, h3, h4, h5⟩ := h
  have hi : i < ms.length := (List.getElem?_eq_some_iff.1 hm).1
  have hE := h4.resolve_left (by omega)
  obtain ⟨r, er⟩ : ∃ r, rs[i]? = some r := ⟨_, List.getElem?_eq_getElem (by rw [h1.1]; exact hi)⟩
  obtain ⟨q1, q2⟩ := h1.2 i r m er hm
  refine ⟨⟨_, hE, fun e => ?_⟩, r.2.1, r.2.2.1, r.2.2.2, ⟨_, hE, ?_⟩, q2⟩
  · have := rows_len rs
    rw [e, h1.1] at this
    simp at this; omega
  · rw [← q1]; exact loadW_row er
theorem FL.len {b : Option Addr} {n c : Nat} {ms : List (Int × List Int)} (h : FL E b n c ms) : ms.length = n := by
  obtain ⟨rs, h1, h2, _⟩ := h; exact h2
theorem calls61 (v1 v2 : Value) (xs ys : List Int) (w : World)
    (h1 : (convert 22 9 v1).run Try.prog w = .ok (.string (strOfNums xs)) w) (h2 : (convert 22 9 v2).run Try.prog w = .ok (.string (strOfNums ys)) w) :
    Calls Try.prog 61 #[v1, v2] w fun e w' => e = .returned (.bool (Lib.bytesOf xs == Lib.bytesOf ys)) ∧ w' = w := by
  rw [← Lib.strOfNums_toList, ← Lib.strOfNums_toList]
  go_enter Try.func61, (show Try.f61.ntmps = 10 from rfl)
  go_wp2
  go_ret
  exact ⟨rfl, rfl⟩
theorem bytes_inj : ∀ {xs ys : List Int}, (∀ z ∈ xs, 0 ≤ z ∧ z ≤ 255) → (∀ z ∈ ys, 0 ≤ z ∧ z ≤ 255) → (Lib.bytesOf xs == Lib.bytesOf ys) = decide (xs = ys)
  | [], [], _, _ => rfl
  | [], y :: ys, _, _ => by simp [Lib.bytesOf]
  | x :: xs, [], _, _ => by simp [Lib.bytesOf]
  | x :: xs, y :: ys, hx, hy => by
    have ih := bytes_inj (xs := xs) (ys := ys) (fun z hz => hx z (List.mem_cons_of_mem _ hz)) (fun z hz => hy z (List.mem_cons_of_mem _ hz))
    have a := hx x (by simp)
    have b := hy y (by simp)
    have e : (UInt8.ofNat x.toNat = UInt8.ofNat y.toNat) ↔ x = y := by
      rw [← UInt8.toNat_inj, UInt8.toNat_ofNat', UInt8.toNat_ofNat', Nat.mod_eq_of_lt (by omega), Nat.mod_eq_of_lt (by omega)]
      omega
    have ih2 : (Lib.bytesOf xs = Lib.bytesOf ys) ↔ xs = ys := by simpa using congrArg (· = true) ih
    rw [Bool.eq_iff_iff]
    show ((UInt8.ofNat x.toNat :: Lib.bytesOf xs) == (UInt8.ofNat y.toNat :: Lib.bytesOf ys)) = true ↔ _
    simp only [beq_iff_eq, List.cons.injEq, decide_eq_true_eq, e, ih2]
theorem conv61 {b : Option Addr} {l c : Nat} {zs : List Int} (h : Bs E b l c zs) {w : World} (hE : Hold E w) : (convert 22 9 (.slice b l c)).run Try.prog w = .ok (.string (strOfNums zs)) w := by
  have key : ∀ zs : List Int, RowAt w (.slice b l c) (zs.map (.int .u8)) → zs.length = l → (b = none → zs = []) → (convert 22 9 (.slice b l c)).run Try.prog w = .ok (.string (strOfNums zs)) w := by
    intro zs hr hl hn
    cases b with
    | none =>
      rw [hn rfl]
      exact run_convert_bytes_nil w 22 5 (by kernel_rfl) (by kernel_rfl) l c 9 (by kernel_rfl)
    | some a =>
      rcases hr with hr | ⟨a', n', c', e, hs, hr⟩
      · rw [List.map_eq_nil_iff] at hr
        subst hr
        obtain rfl : l = 0 := by simpa using hl.symm
        rw [run_convert_bytes_string w 22 9 5 (some a) 0 c (by kernel_rfl) (by kernel_rfl) (by kernel_rfl)]
        simp [Conv.bytesToString, loadCells]
        all_goals rfl
      · cases e
        obtain ⟨bk, o, sp⟩ := a
        simp only at hs
        subst hs
        refine run_convert_bytes_arg w 22 5 (by kernel_rfl) (by kernel_rfl) bk o l c zs hl (fun i hi => ?_) 9 (by kernel_rfl)
        exact hr i _ (by simp [hl, hi])
  rcases h.1 with h1 | h1
  · refine key zs (.inl (by rw [h1]; rfl)) h.2.1 h.2.2.2.2
  · exact key zs (hE _ _ h1) h.2.1 h.2.2.2.2
theorem s61 {b1 b4 : Option Addr} {l2 c3 l5 c6 : Nat} {xs ys : List Int} (h0 : Bs E b1 l2 c3 xs) (h1 : Bs E b4 l5 c6 ys) (h : K (B (decide (xs = ys))) E) : TabSem Try.prog 61 [L b1 l2 c3, L b4 l5 c6] E K := by
  refine ⟨⟨_, Try.func61, by kernel_rfl, by kernel_rfl⟩, _, rfl, fun w hw => (calls61 _ _ xs ys w (conv61 h0 hw) (conv61 h1 hw)).mono ?_⟩
  rintro e w' ⟨rfl, rfl⟩
  rw [bytes_inj h0.2.2.2.1 h1.2.2.2.1]
  exact ⟨_, _, E, rfl, rfl, Keep.refl _ _, Mem.le_refl _, hw, fun v cs g hne => .inr ⟨v, cs, g, hne, rfl⟩, h⟩
def numF (zs : List Int) : Int := zs.foldl (fun n x => 256 * n + x) 0
theorem numF_take {zs : List Int} {i : Nat} {x : Int} (h : zs[i]? = some x) : numF (zs.take (i + 1)) = 256 * numF (zs.take i) + x := by
  unfold numF; rw [take_get' h]; simp
theorem numF_bd : ∀ {zs : List Int}, (∀ z ∈ zs, 0 ≤ z ∧ z ≤ 255) → 0 ≤ numF zs ∧ numF zs < 256 ^ zs.length := by
  have key : ∀ (zs : List Int) (n : Int), 0 ≤ n → (∀ z ∈ zs, 0 ≤ z ∧ z ≤ 255) → 0 ≤ zs.foldl (fun n x => 256 * n + x) n ∧ zs.foldl (fun n x => 256 * n + x) n < (n + 1) * 256 ^ zs.length := by
    intro zs
    induction zs with
    | nil => intro n h _; simp; omega
    | cons x zs ih =>
      intro n h hz
      have hx := hz x (by simp)
      obtain ⟨h1, h2⟩ := ih (256 * n + x) (by omega) (fun z hz' => hz z (List.mem_cons_of_mem _ hz'))
      refine ⟨h1, ?_⟩
      simp only [List.foldl_cons, List.length_cons]
      refine Int.lt_of_lt_of_le h2 ?_
      rw [Int.pow_succ, ← Int.mul_assoc, Int.mul_right_comm]
      refine Int.mul_le_mul_of_nonneg_right (by omega) ?_
      have : (0 : Int) < 256 ^ zs.length := Int.pow_pos (by decide)
      omega
  intro zs hz
  have := key zs 0 (by decide) hz
  unfold numF
  simpa using this
def storF (n : Int) : Nat → List Int
  | 0 => []
  | i + 1 => (n / 256 ^ i) % 256 :: storF n i
theorem storF_len (n : Int) : ∀ i, (storF n i).length = i
  | 0 => rfl
  | i + 1 => by simp [storF, storF_len n i]
theorem storF_byte (n : Int) : ∀ i, ∀ z ∈ storF n i, 0 ≤ z ∧ z ≤ 255
  | 0, z, h => by cases h
  | i + 1, z, h => by
    rcases List.mem_cons.1 h with rfl | h
    · omega
    · exact storF_byte n i z h
def stepF (s x : Int) : Int := IntKind.wrap .u64 (IntKind.wrap .u64 (((BitVec.ofInt (IntKind.bits .u64) s ^^^ BitVec.ofInt (IntKind.bits .u64) x).toNat : Nat) : Int) * 1099511628211)
def fnvF (s : Int) (zs : List Int) : Int := zs.foldl stepF s
theorem fnvF_take {s : Int} {zs : List Int} {i : Nat} {x : Int} (h : zs[i]? = some x) : fnvF s (zs.take (i + 1)) = stepF (fnvF s (zs.take i)) x := by
  unfold fnvF; rw [take_get' h]; simp
def sumF (zs : List Int) : Int := fnvF 14695981039346656037 zs
theorem wu64' {x : Int} (h : 0 ≤ x ∧ x < 18446744073709551616) : IntKind.wrap .u64 x = x := by
  rw [show IntKind.wrap .u64 x = x % 18446744073709551616 from rfl]; omega
theorem or8 {n x : Int} (h : 0 ≤ n ∧ n < 1099511627776) (hx : 0 ≤ x ∧ x ≤ 255) : IntKind.wrap .i64 (((BitVec.ofInt (IntKind.bits .i64) (IntKind.wrap .i64 (n * 2 ^ min (Int.toNat 8) (IntKind.bits .i64))) ||| BitVec.ofInt (IntKind.bits .i64) (IntKind.wrap .i64 x)).toNat : Nat) : Int) = 256 * n + x := by
  obtain ⟨a, rfl⟩ : ∃ a : Nat, n = a := ⟨n.toNat, by omega⟩
  obtain ⟨b, rfl⟩ : ∃ b : Nat, x = b := ⟨x.toNat, by omega⟩
  rw [show min (Int.toNat 8) (IntKind.bits .i64) = 8 from rfl, show (2 : Int) ^ 8 = 256 from rfl, wrap_i64 (x := (a : Int) * 256) (by omega), wrap_i64 (x := (b : Int)) (by omega), show IntKind.bits .i64 = 64 from rfl,
    show ((a : Int) * 256) = ((a * 256 : Nat) : Int) by simp, BitVec.toNat_or, BitVec.ofInt_natCast, BitVec.ofInt_natCast, BitVec.toNat_ofNat, BitVec.toNat_ofNat, Nat.mod_eq_of_lt (by omega), Nat.mod_eq_of_lt (by omega)]
  have e : a * 256 ||| b = a * 256 + b := by
    have := Nat.shiftLeft_add_eq_or_of_lt (i := 8) (b := b) (by omega) a
    rw [Nat.shiftLeft_eq] at this
    exact this.symm
  rw [e, wrap_i64 (by omega)]; omega
theorem numF_small {zs : List Int} {l : Nat} (hz : ∀ z ∈ zs, 0 ≤ z ∧ z ≤ 255) (hl : zs.length = l) (h4 : l ≤ 4) (i : Nat) : 0 ≤ numF (zs.take i) ∧ numF (zs.take i) < 4294967296 := by
  obtain ⟨h1, h2⟩ := numF_bd (zs := zs.take i) (fun z h => hz z (List.mem_of_mem_take h))
  refine ⟨h1, Int.lt_of_lt_of_le h2 ?_⟩
  have hk : (zs.take i).length ≤ 4 := by rw [List.length_take]; omega
  have : ∀ k : Nat, k ≤ 4 → (256 : Int) ^ k ≤ 4294967296 := by decide
  exact this _ hk
theorem stor_step {n : Int} {m i : Nat} (h : i < m) : layV (vB (List.replicate (m - i) (0 : Int) ++ storF n i)) (m - 1 - i) [.int .u8 ((n / 256 ^ i) % 256)] = vB (List.replicate (m - (i + 1)) (0 : Int) ++ storF n (i + 1)) := by
  rw [layV_set (by simp [storF_len]; omega)]
  have e : List.replicate (m - i) (0 : Int) = List.replicate (m - (i + 1)) 0 ++ [0] := by rw [← List.replicate_succ']; congr 1; omega
  rw [e, List.append_assoc, List.set_append_right _ _ (by simp; omega)]
  have e2 : m - 1 - i - (List.replicate (m - (i + 1)) (0 : Int)).length = 0 := by simp; omega
  rw [e2]
  rfl
theorem Bs.get {b : Option Addr} {l c : Nat} {zs : List Int} (h : Bs E b l c zs) {i : Nat} (hi : i < l) : zs[i]? = some (zs.getD i 0) ∧ 0 ≤ zs.getD i 0 ∧ zs.getD i 0 ≤ 255 := by
  have hl : i < zs.length := by rw [h.2.1]; exact hi
  have e : zs[i]? = some (zs.getD i 0) := by rw [List.getD_eq_getElem?_getD, List.getElem?_eq_getElem hl]; rfl
  exact ⟨e, h.2.2.2.1 _ (List.mem_of_getElem? e)⟩
noncomputable def J1 : Cx := { P := Try.prog, inl := fun f => List.contains [] f, tab := fun _ _ _ _ => False, isB := fun _ => false, tabB := fun _ _ _ _ _ => False, opt := { unroll := 0, carry := [3, 8] }, muts := mutsD }
theorem okJ1 : CxOK J1 := CxOK.four (fun _ _ _ _ h => h.elim) (by kernel_rfl) (okInl (by kernel_rfl)) (fun _ _ _ _ _ h => h.elim)
def sh43 (b : Option Addr) (l : Nat) (c : Nat) (zs : List Int) (i : Nat) (E : Mem) : St := ⟨[none, none, none, some (I (numF (zs.take i))), none, none, some (L b l c), some (I (l : Nat)), some (I (i : Nat)), none, none, none, none, none, none, none, none, none, none], [], E⟩
theorem rnd43 {b : Option Addr} {l : Nat} {c : Nat} {zs : List Int} {i : Nat} {E0 : Mem}  (hz : Bs E b l c zs) (hl : l ≤ 4) (hi : i ≤ l) (hE : Mem.le E0 E) (h : K (I (numF zs)) E)
    (ih : (i < l) → Lp J1 8 Try.f43 [1, 1, 0, 1, 0] 0 (pubK E0 K) (sh43 b l c zs (i + 1) E)) : Rnd J1 8 Try.f43 [1, 1, 0, 1, 0] 0 (pubK E0 K) (sh43 b l c zs i E) := by
  refine same (by kernel_rfl) (?_ : bif decide ((NI i) < (NI l)) then req ((0 : Int) ≤ (NI i) ∧ (NI i) < (NI l)) ((∃ (cs : List Value), E (VS b l c) cs ∧ (cs = [] → False)) ∧ ∃ (n : Int), LoadE J1.P E 5 (VS b l c) (Int.toNat (NI i) * 1) (SV.raw (U8 n)) ∧ Lp J1 8 Try.f43 [1, 1, 0, 1, 0] 0 (pubK E0 K) { fr := none :: none :: none :: some (I (WI (NI (BitVec.toNat (BitVec.ofInt (IntKind.bits IntKind.i64) (WI (numF (List.take i zs) * (2 : Int) ^ min (Int.toNat 8) (IntKind.bits IntKind.i64))) ||| BitVec.ofInt (IntKind.bits IntKind.i64) (WI n)))))) :: none :: none :: some (L b l c) :: some (I (NI l)) :: some (I (WI ((NI i) + (1 : Int)))) :: n8 (n2 []), bx := [], E := E : St }) else Mem.le E0 E ∧ K (SV.raw (Value.int IntKind.i64 (numF (List.take i zs)))) E)
  delta WI NI U8 VS n2 n8
  have hn := hz.2.1
  refine condC (fun g => ?_) (fun g => ?_)
  · have g : i < l := by simpa using g
    obtain ⟨e, b1, b2⟩ := Bs.get hz g
    have sm := numF_small hz.2.2.2.1 hn hl i
    refine req_intro (by omega) ⟨Bs.ne hz g, zs.getD i 0, Bs.load hz rfl g, ?_⟩
    rw [or8 (by omega) ⟨b1, b2⟩, ← numF_take e, wrap_i64 (x := (i : Int) + 1) (by omega), show (i : Int) + 1 = ((i + 1 : Nat) : Int) by simp]
    exact Lp_re [] (ih g) (wkG (Mem.le_refl _))
  · have g : i = l := by simp at g; omega
    subst g
    rw [List.take_of_length_le (by omega)]
    exact ⟨hE, h⟩
theorem lp43 {b : Option Addr} {l : Nat} {c : Nat} {zs : List Int} {i : Nat} {E0 : Mem}  (hz : Bs E b l c zs) (hl : l ≤ 4) (hi : i ≤ l) (hE : Mem.le E0 E) (h : K (I (numF zs)) E) : Lp J1 8 Try.f43 [1, 1, 0, 1, 0] 0 (pubK E0 K) (sh43 b l c zs i E) :=
  Lp_ind okJ1 (fun q0 : {i : Nat // i ≤ l} => sh43 b l c zs q0.1 E) (fun q0 => l - q0.1) (fun q0 ih => rnd43 hz hl q0.2 hE h fun g => ih ⟨q0.1 + 1, by have := q0.2; omega⟩ (by show l - (_ + 1) < l - _; have := q0.2; omega)) ⟨i, hi⟩
theorem s43 {b1 : Option Addr} {l2 : Nat} {c3 : Nat} {zs : List Int} (h0 : Bs E b1 l2 c3 zs) (h1 : l2 ≤ 4) (h : K (I (numF zs)) E) :
    Ent J1 8 Try.f43 [L b1 l2 c3] E K := by
  refine same (by kernel_rfl) (?_ : Lp J1 8 Try.f43 [1, 1, 0, 1, 0] 0 (pubK E K) { fr := some (L b1 l2 c3) :: none :: some (I 0) :: some (I 0) :: none :: none :: some (L b1 l2 c3) :: some (I (NI l2)) :: some (I 0) :: n8 (n2 []), bx := [], E := E : St })
  delta NI n2 n8
  exact Lp_re [] (lp43 (i := 0) h0 h1 (Nat.zero_le _) (Mem.le_refl _) h) (wkG (Mem.le_refl _))
noncomputable def J2 : Cx := { P := Try.prog, inl := fun f => List.contains [] f, tab := fun _ _ _ _ => False, isB := fun _ => false, tabB := fun _ _ _ _ _ => False, opt := { unroll := 0, carry := [3, 4] }, muts := mutsD }
theorem okJ2 : CxOK J2 := CxOK.four (fun _ _ _ _ h => h.elim) (by kernel_rfl) (okInl (by kernel_rfl)) (fun _ _ _ _ _ h => h.elim)
def sh39 (b : Option Addr) (l : Nat) (c : Nat) (zs : List Int) (i : Nat) (E : Mem) : St := ⟨[some (L b l c), none, none, some (I (numF (zs.take i))), some (I (i : Nat)), none, none, none, none, none, none, none, none, none, none, none, none, none, none, none], [], E⟩
theorem rnd39 {b : Option Addr} {l : Nat} {c : Nat} {zs : List Int} {i : Nat} {E0 : Mem}  (hz : Bs E b l c zs) (hl : l ≤ 4) (hi : i ≤ l) (hE : Mem.le E0 E) (h : K (I (numF zs)) E)
    (ih : (i < l) → Lp J2 8 Try.f39 [1, 1, 0, 1, 0] 0 (pubK E0 K) (sh39 b l c zs (i + 1) E)) : Rnd J2 8 Try.f39 [1, 1, 0, 1, 0] 0 (pubK E0 K) (sh39 b l c zs i E) := by
  refine same (by kernel_rfl) (?_ : bif decide ((NI i) < (NI l)) then req ((0 : Int) ≤ (NI i) ∧ (NI i) < (NI l)) ((∃ (cs : List Value), E (VS b l c) cs ∧ (cs = [] → False)) ∧ ∃ (n : Int), LoadE J2.P E 5 (VS b l c) (Int.toNat (NI i) * 1) (SV.raw (U8 n)) ∧ Lp J2 8 Try.f39 [1, 1, 0, 1, 0] 0 (pubK E0 K) { fr := some (L b l c) :: none :: none :: some (I (WI (WI ((256 : Int) * numF (List.take i zs)) + WI n))) :: some (I (WI ((NI i) + (1 : Int)))) :: n8 (n4 (n2 (none :: []))), bx := [], E := E : St }) else Mem.le E0 E ∧ K (SV.raw (Value.int IntKind.i64 (numF (List.take i zs)))) E)
  delta WI NI U8 VS n2 n4 n8
  have hn := hz.2.1
  refine condC (fun g => ?_) (fun g => ?_)
  · have g : i < l := by simpa using g
    obtain ⟨e, b1, b2⟩ := Bs.get hz g
    have sm := numF_small hz.2.2.2.1 hn hl i
    refine req_intro (by omega) ⟨Bs.ne hz g, zs.getD i 0, Bs.load hz rfl g, ?_⟩
    rw [wrap_i64 (x := 256 * numF (zs.take i)) (by omega), wrap_i64 (x := zs.getD i 0) (by omega), wrap_i64 (x := 256 * numF (zs.take i) + zs.getD i 0) (by omega), ← numF_take e, wrap_i64 (x := (i : Int) + 1) (by omega), show (i : Int) + 1 = ((i + 1 : Nat) : Int) by simp]
    exact Lp_re [] (ih g) (wkG (Mem.le_refl _))
  · have g : i = l := by simp at g; omega
    subst g
    rw [List.take_of_length_le (by omega)]
    exact ⟨hE, h⟩
theorem lp39 {b : Option Addr} {l : Nat} {c : Nat} {zs : List Int} {i : Nat} {E0 : Mem}  (hz : Bs E b l c zs) (hl : l ≤ 4) (hi : i ≤ l) (hE : Mem.le E0 E) (h : K (I (numF zs)) E) : Lp J2 8 Try.f39 [1, 1, 0, 1, 0] 0 (pubK E0 K) (sh39 b l c zs i E) :=
  Lp_ind okJ2 (fun q0 : {i : Nat // i ≤ l} => sh39 b l c zs q0.1 E) (fun q0 => l - q0.1) (fun q0 ih => rnd39 hz hl q0.2 hE h fun g => ih ⟨q0.1 + 1, by have := q0.2; omega⟩ (by show l - (_ + 1) < l - _; have := q0.2; omega)) ⟨i, hi⟩
theorem s39 {b1 : Option Addr} {l2 : Nat} {c3 : Nat} {zs : List Int} (h0 : Bs E b1 l2 c3 zs) (h1 : l2 ≤ 4) (h : K (I (numF zs)) E) :
    Ent J2 8 Try.f39 [L b1 l2 c3] E K := by
  refine same (by kernel_rfl) (?_ : Lp J2 8 Try.f39 [1, 1, 0, 1, 0] 0 (pubK E K) { fr := some (L b1 l2 c3) :: none :: some (I 0) :: some (I 0) :: some (I 0) :: n8 (n4 (n2 (none :: []))), bx := [], E := E : St })
  delta n2 n4 n8
  exact Lp_re [] (lp39 (i := 0) h0 h1 (Nat.zero_le _) (Mem.le_refl _) h) (wkG (Mem.le_refl _))
noncomputable def J3 : Cx := { P := Try.prog, inl := fun f => List.contains [] f, tab := fun _ _ _ _ => False, isB := fun _ => false, tabB := fun _ _ _ _ _ => False, opt := { unroll := 0, carry := [11] }, muts := mutsD }
theorem okJ3 : CxOK J3 := CxOK.four (fun _ _ _ _ h => h.elim) (by kernel_rfl) (okInl (by kernel_rfl)) (fun _ _ _ _ _ h => h.elim)
def sh53 (n : Int) (m : Nat) (i : Nat) (E : Mem) : St := ⟨[some (.raw (.int .u64 n)), some (I (m : Nat)), none, none, none, some (.slc 0 0 m m), none, none, none, some (.slc 0 0 m m), some (I (m : Nat)), some (I (i : Nat)), none, none, none, none, none, none, none, none, none, none, none, none, none, none, none], [⟨5, .vals (vB (List.replicate (m - i) 0 ++ storF n i)), m * 1, true⟩], E⟩
theorem rnd53 {n : Int} {m : Nat} {i : Nat} {E0 : Mem} {KK : KT} (hn : 0 ≤ n ∧ n < 18446744073709551616) (hm : m ≤ 8) (hi : i ≤ m) (hE : Mem.le E0 E) (h : KK (.slc 0 0 m m) [⟨5, .vals (vB (storF n m)), m * 1, true⟩] E)
    (ih : (i < m) → Lp J3 8 Try.f53 [1, 1, 0, 1, 0] 0 KK (sh53 n m (i + 1) E)) : Rnd J3 8 Try.f53 [1, 1, 0, 1, 0] 0 KK (sh53 n m i E) := by
  refine same (by kernel_rfl) (?_ : bif decide ((NI i) < (NI m)) then req ((0 : Int) ≤ WI ((8 : Int) * (NI i))) (req ((0 : Int) ≤ WI (WI ((NI m) - (1 : Int)) - (NI i)) ∧ WI (WI ((NI m) - (1 : Int)) - (NI i)) < (NI m)) (0 + Int.toNat (WI (WI ((NI m) - (1 : Int)) - (NI i))) * 1 + 1 ≤ List.length (vB (List.replicate (m - i) (0 : Int) ++ storF n i)) ∧ Lp J3 8 Try.f53 [1, 1, 0, 1, 0] 0 KK { fr := some (SV.raw (Value.int IntKind.u64 n)) :: some (I (NI m)) :: none :: none :: none :: some (SV.slc 0 0 m m) :: none :: none :: none :: some (SV.slc 0 0 m m) :: some (I (NI m)) :: some (I (WI ((NI i) + (1 : Int)))) :: n8 (n4 (n2 (none :: []))), bx := [⟨5, .vals (layV (vB (List.replicate (m - i) (0 : Int) ++ storF n i)) (0 + Int.toNat (WI (WI ((NI m) - (1 : Int)) - (NI i))) * 1) [U8 (IntKind.wrap IntKind.u8 (Int.fdiv n ((2 : Int) ^ min (Int.toNat (WI ((8 : Int) * (NI i)))) (IntKind.bits IntKind.u64))))]), m * 1, true⟩], E := E : St })) else KK (SV.slc 0 0 m m) [{ elem := 5, row := Row.vals (vB (List.replicate (m - i) (0 : Int) ++ storF n i)), total := m * 1, own := true : Box }] E)
  delta WI NI U8 n2 n4 n8
  refine condC (fun g => ?_) (fun g => ?_)
  · have g : i < m := by simpa using g
    have e1 : IntKind.wrap .i64 (IntKind.wrap .i64 ((m : Int) - 1) - (i : Int)) = ((m - 1 - i : Nat) : Int) := by rw [wrap_i64 (x := (m : Int) - 1) (by omega), wrap_i64 (by omega)]; omega
    have e2 : IntKind.wrap .i64 (8 * (i : Int)) = ((8 * i : Nat) : Int) := by rw [wrap_i64 (by omega)]; simp
    have e3 : IntKind.wrap .u8 (Int.fdiv n ((2 : Int) ^ min (Int.toNat ((8 * i : Nat) : Int)) (IntKind.bits .u64))) = (n / 256 ^ i) % 256 := by
      rw [Int.toNat_natCast, Nat.min_eq_left (show 8 * i ≤ IntKind.bits .u64 by show 8 * i ≤ 64; omega), Int.pow_mul, show (2 : Int) ^ 8 = 256 from rfl, Int.fdiv_eq_ediv_of_nonneg _ (Int.le_of_lt (Int.pow_pos (by decide)))]
      rfl
    rw [e2, e1, e3]
    refine req_intro (by omega) (req_intro (by omega) ⟨by simp [storF_len]; omega, ?_⟩)
    rw [show 0 + Int.toNat ((m - 1 - i : Nat) : Int) * 1 = m - 1 - i by omega, stor_step g, wrap_i64 (x := (i : Int) + 1) (by omega), show (i : Int) + 1 = ((i + 1 : Nat) : Int) by simp]
    exact Lp_re [some 0] (ih g) (wkG (Mem.le_refl _))
  · have g : i = m := by simp at g; omega
    subst g
    rw [Nat.sub_self, List.replicate_zero, List.nil_append]
    exact h
theorem lp53 {n : Int} {m : Nat} {i : Nat} {E0 : Mem} {KK : KT} (hn : 0 ≤ n ∧ n < 18446744073709551616) (hm : m ≤ 8) (hi : i ≤ m) (hE : Mem.le E0 E) (h : KK (.slc 0 0 m m) [⟨5, .vals (vB (storF n m)), m * 1, true⟩] E) : Lp J3 8 Try.f53 [1, 1, 0, 1, 0] 0 KK (sh53 n m i E) :=
  Lp_ind okJ3 (fun q0 : {i : Nat // i ≤ m} => sh53 n m q0.1 E) (fun q0 => m - q0.1) (fun q0 ih => rnd53 hn hm q0.2 hE h fun g => ih ⟨q0.1 + 1, by have := q0.2; omega⟩ (by show m - (_ + 1) < m - _; have := q0.2; omega)) ⟨i, hi⟩
theorem b53 {KK : KT} {n : Int} {m : Nat} (h0 : 0 ≤ n ∧ n < 18446744073709551616) (h1 : m ≤ 8) (h : KK (.slc 0 0 m m) [⟨5, .vals (vB (storF n m)), m * 1, true⟩] E) : EntB J3 8 Try.f53 [.raw (.int .u64 n), I (m : Nat)] [] E KK := by
  refine same (by kernel_rfl) (?_ : req ((0 : Int) ≤ (NI m) ∧ (NI m) ≤ (NI m)) (req ((NI m) * (1 : Int) ≤ (140737488355328 : Int)) (Lp J3 8 Try.f53 [1, 1, 0, 1, 0] 0 KK { fr := some (SV.raw (Value.int IntKind.u64 n)) :: some (I (NI m)) :: none :: none :: some (L none 0 0) :: some (SV.slc 0 0 (Int.toNat (NI m)) (Int.toNat (NI m))) :: none :: some (I (NI m)) :: some (SV.slc 0 0 (Int.toNat (NI m)) (Int.toNat (NI m))) :: some (SV.slc 0 0 (Int.toNat (NI m)) (Int.toNat (NI m))) :: some (I (NI (Int.toNat (NI m)))) :: some (I 0) :: n8 (n4 (n2 (none :: []))), bx := [⟨5, .vals (zerosV [U8 0] (Int.toNat (NI m))), Int.toNat (NI m) * 1, true⟩], E := E : St })))
  delta NI U8 n2 n4 n8
  refine req_intro (by omega) (req_intro (by omega) ?_)
  rw [show zerosV [Value.int IntKind.u8 0] (Int.toNat (m : Int)) = vB (List.replicate (m - 0) 0 ++ storF n 0) by simp [zerosV, storF, List.flatten_replicate_singleton], Int.toNat_natCast]
  exact Lp_re [some 0] (lp53 (i := 0) h0 (by omega) (Nat.zero_le _) (Mem.le_refl _) h) (wkG (Mem.le_refl _))
theorem CallSem.see {P : Program} {f : FuncId} {bx : List Box} {b : Nat} {e : TypeId} {vs : List Value} {tot : Nat} {args args' : List SV} {E : Mem} {K : KT} (hb : bx[b]? = some ⟨e, .vals vs, tot, true⟩) (ha : args = SV.renL [b] bx.length args')
    (h : CallSem P f args' [⟨e, .vals vs, tot, true⟩] E (cloK 1 fun s bx' E' => ∃ r : Value, s = .raw r ∧ bx' = [⟨e, .vals vs, tot, true⟩] ∧ K (.raw r) bx E')) : CallSem P f args bx E K := by
  refine frame (σ := [b]) ⟨by simp, rfl, fun i y hy => ?_⟩ ha h.clo ?_
  · match i, hy with
    | 0, hy =>
      simp only [List.getElem?_cons_zero, Option.some.injEq] at hy; subst hy
      exact ⟨rfl, b, rfl, hb⟩
  · rintro s bxs' E' ⟨r, rfl, rfl, hK⟩
    have e2 : bx.set b ⟨e, .vals vs, tot, true⟩ = bx := by
      apply List.ext_getElem?
      intro i
      rw [List.getElem?_set]
      split
      · rename_i h'; subst h'
        have hlt : b < bx.length := (List.getElem?_eq_some_iff.1 hb).1
        simp only [hlt, if_true]; exact hb.symm
      · rfl
    simpa [merge, setAll, SV.ren, renF, Box.ren, Row.ren, SV.renL, e2] using hK
def sumD (b : Nat) (l : Nat) (bx : List Box) (k : List Int → Prop) : Prop := match bx[b]? with
  | some ⟨e, .vals vs, tot, true⟩ => ∃ zs : List Int, (e = 5 ∧ vs = vB zs ∧ zs.length = l ∧ l ≤ 100000 ∧ ∀ z ∈ zs, 0 ≤ z ∧ z ≤ 255) ∧ k zs
  | _ => False
theorem sumD_elim {b l : Nat} {bx : List Box} {k : List Int → Prop} (h : sumD b l bx k) : ∃ (tot : Nat) (zs : List Int), bx[b]? = some ⟨5, .vals (vB zs), tot, true⟩ ∧ ((∀ z ∈ zs, 0 ≤ z ∧ z ≤ 255) ∧ zs.length = l ∧ l ≤ 100000) ∧ k zs := by
  unfold sumD at h
  split at h
  case h_2 => exact h.elim
  rename_i e vs tot hb
  obtain ⟨zs, ⟨rfl, rfl, h1, h2, h3⟩, h4⟩ := h
  exact ⟨tot, zs, hb, ⟨h3, h1, h2⟩, h4⟩
noncomputable def D1 : Cx := { P := Try.prog, inl := fun f => List.contains [77, 78] f, tab := fun _ _ _ _ => False, isB := fun _ => false, tabB := fun _ _ _ _ _ => False, opt := { unroll := 0, carry := [], cuts := [] }, muts := mutsD }
theorem okD1 : CxOK D1 := CxOK.four (fun _ _ _ _ h => h.elim) (by kernel_rfl) (okInl (by kernel_rfl)) (fun _ _ _ _ _ h => h.elim)
noncomputable def D2 : Cx := { P := Try.prog, inl := fun f => List.contains [] f, tab := fun _ _ _ _ => False, isB := fun _ => false, tabB := fun _ _ _ _ _ => False, opt := { unroll := 0, carry := [9, 15] }, muts := (fun o => match o with | .call { callee := .value (.tmp 19), .. } => true | o => mutsD o) }
theorem okD2 : CxOK D2 := CxOK.four (fun _ _ _ _ h => h.elim) (by kernel_rfl) (okInl (by kernel_rfl)) (fun _ _ _ _ _ h => h.elim)
abbrev fr76 (a : Int) (l c : Nat) : List (Option SV) := [some (.raw (.int .u64 a)), some (.slc 0 0 l c), none, none, some (.raw (.int .u64 0)), some (.loc 1 0), none, some (.raw (.int .u64 a)), some (.slc 0 0 l c), some (.slc 2 0 1 1), some (.clo 79 [] [.loc 3 0]), none, none, none, none, none]
abbrev bx76 (n : Int) (l c tot : Nat) (zs : List Int) : List Box := [⟨5, .vals (vB zs), tot, true⟩, ⟨104, .lst [.raw (.int .u64 n)], 1, true⟩, ⟨22, .lst [.slc 0 0 l c], 1, true⟩, ⟨25, .lst [.slc 2 0 1 1], 1, true⟩]
noncomputable def DY (a : Int) (l c : Nat) (rc : Rc) : Cx := YCx D2 D1 8 (fr76 a l c) (sub (bodyOf Try.f76) [1, 1, 0, 1, 0]) rc
def sh79o (n : Int) (l c tot : Nat) (zs : List Int) (rc : Rc) (i : Nat) (E : Mem) : St := ⟨[some (.raw (.func (.yield rc.l) #[] #[])), none, none, none, none, none, none, some (.slc 2 0 1 1), some (I 1), some (I (i : Nat)), none, none, none, none, none, none, none, none, none, none, none, none, none, none, none, none], bx76 n l c tot zs, E⟩
def sh79i (n : Int) (l c tot : Nat) (zs : List Int) (rc : Rc) (j : Nat) (E : Mem) : St := ⟨[some (.raw (.func (.yield rc.l) #[] #[])), none, none, none, none, none, none, some (.slc 2 0 1 1), some (I 1), some (I 0), none, none, none, some (.slc 0 0 l c), some (I (l : Nat)), some (I (j : Nat)), none, none, none, none, none, none, none, none, none, none], bx76 n l c tot zs, E⟩
theorem rnd79z {a n : Int} {l c tot : Nat} {rc : Rc} {K : KT} {zs : List Int} (h : Cn D1 8 Try.f76 [1, 1, 0, 1, 0] 1 K ⟨fr76 a l c, bx76 n l c tot zs, E⟩) : Rnd (DY a l c rc) 8 Try.f79 [1, 0] 4 (fun _ bx E => Cn D1 8 Try.f76 [1, 1, 0, 1, 0] 1 K ⟨fr76 a l c, bx, E⟩) (sh79o n l c tot zs rc 1 E) := by
  refine same (by kernel_rfl) (?_ : Cn D1 8 Try.f76 [1, 1, 0, 1, 0] 1 K { fr := [some (SV.raw (Value.int IntKind.u64 a)), some (SV.slc 0 0 l c), none, none, some (SV.raw (Value.int IntKind.u64 (0 : Int))), some (SV.loc 1 0), none, some (SV.raw (Value.int IntKind.u64 a)), some (SV.slc 0 0 l c), some (SV.slc 2 0 1 1), some (SV.clo 79 [] [SV.loc 3 0]), none, none, none, none, none], bx := [⟨5, Row.vals (vB zs), tot, true⟩, ⟨104, Row.lst [SV.raw (Value.int IntKind.u64 n)], 1, true⟩, ⟨22, Row.lst [SV.slc 0 0 l c], 1, true⟩, ⟨25, Row.lst [SV.slc 2 0 1 1], 1, true⟩], E := E : St })
  exact h
theorem rnd79i {a n : Int} {l c j tot : Nat} {rc : Rc} {K : KT} {zs : List Int} (hz : (∀ z ∈ zs, 0 ≤ z ∧ z ≤ 255) ∧ zs.length = l ∧ l ≤ 100000) (hj : j ≤ l) (hn : n = fnvF a (zs.take j)) (h : Lp (DY a l c rc) 8 Try.f79 [1, 0] 4 (fun _ bx E => Cn D1 8 Try.f76 [1, 1, 0, 1, 0] 1 K ⟨fr76 a l c, bx, E⟩) (sh79o (fnvF a zs) l c tot zs rc 1 E))
    (ih : j < l → Lp (DY a l c rc) 8 Try.f79 [1, 0, 0, 1, 1, 0, 0, 1, 1, 0] 4 (fun _ bx E => Cn D1 8 Try.f76 [1, 1, 0, 1, 0] 1 K ⟨fr76 a l c, bx, E⟩) (sh79i (fnvF a (zs.take (j + 1))) l c tot zs rc (j + 1) E)) : Rnd (DY a l c rc) 8 Try.f79 [1, 0, 0, 1, 1, 0, 0, 1, 1, 0] 4 (fun _ bx E => Cn D1 8 Try.f76 [1, 1, 0, 1, 0] 1 K ⟨fr76 a l c, bx, E⟩) (sh79i n l c tot zs rc j E) := by
  refine same (by kernel_rfl) (?_ : bif decide ((NI j) < (NI l)) then req ((0 : Int) ≤ (NI j) ∧ (NI j) < (NI l)) (∃ (n_1 : Int), LoadV (DY a l c rc).P 5 (vB zs) (0 + Int.toNat (NI j) * 1) (SV.raw (U8 n_1)) ∧ rc.l = rc.l ∧ Mem.le E E ∧ Lp (DY a l c rc) 8 Try.f79 [1, 0, 0, 1, 1, 0, 0, 1, 1, 0] 4 (fun (x : SV) (bx : List Box) (E : Mem) => Cn D1 8 Try.f76 [1, 1, 0, 1, 0] 1 K { fr := fr76 a l c, bx := bx, E := E : St }) { fr := some (SV.raw (Value.func (Fn.yield rc.l) #[] #[])) :: n4 (n2 (some (SV.slc 2 0 1 1) :: some (I 1) :: some (I 0) :: none :: none :: none :: some (SV.slc 0 0 l c) :: some (I (NI l)) :: some (I (WI ((NI j) + (1 : Int)))) :: n8 (n2 []))), bx := [⟨5, .vals (vB zs), tot, true⟩, ⟨104, .lst [SV.raw (Value.int IntKind.u64 (IntKind.wrap IntKind.u64 (IntKind.wrap IntKind.u64 (NI (BitVec.toNat (BitVec.ofInt (IntKind.bits IntKind.u64) n ^^^ BitVec.ofInt (IntKind.bits IntKind.u64) (IntKind.wrap IntKind.u64 n_1)))) * (1099511628211 : Int))))], 1, true⟩, ⟨22, .lst [SV.slc 0 0 l c], 1, true⟩, ⟨25, .lst [SV.slc 2 0 1 1], 1, true⟩], E := E : St }) else Lp (DY a l c rc) 8 Try.f79 [1, 0] 4 (fun (x : SV) (bx : List Box) (E : Mem) => Cn D1 8 Try.f76 [1, 1, 0, 1, 0] 1 K { fr := fr76 a l c, bx := bx, E := E : St }) { fr := some (SV.raw (Value.func (Fn.yield rc.l) #[] #[])) :: n4 (n2 (some (SV.slc 2 0 1 1) :: some (I 1) :: some (I 1) :: none :: none :: none :: none :: none :: some (I (NI j)) :: n8 (n2 []))), bx := [⟨5, .vals (vB zs), tot, true⟩, ⟨104, .lst [SV.raw (Value.int IntKind.u64 n)], 1, true⟩, ⟨22, .lst [SV.slc 0 0 l c], 1, true⟩, ⟨25, .lst [SV.slc 2 0 1 1], 1, true⟩], E := E : St })
  delta WI NI U8 n2 n4 n8
  obtain ⟨hb, hn0, hl⟩ := hz
  refine condC (fun g => ?_) (fun g => ?_)
  · have g : j < l := by simpa using g
    have e : zs[j]? = some (zs.getD j 0) := by rw [List.getD_eq_getElem?_getD, List.getElem?_eq_getElem (by omega)]; rfl
    obtain ⟨b1, b2⟩ := hb _ (List.mem_of_getElem? e)
    refine req_intro (by omega) ⟨zs.getD j 0, ?_, rfl, Mem.le_refl _, ?_⟩
    · show LoadV _ _ (vB zs) (0 + ((j : Nat) : Int).toNat * 1) _
      rw [show 0 + ((j : Nat) : Int).toNat * 1 = j by omega]
      exact loadV_byte rfl (by omega)
    subst hn
    rw [wu64' (x := zs.getD j 0) (by omega), show IntKind.wrap .u64 (IntKind.wrap .u64 (((BitVec.ofInt (IntKind.bits .u64) (fnvF a (zs.take j)) ^^^ BitVec.ofInt (IntKind.bits .u64) (zs.getD j 0)).toNat : Nat) : Int) * 1099511628211) = stepF (fnvF a (zs.take j)) (zs.getD j 0) from rfl, ← fnvF_take e, wrap_i64 (x := (j : Int) + 1) (by omega), show (j : Int) + 1 = ((j + 1 : Nat) : Int) by simp]
    exact Lp_re [some 0, some 1, some 2, some 3] (ih g) (wkG (Mem.le_refl _))
  · have g : j = l := by simp at g; omega
    subst g
    rw [List.take_of_length_le (by omega)] at hn
    subst hn
    exact Lp_re [some 0, some 1, some 2, some 3] (h) (wkG (Mem.le_refl _))
theorem rnd79o {a : Int} {l c tot : Nat} {rc : Rc} {K : KT} {zs : List Int} (h : Lp (DY a l c rc) 8 Try.f79 [1, 0, 0, 1, 1, 0, 0, 1, 1, 0] 4 (fun _ bx E => Cn D1 8 Try.f76 [1, 1, 0, 1, 0] 1 K ⟨fr76 a l c, bx, E⟩) (sh79i a l c tot zs rc 0 E)) : Rnd (DY a l c rc) 8 Try.f79 [1, 0] 4 (fun _ bx E => Cn D1 8 Try.f76 [1, 1, 0, 1, 0] 1 K ⟨fr76 a l c, bx, E⟩) (sh79o a l c tot zs rc 0 E) := by
  refine same (by kernel_rfl) (?_ : Lp (DY a l c rc) 8 Try.f79 [1, 0, 0, 1, 1, 0, 0, 1, 1, 0] 4 (fun (x : SV) (bx : List Box) (E : Mem) => Cn D1 8 Try.f76 [1, 1, 0, 1, 0] 1 K { fr := fr76 a l c, bx := bx, E := E : St }) { fr := some (SV.raw (Value.func (Fn.yield rc.l) #[] #[])) :: none :: none :: none :: some (SV.slc 0 0 l c) :: none :: none :: some (SV.slc 2 0 1 1) :: some (I 1) :: some (I 0) :: some (B true) :: some (SV.loc 2 0) :: some (SV.slc 0 0 l c) :: some (SV.slc 0 0 l c) :: some (I (NI l)) :: some (I 0) :: n8 (n2 []), bx := [⟨5, .vals (vB zs), tot, true⟩, ⟨104, .lst [SV.raw (Value.int IntKind.u64 a)], 1, true⟩, ⟨22, .lst [SV.slc 0 0 l c], 1, true⟩, ⟨25, .lst [SV.slc 2 0 1 1], 1, true⟩], E := E : St })
  delta NI n2 n8
  exact Lp_re [some 0, some 1, some 2, some 3] (h) (wkG (Mem.le_refl _))
theorem ent79 {a : Int} {l c tot : Nat} {rc : Rc} {K : KT} {zs : List Int} (h : Lp (DY a l c rc) 8 Try.f79 [1, 0] 4 (fun _ bx E => Cn D1 8 Try.f76 [1, 1, 0, 1, 0] 1 K ⟨fr76 a l c, bx, E⟩) (sh79o a l c tot zs rc 0 E)) : EntB (DY a l c rc) 8 Try.f79 [.raw (.func (.yield rc.l) #[] #[]), .loc 3 0] (bx76 a l c tot zs) E (fun _ bx E => Cn D1 8 Try.f76 [1, 1, 0, 1, 0] 1 K ⟨fr76 a l c, bx, E⟩) := by
  refine same (by kernel_rfl) (?_ : Lp (DY a l c rc) 8 Try.f79 [1, 0] 4 (fun (x : SV) (bx : List Box) (E : Mem) => Cn D1 8 Try.f76 [1, 1, 0, 1, 0] 1 K { fr := fr76 a l c, bx := bx, E := E : St }) { fr := some (SV.raw (Value.func (Fn.yield rc.l) #[] #[])) :: some (SV.loc 3 0) :: none :: none :: none :: none :: none :: some (SV.slc 2 0 1 1) :: some (I 1) :: some (I 0) :: n16 [], bx := [⟨5, .vals (vB zs), tot, true⟩, ⟨104, .lst [SV.raw (Value.int IntKind.u64 a)], 1, true⟩, ⟨22, .lst [SV.slc 0 0 l c], 1, true⟩, ⟨25, .lst [SV.slc 2 0 1 1], 1, true⟩], E := E : St })
  delta n16
  exact Lp_re [some 0, some 1, some 2, some 3] (h) (wkG (Mem.le_refl _))
theorem cn76 {a n : Int} {l c tot : Nat} {K : KT} {zs : List Int} (h : K (.raw (.int .u64 n)) (bx76 n l c tot zs) E) : Pn D1 8 Try.f76 [1, 1, 0, 1, 0] 1 K ⟨fr76 a l c, bx76 n l c tot zs, E⟩ := by
  refine same (by kernel_rfl) (?_ : K (SV.raw (Value.int IntKind.u64 n)) [{ elem := 5, row := Row.vals (vB zs), total := tot, own := true : Box }, { elem := 104, row := Row.lst [SV.raw (Value.int IntKind.u64 n)], total := 1, own := true : Box }, { elem := 22, row := Row.lst [SV.slc 0 0 l c], total := 1, own := true : Box }, { elem := 25, row := Row.lst [SV.slc 2 0 1 1], total := 1, own := true : Box }] E)
  exact h
theorem lp79z {a n : Int} {l c tot : Nat} {rc : Rc} {K : KT} {zs : List Int} (hC : CxOK (DY a l c rc)) (h : Cn D1 8 Try.f76 [1, 1, 0, 1, 0] 1 K ⟨fr76 a l c, bx76 n l c tot zs, E⟩) : Lp (DY a l c rc) 8 Try.f79 [1, 0] 4 (fun _ bx E => Cn D1 8 Try.f76 [1, 1, 0, 1, 0] 1 K ⟨fr76 a l c, bx, E⟩) (sh79o n l c tot zs rc 1 E) :=
  Lp_ind (ι := Unit) hC (fun _ => sh79o n l c tot zs rc 1 E) (fun _ => 0) (fun _ _ => rnd79z h) ()
theorem lp79i {a n : Int} {l c j tot : Nat} {rc : Rc} {K : KT} {zs : List Int} (hC : CxOK (DY a l c rc)) (hz : (∀ z ∈ zs, 0 ≤ z ∧ z ≤ 255) ∧ zs.length = l ∧ l ≤ 100000) (hj : j ≤ l) (hn : n = fnvF a (zs.take j)) (h : Cn D1 8 Try.f76 [1, 1, 0, 1, 0] 1 K ⟨fr76 a l c, bx76 (fnvF a zs) l c tot zs, E⟩) : Lp (DY a l c rc) 8 Try.f79 [1, 0, 0, 1, 1, 0, 0, 1, 1, 0] 4 (fun _ bx E => Cn D1 8 Try.f76 [1, 1, 0, 1, 0] 1 K ⟨fr76 a l c, bx, E⟩) (sh79i n l c tot zs rc j E) := by
  subst hn
  exact Lp_ind hC (fun y : {y : Nat // y ≤ l} => sh79i (fnvF a (zs.take y.1)) l c tot zs rc y.1 E) (fun y => l - y.1) (fun y ih => rnd79i hz y.2 rfl (lp79z hC h) fun g => ih ⟨y.1 + 1, by omega⟩ (by show l - (_ + 1) < l - _; omega)) ⟨j, hj⟩
theorem lp79o {a : Int} {l c tot : Nat} {rc : Rc} {K : KT} {zs : List Int} (hC : CxOK (DY a l c rc)) (hz : (∀ z ∈ zs, 0 ≤ z ∧ z ≤ 255) ∧ zs.length = l ∧ l ≤ 100000) (h : Cn D1 8 Try.f76 [1, 1, 0, 1, 0] 1 K ⟨fr76 a l c, bx76 (fnvF a zs) l c tot zs, E⟩) : Lp (DY a l c rc) 8 Try.f79 [1, 0] 4 (fun _ bx E => Cn D1 8 Try.f76 [1, 1, 0, 1, 0] 1 K ⟨fr76 a l c, bx, E⟩) (sh79o a l c tot zs rc 0 E) :=
  Lp_ind (ι := Unit) hC (fun _ => sh79o a l c tot zs rc 0 E) (fun _ => 0) (fun _ _ => rnd79o (lp79i hC hz (Nat.zero_le _) rfl h)) ()
theorem b76 {KK : KT} {a : Int} {l c tot : Nat} {zs : List Int} (hz : (∀ z ∈ zs, 0 ≤ z ∧ z ≤ 255) ∧ zs.length = l ∧ l ≤ 100000) (h : KK (.raw (.int .u64 (fnvF a zs))) (bx76 (fnvF a zs) l c tot zs) E) : EntB D1 8 Try.f76 [.raw (.int .u64 a), .slc 0 0 l c] [⟨5, .vals (vB zs), tot, true⟩] E KK := by
  refine same (by kernel_rfl) (?_ : Ct D1 8 Try.f76 [1, 1, 0, 1, 0] 1 KK { fr := [some (SV.raw (Value.int IntKind.u64 a)), some (SV.slc 0 0 l c), none, none, some (SV.raw (Value.int IntKind.u64 (0 : Int))), some (SV.loc 1 0), none, some (SV.raw (Value.int IntKind.u64 a)), some (SV.slc 0 0 l c), some (SV.slc 2 0 1 1), some (SV.clo 79 [] [SV.loc 3 0]), none, none, none, none, none], bx := [⟨5, Row.vals (vB zs), tot, true⟩, ⟨104, Row.lst [SV.raw (Value.int IntKind.u64 a)], 1, true⟩, ⟨22, Row.lst [SV.slc 0 0 l c], 1, true⟩, ⟨25, Row.lst [SV.slc 2 0 1 1], 1, true⟩], E := E : St })
  exact RfY okD1 okD2 (by kernel_rfl) (by kernel_rfl) Try.func79 ⟨by kernel_rfl, by kernel_rfl⟩ (gf := 79) (gfn := Try.f79) (first := []) (caps := [.loc 3 0]) (m := 8) (fun rc hrc => ent79 (lp79o hrc hz (Cn_intro (cn76 h)))) rfl rfl
noncomputable def tabB76 : CallT := fun f args bx E K => match f with
  | 76 => d2 args fun x0 x1 => dN .u64 x0 fun a => match x1 with
    | .slc b 0 l c => sumD b l bx fun zs => K (.raw (.int .u64 (fnvF a zs))) bx E
    | _ => False
  | _ => False
theorem see_introN {K : KT} {vs : List Value} {tot : Nat} {bx : List Box} {r : Value} {y : Box} {more : List Box} (h : K (.raw r) bx E) (hy : y = ⟨5, .vals vs, tot, true⟩) : cloK 1 (fun s bx' E' => ∃ r : Value, s = .raw r ∧ bx' = [⟨5, .vals vs, tot, true⟩] ∧ K (.raw r) bx E') (.raw r) (y :: more) E := by
  subst hy
  exact cloK_intro [some 0] ⟨r, rfl, rfl, h⟩ (wkG (Mem.le_refl _))
theorem tabB76_ok : ∀ f args bx E K, tabB76 f args bx E K → CallSem Try.prog f args bx E K := by
  intro f args bx E K h
  unfold tabB76 at h
  split at h
  case h_2 => exact h.elim
  obtain ⟨x0, x1, rfl, h1⟩ := d2_elim h
  obtain ⟨a, rfl, h2⟩ := dN_elim h1
  clear h h1
  split at h2
  case h_2 => exact h2.elim
  rename_i b l c
  obtain ⟨tot, zs, hb, hz, h⟩ := sumD_elim h2
  exact CallSem.see (args' := [.raw (.int .u64 a), .slc 0 0 l c]) hb (by simp [SV.renL, SV.ren, renF]) (EntB.sem okD1 Try.func76 ⟨by kernel_rfl, by kernel_rfl⟩ (b76 hz (see_introN h rfl)))
noncomputable def D3 : Cx := { P := Try.prog, inl := fun f => List.contains [] f, tab := fun _ _ _ _ => False, isB := fun f => f == 76, tabB := tabB76, opt := { unroll := 0, carry := [] }, muts := mutsD }
theorem okD3 : CxOK D3 := CxOK.four (fun _ _ _ _ h => h.elim) (by kernel_rfl) (okInl (by kernel_rfl)) tabB76_ok
theorem b68 {KK : KT} {l c tot : Nat} {zs : List Int} (hz : (∀ z ∈ zs, 0 ≤ z ∧ z ≤ 255) ∧ zs.length = l ∧ l ≤ 100000) (h : KK (.raw (.int .u64 (sumF zs))) [⟨5, .vals (vB zs), tot, true⟩] E) : EntB D3 8 Try.f68 [.slc 0 0 l c] [⟨5, .vals (vB zs), tot, true⟩] E KK := by
  refine same (by kernel_rfl) (?_ : IntKind.u64 = IntKind.u64 ∧ ∃ (zs_1 : List Int), (5 = 5 ∧ vB zs = vB zs_1 ∧ List.length zs_1 = l ∧ l ≤ 100000 ∧ ∀ (z : Int), List.Mem z zs_1 → (0 : Int) ≤ z ∧ z ≤ (255 : Int)) ∧ KK (SV.raw (Value.int IntKind.u64 (fnvF (14695981039346656037 : Int) zs_1))) [{ elem := 5, row := Row.vals (vB zs), total := tot, own := true : Box }] E)
  exact ⟨rfl, zs, ⟨rfl, rfl, hz.2.1, hz.2.2, hz.1⟩, h⟩
noncomputable def tabBp : CallT := fun f args bx E K => match f with
  | 53 => d2 args fun x0 x1 => dN .u64 x0 fun n => dI x1 fun m => ((0 ≤ n ∧ n < 18446744073709551616) ∧ 0 ≤ m ∧ m ≤ 8) ∧ K (.slc bx.length 0 m.toNat m.toNat) (bx ++ [⟨5, .vals (vB (storF n m.toNat)), m.toNat * 1, true⟩]) E
  | 68 => d1 args fun x0 => match x0 with
    | .slc b 0 l c => sumD b l bx fun zs => K (.raw (.int .u64 (sumF zs))) bx E
    | _ => False
  | _ => False
theorem tabBp_ok : ∀ f args bx E K, tabBp f args bx E K → CallSem Try.prog f args bx E K := by
  intro f args bx E K h
  unfold tabBp at h
  split at h
  · obtain ⟨x0, x1, rfl, k1⟩ := d2_elim h
    obtain ⟨n, rfl, k2⟩ := dN_elim k1
    obtain ⟨m, rfl, k3⟩ := dI_elim k2
    clear h k1 k2
    obtain ⟨⟨h0, h1, h2⟩, h⟩ := k3
    obtain ⟨m, rfl⟩ : ∃ k : Nat, m = k := ⟨m.toNat, by omega⟩
    rw [Int.toNat_natCast] at h
    exact CallSem.own0 (argv := [.int .u64 n, .int .i64 m]) rfl (EntB.sem okJ3 Try.func53 ⟨by kernel_rfl, by kernel_rfl⟩ (b53 h0 (by omega) (cloK_intro [some 0] ⟨m, m, 5, _, m * 1, rfl, rfl, h⟩ (wkG (Mem.le_refl _)))))
  · obtain ⟨x0, rfl, k1⟩ := d1_elim h
    clear h
    split at k1
    case h_2 => exact k1.elim
    rename_i b l c
    obtain ⟨tot, zs, hb, hz, h⟩ := sumD_elim k1
    exact CallSem.see (args' := [.slc 0 0 l c]) hb (by simp [SV.renL, SV.ren, renF]) (EntB.sem okD3 Try.func68 ⟨by kernel_rfl, by kernel_rfl⟩ (b68 hz (see_introN h rfl)))
  · exact h.elim
def bodyF (ds : List Int) : List Int := storF (ds.length : Int) 2 ++ ds ++ storF (sumF (storF (ds.length : Int) 2 ++ ds)) 8
theorem hidB_ex : ∃ f : List Int → List Int, ∀ ds, f ds = bodyF ds := ⟨bodyF, fun _ => rfl⟩
noncomputable def hidB : List Int → List Int := hidB_ex.choose
theorem hidB_eq (ds : List Int) : hidB ds = bodyF ds := hidB_ex.choose_spec ds
theorem bodyF_len (ds : List Int) : (bodyF ds).length = ds.length + 10 := by simp [bodyF, storF_len]; omega
theorem app_byte {xs ys : List Int} (h : ∀ z ∈ xs, 0 ≤ z ∧ z ≤ 255) (g : ∀ z ∈ ys, 0 ≤ z ∧ z ≤ 255) : ∀ z ∈ xs ++ ys, 0 ≤ z ∧ z ≤ 255 := fun z hz => (List.mem_append.1 hz).elim (h z) (g z)
theorem bodyF_byte {ds : List Int} (h : ∀ z ∈ ds, 0 ≤ z ∧ z ≤ 255) : ∀ z ∈ bodyF ds, 0 ≤ z ∧ z ≤ 255 := app_byte (app_byte (storF_byte _ _) h) (storF_byte _ _)
theorem stepF_bd (s x : Int) : 0 ≤ stepF s x ∧ stepF s x < 18446744073709551616 := by
  unfold stepF
  generalize (IntKind.wrap .u64 (((BitVec.ofInt (IntKind.bits .u64) s ^^^ BitVec.ofInt (IntKind.bits .u64) x).toNat : Nat) : Int) * 1099511628211) = y
  rw [show IntKind.wrap .u64 y = y % 18446744073709551616 from rfl]; omega
theorem fnvF_bd : ∀ {zs : List Int} {s : Int}, 0 ≤ s ∧ s < 18446744073709551616 → 0 ≤ fnvF s zs ∧ fnvF s zs < 18446744073709551616
  | [], s, h => h
  | x :: zs, s, h => fnvF_bd (zs := zs) (stepF_bd s x)
theorem sumF_bd (zs : List Int) : 0 ≤ sumF zs ∧ sumF zs < 18446744073709551616 := fnvF_bd (by decide)
noncomputable def J7 : Cx := { P := Try.prog, inl := fun f => List.contains [] f, tab := fun _ _ _ _ => False, isB := fun f => f == 53 || f == 68, tabB := tabBp, opt := { unroll := 0, carry := [] }, muts := mutsD }
theorem okJ7 : CxOK J7 := CxOK.four (fun _ _ _ _ h => h.elim) (by kernel_rfl) (okInl (by kernel_rfl)) tabBp_ok
theorem j54 {b1 : Option Addr} {l2 : Nat} {c3 : Nat} {zs : List Int} (h0 : Bs E b1 l2 c3 zs) (h1 : l2 ≤ 70000) (h : ∀ (b' : Option Addr) (l' c' : Nat) (ys : List Int) (E' : Mem), Mem.le E E' → Hyp (ys = hidB zs) → Bs E' b' l' c' ys → K (L b' l' c') E') :
    Ent J7 8 Try.f54 [L b1 l2 c3] E K := by
  refine same (by kernel_rfl) (?_ : IntKind.u64 = IntKind.u64 ∧ (((0 : Int) ≤ IntKind.wrap IntKind.u64 (NI l2) ∧ IntKind.wrap IntKind.u64 (NI l2) < (18446744073709551616 : Int)) ∧ (0 : Int) ≤ (2 : Int) ∧ (2 : Int) ≤ (8 : Int)) ∧ Mem.le E E ∧ ∃ (cs : List Value), (cs = [] ∨ E (VS b1 l2 c3) cs) ∧ l2 * 1 ≤ List.length cs ∧ (∀ (x : Value), List.Mem x cs → Value.oneCell' x = true) ∧ 2 ≤ 2 ∧ 2 ≤ 2 ∧ 2 ≤ 2 ∧ req ((2 + l2) * 1 ≤ 140737488355328) (∀ (cap' tot' : Nat), 2 + l2 ≤ cap' → cap' * 1 ≤ tot' → ∃ (zs : List Int), (5 = 5 ∧ U8 (IntKind.wrap IntKind.u64 (NI l2) / (256 : Int) % (256 : Int)) :: U8 (IntKind.wrap IntKind.u64 (NI l2) / (1 : Int) % (256 : Int)) :: (List.take (l2 * 1) cs) = vB zs ∧ List.length zs = 2 + l2 ∧ 2 + l2 ≤ 100000 ∧ ∀ (z : Int), List.Mem z zs → (0 : Int) ≤ z ∧ z ≤ (255 : Int)) ∧ IntKind.u64 = IntKind.u64 ∧ (((0 : Int) ≤ sumF zs ∧ sumF zs < (18446744073709551616 : Int)) ∧ (0 : Int) ≤ (8 : Int) ∧ (8 : Int) ≤ (8 : Int)) ∧ Mem.le E E ∧ 8 ≤ 8 ∧ (∀ (x : Value), List.Mem x (vB (storF (sumF zs) (Int.toNat 8))) → Value.oneCell' x = true) ∧ (2 + l2) * 1 ≤ List.length (Row.cells (Row.vals (List.take 2 (vB (storF (IntKind.wrap IntKind.u64 (NI l2)) 2)) ++ List.take (l2 * 1) cs))) ∧ cap' * 1 ≤ tot' ∧ 2 + l2 ≤ cap' ∧ req ((2 + l2 + 8) * 1 ≤ 140737488355328) (∀ (cap' tot' : Nat), 2 + l2 + 8 ≤ cap' → cap' * 1 ≤ tot' → ∀ (base : Option Addr) (E' : Mem), Mem.le E E' → WinE E' base (List.take ((2 + l2) * 1) (List.take 2 (vB (storF (IntKind.wrap IntKind.u64 (NI l2)) 2)) ++ List.take (l2 * 1) cs) ++ List.take 8 (List.drop 0 (vB (storF (sumF zs) 8)))) → Mem.le E E' ∧ K (SV.raw (VS (Option.map (fun (x : Addr) => Addr.add x 0) base) (2 + l2 + 8) cap')) E')))
  delta NI U8 VS
  have hl := h0.2.1
  obtain ⟨t1, t2, t3⟩ := h0.src
  have ew : IntKind.wrap IntKind.u64 ((l2 : Nat) : Int) = (zs.length : Int) := by rw [wu64' (by omega), hl]
  rw [ew]
  have e1 : ∀ x : Value, x :: (Value.int IntKind.u8 ((zs.length : Int) / 1 % 256)) :: List.take (l2 * 1) (vB zs) = x :: (Value.int IntKind.u8 ((zs.length : Int) / 1 % 256)) :: vB zs := fun x => by rw [List.take_of_length_le (by simp [hl])]
  refine ⟨rfl, ⟨⟨by omega, by omega⟩, by decide, by decide⟩, Mem.le_refl _, _, t1, t2, t3, Nat.le_refl _, Nat.le_refl _, Nat.le_refl _, req_intro (by omega) (fun cap tot g1 g2 => ⟨storF (zs.length : Int) 2 ++ zs, ⟨rfl, e1 _, by simp [storF_len, hl], by omega, app_byte (storF_byte _ _) h0.2.2.2.1⟩, rfl, ⟨sumF_bd _, by decide, by decide⟩, Mem.le_refl _, Nat.le_refl _, vB_one _, ?_, g2, g1, req_intro (by omega) (fun cap2 tot2 g3 g4 base E' q w => ⟨q, h _ _ _ (bodyF zs) E' q (show _ = _ from (hidB_eq zs).symm) (Bs.win w ?_ (by rw [bodyF_len]; omega) g3 (bodyF_byte h0.2.2.2.1))⟩)⟩)⟩
  · show (2 + l2) * 1 ≤ (List.map SV.raw _).length
    simp [storF_len, hl]
  · rw [List.take_of_length_le (l := List.take 2 _ ++ _) (by simp [storF_len, hl]), List.take_of_length_le (l := vB (storF _ 2)) (by simp [storF_len]), List.take_of_length_le (l := vB zs) (by simp [hl]), List.drop_zero, List.take_of_length_le (l := vB (storF _ 8)) (by simp [storF_len])]
    simp [bodyF]
def RB : RowR (List Int) := fun E x r => ∃ (b : Option Addr) (l c : Nat), r = [.slice b l c] ∧ Bs E b l c x
theorem RB_ok : RowOK 1 RB := ⟨fun he h => let ⟨b, l, c, h1, h2⟩ := h; ⟨b, l, c, h1, h2.mono he⟩, fun h => by obtain ⟨b, l, c, rfl, _⟩ := h; rfl, fun h v hv => by
  obtain ⟨b, l, c, rfl, _⟩ := h
  simp only [List.mem_cons, List.not_mem_nil, or_false] at hv; subst hv; rfl, by decide⟩
abbrev BL (E : Mem) (b : Option Addr) (n c : Nat) (dss : List (List Int)) : Prop := SL RB E b n c dss
def areaF (s : Int) (l : Nat) : Nat := if validF s l ∧ ((l : Int) / s) % 2 = 0 ∧ 32 ≤ l then l / 2 else 0
def genF (zs : List Int) (p : Nat) : Int := numF ((zs.drop (p + 1)).take 4)
def usedF (h : Nat) (zs : List Int) : Int × Int :=
  let a : Int × Int := if zs.getD 0 0 = 90 then (0, genF zs 0) else (-1, -1)
  if zs.getD h 0 = 90 ∧ genF zs h > a.2 then ((h : Int), genF zs h) else a
def parseN : Nat → List Int → Option (List (List Int) × Nat)
  | 0, _ => some ([], 0)
  | f + 1, r =>
    if r = [] ∨ r.getD 0 0 = 255 then some ([], 0)
    else if r.getD 0 0 ≠ 90 ∨ r.length < 3 then none
    else if r.length < (numF ((r.drop 1).take 2)).toNat + 11 then none
    else if bodyF ((r.drop 3).take (numF ((r.drop 1).take 2)).toNat) ≠ (r.drop 1).take ((numF ((r.drop 1).take 2)).toNat + 10) then none
    else (parseN f (r.drop ((numF ((r.drop 1).take 2)).toNat + 11))).map fun q => ((r.drop 3).take (numF ((r.drop 1).take 2)).toNat :: q.1, (numF ((r.drop 1).take 2)).toNat + 11 + q.2)
def parseF (r : List Int) : Option (List (List Int) × Nat) := parseN r.length r
theorem parseN_fuel : ∀ (f g : Nat) (r : List Int), r.length ≤ f → r.length ≤ g → parseN f r = parseN g r
  | 0, 0, r, _, _ => rfl
  | 0, g + 1, r, h, _ => by
    have : r = [] := List.length_eq_zero_iff.1 (by omega)
    subst this
    simp [parseN]
  | f + 1, 0, r, _, h => by
    have : r = [] := List.length_eq_zero_iff.1 (by omega)
    subst this
    simp [parseN]
  | f + 1, g + 1, r, h1, h2 => by
    unfold parseN
    rw [parseN_fuel f g _ (by rw [List.length_drop]; omega) (by rw [List.length_drop]; omega)]
theorem parseF_step (r : List Int) : parseF r = if r = [] ∨ r.getD 0 0 = 255 then some ([], 0)
    else if r.getD 0 0 ≠ 90 ∨ r.length < 3 then none
    else if r.length < (numF ((r.drop 1).take 2)).toNat + 11 then none
    else if bodyF ((r.drop 3).take (numF ((r.drop 1).take 2)).toNat) ≠ (r.drop 1).take ((numF ((r.drop 1).take 2)).toNat + 10) then none
    else (parseF (r.drop ((numF ((r.drop 1).take 2)).toNat + 11))).map fun q => ((r.drop 3).take (numF ((r.drop 1).take 2)).toNat :: q.1, (numF ((r.drop 1).take 2)).toNat + 11 + q.2) := by
  unfold parseF
  rw [parseN_fuel r.length (r.length + 1) r (Nat.le_refl _) (Nat.le_succ _), parseN]
  rw [parseN_fuel r.length (r.drop ((numF ((r.drop 1).take 2)).toNat + 11)).length _ (by rw [List.length_drop]; omega) (Nat.le_refl _)]
def fromF (ys : List (List Int)) (k : Nat) (r : List Int) : Option (List (List Int) × Nat) := (parseF (r.drop k)).map fun q => (ys ++ q.1, k + q.2)
theorem fromF_0 (r : List Int) : fromF [] 0 r = parseF r := by
  unfold fromF
  rw [List.drop_zero]
  cases parseF r <;> simp
theorem getD_drop' (r : List Int) (k : Nat) : (r.drop k).getD 0 0 = r.getD k 0 := by
  rw [List.getD_eq_getElem?_getD, List.getD_eq_getElem?_getD, List.getElem?_drop, Nat.add_zero]
theorem fromF_end {ys : List (List Int)} {k : Nat} {r : List Int} (h : r.length ≤ k ∨ r.getD k 0 = 255) : fromF ys k r = some (ys, k) := by
  unfold fromF
  rw [parseF_step, if_pos (by rw [getD_drop']; exact h.imp_left List.drop_eq_nil_of_le)]
  simp
theorem drop_ne {r : List Int} {k : Nat} (h : k < r.length) (g : r.getD k 0 ≠ 255) : ¬ (r.drop k = [] ∨ (r.drop k).getD 0 0 = 255) := by
  rw [getD_drop']
  rintro (q | q)
  · rw [List.drop_eq_nil_iff] at q; omega
  · exact g q
theorem fromF_bad1 {ys : List (List Int)} {k : Nat} {r : List Int} (h : k < r.length) (g : r.getD k 0 ≠ 255) (b : r.getD k 0 ≠ 90 ∨ r.length < k + 3) : fromF ys k r = none := by
  unfold fromF
  rw [parseF_step, if_neg (drop_ne h g), if_pos (by rw [getD_drop', List.length_drop]; exact b.imp_right (fun q => by omega))]
  rfl
def lenF (r : List Int) (k : Nat) : Nat := (numF ((r.drop (k + 1)).take 2)).toNat
theorem lenF_drop (r : List Int) (k : Nat) : (numF (((r.drop k).drop 1).take 2)).toNat = lenF r k := by rw [List.drop_drop]; rfl
theorem fromF_bad2 {ys : List (List Int)} {k : Nat} {r : List Int} (h : k < r.length) (g : r.getD k 0 ≠ 255) (m : r.getD k 0 = 90) (l : k + 3 ≤ r.length) (b : r.length < k + lenF r k + 11) : fromF ys k r = none := by
  unfold fromF
  rw [parseF_step, if_neg (drop_ne h g), if_neg (by rw [getD_drop', List.length_drop, m]; omega), lenF_drop, if_pos (by rw [List.length_drop]; omega)]
  rfl
theorem fromF_bad3 {ys : List (List Int)} {k : Nat} {r : List Int} (h : k < r.length) (g : r.getD k 0 ≠ 255) (m : r.getD k 0 = 90) (l : k + lenF r k + 11 ≤ r.length)
    (b : bodyF ((r.drop (k + 3)).take (lenF r k)) ≠ (r.drop (k + 1)).take (lenF r k + 10)) : fromF ys k r = none := by
  unfold fromF
  rw [parseF_step, if_neg (drop_ne h g), if_neg (by rw [getD_drop', List.length_drop, m]; omega), lenF_drop, if_neg (by rw [List.length_drop]; omega), if_pos (by rw [List.drop_drop, List.drop_drop]; exact b)]
  rfl
theorem fromF_next {ys : List (List Int)} {k : Nat} {r : List Int} (h : k < r.length) (g : r.getD k 0 ≠ 255) (m : r.getD k 0 = 90) (l : k + lenF r k + 11 ≤ r.length)
    (b : bodyF ((r.drop (k + 3)).take (lenF r k)) = (r.drop (k + 1)).take (lenF r k + 10)) : fromF ys k r = fromF (ys ++ [(r.drop (k + 3)).take (lenF r k)]) (k + lenF r k + 11) r := by
  unfold fromF
  rw [parseF_step (r.drop k), if_neg (drop_ne h g), if_neg (by rw [getD_drop', List.length_drop, m]; omega), lenF_drop, if_neg (by rw [List.length_drop]; omega), if_neg (by rw [List.drop_drop, List.drop_drop]; exact fun q => q b)]
  rw [List.drop_drop, List.drop_drop, show k + (lenF r k + 11) = k + lenF r k + 11 by omega]
  cases parseF (r.drop (k + lenF r k + 11)) with
  | none => rfl
  | some q => simp; omega
def recsB (h at' : Nat) (zs : List Int) : List Int := (zs.drop (at' + 5)).take (h - 5)
def openF (s : Int) (zs : List Int) : (List (List Int) × Nat × Int × Nat) × Int :=
  if areaF s zs.length = 0 then (([], 0, 0, 0), 1)
  else if (usedF (areaF s zs.length) zs).1 < 0 then (([], 0, 0, 0), 4)
  else match parseF (recsB (areaF s zs.length) (usedF (areaF s zs.length) zs).1.toNat zs) with
    | none => (([], 0, 0, 0), 12)
    | some (l, n) => ((l, (usedF (areaF s zs.length) zs).1.toNat, (usedF (areaF s zs.length) zs).2, 5 + n), 0)
def readF (s : Int) (zs : List Int) : List (List Int) × Int := ((openF s zs).1.1, (openF s zs).2)
def cleanF (h at' e : Nat) (zs : List Int) : Bool := ((zs.drop (at' + e)).take (h - e)).all (fun x => decide (x = 255))
def chgF (l ms : List (Int × List Int)) : List (Int × List Int) := l ++ ms.drop 1
def lastM (l : List (Int × List Int)) : Int × List Int := l.getLastD (0, [])
def progL (l : List (Int × List Int)) (a : Nat) (ds : List Int) : List (Int × List Int) := chgF l (progF (lastM l).1 (lastM l).2 a ds).1
def erasL (l : List (Int × List Int)) (k : Nat) : List (Int × List Int) := chgF l (erasF (lastM l).1 (lastM l).2 k).1
def writeL (l : List (Int × List Int)) (a : Nat) (ds : List Int) : List (Int × List Int) := progL (progL l (a + 1) (bodyF ds)) a [90]
def erasesL (k : Nat) : Nat → List (Int × List Int) → List (Int × List Int)
  | 0, l => l
  | n + 1, l => erasL (erasesL k n l) (k + n)
def needF (keep : List (List Int)) : Nat := keep.foldl (fun n d => n + d.length + 11) 0
def writesL (k : Nat) (l : List (Int × List Int)) (keep : List (List Int)) : List (Int × List Int) × Nat := keep.foldl (fun q d => (writeL q.1 q.2 d, q.2 + d.length + 11)) (l, k)
def rewL (s : Int) (zs : List Int) (h at' : Nat) (g : Int) (keep : List (List Int)) : List (Int × List Int) :=
  progL (progL (writesL (h - at' + 5) (erasesL ((h - at') / s.toNat) (h / s.toNat) [(s, zs)]) keep).1 (h - at' + 1) (storF (g + 1) 4)) (h - at') [90]
def appendF (s : Int) (zs : List Int) (ds : List Int) : List (Int × List Int) × Int :=
  if (openF s zs).2 ≠ 0 then ([], (openF s zs).2)
  else match (openF s zs).1 with
    | (old, at', g, e) =>
      if e + ds.length + 11 > areaF s zs.length ∨ cleanF (areaF s zs.length) at' e zs = false ∧ g = 4294967295 then ([], 10)
      else if cleanF (areaF s zs.length) at' e zs then (writeL [(s, zs)] (at' + e) ds, 0)
      else (writeL (rewL s zs (areaF s zs.length) at' g old) (areaF s zs.length - at' + e) ds, 0)
def compactF (s : Int) (zs : List Int) (keep : List (List Int)) : List (Int × List Int) × Int :=
  if (openF s zs).2 ≠ 0 then ([], (openF s zs).2)
  else match (openF s zs).1 with
    | (_, at', g, _) =>
      if 5 + needF keep > areaF s zs.length ∨ g = 4294967295 then ([], 10)
      else (rewL s zs (areaF s zs.length) at' g keep, 0)
def formatF (s n : Int) : (Int × List Int) × Int :=
  if (newF s n).2 ≠ 0 ∨ areaF s (newF s n).1.2.length = 0 then ((0, []), 1) else ((s, [90, 0, 0, 0, 0] ++ (newF s n).1.2.drop 5), 0)
theorem BL.load {b : Option Addr} {n c : Nat} {dss : List (List Int)} (h : BL E b n c dss) {i : Nat} {ds : List Int} (hx : dss[i]? = some ds) :
    (∃ cs, E (.slice b n c) cs ∧ (cs = [] → False)) ∧ ∃ (b' : Option Addr) (l' c' : Nat), LoadE Try.prog E 22 (.slice b n c) (i * 1) (L b' l' c') ∧ Bs E b' l' c' ds := by
  have hi : i < n := by rw [← h.len]; exact (List.getElem?_eq_some_iff.1 hx).1
  refine ⟨h.ne RB_ok hi, ?_⟩
  obtain ⟨r, v, ⟨b', l', c', rfl, h2⟩, hv, h3⟩ := h.loadC RB_ok (P := Try.prog) (T := 22) rfl rfl hx (j := 0) (by decide)
  simp only [List.getElem?_cons_zero, Option.some.injEq] at hv
  subst hv
  exact ⟨b', l', c', h3, h2⟩
theorem BL.get {b : Option Addr} {n c : Nat} {dss : List (List Int)} (h : BL E b n c dss) {i : Nat} (hi : i < n) : ∃ ds, dss[i]? = some ds := ⟨_, List.getElem?_eq_getElem (by rw [h.len]; exact hi)⟩
theorem needF_take {dss : List (List Int)} {i : Nat} {d : List Int} (h : dss[i]? = some d) : needF (dss.take (i + 1)) = needF (dss.take i) + d.length + 11 := by
  unfold needF; rw [take_get' h]; simp
theorem needF_bd {dss : List (List Int)} {m : Nat} (h : ∀ d ∈ dss, d.length ≤ m) : needF dss ≤ dss.length * (m + 11) := by
  have key : ∀ (dss : List (List Int)) (n : Nat), (∀ d ∈ dss, d.length ≤ m) → dss.foldl (fun n d => n + d.length + 11) n ≤ n + dss.length * (m + 11) := by
    intro dss
    induction dss with
    | nil => intro n _; simp
    | cons d dss ih =>
      intro n hd
      have h1 := hd d (by simp)
      have h2 := ih (n + d.length + 11) (fun d' h' => hd d' (List.mem_cons_of_mem _ h'))
      simp only [List.foldl_cons, List.length_cons, Nat.add_mul, Nat.one_mul] at h2 ⊢
      omega
  have := key dss 0 h
  unfold needF; omega
noncomputable def K1 : Cx := { P := Try.prog, inl := fun f => List.contains [] f, tab := fun _ _ _ _ => False, isB := fun _ => false, tabB := fun _ _ _ _ _ => False, opt := { unroll := 0, carry := [5] }, muts := mutsD }
theorem okK1 : CxOK K1 := CxOK.four (fun _ _ _ _ h => h.elim) (by kernel_rfl) (okInl (by kernel_rfl)) (fun _ _ _ _ _ h => h.elim)
def sh38 (b : Option Addr) (l : Nat) (c : Nat) (d : Option Addr) (m : Nat) (e : Nat) (xs : List Int) (ys : List Int) (i : Nat) (E : Mem) : St := ⟨[some (L b l c), some (L d m e), none, none, none, some (I (i : Nat)), none, none, none, none, none, none, none, none, none, none, none, none, none, none, none, none, none, none, none, none], [], E⟩
theorem rnd38 {b : Option Addr} {l : Nat} {c : Nat} {d : Option Addr} {m : Nat} {e : Nat} {xs : List Int} {ys : List Int} {i : Nat} {E0 : Mem}  (hx : Bs E b l c xs) (hy : Bs E d m e ys) (hl : l ≤ 200000 ∧ l = m) (hi : i ≤ l ∧ xs.take i = ys.take i) (hE : Mem.le E0 E) (h : K (B (decide (xs = ys))) E)
    (ih : (i < l ∧ xs.take (i + 1) = ys.take (i + 1)) → Lp K1 8 Try.f38 [1, 1, 0, 1, 0] 0 (pubK E0 K) (sh38 b l c d m e xs ys (i + 1) E)) : Rnd K1 8 Try.f38 [1, 1, 0, 1, 0] 0 (pubK E0 K) (sh38 b l c d m e xs ys i E) := by
  refine same (by kernel_rfl) (?_ : bif decide ((NI i) < (NI l)) then req ((0 : Int) ≤ (NI i) ∧ (NI i) < (NI l)) ((∃ (cs : List Value), E (VS b l c) cs ∧ (cs = [] → False)) ∧ ∃ (n : Int), LoadE K1.P E 5 (VS b l c) (Int.toNat (NI i) * 1) (SV.raw (U8 n)) ∧ req ((0 : Int) ≤ (NI i) ∧ (NI i) < (NI m)) ((∃ (cs : List Value), E (VS d m e) cs ∧ (cs = [] → False)) ∧ ∃ (n_1 : Int), LoadE K1.P E 5 (VS d m e) (Int.toNat (NI i) * 1) (SV.raw (U8 n_1)) ∧ bif n != n_1 then Mem.le E0 E ∧ K (SV.raw (Value.bool false)) E else Lp K1 8 Try.f38 [1, 1, 0, 1, 0] 0 (pubK E0 K) { fr := some (L b l c) :: some (L d m e) :: none :: none :: none :: some (I (WI ((NI i) + (1 : Int)))) :: n16 (n4 []), bx := [], E := E : St })) else Mem.le E0 E ∧ K (SV.raw (Value.bool true)) E)
  delta WI NI U8 VS n4 n16
  have hn := hx.2.1
  have hm := hy.2.1
  refine condC (fun g => ?_) (fun g => ?_)
  · have g : i < l := by simpa using g
    obtain ⟨e1, b1, b2⟩ := Bs.get hx g
    obtain ⟨e2, b3, b4⟩ := Bs.get hy (i := i) (by omega)
    refine req_intro (by omega) ⟨Bs.ne hx g, xs.getD i 0, Bs.load hx rfl g, req_intro (by omega) ⟨Bs.ne hy (i := i) (by omega), ys.getD i 0, Bs.load hy rfl (i := i) (by omega), condC (fun q => ?_) (fun q => ?_)⟩⟩
    · have q : xs.getD i 0 ≠ ys.getD i 0 := by simpa using q
      rw [decide_eq_false (fun e => q (by rw [e]))] at h
      exact ⟨hE, h⟩
    · have q : xs.getD i 0 = ys.getD i 0 := by simpa using q
      rw [wrap_i64 (x := (i : Int) + 1) (by omega), show (i : Int) + 1 = ((i + 1 : Nat) : Int) by simp]
      exact Lp_re [] (ih ⟨g, by rw [take_get' e1, take_get' e2, hi.2, q]⟩) (wkG (Mem.le_refl _))
  · have g : i = l := by simp at g; omega
    subst g
    have hp := hi.2
    rw [List.take_of_length_le (by omega), List.take_of_length_le (by omega)] at hp
    rw [decide_eq_true hp] at h
    exact ⟨hE, h⟩
theorem lp38 {b : Option Addr} {l : Nat} {c : Nat} {d : Option Addr} {m : Nat} {e : Nat} {xs : List Int} {ys : List Int} {i : Nat} {E0 : Mem}  (hx : Bs E b l c xs) (hy : Bs E d m e ys) (hl : l ≤ 200000 ∧ l = m) (hi : i ≤ l ∧ xs.take i = ys.take i) (hE : Mem.le E0 E) (h : K (B (decide (xs = ys))) E) : Lp K1 8 Try.f38 [1, 1, 0, 1, 0] 0 (pubK E0 K) (sh38 b l c d m e xs ys i E) :=
  Lp_ind okK1 (fun q0 : {i : Nat // i ≤ l ∧ xs.take i = ys.take i} => sh38 b l c d m e xs ys q0.1 E) (fun q0 => l - q0.1) (fun q0 ih => rnd38 hx hy hl q0.2 hE h fun g => ih ⟨q0.1 + 1, ⟨by have := g.1; omega, g.2⟩⟩ (by show l - (_ + 1) < l - _; have := q0.2; omega)) ⟨i, hi⟩
theorem j38 {b1 : Option Addr} {l2 : Nat} {c3 : Nat} {b4 : Option Addr} {l5 : Nat} {c6 : Nat} {xs : List Int} {ys : List Int} (h0 : Bs E b1 l2 c3 xs) (h1 : Bs E b4 l5 c6 ys) (h2 : l2 ≤ 200000) (h : K (B (decide (xs = ys))) E) :
    Ent K1 8 Try.f38 [L b1 l2 c3, L b4 l5 c6] E K := by
  refine same (by kernel_rfl) (?_ : bif (NI l2) != (NI l5) then Mem.le E E ∧ K (SV.raw (Value.bool false)) E else Lp K1 8 Try.f38 [1, 1, 0, 1, 0] 0 (pubK E K) { fr := some (L b1 l2 c3) :: some (L b4 l5 c6) :: none :: none :: none :: some (I 0) :: some (L b1 l2 c3) :: some (I (NI l2)) :: some (L b4 l5 c6) :: some (I (NI l5)) :: some (B ((NI l2) != (NI l5))) :: n8 (n4 (n2 (none :: []))), bx := [], E := E : St })
  delta NI n2 n4 n8
  refine condC (fun g => ?_) (fun g => ?_)
  · have g : ¬ l2 = l5 := by simp at g; omega
    rw [decide_eq_false (fun e => g (by rw [← h0.2.1, ← h1.2.1, e]))] at h
    exact ⟨Mem.le_refl _, h⟩
  · have g : l2 = l5 := by simp at g; omega
    exact Lp_re [] (lp38 (i := 0) h0 h1 ⟨h2, g⟩ ⟨Nat.zero_le _, rfl⟩ (Mem.le_refl _) h) (wkG (Mem.le_refl _))
noncomputable def tab41 : FuncId → List SV → Mem → (SV → Mem → Prop) → Prop := fun f args E K => match f with
  | 41 => d1 args fun x0 => dC x0 fun l1 => d2 l1 fun x0_0 x0_1 => dI x0_0 fun a1 => dS x0_1 fun b2 l3 c4 => (K (B (decide (validF a1 l3))) E)
  | _ => False
theorem tab41_ok : TabOK Try.prog tab41 := by
  intro f args E K h
  unfold tab41 at h
  split at h
  · replace h := d1_elim h
    obtain ⟨x0, rfl, h⟩ := h
    replace h := dC_elim h
    obtain ⟨l1, hl1, h⟩ := h
    replace h := d2_elim h
    obtain ⟨x0_0, x0_1, rfl, h⟩ := h
    replace h := dI_elim h
    obtain ⟨a1, rfl, h⟩ := h
    replace h := dS_elim h
    obtain ⟨b2, l3, c4, rfl, h⟩ := h
    exact TabSem.congr (valL_cons (asCells_val hl1) rfl) (Ent.sem okF5 Try.func41 ⟨by kernel_rfl, by kernel_rfl⟩ rfl (s19 h))
  · exact h.elim
noncomputable def K2 : Cx := { P := Try.prog, inl := fun f => List.contains [] f, tab := tab41, isB := fun _ => false, tabB := fun _ _ _ _ _ => False, opt := { unroll := 0, carry := [] }, muts := mutsD }
theorem okK2 : CxOK K2 := CxOK.four tab41_ok (by kernel_rfl) (okInl (by kernel_rfl)) (fun _ _ _ _ _ h => h.elim)
theorem j28 {a1 : Int} {b2 : Option Addr} {l3 : Nat} {c4 : Nat} (h : K (I (areaF a1 l3 : Nat)) E) :
    Ent K2 8 Try.f28 [.agg [I a1, L b2 l3 c4]] E K := by
  refine same (by kernel_rfl) (?_ : Mem.le E E ∧ bif !decide (validF a1 l3) then Mem.le E E ∧ K (SV.raw (Value.int IntKind.i64 0)) E else ((2 : Int) = (0 : Int) → False) ∧ (a1 = (0 : Int) → False) ∧ ((2 : Int) = (0 : Int) → False) ∧ bif Int.tmod (WI (Int.tdiv (NI l3) a1)) (2 : Int) != (0 : Int) then Mem.le E E ∧ K (SV.raw (Value.int IntKind.i64 0)) E else bif bif false then true else decide (WI (Int.tdiv (NI l3) 2) < (16 : Int)) then Mem.le E E ∧ K (SV.raw (Value.int IntKind.i64 0)) E else Mem.le E E ∧ K (SV.raw (Value.int IntKind.i64 (WI (Int.tdiv (NI l3) 2)))) E)
  delta WI NI
  refine ⟨Mem.le_refl _, condC (fun g => ⟨Mem.le_refl _, ?_⟩) (fun g => ?_)⟩
  · have g : ¬ validF a1 l3 := by simpa using g
    rw [show areaF a1 l3 = 0 from if_neg (fun q => g q.1)] at h; exact h
  have g : validF a1 l3 := by simpa using g
  have gv := g
  unfold validF at gv
  obtain ⟨v1, v2, v3, v4, v5⟩ := gv
  have hd1 : (l3 : Int) / a1 ≤ l3 := Int.ediv_le_self _ (by omega)
  have hd0 : 0 ≤ (l3 : Int) / a1 := Int.ediv_nonneg (by omega) (by omega)
  have e1 : IntKind.wrap .i64 (Int.tdiv (l3 : Int) a1) = (l3 : Int) / a1 := by rw [Int.tdiv_eq_ediv_of_nonneg (by omega), wrap_i64 (by omega)]
  have e2 : IntKind.wrap .i64 (Int.tdiv (l3 : Int) 2) = ((l3 / 2 : Nat) : Int) := by rw [Int.tdiv_eq_ediv_of_nonneg (by omega), wrap_i64 (by omega)]; omega
  rw [e1, e2, Int.tmod_eq_emod_of_nonneg hd0]
  refine ⟨by decide, by omega, by decide, condC (fun q => ⟨Mem.le_refl _, ?_⟩) (fun q => condC (fun r => ⟨Mem.le_refl _, ?_⟩) (fun r => ⟨Mem.le_refl _, ?_⟩))⟩
  · have q : ¬ (l3 : Int) / a1 % 2 = 0 := by simpa using q
    rw [show areaF a1 l3 = 0 from if_neg (fun z => q z.2.1)] at h; exact h
  · have r : ((l3 / 2 : Nat) : Int) < 16 := by simpa using r
    rw [show areaF a1 l3 = 0 from if_neg (fun z => by have := z.2.2; omega)] at h; exact h
  · have q : (l3 : Int) / a1 % 2 = 0 := by simpa using q
    have r : ¬ ((l3 / 2 : Nat) : Int) < 16 := by simpa using r
    rw [show areaF a1 l3 = l3 / 2 from if_pos ⟨g, q, by omega⟩] at h; exact h
noncomputable def K3 : Cx := { P := Try.prog, inl := fun f => List.contains [] f, tab := fun _ _ _ _ => False, isB := fun _ => false, tabB := fun _ _ _ _ _ => False, opt := { unroll := 0, carry := [3, 4] }, muts := mutsD }
theorem okK3 : CxOK K3 := CxOK.four (fun _ _ _ _ h => h.elim) (by kernel_rfl) (okInl (by kernel_rfl)) (fun _ _ _ _ _ h => h.elim)
def sh25 (b : Option Addr) (l : Nat) (c : Nat) (dss : List (List Int)) (i : Nat) (E : Mem) : St := ⟨[some (L b l c), none, none, some (I (needF (dss.take i) : Nat)), some (I (i : Nat)), none, none, none, none, none, none, none, none, none, none, none, none, none, none, none], [], E⟩
theorem rnd25 {b : Option Addr} {l : Nat} {c : Nat} {dss : List (List Int)} {i : Nat} {E0 : Mem}  (hx : BL E b l c dss) (hd : ∀ d ∈ dss, d.length ≤ 100000) (hl : l ≤ 1000) (hi : i ≤ l) (hE : Mem.le E0 E) (h : K (I (needF dss : Nat)) E)
    (ih : (i < l) → Lp K3 8 Try.f25 [1, 1, 0, 1, 0] 0 (pubK E0 K) (sh25 b l c dss (i + 1) E)) : Rnd K3 8 Try.f25 [1, 1, 0, 1, 0] 0 (pubK E0 K) (sh25 b l c dss i E) := by
  refine same (by kernel_rfl) (?_ : bif decide ((NI i) < (NI l)) then req ((0 : Int) ≤ (NI i) ∧ (NI i) < (NI l)) ((∃ (cs : List Value), E (VS b l c) cs ∧ (cs = [] → False)) ∧ ∃ (base : Option Addr), ∃ (len : Nat), ∃ (cap : Nat), LoadE K3.P E 22 (VS b l c) (Int.toNat (NI i) * 1) (SV.raw (VS base len cap)) ∧ Lp K3 8 Try.f25 [1, 1, 0, 1, 0] 0 (pubK E0 K) { fr := some (L b l c) :: none :: none :: some (I (WI (WI ((NI (needF (List.take i dss))) + (NI len)) + (11 : Int)))) :: some (I (WI ((NI i) + (1 : Int)))) :: n8 (n4 (n2 (none :: []))), bx := [], E := E : St }) else Mem.le E0 E ∧ K (SV.raw (Value.int IntKind.i64 (NI (needF (List.take i dss))))) E)
  delta WI NI VS n2 n4 n8
  have hn := hx.len
  refine condC (fun g => ?_) (fun g => ?_)
  · have g : i < l := by simpa using g
    obtain ⟨ds, e1⟩ := hx.get g
    obtain ⟨p1, b', l', c', p2, p3⟩ := hx.load e1
    have q1 := hd ds (List.mem_of_getElem? e1)
    have q2 := p3.2.1
    have q3 := needF_bd (dss := dss.take i) (m := 100000) (fun d h => hd d (List.mem_of_mem_take h))
    have q4 : (dss.take i).length * (100000 + 11) ≤ 1000 * 100011 := Nat.mul_le_mul (by rw [List.length_take]; omega) (Nat.le_refl _)
    refine req_intro (by omega) ⟨p1, b', l', c', p2, ?_⟩
    rw [wrap_i64 (x := ((needF (dss.take i) : Nat) : Int) + (l' : Nat)) (by omega), wrap_i64 (x := ((needF (dss.take i) : Nat) : Int) + (l' : Nat) + 11) (by omega), wrap_i64 (x := (i : Int) + 1) (by omega), show (i : Int) + 1 = ((i + 1 : Nat) : Int) by simp, show ((needF (dss.take i) : Nat) : Int) + (l' : Nat) + 11 = ((needF (dss.take (i + 1)) : Nat) : Int) by rw [needF_take e1]; omega]
    exact Lp_re [] (ih g) (wkG (Mem.le_refl _))
  · have g : i = l := by simp at g; omega
    subst g
    rw [List.take_of_length_le (by omega)]
    exact ⟨hE, h⟩
theorem lp25 {b : Option Addr} {l : Nat} {c : Nat} {dss : List (List Int)} {i : Nat} {E0 : Mem}  (hx : BL E b l c dss) (hd : ∀ d ∈ dss, d.length ≤ 100000) (hl : l ≤ 1000) (hi : i ≤ l) (hE : Mem.le E0 E) (h : K (I (needF dss : Nat)) E) : Lp K3 8 Try.f25 [1, 1, 0, 1, 0] 0 (pubK E0 K) (sh25 b l c dss i E) :=
  Lp_ind okK3 (fun q0 : {i : Nat // i ≤ l} => sh25 b l c dss q0.1 E) (fun q0 => l - q0.1) (fun q0 ih => rnd25 hx hd hl q0.2 hE h fun g => ih ⟨q0.1 + 1, by have := q0.2; omega⟩ (by show l - (_ + 1) < l - _; have := q0.2; omega)) ⟨i, hi⟩
theorem j25 {b1 : Option Addr} {l2 : Nat} {c3 : Nat} {dss : List (List Int)} (h0 : BL E b1 l2 c3 dss) (h1 : (∀ d ∈ dss, d.length ≤ 100000)) (h2 : l2 ≤ 1000) (h : K (I (needF dss : Nat)) E) :
    Ent K3 8 Try.f25 [L b1 l2 c3] E K := by
  refine same (by kernel_rfl) (?_ : Lp K3 8 Try.f25 [1, 1, 0, 1, 0] 0 (pubK E K) { fr := some (L b1 l2 c3) :: none :: some (I 0) :: some (I 0) :: some (I 0) :: n8 (n4 (n2 (none :: []))), bx := [], E := E : St })
  delta n2 n4 n8
  exact Lp_re [] (lp25 (i := 0) h0 h1 h2 (Nat.zero_le _) (Mem.le_refl _) h) (wkG (Mem.le_refl _))
noncomputable def tab38 : FuncId → List SV → Mem → (SV → Mem → Prop) → Prop := fun f args E K => match f with
  | 38 => d2 args fun x0 x1 => dS x0 fun b1 l2 c3 => dS x1 fun b4 l5 c6 => ∃ (xs : List Int) (ys : List Int), Bs E b1 l2 c3 xs ∧ Bs E b4 l5 c6 ys ∧ l2 ≤ 200000 ∧ (K (B (decide (xs = ys))) E)
  | _ => False
theorem tab38_ok : TabOK Try.prog tab38 := by
  intro f args E K h
  unfold tab38 at h
  split at h
  · replace h := d2_elim h
    obtain ⟨x0, x1, rfl, h⟩ := h
    replace h := dS_elim h
    obtain ⟨b1, l2, c3, rfl, h⟩ := h
    replace h := dS_elim h
    obtain ⟨b4, l5, c6, rfl, h⟩ := h
    obtain ⟨xs, ys, g0, g1, g2, h⟩ := h
    exact TabSem.congr (valL_cons rfl (valL_cons rfl rfl)) (Ent.sem okK1 Try.func38 ⟨by kernel_rfl, by kernel_rfl⟩ rfl (j38 g0 g1 g2 h))
  · exact h.elim
noncomputable def K4 : Cx := { P := Try.prog, inl := fun f => List.contains [] f, tab := tab38, isB := fun _ => false, tabB := fun _ _ _ _ _ => False, opt := { unroll := 0, carry := [5] }, muts := mutsD }
theorem okK4 : CxOK K4 := CxOK.four tab38_ok (by kernel_rfl) (okInl (by kernel_rfl)) (fun _ _ _ _ _ h => h.elim)
def sh21 (b : Option Addr) (l : Nat) (c : Nat) (d : Option Addr) (m : Nat) (e : Nat) (xs : List (List Int)) (ys : List (List Int)) (i : Nat) (E : Mem) : St := ⟨[some (L b l c), some (L d m e), none, none, none, some (I (i : Nat)), none, none, none, none, none, none, none, none, none, none, none, none, none, none, none, none, none, none, none, none, none], [], E⟩
theorem rnd21 {b : Option Addr} {l : Nat} {c : Nat} {d : Option Addr} {m : Nat} {e : Nat} {xs : List (List Int)} {ys : List (List Int)} {i : Nat} {E0 : Mem}  (hx : BL E b l c xs) (hy : BL E d m e ys) (hd : ∀ d ∈ xs, d.length ≤ 100000) (hl : l ≤ 100000 ∧ l = m) (hi : i ≤ l ∧ xs.take i = ys.take i) (hE : Mem.le E0 E) (h : K (B (decide (xs = ys))) E)
    (ih : (i < l ∧ xs.take (i + 1) = ys.take (i + 1)) → Lp K4 8 Try.f21 [1, 1, 0, 1, 0] 0 (pubK E0 K) (sh21 b l c d m e xs ys (i + 1) E)) : Rnd K4 8 Try.f21 [1, 1, 0, 1, 0] 0 (pubK E0 K) (sh21 b l c d m e xs ys i E) := by
  refine same (by kernel_rfl) (?_ : bif decide ((NI i) < (NI l)) then req ((0 : Int) ≤ (NI i) ∧ (NI i) < (NI l)) ((∃ (cs : List Value), E (VS b l c) cs ∧ (cs = [] → False)) ∧ ∃ (base : Option Addr), ∃ (len : Nat), ∃ (cap : Nat), LoadE K4.P E 22 (VS b l c) (Int.toNat (NI i) * 1) (SV.raw (VS base len cap)) ∧ req ((0 : Int) ≤ (NI i) ∧ (NI i) < (NI m)) ((∃ (cs : List Value), E (VS d m e) cs ∧ (cs = [] → False)) ∧ ∃ (base_1 : Option Addr), ∃ (len_1 : Nat), ∃ (cap_1 : Nat), LoadE K4.P E 22 (VS d m e) (Int.toNat (NI i) * 1) (SV.raw (VS base_1 len_1 cap_1)) ∧ ∃ (xs : List Int), ∃ (ys : List Int), Bs E base len cap xs ∧ Bs E base_1 len_1 cap_1 ys ∧ len ≤ 200000 ∧ Mem.le E E ∧ bif !decide (xs = ys) then Mem.le E0 E ∧ K (SV.raw (Value.bool false)) E else Lp K4 8 Try.f21 [1, 1, 0, 1, 0] 0 (pubK E0 K) { fr := some (L b l c) :: some (L d m e) :: none :: none :: none :: some (I (WI ((NI i) + (1 : Int)))) :: n16 (n4 (none :: [])), bx := [], E := E : St })) else Mem.le E0 E ∧ K (SV.raw (Value.bool true)) E)
  delta WI NI VS n4 n16
  have hn := hx.len
  have hm := hy.len
  refine condC (fun g => ?_) (fun g => ?_)
  · have g : i < l := by simpa using g
    obtain ⟨x, e1⟩ := hx.get g
    obtain ⟨y, e2⟩ := hy.get (i := i) (by omega)
    obtain ⟨p1, b1, l1, c1, p2, p3⟩ := hx.load e1
    obtain ⟨q1, b2, l2, c2, q2, q3⟩ := hy.load e2
    refine req_intro (by omega) ⟨p1, b1, l1, c1, p2, req_intro (by omega) ⟨q1, b2, l2, c2, q2, x, y, p3, q3, by have := hd x (List.mem_of_getElem? e1); have := p3.2.1; omega, Mem.le_refl _, condC (fun q => ?_) (fun q => ?_)⟩⟩
    · have q : x ≠ y := by simpa using q
      rw [decide_eq_false (fun e => q (by subst e; rw [e1] at e2; exact Option.some.inj e2))] at h
      exact ⟨hE, h⟩
    · have q : x = y := by simpa using q
      rw [wrap_i64 (x := (i : Int) + 1) (by omega), show (i : Int) + 1 = ((i + 1 : Nat) : Int) by simp]
      exact Lp_re [] (ih ⟨g, by rw [take_get' e1, take_get' e2, hi.2, q]⟩) (wkG (Mem.le_refl _))
  · have g : i = l := by simp at g; omega
    subst g
    have hp := hi.2
    rw [List.take_of_length_le (by omega), List.take_of_length_le (by omega)] at hp
    rw [decide_eq_true hp] at h
    exact ⟨hE, h⟩
theorem lp21 {b : Option Addr} {l : Nat} {c : Nat} {d : Option Addr} {m : Nat} {e : Nat} {xs : List (List Int)} {ys : List (List Int)} {i : Nat} {E0 : Mem}  (hx : BL E b l c xs) (hy : BL E d m e ys) (hd : ∀ d ∈ xs, d.length ≤ 100000) (hl : l ≤ 100000 ∧ l = m) (hi : i ≤ l ∧ xs.take i = ys.take i) (hE : Mem.le E0 E) (h : K (B (decide (xs = ys))) E) : Lp K4 8 Try.f21 [1, 1, 0, 1, 0] 0 (pubK E0 K) (sh21 b l c d m e xs ys i E) :=
  Lp_ind okK4 (fun q0 : {i : Nat // i ≤ l ∧ xs.take i = ys.take i} => sh21 b l c d m e xs ys q0.1 E) (fun q0 => l - q0.1) (fun q0 ih => rnd21 hx hy hd hl q0.2 hE h fun g => ih ⟨q0.1 + 1, ⟨by have := g.1; omega, g.2⟩⟩ (by show l - (_ + 1) < l - _; have := q0.2; omega)) ⟨i, hi⟩
theorem j21 {b1 : Option Addr} {l2 : Nat} {c3 : Nat} {b4 : Option Addr} {l5 : Nat} {c6 : Nat} {xss : List (List Int)} {yss : List (List Int)} (h0 : BL E b1 l2 c3 xss) (h1 : BL E b4 l5 c6 yss) (h2 : (∀ d ∈ xss, d.length ≤ 100000)) (h3 : l2 ≤ 100000) (h : K (B (decide (xss = yss))) E) :
    Ent K4 8 Try.f21 [L b1 l2 c3, L b4 l5 c6] E K := by
  refine same (by kernel_rfl) (?_ : bif (NI l2) != (NI l5) then Mem.le E E ∧ K (SV.raw (Value.bool false)) E else Lp K4 8 Try.f21 [1, 1, 0, 1, 0] 0 (pubK E K) { fr := some (L b1 l2 c3) :: some (L b4 l5 c6) :: none :: none :: none :: some (I 0) :: some (L b1 l2 c3) :: some (I (NI l2)) :: some (L b4 l5 c6) :: some (I (NI l5)) :: some (B ((NI l2) != (NI l5))) :: n16 [], bx := [], E := E : St })
  delta NI n16
  refine condC (fun g => ?_) (fun g => ?_)
  · have g : ¬ l2 = l5 := by simp at g; omega
    rw [decide_eq_false (fun e => g (by rw [← h0.len, ← h1.len, e]))] at h
    exact ⟨Mem.le_refl _, h⟩
  · have g : l2 = l5 := by simp at g; omega
    exact Lp_re [] (lp21 (i := 0) h0 h1 h2 ⟨h3, g⟩ ⟨Nat.zero_le _, rfl⟩ (Mem.le_refl _) h) (wkG (Mem.le_refl _))
theorem Bs.sub {E E' : Mem} {b b' : Option Addr} {l c lo hi : Nat} {zs : List Int} (h : Bs E b l c zs)
    (hF : ∀ cs, E (.slice b l c) cs → E' (.slice b' (hi - lo) (c - lo)) (List.take ((hi - lo) * 1) (List.drop (lo * 1) cs))) (hN : b'.isNone = b.isNone) (h1 : lo ≤ hi) (h2 : hi ≤ l) : Bs E' b' (hi - lo) (c - lo) ((zs.drop lo).take (hi - lo)) := by
  have hlen := h.2.1
  refine ⟨?_, by rw [List.length_take, List.length_drop, hlen]; omega, by have := h.2.2.1; omega, fun z hz => h.2.2.2.1 z (List.drop_subset _ _ (List.take_subset _ _ hz)), fun e => ?_⟩
  · rcases h.1 with q | q
    · exact .inl (by rw [q]; simp)
    · refine .inr ?_
      have := hF _ q
      rw [Nat.mul_one, Nat.mul_one, ← List.map_drop, ← List.map_take] at this
      exact this
  · have : zs = [] := h.2.2.2.2 (by cases b with | none => rfl | some x => rw [e] at hN; cases hN)
    rw [this]; simp
theorem areaF_ok {s : Int} {l : Nat} (h : areaF s l ≠ 0) : areaF s l = l / 2 ∧ validF s l ∧ ((l : Int) / s) % 2 = 0 ∧ 32 ≤ l ∧ 2 * areaF s l = l ∧ l ≤ 16384 := by
  unfold areaF at h ⊢
  split
  · rename_i g
    refine ⟨rfl, g.1, g.2.1, g.2.2, ?_, g.1.2.2.2.1⟩
    obtain ⟨⟨v1, v2, v3, v4, v5⟩, g2, g3⟩ := g
    have e := Int.mul_ediv_add_emod (l : Int) s
    rw [v5] at e
    obtain ⟨k, hk⟩ : ∃ k : Int, (l : Int) / s = 2 * k := ⟨(l : Int) / s / 2, by omega⟩
    rw [hk, Int.mul_left_comm] at e
    omega
  · rename_i g; rw [if_neg g] at h; exact absurd rfl h
noncomputable def tab24 : FuncId → List SV → Mem → (SV → Mem → Prop) → Prop := fun f args E K => match f with
  | 28 => d1 args fun x0 => dC x0 fun l1 => d2 l1 fun x0_0 x0_1 => dI x0_0 fun a1 => dS x0_1 fun b2 l3 c4 => (K (I (areaF a1 l3 : Nat)) E)
  | 39 => d1 args fun x0 => dS x0 fun b1 l2 c3 => ∃ (zs : List Int), Bs E b1 l2 c3 zs ∧ l2 ≤ 4 ∧ (K (I (numF zs)) E)
  | _ => False
theorem tab24_ok : TabOK Try.prog tab24 := by
  intro f args E K h
  unfold tab24 at h
  split at h
  · replace h := d1_elim h
    obtain ⟨x0, rfl, h⟩ := h
    replace h := dC_elim h
    obtain ⟨l1, hl1, h⟩ := h
    replace h := d2_elim h
    obtain ⟨x0_0, x0_1, rfl, h⟩ := h
    replace h := dI_elim h
    obtain ⟨a1, rfl, h⟩ := h
    replace h := dS_elim h
    obtain ⟨b2, l3, c4, rfl, h⟩ := h
    exact TabSem.congr (valL_cons (asCells_val hl1) rfl) (Ent.sem okK2 Try.func28 ⟨by kernel_rfl, by kernel_rfl⟩ rfl (j28 h))
  · replace h := d1_elim h
    obtain ⟨x0, rfl, h⟩ := h
    replace h := dS_elim h
    obtain ⟨b1, l2, c3, rfl, h⟩ := h
    obtain ⟨zs, g0, g1, h⟩ := h
    exact TabSem.congr (valL_cons rfl rfl) (Ent.sem okJ2 Try.func39 ⟨by kernel_rfl, by kernel_rfl⟩ rfl (s39 g0 g1 h))
  · exact h.elim
theorem slice_intro {E : Mem} {b : Option Addr} {l c lo hi : Nat} {zs : List Int} (h : Bs E b l c zs) {X Y : Int} (eX : X = (lo : Nat)) (eY : Y = (hi : Nat)) (h1 : lo ≤ hi) (h2 : hi ≤ l) {Q : Option Addr → Mem → Prop}
    (k : ∀ (b' : Option Addr) (E' : Mem), Mem.le E E' → Bs E' b' (toN (some Y) l - toN (some X) 0) (toN none c - toN (some X) 0) ((zs.drop lo).take (hi - lo)) → toN (some Y) l - toN (some X) 0 = hi - lo → Q b' E') :
    req (l ≤ c) (req (0 ≤ Y ∧ Y ≤ ((toN none c : Nat) : Int)) (req (0 ≤ X ∧ X ≤ ((toN (some Y) l : Nat) : Int)) (∀ (b' : Option Addr) (E' : Mem), Mem.le E E' →
      (∀ cs : List Value, E (.slice b l c) cs → E' (.slice b' (toN (some Y) l - toN (some X) 0) (toN none c - toN (some X) 0)) (List.take ((toN (some Y) l - toN (some X) 0) * 1) (List.drop (toN (some X) 0 * 1) cs))) → b'.isNone = b.isNone → Q b' E'))) := by
  subst eX; subst eY
  have e1 : toN (some ((lo : Nat) : Int)) 0 = lo := Int.toNat_natCast lo
  have e2 : toN (some ((hi : Nat) : Int)) l = hi := Int.toNat_natCast hi
  have e3 : toN none c = c := rfl
  have h3 := h.2.2.1
  rw [e1, e2, e3] at k ⊢
  exact req_intro h3 (req_intro (by omega) (req_intro (by omega) fun b' E' q1 q2 q3 => k b' E' q1 (Bs.sub h q2 q3 h1 h2) rfl))
theorem slice_introE {E : Mem} {b : Option Addr} {l c lo : Nat} {zs : List Int} (h : Bs E b l c zs) {X : Int} (eX : X = (lo : Nat)) (h1 : lo ≤ l) {Q : Option Addr → Mem → Prop}
    (k : ∀ (b' : Option Addr) (E' : Mem), Mem.le E E' → Bs E' b' (toN none l - toN (some X) 0) (toN none c - toN (some X) 0) (zs.drop lo) → toN none l - toN (some X) 0 = l - lo → Q b' E') :
    req (l ≤ c) (req (0 ≤ X ∧ X ≤ ((toN none l : Nat) : Int)) (∀ (b' : Option Addr) (E' : Mem), Mem.le E E' →
      (∀ cs : List Value, E (.slice b l c) cs → E' (.slice b' (toN none l - toN (some X) 0) (toN none c - toN (some X) 0)) (List.take ((toN none l - toN (some X) 0) * 1) (List.drop (toN (some X) 0 * 1) cs))) → b'.isNone = b.isNone → Q b' E')) := by
  subst eX
  have e1 : toN (some ((lo : Nat) : Int)) 0 = lo := Int.toNat_natCast lo
  have e2 : toN none l = l := rfl
  have e3 : toN none c = c := rfl
  have h3 := h.2.2.1
  have hz := h.2.1
  rw [e1, e2, e3] at k ⊢
  refine req_intro h3 (req_intro (by omega) fun b' E' q1 q2 q3 => k b' E' q1 ?_ rfl)
  have := Bs.sub h q2 q3 h1 (Nat.le_refl _)
  rw [List.take_of_length_le (by rw [List.length_drop]; omega)] at this
  exact this
def stepU (h : Nat) (zs : List Int) (i : Nat) (a : Int × Int) : Int × Int := if zs.getD (i * h) 0 = 90 ∧ genF zs (i * h) > a.2 then (((i * h : Nat) : Int), genF zs (i * h)) else a
theorem genF_bd {zs : List Int} (hz : ∀ z ∈ zs, 0 ≤ z ∧ z ≤ 255) (p : Nat) : 0 ≤ genF zs p ∧ genF zs p < 4294967296 := by
  have hz' : ∀ z ∈ (zs.drop (p + 1)).take 4, 0 ≤ z ∧ z ≤ 255 := fun z h => hz z (List.drop_subset _ _ (List.take_subset _ _ h))
  have := numF_small (zs := (zs.drop (p + 1)).take 4) hz' rfl (by rw [List.length_take]; omega) 4
  rw [List.take_of_length_le (by rw [List.length_take]; omega)] at this
  exact this
theorem usedF_step {h : Nat} {zs : List Int} (hz : ∀ z ∈ zs, 0 ≤ z ∧ z ≤ 255) : usedF h zs = stepU h zs 1 (stepU h zs 0 (-1, -1)) := by
  have h0 := genF_bd hz 0
  have e : stepU h zs 0 (-1, -1) = if zs.getD 0 0 = 90 then (0, genF zs 0) else (-1, -1) := by
    unfold stepU
    rw [Nat.zero_mul]
    by_cases g : zs.getD 0 0 = 90
    · rw [if_pos g, if_pos ⟨g, by show genF zs 0 > -1; omega⟩]; rfl
    · rw [if_neg g, if_neg (fun q => g q.1)]
  rw [e]
  unfold usedF stepU
  rw [Nat.one_mul]
noncomputable def K5 : Cx := { P := Try.prog, inl := fun f => List.contains [] f, tab := tab24, isB := fun _ => false, tabB := fun _ _ _ _ _ => False, opt := { unroll := 0, carry := [5, 6, 7] }, muts := mutsD }
theorem okK5 : CxOK K5 := CxOK.four tab24_ok (by kernel_rfl) (okInl (by kernel_rfl)) (fun _ _ _ _ _ h => h.elim)
def sh24 (s : Int) (b : Option Addr) (l c h : Nat) (u g : Int) (i : Nat) (E : Mem) : St := ⟨[none, some (.loc 0 0), none, none, some (I (h : Nat)), some (I u), some (I g), some (I (i : Nat)), none, none, none, none, none, none, none, none, none, none, none, none, none, none, none, none, none, none, none, none, none, none, none, none, none, none, none, none, none, none, none, none, none, none, none, none, none, none], [⟨24, .lst [I s, L b l c], 2, true⟩], E⟩
theorem rnd24 {s : Int} {b : Option Addr} {l c h : Nat} {u g : Int} {i : Nat} {E0 : Mem} {zs : List Int} (hz : Bs E b l c zs) (hh : 2 * h = l ∧ 16 ≤ h ∧ l ≤ 16384) (hi : i < 2) (hE : Mem.le E0 E)
    (ih : ∀ (u' g' : Int) (E' : Mem), Mem.le E0 E' → Mem.le E E' → stepU h zs i (u, g) = (u', g') → Lp K5 8 Try.f24 [1, 1, 1, 1, 0, 1, 0] 0 (pubK E0 K) (sh24 s b l c h u' g' (i + 1) E')) : Rnd K5 8 Try.f24 [1, 1, 1, 1, 0, 1, 0] 0 (pubK E0 K) (sh24 s b l c h u g i E) := by
  refine same (by kernel_rfl) (?_ : bif decide ((NI i) < (2 : Int)) then req (l ≤ c) (req ((0 : Int) ≤ WI (WI ((NI i) * (NI h)) + (5 : Int)) ∧ WI (WI ((NI i) * (NI h)) + (5 : Int)) ≤ (NI (toN none c))) (req ((0 : Int) ≤ WI (WI ((NI i) * (NI h)) + (1 : Int)) ∧ WI (WI ((NI i) * (NI h)) + (1 : Int)) ≤ (NI (toN (some (WI (WI ((NI i) * (NI h)) + (5 : Int)))) l))) (∀ (base' : Option Addr) (E' : Mem), Mem.le E E' → (∀ (cs : List Value), E (VS b l c) cs → E' (VS base' (toN (some (WI (WI ((NI i) * (NI h)) + (5 : Int)))) l - toN (some (WI (WI ((NI i) * (NI h)) + (1 : Int)))) 0) (toN none c - toN (some (WI (WI ((NI i) * (NI h)) + (1 : Int)))) 0)) (List.take ((toN (some (WI (WI ((NI i) * (NI h)) + (5 : Int)))) l - toN (some (WI (WI ((NI i) * (NI h)) + (1 : Int)))) 0) * 1) (List.drop (toN (some (WI (WI ((NI i) * (NI h)) + (1 : Int)))) 0 * 1) cs))) → Option.isNone base' = Option.isNone b → ∃ (zs : List Int), Bs E' base' (toN (some (WI (WI ((NI i) * (NI h)) + (5 : Int)))) l - toN (some (WI (WI ((NI i) * (NI h)) + (1 : Int)))) 0) (toN none c - toN (some (WI (WI ((NI i) * (NI h)) + (1 : Int)))) 0) zs ∧ toN (some (WI (WI ((NI i) * (NI h)) + (5 : Int)))) l - toN (some (WI (WI ((NI i) * (NI h)) + (1 : Int)))) 0 ≤ 4 ∧ Mem.le E' E' ∧ req ((0 : Int) ≤ WI ((NI i) * (NI h)) ∧ WI ((NI i) * (NI h)) < (NI l)) ((∃ (cs : List Value), E' (VS b l c) cs ∧ (cs = [] → False)) ∧ ∃ (n : Int), LoadE K5.P E' 5 (VS b l c) (Int.toNat (WI ((NI i) * (NI h))) * 1) (SV.raw (U8 n)) ∧ bif n == (90 : Int) then bif bif true then decide (numF zs > g) else false then Lp K5 8 Try.f24 [1, 1, 1, 1, 0, 1, 0] 0 (pubK E0 K) { fr := none :: some (SV.loc 0 0) :: none :: none :: some (I (NI h)) :: some (I (WI ((NI i) * (NI h)))) :: some (I (numF zs)) :: some (I (WI ((NI i) + (1 : Int)))) :: n32 (n4 (n2 [])), bx := [⟨24, .lst [I s, L b l c], 2, true⟩], E := E' : St } else Lp K5 8 Try.f24 [1, 1, 1, 1, 0, 1, 0] 0 (pubK E0 K) { fr := none :: some (SV.loc 0 0) :: none :: none :: some (I (NI h)) :: some (I u) :: some (I g) :: some (I (WI ((NI i) + (1 : Int)))) :: n32 (n4 (n2 [])), bx := [⟨24, .lst [I s, L b l c], 2, true⟩], E := E' : St } else Lp K5 8 Try.f24 [1, 1, 1, 1, 0, 1, 0] 0 (pubK E0 K) { fr := none :: some (SV.loc 0 0) :: none :: none :: some (I (NI h)) :: some (I u) :: some (I g) :: some (I (WI ((NI i) + (1 : Int)))) :: n32 (n4 (n2 [])), bx := [⟨24, .lst [I s, L b l c], 2, true⟩], E := E' : St })))) else Mem.le E0 E ∧ K (SV.tup [SV.raw (Value.int IntKind.i64 u), SV.raw (Value.int IntKind.i64 g)]) E)
  delta WI NI U8 VS n2 n4 n32
  obtain ⟨q1, q2, q3⟩ := hh
  have hp1 : i * h ≤ h := by have := Nat.mul_le_mul_right h (show i ≤ 1 by omega); omega
  obtain ⟨p, hp⟩ : ∃ p, i * h = p := ⟨_, rfl⟩
  rw [hp] at hp1
  have e0 : IntKind.wrap .i64 ((i : Int) * (h : Int)) = ((p : Nat) : Int) := by rw [← Int.natCast_mul, hp, wrap_i64 (by omega)]
  have e1 : IntKind.wrap .i64 (((p : Nat) : Int) + 1) = ((p + 1 : Nat) : Int) := by rw [wrap_i64 (by omega)]; omega
  have e5 : IntKind.wrap .i64 (((p : Nat) : Int) + 5) = ((p + 5 : Nat) : Int) := by rw [wrap_i64 (by omega)]; omega
  unfold stepU at ih
  rw [hp] at ih
  rw [e0, e1, e5, wrap_i64 (x := (i : Int) + 1) (by omega), show (i : Int) + 1 = ((i + 1 : Nat) : Int) by simp]
  refine condC (fun _ => ?_) (fun g => by simp at g; omega)
  refine slice_intro hz (lo := p + 1) (hi := p + 5) rfl rfl (by omega) (by omega) fun b' E' q hB hl => ?_
  rw [show p + 5 - (p + 1) = 4 by omega] at hB hl
  refine ⟨_, hB, by omega, Mem.le_refl _, req_intro (by omega) ⟨(hz.mono q).ne (i := p) (by omega), zs.getD p 0, (hz.mono q).load rfl (i := p) (by omega), condC (fun m => condC (fun m2 => ?_) (fun m2 => ?_)) (fun m => ?_)⟩⟩
  · have m : zs.getD p 0 = 90 := by simpa only [beq_iff_eq] using m
    have m2 : genF zs p > g := of_decide_eq_true m2
    exact Lp_re [some 0] (ih _ _ E' (Mem.le_trans hE q) q (if_pos ⟨m, m2⟩)) (wkG (Mem.le_refl _))
  · have m2 : ¬ genF zs p > g := of_decide_eq_false m2
    exact Lp_re [some 0] (ih _ _ E' (Mem.le_trans hE q) q (if_neg (fun z => m2 z.2))) (wkG (Mem.le_refl _))
  · have m : ¬ zs.getD p 0 = 90 := by simpa only [beq_eq_false_iff_ne] using m
    exact Lp_re [some 0] (ih _ _ E' (Mem.le_trans hE q) q (if_neg (fun z => m z.1))) (wkG (Mem.le_refl _))
theorem rnd24e {s : Int} {b : Option Addr} {l c h : Nat} {u g : Int} {E0 : Mem} (hE : Mem.le E0 E) (k : K (.tup [I u, I g]) E) : Rnd K5 8 Try.f24 [1, 1, 1, 1, 0, 1, 0] 0 (pubK E0 K) (sh24 s b l c h u g 2 E) := by
  refine same (by kernel_rfl) (?_ : Mem.le E0 E ∧ K (SV.tup [SV.raw (Value.int IntKind.i64 u), SV.raw (Value.int IntKind.i64 g)]) E)
  exact ⟨hE, k⟩
theorem lp24e {s : Int} {b : Option Addr} {l c h : Nat} {u g : Int} {E0 : Mem} (hE : Mem.le E0 E) (k : K (.tup [I u, I g]) E) : Lp K5 8 Try.f24 [1, 1, 1, 1, 0, 1, 0] 0 (pubK E0 K) (sh24 s b l c h u g 2 E) :=
  Lp_ind (ι := Unit) okK5 (fun _ => sh24 s b l c h u g 2 E) (fun _ => 0) (fun _ _ => rnd24e hE k) ()
theorem lp24 {s : Int} {b : Option Addr} {l c h : Nat} {u g : Int} {E0 : Mem} {zs : List Int} (hz : Bs E b l c zs) (hh : 2 * h = l ∧ 16 ≤ h ∧ l ≤ 16384) (hE : Mem.le E0 E) {i : Nat} (hi : i < 2)
    (k : ∀ (u' g' : Int) (E' : Mem), Mem.le E0 E' → Mem.le E E' → stepU h zs i (u, g) = (u', g') → Lp K5 8 Try.f24 [1, 1, 1, 1, 0, 1, 0] 0 (pubK E0 K) (sh24 s b l c h u' g' (i + 1) E')) : Lp K5 8 Try.f24 [1, 1, 1, 1, 0, 1, 0] 0 (pubK E0 K) (sh24 s b l c h u g i E) :=
  Lp_ind (ι := Unit) okK5 (fun _ => sh24 s b l c h u g i E) (fun _ => 0) (fun _ _ => rnd24 hz hh hi hE k) ()
theorem j24 {a1 : Int} {b2 : Option Addr} {l3 : Nat} {c4 : Nat} {zs : List Int} (h0 : Bs E b2 l3 c4 zs) (h1 : areaF a1 l3 ≠ 0) (h : ∀ (u g : Int) (E' : Mem), Mem.le E E' → Hyp (usedF (areaF a1 l3) zs = (u, g)) → K (.tup [I u, I g]) E') :
    Ent K5 8 Try.f24 [.agg [I a1, L b2 l3 c4]] E K := by
  refine same (by kernel_rfl) (?_ : Mem.le E E ∧ Lp K5 8 Try.f24 [1, 1, 1, 1, 0, 1, 0] 0 (pubK E K) { fr := some (SV.agg [I a1, L b2 l3 c4]) :: some (SV.loc 0 0) :: some (I 0) :: some (I 0) :: some (I (NI (areaF a1 l3))) :: some (I (-1)) :: some (I (-1)) :: some (I 0) :: none :: some (SV.agg [I a1, L b2 l3 c4]) :: some (I (NI (areaF a1 l3))) :: n32 (n2 (none :: [])), bx := [⟨24, .lst [I a1, L b2 l3 c4], 2, true⟩], E := E : St })
  delta NI n2 n32
  obtain ⟨a1', a2, a3, a4, a5, a6⟩ := areaF_ok h1
  refine ⟨Mem.le_refl _, ?_⟩
  have hh : 2 * areaF a1 l3 = l3 ∧ 16 ≤ areaF a1 l3 ∧ l3 ≤ 16384 := ⟨a5, by omega, a6⟩
  have key := lp24 (s := a1) (u := -1) (g := -1) h0 hh (Mem.le_refl E) (i := 0) (by decide) fun u1 g1 E1 k1 _ r1 => lp24 (h0.mono k1) hh k1 (i := 1) (by decide) fun u2 g2 E2 k2 _ r2 => lp24e k2 (h u2 g2 E2 k2 (by show usedF _ _ = _; rw [usedF_step h0.2.2.2.1, r1, r2]))
  exact Lp_re [some 0] (key) (wkG (Mem.le_refl _))
theorem recs_len {h a : Nat} {zs : List Int} (hl : a + h ≤ zs.length) : (recsB h a zs).length = h - 5 := by unfold recsB; rw [List.length_take, List.length_drop]; omega
theorem recs_get {h a j : Nat} {zs : List Int} (hj : j < h - 5) : (recsB h a zs).getD j 0 = zs.getD (a + 5 + j) 0 := by
  unfold recsB
  rw [List.getD_eq_getElem?_getD, List.getD_eq_getElem?_getD, List.getElem?_take, if_pos hj, List.getElem?_drop]
theorem usedF_at {zs : List Int} {h : Nat} : (usedF h zs).1 = -1 ∨ (usedF h zs).1 = 0 ∨ (usedF h zs).1 = (h : Int) := by
  unfold usedF
  by_cases g : zs.getD 0 0 = 90
  · simp only [g, if_true]
    split
    · exact .inr (.inr rfl)
    · exact .inr (.inl rfl)
  · simp only [g, if_false]
    split
    · exact .inr (.inr rfl)
    · exact .inl rfl
theorem lenF_bd {r : List Int} (hz : ∀ z ∈ r, 0 ≤ z ∧ z ≤ 255) (k : Nat) : lenF r k < 65536 ∧ numF ((r.drop (k + 1)).take 2) = (lenF r k : Nat) := by
  have hz' : ∀ z ∈ (r.drop (k + 1)).take 2, 0 ≤ z ∧ z ≤ 255 := fun z h => hz z (List.drop_subset _ _ (List.take_subset _ _ h))
  obtain ⟨h1, h2⟩ := numF_bd hz'
  have hk : ((r.drop (k + 1)).take 2).length ≤ 2 := by rw [List.length_take]; omega
  have h3 : ∀ k : Nat, k ≤ 2 → (256 : Int) ^ k ≤ 65536 := by decide
  have h4 := h3 _ hk
  unfold lenF
  omega
structure I30 (E0 E : Mem) (h a : Nat) (zs : List Int) (j n cap tot : Nat) (rs : List (List Value)) (yss : List (List Int)) : Prop where
  le : Mem.le E0 E
  hj : j ≤ h - 5
  inv : fromF yss j (recsB h a zs) = parseF (recsB h a zs)
  rws : SLr RB E rs yss
  num : yss.length = n
  nj : n ≤ j
  room : n ≤ cap ∧ cap * 1 ≤ tot
theorem openF_arg {s : Int} {zs : List Int} (h : areaF s zs.length = 0) : openF s zs = (([], 0, 0, 0), 1) := by unfold openF; rw [if_pos h]
theorem openF_none {s u g : Int} {zs : List Int} (h : areaF s zs.length ≠ 0) (hu : usedF (areaF s zs.length) zs = (u, g)) (h2 : u < 0) : openF s zs = (([], 0, 0, 0), 4) := by
  unfold openF; rw [if_neg h, hu, if_pos h2]
theorem openF_sum {s g : Int} {a : Nat} {zs : List Int} (h : areaF s zs.length ≠ 0) (hu : usedF (areaF s zs.length) zs = ((a : Int), g)) (h2 : parseF (recsB (areaF s zs.length) a zs) = none) : openF s zs = (([], 0, 0, 0), 12) := by
  unfold openF; rw [if_neg h, hu, if_neg (by simp)]; simp only [Int.toNat_natCast]; rw [h2]
theorem openF_ok {s g : Int} {a n : Nat} {zs : List Int} {l : List (List Int)} (h : areaF s zs.length ≠ 0) (hu : usedF (areaF s zs.length) zs = ((a : Int), g)) (h2 : parseF (recsB (areaF s zs.length) a zs) = some (l, n)) : openF s zs = ((l, a, g, 5 + n), 0) := by
  unfold openF; rw [if_neg h, hu, if_neg (by simp)]; simp only [Int.toNat_natCast]; rw [h2]
theorem openF_inv {s : Int} {zs : List Int} (h : (openF s zs).2 = 0) : ∃ (l : List (List Int)) (a n : Nat) (g : Int), areaF s zs.length ≠ 0 ∧ usedF (areaF s zs.length) zs = ((a : Int), g) ∧ parseF (recsB (areaF s zs.length) a zs) = some (l, n) ∧ openF s zs = ((l, a, g, 5 + n), 0) := by
  by_cases h1 : areaF s zs.length = 0
  · rw [openF_arg h1] at h; cases h
  obtain ⟨u, g, hu⟩ : ∃ u g, usedF (areaF s zs.length) zs = (u, g) := ⟨_, _, rfl⟩
  by_cases h2 : u < 0
  · rw [openF_none h1 hu h2] at h; cases h
  obtain ⟨a, rfl⟩ : ∃ a : Nat, u = a := ⟨u.toNat, by omega⟩
  cases h3 : parseF (recsB (areaF s zs.length) a zs) with
  | none => rw [openF_sum h1 hu h3] at h; cases h
  | some q => exact ⟨q.1, a, q.2, g, h1, hu, h3, openF_ok h1 hu h3⟩
theorem parseN_len : ∀ (f : Nat) (r : List Int) (l : List (List Int)) (n : Nat), parseN f r = some (l, n) → n ≤ r.length
  | 0, r, l, n, h => by simp [parseN] at h; omega
  | f + 1, r, l, n, h => by
    unfold parseN at h
    split at h
    · simp at h; omega
    split at h
    · cases h
    split at h
    · cases h
    split at h
    · cases h
    cases hp : parseN f (r.drop ((numF ((r.drop 1).take 2)).toNat + 11)) with
    | none => rw [hp] at h; cases h
    | some q =>
      rw [hp] at h
      simp only [Option.map_some, Option.some.injEq, Prod.mk.injEq] at h
      have := parseN_len f _ q.1 q.2 hp
      rw [List.length_drop] at this
      omega
theorem parseF_len {r : List Int} {l : List (List Int)} {n : Nat} (h : parseF r = some (l, n)) : n ≤ r.length := parseN_len _ _ _ _ h
theorem used_ok {zs : List Int} {h a : Nat} {g : Int} (r : usedF h zs = ((a : Int), g)) : a = 0 ∨ a = h := by
  have := usedF_at (zs := zs) (h := h)
  rw [r] at this
  have : (a : Int) = -1 ∨ (a : Int) = 0 ∨ (a : Int) = (h : Nat) := this
  omega
theorem progF_mk {s : Int} {zs : List Int} {a : Int} {ds : List Int} (h1 : validF s zs.length) (h2 : 0 ≤ a) (h3 : a + ds.length ≤ zs.length) : progF s zs a ds = (mems s (gP ds) a.toNat zs (ds.length + 1), 0) := by
  unfold progF
  rw [if_neg (by simp only [not_or, Decidable.not_not]; exact ⟨h1, by omega⟩), if_neg (by omega)]
theorem erasF_mk {s : Int} {zs : List Int} {k : Int} (h1 : validF s zs.length) (h2 : 0 ≤ k) (h3 : k < (zs.length : Int) / s) : erasF s zs k = (mems s gE (k * s).toNat zs (s.toNat + 1), 0) := by
  unfold erasF
  rw [if_neg (by simp only [not_or, Decidable.not_not]; exact ⟨h1, by omega⟩)]
theorem mems_get {s : Int} {g : Nat → Int → Int} {a n i : Nat} {zs : List Int} (h : i < n) : (mems s g a zs n)[i]? = some (s, stp g a zs i) := by
  simp [mems, List.getElem?_range h]
theorem FL.cap {E : Mem} {b : Option Addr} {n c : Nat} {ms : List (Int × List Int)} (h : FL E b n c ms) : n ≤ c := by
  obtain ⟨rs, h1, h2, h3, _⟩ := h; exact h3
theorem rows_one (rs : List FRow) : ∀ x : Value, List.Mem x (rs.flatMap rowV) → x.oneCell' = true := fun x hx => by
  obtain ⟨r, _, h⟩ := List.mem_flatMap.1 hx
  simp only [rowV, List.mem_cons, List.not_mem_nil, or_false] at h
  rcases h with rfl | rfl <;> rfl
theorem FL.src {E : Mem} {b : Option Addr} {n c : Nat} {ms : List (Int × List Int)} (h : FL E b n c ms) :
    ∃ rs : List FRow, FLr E rs ms ∧ (rs.flatMap rowV = [] ∨ E (.slice b n c) (rs.flatMap rowV)) ∧ n * 2 ≤ (rs.flatMap rowV).length ∧ (∀ x : Value, List.Mem x (rs.flatMap rowV) → x.oneCell' = true) ∧ rs.length = n := by
  obtain ⟨rs, h1, h2, h3, h4, h5⟩ := h
  have hl : rs.length = n := by rw [h1.1, h2]
  refine ⟨rs, h1, ?_, by rw [rows_len, hl]; exact Nat.le_refl _, rows_one rs, hl⟩
  rcases h4 with rfl | h4
  · exact .inl (by rw [List.length_eq_zero_iff.1 hl]; rfl)
  · exact .inr h4
theorem rows_drop (rs : List FRow) : (rs.flatMap rowV).drop 2 = (rs.drop 1).flatMap rowV := by
  cases rs with
  | nil => rfl
  | cons r rs => rfl
theorem FL.tail {E E' : Mem} {b b' : Option Addr} {n c : Nat} {ms : List (Int × List Int)} (h : FL E b n c ms) (he : Mem.le E E')
    (hF : ∀ cs, E (.slice b n c) cs → E' (.slice b' (n - 1) (c - 1)) (List.take ((n - 1) * 2) (List.drop 2 cs))) (hN : b'.isNone = b.isNone) (hn : 1 ≤ n) : FL E' b' (n - 1) (c - 1) (ms.drop 1) := by
  obtain ⟨rs, h1, h2, h3, h4, h5⟩ := h
  have hl : rs.length = n := by rw [h1.1, h2]
  refine ⟨rs.drop 1, ⟨by simp [h1.1], fun i r m g1 g2 => ?_⟩, by simp [h2], by omega, .inr ?_, fun e => ?_⟩
  · rw [List.getElem?_drop] at g1 g2
    exact ⟨(h1.2 _ r m g1 g2).1, ((h1.2 _ r m g1 g2).2).mono he⟩
  · have := hF _ (h4.resolve_left (by omega))
    rw [rows_drop, List.take_of_length_le (by rw [rows_len]; simp; omega)] at this
    exact this
  · have := h5 (by cases b with | none => rfl | some x => rw [e] at hN; cases hN)
    omega
theorem FLr.app {E : Mem} {rs rt : List FRow} {ms ns : List (Int × List Int)} (h : FLr E rs ms) (k : FLr E rt ns) : FLr E (rs ++ rt) (ms ++ ns) := by
  refine ⟨by simp [h.1, k.1], fun i r m g1 g2 => ?_⟩
  have hl := h.1
  by_cases hi : i < rs.length
  · rw [List.getElem?_append_left hi] at g1
    rw [List.getElem?_append_left (by omega)] at g2
    exact h.2 i r m g1 g2
  · rw [List.getElem?_append_right (by omega)] at g1
    rw [List.getElem?_append_right (by omega), ← hl] at g2
    exact k.2 _ r m g1 g2
theorem last_load {E : Mem} {rs : List FRow} {ms : List (Int × List Int)} {N : Nat} (R : FLr E rs ms) (hn : ms.length = N) (h1 : 1 ≤ N) (hb : N ≤ 1000000000000) :
    (0 ≤ IntKind.wrap .i64 ((N : Int) - 1) ∧ IntKind.wrap .i64 ((N : Int) - 1) < (N : Int)) ∧ ∃ (b' : Option Addr) (l' c' : Nat), LoadV Try.prog 24 (rs.flatMap rowV) (0 + Int.toNat (IntKind.wrap .i64 ((N : Int) - 1)) * 2) (.agg [I (lastM ms).1, L b' l' c']) ∧ Bs E b' l' c' (lastM ms).2 := by
  rw [wrap_i64 (x := (N : Int) - 1) (by omega)]
  have hrl : rs.length = N := by rw [R.1, hn]
  obtain ⟨r, er⟩ : ∃ r, rs[N - 1]? = some r := ⟨_, List.getElem?_eq_getElem (by omega)⟩
  obtain ⟨m, em⟩ : ∃ m, ms[N - 1]? = some m := ⟨_, List.getElem?_eq_getElem (by omega)⟩
  have e : lastM ms = m := by
    unfold lastM
    rw [List.getLastD_eq_getLast?, List.getLast?_eq_getElem?, hn, em]; rfl
  obtain ⟨q1, q2⟩ := R.2 _ r m er em
  refine ⟨by omega, r.2.1, r.2.2.1, r.2.2.2, ?_, by rw [e]; exact q2⟩
  rw [e, ← q1, show 0 + Int.toNat ((N : Int) - 1) * 2 = (N - 1) * 2 by omega]
  exact loadW_row er
theorem chgF_len (ms ms2 : List (Int × List Int)) : (chgF ms ms2).length = ms.length + (ms2.length - 1) := by simp [chgF]
theorem tail_app {E : Mem} {b' : Option Addr} {l' c' N cap tot : Nat} {ms ms2 : List (Int × List Int)} {rs : List FRow} (F : FL E b' l' c' ms2) (hl : 1 ≤ l') (R : FLr E rs ms) (hn : ms.length = N) (hc : N ≤ cap ∧ cap * 2 ≤ tot) (hb : N + l' ≤ 1000000000000)
    {Q : Option Addr → Mem → List Value → Nat → Nat → Prop}
    (k : ∀ (base' : Option Addr) (E' : Mem) (cs : List Value) (cap' tot' : Nat) (rs' : List FRow), List.take (N * 2) (rs.flatMap rowV) ++ List.take ((toN none l' - 1) * 2) cs = rs'.flatMap rowV → Mem.le E E' → FLr E' rs' (chgF ms ms2) → (chgF ms ms2).length = N + (toN none l' - 1) → N + (toN none l' - 1) ≤ cap' → cap' * 2 ≤ tot' → Q base' E' cs cap' tot') :
    req (l' ≤ c') (req (0 ≤ (1 : Int) ∧ (1 : Int) ≤ ((toN none l' : Nat) : Int)) (∀ (base' : Option Addr) (E' : Mem), Mem.le E E' → (∀ cs : List Value, E (.slice b' l' c') cs → E' (.slice base' (toN none l' - 1) (toN none c' - 1)) (List.take ((toN none l' - 1) * 2) (List.drop 2 cs))) → base'.isNone = b'.isNone →
      ∃ cs : List Value, (cs = [] ∨ E' (.slice base' (toN none l' - 1) (toN none c' - 1)) cs) ∧ (toN none l' - 1) * 2 ≤ List.length cs ∧ (∀ x : Value, List.Mem x cs → x.oneCell' = true) ∧ N * 2 ≤ List.length (Row.cells (Row.vals (rs.flatMap rowV))) ∧ cap * 2 ≤ tot ∧ N ≤ cap ∧
        req ((N + (toN none l' - 1)) * 32 ≤ 140737488355328) (∀ cap' tot' : Nat, N + (toN none l' - 1) ≤ cap' → cap' * 2 ≤ tot' → Q base' E' cs cap' tot'))) := by
  have hcap := F.cap
  have e0 : toN none l' = l' := rfl
  refine req_intro hcap (req_intro (by rw [e0]; omega) fun base' E' q1 q2 q3 => ?_)
  have T := FL.tail F q1 q2 q3 hl
  obtain ⟨rt, u1, u2, u3, u4, u5⟩ := T.src
  have hrl : rs.length = N := by rw [R.1, hn]
  refine ⟨_, u2, u3, u4, ?_, hc.2, hc.1, req_intro (by rw [e0]; omega) fun cap' tot' g1 g2 => k base' E' _ cap' tot' (rs ++ rt) ?_ q1 ((R.mono q1).app u1) ?_ g1 g2⟩
  · show _ ≤ (List.map SV.raw _).length
    rw [List.length_map, rows_len, hrl]; exact Nat.le_refl _
  · rw [List.take_of_length_le (by rw [rows_len, hrl]; exact Nat.le_refl _), List.take_of_length_le (by rw [rows_len, u5]; exact Nat.le_refl _), List.flatMap_append]
  · rw [chgF_len, hn, F.len]; rfl
theorem mems_last {s : Int} {g : Nat → Int → Int} {a n : Nat} {zs : List Int} {l : List (Int × List Int)} (h : 1 ≤ n) : lastM (chgF l (mems s g a zs (n + 1))) = (s, stp g a zs n) := by
  unfold lastM chgF
  rw [mems_succ, List.drop_append_of_le_length (by rw [mems_len]; exact h), ← List.append_assoc, List.getLastD_concat]
theorem progL_ok {l : List (Int × List Int)} {a : Nat} {ds : List Int} (hv : validF (lastM l).1 (lastM l).2.length) (ha : a + ds.length ≤ (lastM l).2.length) (hd : 1 ≤ ds.length) :
    lastM (progL l a ds) = ((lastM l).1, stp (gP ds) a (lastM l).2 ds.length) ∧ (progL l a ds).length = l.length + ds.length := by
  unfold progL
  rw [progF_mk hv (by omega) (by omega)]
  simp only [Int.toNat_natCast]
  exact ⟨mems_last hd, by rw [chgF_len, mems_len]; omega⟩
theorem Rel.vals {w0 : World} {mu : Fm} {bx : List Box} {E : Mem} {ρ : Env} {w : World} (h : Rel w0 mu bx E ρ w) {b : Nat} {e : TypeId} {r : Row} {tot : Nat} {own : Bool} {vs : List Value} (hb : bx[b]? = some ⟨e, r, tot, own⟩) (hv : r.val = some vs) :
    Rel w0 mu (bx.set b ⟨e, .vals vs, tot, own⟩) E ρ w := by
  have hd : SV.denL ρ r.cells = some vs := Row.val_den hv ρ
  have hd2 : SV.denL ρ (Row.cells (.vals vs)) = some vs := Row.val_den (r := .vals vs) rfl ρ
  have hemp : (Row.cells (.vals vs)).isEmpty = r.cells.isEmpty := by
    have h1 := denL_length hd
    have h2 := denL_length hd2
    cases h3 : Row.cells (.vals vs) <;> cases h4 : r.cells <;> simp_all
  have look : ∀ (i : Nat) (y : Box), (bx.set b ⟨e, .vals vs, tot, own⟩)[i]? = some y → (i = b ∧ y = ⟨e, .vals vs, tot, own⟩) ∨ bx[i]? = some y := by
    intro i y hy
    rw [List.getElem?_set] at hy
    split at hy
    · rename_i q
      split at hy
      · exact .inl ⟨q.symm, (Option.some.inj hy).symm⟩
      · cases hy
    · exact .inr hy
  refine ⟨h.keep, by rw [List.length_set]; exact h.len, fun i y oa hy ho => ?_, fun i y a hy ho ha => ?_, h.hold, fun i y a hy hl ha => ?_, h.src⟩
  · rcases look i y hy with ⟨rfl, rfl⟩ | q
    · have old := h.box i _ oa hb ho
      unfold BoxAt at old ⊢
      split at old
      · obtain ⟨o1, o2⟩ := old
        refine ⟨?_, o2⟩
        have o1 : r.cells = [] := o1
        rw [o1] at hemp
        have := List.isEmpty_iff.1 (hemp.trans rfl)
        exact this
      · obtain ⟨o1, vs', o2, o3⟩ := old
        have o2 : SV.denL ρ r.cells = some vs' := o2
        rw [hd] at o2
        cases o2
        exact ⟨o1, vs, hd2, o3⟩
    · exact h.box i y oa q ho
  · have main : (∃ y0, bx[i]? = some y0 ∧ y0.own = true) := by
      rcases look i y hy with ⟨rfl, rfl⟩ | q
      · exact ⟨_, hb, ho⟩
      · exact ⟨_, q, ho⟩
    obtain ⟨y0, q, ho0⟩ := main
    obtain ⟨s1, s2, s3⟩ := h.sep i y0 a q ho0 ha
    refine ⟨s1, fun j b' a' hj hb' hl' ha' => ?_, s3⟩
    rcases look j b' hb' with ⟨rfl, rfl⟩ | q2
    · refine s2 j _ a' hj hb ?_ ha'
      unfold Box.live Box.cells at hl' ⊢
      simp only at hl' ⊢
      rw [hemp] at hl'
      exact hl'
    · exact s2 j b' a' hj q2 hl' ha'
  · rcases look i y hy with ⟨rfl, rfl⟩ | q
    · refine h.bsrc i _ a hb ?_ ha
      unfold Box.live Box.cells at hl ⊢
      simp only at hl ⊢
      rw [hemp] at hl
      exact hl
    · exact h.bsrc i y a q hl ha
theorem CallSem.vcongr {P : Program} {f : FuncId} {bx : List Box} {args args' : List SV} {vs : List Value} {E : Mem} {K : KT} (h1 : SV.valL args = some vs) (h2 : SV.valL args' = some vs) (h : CallSem P f args' bx E K) : CallSem P f args bx E K := by
  intro w0 mu ρ w ws hR hd
  have e := SV.denL_of_val ρ args h1
  rw [hd] at e
  cases e
  exact h w0 mu ρ w _ hR (SV.denL_of_val ρ args' h2)
theorem CallSem.asV {P : Program} {f : FuncId} {bx : List Box} {b : Nat} {e : TypeId} {r : Row} {vs : List Value} {tot : Nat} {own : Bool} {args : List SV} {E : Mem} {K : KT} (hb : bx[b]? = some ⟨e, r, tot, own⟩) (hv : r.val = some vs)
    (h : CallSem P f args (bx.set b ⟨e, .vals vs, tot, own⟩) E K) : CallSem P f args bx E K := fun w0 mu ρ w ws hR hd => h w0 mu ρ w ws (Rel.vals hR hb hv) hd
theorem areaF_div {s : Int} {l : Nat} (h : areaF s l ≠ 0) : ∃ st q : Nat, s = (st : Int) ∧ areaF s l = st * q ∧ 1 ≤ st ∧ st ≤ 1024 ∧ l = 2 * (st * q) := by
  obtain ⟨e1, ⟨v1, v2, v3, v4, v5⟩, e3, e4, e5, e6⟩ := areaF_ok h
  obtain ⟨st, rfl⟩ : ∃ st : Nat, s = st := ⟨s.toNat, by omega⟩
  have e := Int.mul_ediv_add_emod (l : Int) st
  rw [v5] at e
  have hq0 : 0 ≤ (l : Int) / st := Int.ediv_nonneg (by omega) (by omega)
  obtain ⟨k, hk⟩ : ∃ k : Nat, (l : Int) / st = 2 * k := ⟨((l : Int) / st / 2).toNat, by omega⟩
  rw [hk, Int.mul_left_comm] at e
  have e' : (2 : Int) * ((st * k : Nat) : Int) = l := by rw [Int.natCast_mul]; omega
  exact ⟨st, k, rfl, by omega, by omega, by omega, by omega⟩
theorem erasL_ok {l : List (Int × List Int)} {st k : Nat} {z : List Int} (hl : lastM l = ((st : Int), z)) (hv : validF st z.length) (hk : (k + 1) * st ≤ z.length) :
    lastM (erasL l k) = ((st : Int), stp gE (k * st) z st) ∧ (erasL l k).length = l.length + st ∧ (erasF st z k).1.length = st + 1 := by
  have h1 : 1 ≤ st := by have := hv.1; omega
  have e : erasF (st : Int) z (k : Int) = (mems st gE (k * st) z (st + 1), 0) := by
    rw [erasF_mk hv (by omega) (by
      rw [Int.lt_iff_add_one_le, Int.le_ediv_iff_mul_le (by omega)]
      have : (((k + 1) * st : Nat) : Int) ≤ z.length := by omega
      rw [Int.natCast_mul] at this
      simpa using this), ← Int.natCast_mul, Int.toNat_natCast, Int.toNat_natCast]
  unfold erasL
  rw [hl]
  simp only [e]
  exact ⟨mems_last h1, by rw [chgF_len, mems_len]; omega, mems_len _ _ _ _ _⟩
theorem erasesL_ok {st p : Nat} {z : List Int} : ∀ {m : Nat}, validF st z.length → (p + m) * st ≤ z.length → ∃ z', lastM (erasesL p m [((st : Int), z)]) = ((st : Int), z') ∧ z'.length = z.length ∧ (erasesL p m [((st : Int), z)]).length = 1 + m * st
  | 0, _, _ => ⟨z, rfl, rfl, by simp [erasesL]⟩
  | m + 1, hv, hm => by
    obtain ⟨z', h1, h2, h3⟩ := erasesL_ok (st := st) (p := p) (z := z) (m := m) hv (by rw [← Nat.add_assoc, Nat.add_mul] at hm; omega)
    obtain ⟨g1, g2, g3⟩ := erasL_ok (k := p + m) h1 (by rw [h2]; exact hv) (by rw [h2]; exact hm)
    exact ⟨_, g1, by rw [stp_len, h2], by show (erasL _ _).length = _; rw [g2, h3, Nat.add_mul]; omega⟩
theorem writeL_ok {l : List (Int × List Int)} {a : Nat} {ds : List Int} (hv : validF (lastM l).1 (lastM l).2.length) (ha : a + ds.length + 11 ≤ (lastM l).2.length) :
    (lastM (writeL l a ds)).1 = (lastM l).1 ∧ (lastM (writeL l a ds)).2.length = (lastM l).2.length ∧ (writeL l a ds).length = l.length + ds.length + 11 := by
  obtain ⟨pl, pn⟩ := progL_ok (l := l) (a := a + 1) (ds := bodyF ds) hv (by rw [bodyF_len]; omega) (by rw [bodyF_len]; omega)
  obtain ⟨ql, qn⟩ := progL_ok (l := progL l (a + 1) (bodyF ds)) (a := a) (ds := [90]) (by rw [pl]; simp only [stp_len]; exact hv) (by rw [pl]; simp only [stp_len, List.length_singleton]; omega) (by decide)
  unfold writeL
  refine ⟨by rw [ql, pl], by rw [ql, pl]; simp only [stp_len], by rw [qn, pn, bodyF_len]; simp; omega⟩
theorem writesL_succ {k : Nat} {l : List (Int × List Int)} {keep : List (List Int)} {i : Nat} {d : List Int} (h : keep[i]? = some d) :
    writesL k l (keep.take (i + 1)) = (writeL (writesL k l (keep.take i)).1 (writesL k l (keep.take i)).2 d, (writesL k l (keep.take i)).2 + d.length + 11) := by
  unfold writesL
  rw [take_get' h, List.foldl_append]; rfl
theorem needF_ge (keep : List (List Int)) : 11 * keep.length ≤ needF keep := by
  have key : ∀ (ds : List (List Int)) (n : Nat), n + 11 * ds.length ≤ ds.foldl (fun n d => n + d.length + 11) n := by
    intro ds
    induction ds with
    | nil => intro n; simp
    | cons d ds ih => intro n; have := ih (n + d.length + 11); simp only [List.foldl_cons, List.length_cons]; omega
  have := key keep 0
  unfold needF; omega
theorem needF_mono {keep : List (List Int)} {i : Nat} : needF (keep.take i) ≤ needF keep := by
  have key : ∀ (ds : List (List Int)) (n : Nat), n ≤ ds.foldl (fun n d => n + d.length + 11) n := by
    intro ds
    induction ds with
    | nil => intro n; exact Nat.le_refl _
    | cons d ds ih => intro n; have := ih (n + d.length + 11); simp only [List.foldl_cons]; omega
  have e : needF keep = (keep.drop i).foldl (fun n d => n + d.length + 11) (needF (keep.take i)) := by
    unfold needF; rw [← List.foldl_append, List.take_append_drop]
  rw [e]; exact key _ _
theorem div_lem {st x : Nat} (h1 : 1 ≤ st) (hx : st * x ≤ 100000) : IntKind.wrap .i64 (Int.tdiv ((st * x : Nat) : Int) (st : Int)) = (x : Int) := by
  have h2 : 1 * x ≤ st * x := Nat.mul_le_mul_right x h1
  rw [Int.tdiv_eq_ediv_of_nonneg (by omega), Int.natCast_mul, Int.mul_ediv_cancel_left _ (by omega), wrap_i64 (by omega)]
theorem needF_cons (d : List Int) (l : List (List Int)) : needF (d :: l) = d.length + 11 + needF l := by
  have key : ∀ (ds : List (List Int)) (n : Nat), ds.foldl (fun n d => n + d.length + 11) n = n + needF ds := by
    intro ds
    induction ds with
    | nil => intro n; rfl
    | cons d ds ih =>
      intro n
      unfold needF
      simp only [List.foldl_cons]
      rw [ih, ih]; omega
  unfold needF
  simp only [List.foldl_cons]
  rw [key]; unfold needF; omega
theorem parseN_need : ∀ (f : Nat) (r : List Int) (l : List (List Int)) (n : Nat), parseN f r = some (l, n) → needF l = n
  | 0, r, l, n, h => by
    simp [parseN] at h
    obtain ⟨rfl, rfl⟩ := h; rfl
  | f + 1, r, l, n, h => by
    unfold parseN at h
    split at h
    · simp at h; obtain ⟨rfl, rfl⟩ := h; rfl
    split at h
    · cases h
    split at h
    · cases h
    split at h
    · cases h
    rename_i hl _
    cases hp : parseN f (r.drop ((numF ((r.drop 1).take 2)).toNat + 11)) with
    | none => rw [hp] at h; cases h
    | some q =>
      rw [hp] at h
      simp only [Option.map_some, Option.some.injEq, Prod.mk.injEq] at h
      have := parseN_need f _ q.1 q.2 hp
      obtain ⟨rfl, rfl⟩ := h
      rw [needF_cons, this, List.length_take, List.length_drop]
      omega
theorem parseF_need {r : List Int} {l : List (List Int)} {n : Nat} (h : parseF r = some (l, n)) : needF l = n := parseN_need _ _ _ _ h
theorem writesL_cons (k : Nat) (l : List (Int × List Int)) (d : List Int) (keep : List (List Int)) : writesL k l (d :: keep) = writesL (k + d.length + 11) (writeL l k d) keep := rfl
theorem writesL_ok {len : Nat} : ∀ {keep : List (List Int)} {k : Nat} {l : List (Int × List Int)}, validF (lastM l).1 len → (lastM l).2.length = len → k + needF keep ≤ len →
    (lastM (writesL k l keep).1).1 = (lastM l).1 ∧ (lastM (writesL k l keep).1).2.length = len ∧ (writesL k l keep).1.length = l.length + needF keep ∧ (writesL k l keep).2 = k + needF keep
  | [], k, l, hv, hl, hr => ⟨rfl, hl, rfl, rfl⟩
  | d :: keep, k, l, hv, hl, hr => by
    rw [needF_cons] at hr ⊢
    obtain ⟨w1, w2, w3⟩ := writeL_ok (l := l) (a := k) (ds := d) (by rw [hl]; exact hv) (by rw [hl]; omega)
    obtain ⟨i1, i2, i3, i4⟩ := writesL_ok (keep := keep) (k := k + d.length + 11) (l := writeL l k d) (by rw [w1]; exact hv) (by rw [w2, hl]) (by omega)
    rw [writesL_cons]
    exact ⟨by rw [i1, w1], i2, by rw [i3, w3]; omega, by rw [i4]; omega⟩
theorem rewL_ok {s : Int} {zs : List Int} {a : Nat} {g : Int} {keep : List (List Int)} (hA : areaF s zs.length ≠ 0) (ha : a = 0 ∨ a = areaF s zs.length) (hroom : 5 + needF keep ≤ areaF s zs.length) :
    (lastM (rewL s zs (areaF s zs.length) a g keep)).1 = s ∧ (lastM (rewL s zs (areaF s zs.length) a g keep)).2.length = zs.length ∧ (rewL s zs (areaF s zs.length) a g keep).length = 1 + areaF s zs.length + needF keep + 5 := by
  obtain ⟨st, q, rfl, hq, hst1, hst2, hl⟩ := areaF_div hA
  obtain ⟨a1', hv, a3, a4, a5, a6⟩ := areaF_ok hA
  obtain ⟨p, hp, hpq⟩ : ∃ p, areaF st zs.length - a = st * p ∧ p ≤ q := by
    rcases ha with rfl | rfl
    · exact ⟨q, by omega, Nat.le_refl _⟩
    · exact ⟨0, by omega, Nat.zero_le _⟩
  have hpq2 : st * p ≤ st * q := Nat.mul_le_mul_left st hpq
  obtain ⟨z', ez1, ez2, ez3⟩ := erasesL_ok (st := st) (p := p) (m := q) hv (by rw [Nat.mul_comm, Nat.mul_add]; omega)
  rw [Nat.mul_comm q st] at ez3
  obtain ⟨w1, w2, w3, w4⟩ := writesL_ok (len := zs.length) (keep := keep) (k := st * p + 5) (l := erasesL p q [((st : Int), zs)]) (by rw [ez1]; exact hv) (by rw [ez1]; exact ez2) (by omega)
  have hv1 : validF (lastM (writesL (st * p + 5) (erasesL p q [((st : Int), zs)]) keep).1).1 (lastM (writesL (st * p + 5) (erasesL p q [((st : Int), zs)]) keep).1).2.length := by rw [w1, w2, ez1]; exact hv
  obtain ⟨pl, pn⟩ := progL_ok (l := (writesL (st * p + 5) (erasesL p q [((st : Int), zs)]) keep).1) (a := st * p + 1) (ds := storF (g + 1) 4) hv1 (by rw [w2, storF_len]; omega) (by rw [storF_len]; omega)
  obtain ⟨ql, qn⟩ := progL_ok (l := progL (writesL (st * p + 5) (erasesL p q [((st : Int), zs)]) keep).1 (st * p + 1) (storF (g + 1) 4)) (a := st * p) (ds := [90]) (by rw [pl]; simp only [stp_len]; exact hv1) (by rw [pl]; simp only [stp_len, List.length_singleton]; omega) (by decide)
  have er : rewL st zs (areaF st zs.length) a g keep = progL (progL (writesL (st * p + 5) (erasesL p q [((st : Int), zs)]) keep).1 (st * p + 1) (storF (g + 1) 4)) (st * p) [90] := by
    unfold rewL
    rw [hp, hq, Int.toNat_natCast, Nat.mul_div_cancel_left _ hst1, Nat.mul_div_cancel_left _ hst1]
  rw [er]
  refine ⟨by rw [ql, pl, w1, ez1], by rw [ql, pl]; simp only [stp_len]; exact w2, by rw [qn, pn, w3, ez3, storF_len, hq]; simp⟩
theorem appendF_eq {s : Int} {zs : List Int} {old : List (List Int)} {a e : Nat} {g : Int} (ds : List Int) (ho : openF s zs = ((old, a, g, e), 0)) : appendF s zs ds =
    if e + ds.length + 11 > areaF s zs.length ∨ cleanF (areaF s zs.length) a e zs = false ∧ g = 4294967295 then ([], 10)
    else if cleanF (areaF s zs.length) a e zs then (writeL [(s, zs)] (a + e) ds, 0)
    else (writeL (rewL s zs (areaF s zs.length) a g old) (areaF s zs.length - a + e) ds, 0) := by
  unfold appendF
  rw [if_neg (by rw [ho]; simp), ho]
theorem compactF_eq {s : Int} {zs : List Int} {old : List (List Int)} {a e : Nat} {g : Int} (keep : List (List Int)) (ho : openF s zs = ((old, a, g, e), 0)) : compactF s zs keep =
    if 5 + needF keep > areaF s zs.length ∨ g = 4294967295 then ([], 10) else (rewL s zs (areaF s zs.length) a g keep, 0) := by
  unfold compactF
  rw [if_neg (by rw [ho]; simp), ho]
end Go.Proofs.Ytiineecihncpfaa.JournalOwn
