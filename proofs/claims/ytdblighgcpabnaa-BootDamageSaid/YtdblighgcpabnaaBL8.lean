/- The law's proof: for every input the law answers true. Conditions: none. -/
import Derived.Test.YtdblighgcpabnaaBg18
import Derived.OpenShut
import Derived.Test.YtdblighgcpabnaaRows
namespace Go.Proofs.Ytdblighgcpabnaa.BootOwn
open Go Go.Sx Go.Proofs.Ytdblighgcpabnaa
set_option maxRecDepth 100000
set_option maxHeartbeats 4000000
set_option linter.unusedVariables false
set_option linter.unusedSimpArgs false
variable {E : Mem} {K : SV → Mem → Prop}
noncomputable def tabL8 : FuncId → List SV → Mem → (SV → Mem → Prop) → Prop := fun f args E K => match f with
  | 10 => d0 args ((∀ E' : Mem, Mem.le E E' → K (B true) E'))
  | 25 => d2 args fun x0 x1 => dS x0 fun b1 l2 c3 => dS x1 fun b4 l5 c6 => ∃ (xs : List Int) (ys : List Int), Bs E b1 l2 c3 xs ∧ Bs E b4 l5 c6 ys ∧ l2 ≤ 60 ∧ l5 ≤ 60 ∧ (∀ (b' : Option Addr) (l' c' : Nat) (y : List Int) (E' : Mem), Mem.le E E' → Hyp (Run y xs ys) → Bs E' b' l' c' y → K (.tup [.agg [I 128, L b' l' c'], B true]) E')
  | 17 => d3 args fun x0 x1 x2 => dC x0 fun l1 => d2 l1 fun x0_0 x0_1 => dI x0_0 fun a1 => dS x0_1 fun b2 l3 c4 => dI x1 fun a5 => dS x2 fun b6 l7 c8 => ∃ (zs : List Int) (p : List Int) (ms : List (Int × List Int)) (e : Int), Bs E b2 l3 c4 zs ∧ Bs E b6 l7 c8 p ∧ installF a1 zs a5 p = (ms, e) ∧ (∀ (b' : Option Addr) (l' c' : Nat) (E' : Mem), Mem.le E E' → FL E' b' l' c' ms → K (.tup [L b' l' c', I e]) E')
  | 19 => d3 args fun x0 x1 x2 => dC x0 fun l1 => d2 l1 fun x0_0 x0_1 => dI x0_0 fun a1 => dS x0_1 fun b2 l3 c4 => dI x1 fun a5 => dI x2 fun a6 => ∃ (zs : List Int) (ms : List (Int × List Int)) (e : Int), Bs E b2 l3 c4 zs ∧ markF a1 zs a5 a6 = (ms, e) ∧ (∀ (b' : Option Addr) (l' c' : Nat) (E' : Mem), Mem.le E E' → FL E' b' l' c' ms → K (.tup [L b' l' c', I e]) E')
  | 27 => d2 args fun x0 x1 => dS x0 fun b1 l2 c3 => dI x1 fun a4 => ∃ (X : List (Int × List Int)) (w : List Int), FL E b1 l2 c3 (X ++ [(128, w)]) ∧ a4 = 0 ∧ l2 ≤ 100000 ∧ (∀ (b' : Option Addr) (l' c' : Nat) (E' : Mem), Mem.le E E' → Bs E' b' l' c' w → K (.tup [.agg [I 128, L b' l' c'], B true]) E')
  | 26 => d3 args fun x0 x1 x2 => dC x0 fun l1 => d2 l1 fun x0_0 x0_1 => dI x0_0 fun a1 => dS x0_1 fun b2 l3 c4 => dI x1 fun a5 => dS x2 fun b6 l7 c8 => ∃ (zs : List Int) (ds : List Int), Bs E b2 l3 c4 zs ∧ Bs E b6 l7 c8 ds ∧ selectF a1 zs = ((a5, ds), 0) ∧ l7 ≤ 100000 ∧ (∀ E' : Mem, Mem.le E E' → K (B true) E')
  | 23 => d2 args fun x0 x1 => dC x0 fun l1 => d2 l1 fun x0_0 x0_1 => dI x0_0 fun a1 => dS x0_1 fun b2 l3 c4 => dI x1 fun a5 => ∃ (zs : List Int) (r : Int), Bs E b2 l3 c4 zs ∧ marksF a1 zs a5 = r ∧ (∀ E' : Mem, Mem.le E E' → K (I r) E')
  | _ => False
theorem tabL8_ok : TabOK Try.prog tabL8 := by
  intro f args E K h
  unfold tabL8 at h
  split at h
  · obtain ⟨rfl, h⟩ := d0_elim h
    exact TabSem.congr rfl (Ent.sem okQ4 Try.func10 ⟨by kernel_rfl, by kernel_rfl⟩ rfl (q10 h))
  · replace h := d2_elim h
    obtain ⟨x0, x1, rfl, h⟩ := h
    replace h := dS_elim h
    obtain ⟨b1, l2, c3, rfl, h⟩ := h
    replace h := dS_elim h
    obtain ⟨b4, l5, c6, rfl, h⟩ := h
    obtain ⟨xs, ys, g0, g1, g2, g3, h⟩ := h
    exact TabSem.congr (valL_cons rfl (valL_cons rfl rfl)) (Ent.sem okQ4 Try.func25 ⟨by kernel_rfl, by kernel_rfl⟩ rfl (q25 g0 g1 g2 g3 h))
  · replace h := d3_elim h
    obtain ⟨x0, x1, x2, rfl, h⟩ := h
    replace h := dC_elim h
    obtain ⟨l1, hl1, h⟩ := h
    replace h := d2_elim h
    obtain ⟨x0_0, x0_1, rfl, h⟩ := h
    replace h := dI_elim h
    obtain ⟨a1, rfl, h⟩ := h
    replace h := dS_elim h
    obtain ⟨b2, l3, c4, rfl, h⟩ := h
    replace h := dI_elim h
    obtain ⟨a5, rfl, h⟩ := h
    replace h := dS_elim h
    obtain ⟨b6, l7, c8, rfl, h⟩ := h
    obtain ⟨zs, p, ms, e, g0, g1, g2, h⟩ := h
    exact TabSem.congr (valL_cons (asCells_val hl1) (valL_cons rfl (valL_cons rfl rfl))) (Ent.sem okP7 Try.func17 ⟨by kernel_rfl, by kernel_rfl⟩ rfl (q17E g0 g1 g2 h))
  · replace h := d3_elim h
    obtain ⟨x0, x1, x2, rfl, h⟩ := h
    replace h := dC_elim h
    obtain ⟨l1, hl1, h⟩ := h
    replace h := d2_elim h
    obtain ⟨x0_0, x0_1, rfl, h⟩ := h
    replace h := dI_elim h
    obtain ⟨a1, rfl, h⟩ := h
    replace h := dS_elim h
    obtain ⟨b2, l3, c4, rfl, h⟩ := h
    replace h := dI_elim h
    obtain ⟨a5, rfl, h⟩ := h
    replace h := dI_elim h
    obtain ⟨a6, rfl, h⟩ := h
    obtain ⟨zs, ms, e, g0, g1, h⟩ := h
    exact TabSem.congr (valL_cons (asCells_val hl1) (valL_cons rfl (valL_cons rfl rfl))) (Ent.sem okP5 Try.func19 ⟨by kernel_rfl, by kernel_rfl⟩ rfl (q19E g0 g1 h))
  · replace h := d2_elim h
    obtain ⟨x0, x1, rfl, h⟩ := h
    replace h := dS_elim h
    obtain ⟨b1, l2, c3, rfl, h⟩ := h
    replace h := dI_elim h
    obtain ⟨a4, rfl, h⟩ := h
    obtain ⟨X, w, g0, g1, g2, h⟩ := h
    exact TabSem.congr (valL_cons rfl (valL_cons rfl rfl)) (Ent.sem okQ2 Try.func27 ⟨by kernel_rfl, by kernel_rfl⟩ rfl (q27H g0 g1 g2 h))
  · replace h := d3_elim h
    obtain ⟨x0, x1, x2, rfl, h⟩ := h
    replace h := dC_elim h
    obtain ⟨l1, hl1, h⟩ := h
    replace h := d2_elim h
    obtain ⟨x0_0, x0_1, rfl, h⟩ := h
    replace h := dI_elim h
    obtain ⟨a1, rfl, h⟩ := h
    replace h := dS_elim h
    obtain ⟨b2, l3, c4, rfl, h⟩ := h
    replace h := dI_elim h
    obtain ⟨a5, rfl, h⟩ := h
    replace h := dS_elim h
    obtain ⟨b6, l7, c8, rfl, h⟩ := h
    obtain ⟨zs, ds, g0, g1, g2, g3, h⟩ := h
    exact TabSem.congr (valL_cons (asCells_val hl1) (valL_cons rfl (valL_cons rfl rfl))) (Ent.sem okQ3 Try.func26 ⟨by kernel_rfl, by kernel_rfl⟩ rfl (q26H g0 g1 g2 g3 h))
  · replace h := d2_elim h
    obtain ⟨x0, x1, rfl, h⟩ := h
    replace h := dC_elim h
    obtain ⟨l1, hl1, h⟩ := h
    replace h := d2_elim h
    obtain ⟨x0_0, x0_1, rfl, h⟩ := h
    replace h := dI_elim h
    obtain ⟨a1, rfl, h⟩ := h
    replace h := dS_elim h
    obtain ⟨b2, l3, c4, rfl, h⟩ := h
    replace h := dI_elim h
    obtain ⟨a5, rfl, h⟩ := h
    obtain ⟨zs, r, g0, g1, h⟩ := h
    exact TabSem.congr (valL_cons (asCells_val hl1) (valL_cons rfl rfl)) (Ent.sem okP5 Try.func23 ⟨by kernel_rfl, by kernel_rfl⟩ rfl (q23E g0 g1 h))
  · exact h.elim
noncomputable def WL8 : Cx := { P := Try.prog, inl := fun f => List.contains [28] f, tab := tabL8, isB := fun _ => false, tabB := fun _ _ _ _ _ => False, opt := { unroll := 0, carry := [12, 50], cuts := [] }, muts := mutsD }
theorem okWL8 : CxOK WL8 := CxOK.four tabL8_ok (by kernel_rfl) (okInl (by kernel_rfl)) (fun _ _ _ _ _ h => h.elim)
theorem xor_ne {a b : Int} (ha : 0 ≤ a ∧ a ≤ 255) (hb : 0 ≤ b ∧ b ≤ 255) (h0 : b ≠ 0) : IntKind.wrap .u8 (((BitVec.ofInt (IntKind.bits .u8) a ^^^ BitVec.ofInt (IntKind.bits .u8) b).toNat : Nat) : Int) ≠ a := by
  intro h
  have h : (((BitVec.ofInt 8 a ^^^ BitVec.ofInt 8 b).toNat : Nat) : Int) % 256 = a := h
  have h1 := (BitVec.ofInt 8 a ^^^ BitVec.ofInt 8 b).isLt
  have h2 : (((BitVec.ofInt 8 a ^^^ BitVec.ofInt 8 b).toNat : Nat) : Int) = a := by omega
  have h3 : BitVec.ofInt 8 a = BitVec.ofInt 8 a ^^^ BitVec.ofInt 8 b := by
    conv => lhs; rw [← h2]
    apply BitVec.eq_of_toNat_eq
    rw [BitVec.toNat_ofInt]
    omega
  have h4 := congrArg (fun x => BitVec.ofInt 8 a ^^^ x) h3
  simp only [← BitVec.xor_assoc, BitVec.xor_self, BitVec.zero_xor] at h4
  have h5 := congrArg BitVec.toNat h4
  rw [BitVec.toNat_ofInt] at h5
  simp at h5
  omega
theorem damage_run {y p0 p1 w : List Int} {q : Nat} (R : Run y p0 p1) (n1 : p1.length ≤ 60) (hl : w.length = 8448) (wb : ∀ x ∈ w, 0 ≤ x ∧ x ≤ 255)
    (hq : q < 4 ∨ (6 ≤ q ∧ q < 15) ∨ (32 ≤ q ∧ q < 32 + p1.length)) (hw : ∀ j, j ≠ 4224 + q → w.getD j 0 = y.getD j 0) (hn : w.getD (4224 + q) 0 ≠ y.getD (4224 + q) 0) (b1 : ∀ x ∈ p1, 0 ≤ x ∧ x ≤ 255) :
    marksF 128 w 7 = -1 ∧ selectF 128 w = ((3, p0), 0) ∧ ∃ X x v, installF 128 w 20 p1 = (X ++ [(128, x)], 0) ∧ markF 128 x 20 1 = ([(128, x), (128, v)], 0) ∧ selectF 128 v = ((20, p1), 0) := by
  have d1 := Hold.damage (k := 1) R.h1 R.len (by decide) hl wb hq hw hn
  have H0 : Hold w 0 3 p0 := R.h0.congr (fun j hj _ => by rw [Nat.zero_add]; exact hw _ (by omega))
  have g15 : w.getD 15 0 = 0 := (hw _ (by omega)).trans R.a15
  have g17 : w.getD 17 0 = 255 := (hw _ (by omega)).trans R.a17
  have P0 := Hold.prog (k := 0) H0 hl (by decide)
  have c0 := Hold.cls (k := 0) H0 hl (by decide)
  rw [show 4224 * 0 + 17 = 17 from rfl, show 4224 * 0 + 15 = 15 from rfl, g17, g15] at c0
  have s0 : selF w = ((0 : Nat) : Int) := by rw [selF_eq c0 (cls_none d1)]; rfl
  have fit : fitsF 20 p1 := ⟨by decide, by decide, by omega⟩
  have e2 := inst_eq (v := 20) (p := p1) hl s0 fit ⟨by rw [P0]; show (3 : Int) < 20; decide, by rw [d1]; decide⟩
  obtain ⟨X, x, x1, x2, x3, x4, x5, x6, x7, x8, x9, x10⟩ := inst_all (k := 1) hl wb (by decide) fit b1
  have x7 : Hold x 4224 20 p1 := x7
  have x6' : ∀ j, j < 4224 → x.getD j 0 = w.getD j 0 := fun j hj => x6.2 j (.inl hj)
  have h0x : Hold x 0 3 p0 := H0.congr (fun j hj _ => by rw [Nat.zero_add]; exact x6' j (by omega))
  have px0 := Hold.prog (k := 0) h0x x4 (by decide)
  have px1 := Hold.prog (k := 1) x7 x4 (by decide)
  have fx : findF x 20 = ((1 : Nat) : Int) := find_eq (.inr ⟨rfl, by rw [px0]; show (3 : Int) ≠ 20; decide, by rw [px1]⟩) (by decide)
  obtain ⟨v, y1, y2, y3, y4⟩ := mark_ok (k := 1) (m := 1) (v := 20) x4 x5 fx (by decide) (by decide)
  have y4 : ∀ j, v.getD j 0 = if j = 4239 then 0 else x.getD j 0 := y4
  have h0y : Hold v 0 3 p0 := h0x.congr (fun j hj _ => by rw [Nat.zero_add, y4, if_neg (by omega)])
  have h1y : Hold v 4224 20 p1 := x7.congr (fun j hj hn => by rw [y4, if_neg (by omega)])
  have py1 := Hold.prog (k := 1) h1y y2 (by decide)
  have cy0 := Hold.cls (k := 0) h0y y2 (by decide)
  have gy17 : v.getD 17 0 = 255 := by rw [y4, if_neg (by decide), x6' _ (by decide)]; exact g17
  have gy15 : v.getD 15 0 = 0 := by rw [y4, if_neg (by decide), x6' _ (by decide)]; exact g15
  have wy17 : v.getD 4241 0 = 255 := by rw [y4, if_neg (by decide)]; exact x8 4241 (by decide) (by decide)
  have wy15 : v.getD 4239 0 = 0 := by rw [y4, if_pos rfl]
  rw [show 4224 * 0 + 17 = 17 from rfl, show 4224 * 0 + 15 = 15 from rfl, gy17, gy15] at cy0
  have cy1 := Hold.cls (k := 1) h1y y2 (by decide)
  rw [show 4224 * 1 + 17 = 4241 from rfl, show 4224 * 1 + 15 = 4239 from rfl, wy17, wy15] at cy1
  have sy : selF v = ((1 : Nat) : Int) := by rw [selF_eq cy0 cy1]; rfl
  refine ⟨?_, select_eq hl s0 P0, X, x, v, by rw [e2, x1], y1, select_eq y2 sy py1⟩
  unfold marksF
  rw [if_neg (fun q => q ⟨rfl, hl⟩)]
  have : findF w 7 = -1 := by
    unfold findF
    rw [P0, d1, if_neg (fun q => absurd (show (3 : Int) = 7 from q.2) (by decide)), if_neg (fun q => absurd q.2 (by decide))]
  rw [this, if_pos (by decide)]
def plF (n : Nat) : List Int := [0, 1, 2, 3, 6, 7, 8, 9, 10, 11, 12, 13, 14] ++ (List.range n).map fun i => ((32 + i : Nat) : Int)
theorem plF_len (n : Nat) : (plF n).length = 13 + n := by simp [plF]; omega
theorem plF_succ (n : Nat) : plF (n + 1) = plF n ++ [((32 + n : Nat) : Int)] := by simp [plF, List.range_succ]
theorem plF_get {n k : Nat} (h : k < 13 + n) : ∃ q : Nat, (plF n)[k]? = some (q : Int) ∧ (q < 4 ∨ (6 ≤ q ∧ q < 15) ∨ (32 ≤ q ∧ q < 32 + n)) := by
  unfold plF
  by_cases c : k < 13
  · have : k = 0 ∨ k = 1 ∨ k = 2 ∨ k = 3 ∨ k = 4 ∨ k = 5 ∨ k = 6 ∨ k = 7 ∨ k = 8 ∨ k = 9 ∨ k = 10 ∨ k = 11 ∨ k = 12 := by omega
    rw [List.getElem?_append_left (by simpa using c)]
    rcases this with rfl | rfl | rfl | rfl | rfl | rfl | rfl | rfl | rfl | rfl | rfl | rfl | rfl
    · exact ⟨0, rfl, by omega⟩
    · exact ⟨1, rfl, by omega⟩
    · exact ⟨2, rfl, by omega⟩
    · exact ⟨3, rfl, by omega⟩
    · exact ⟨6, rfl, by omega⟩
    · exact ⟨7, rfl, by omega⟩
    · exact ⟨8, rfl, by omega⟩
    · exact ⟨9, rfl, by omega⟩
    · exact ⟨10, rfl, by omega⟩
    · exact ⟨11, rfl, by omega⟩
    · exact ⟨12, rfl, by omega⟩
    · exact ⟨13, rfl, by omega⟩
    · exact ⟨14, rfl, by omega⟩
  · refine ⟨32 + (k - 13), ?_, by omega⟩
    rw [List.getElem?_append_right (by simpa using Nat.le_of_not_lt c)]
    simp only [List.length_cons, List.length_nil]
    rw [List.getElem?_map, List.getElem?_range (by omega)]
    rfl
theorem idx_ok {x : Int} {n : Nat} (h : 0 ≤ x ∧ x ≤ 65535) (h1 : 1 ≤ n) (h2 : n ≤ 100000) : ∃ k : Nat, k < n ∧ Int.tmod (IntKind.wrap .i64 x) (n : Int) = (k : Int) := by
  rw [wrap_i64 (by omega)]
  obtain ⟨a, rfl⟩ : ∃ a : Nat, x = a := ⟨x.toNat, by omega⟩
  refine ⟨a % n, Nat.mod_lt _ (by omega), ?_⟩
  rw [Int.tmod_eq_emod_of_nonneg (by omega)]
  simp
theorem u8_wf {x : Int} (h : (Lit.int .u8 x).wf = true) : 0 ≤ x ∧ x ≤ 255 := by
  have e : IntKind.u8.min ≤ x ∧ x ≤ IntKind.u8.max := by simpa [Lit.wf] using h
  exact e
def sh8 (b1 b2 bY : Option Addr) (l1 c1 l2 c2 cY : Nat) (a1 a2 : Int) (i cap tot : Nat) (vs : List Value) (E : Mem) : St := ⟨[some (L b1 l1 c1), some (L b2 l2 c2), some (.raw (.int .u8 a1)), some (.raw (.int .u8 a2)), none, none, none, none, none, some (B true), some (.loc 0 0), none, some (.slc 1 0 (13 + i) cap), none, none, none, none, none, none, none, none, none, none, none, none, none, none, none, none, none, none, none, none, none, none, none, none, none, none, none, none, none, none, none, none, none, none, none, none, some (I (l2 : Nat)), some (I (i : Nat))] ++ List.replicate 70 none, [⟨24, .lst [I 128, L bY 8448 cY], 2, true⟩, ⟨3, .vals vs, tot, true⟩], E⟩
theorem r8 {b1 b2 bY : Option Addr} {l1 c1 l2 c2 cY : Nat} {a1 a2 : Int} {E0 : Mem} {y z1 z2 : List Int} (R : Run y z1 z2) (BY : Bs E bY 8448 cY y) (B1 : Bs E b1 l1 c1 z1) (B2 : Bs E b2 l2 c2 z2) (g1 : l1 ≤ 60) (g2 : l2 ≤ 60) (ha1 : 0 ≤ a1 ∧ a1 ≤ 255) (ha2 : 0 ≤ a2 ∧ a2 ≤ 255) (h2 : a2 ≠ 0) (h : ∀ E', Mem.le E0 E' → K (B true) E') (hE : Mem.le E0 E) {i cap tot : Nat} {vs : List Value} (hc : 13 + i ≤ cap ∧ cap ≤ tot) (hv : 13 + i ≤ vs.length) (hvs : List.take (13 + i) vs = (plF i).map (.int .i64)) (hi : i ≤ l2)
    (ih : i < l2 → ∀ (cap' tot' : Nat) (vs' : List Value), (13 + (i + 1) ≤ cap' ∧ cap' ≤ tot') → 13 + (i + 1) ≤ vs'.length → List.take (13 + (i + 1)) vs' = (plF (i + 1)).map (.int .i64) → Lp WL8 8 Try.f8 [1, 1, 1, 1, 1, 1, 0, 1, 0] 0 (pubK E0 K) (sh8 b1 b2 bY l1 c1 l2 c2 cY a1 a2 (i + 1) cap' tot' vs' E)) :
    Rnd WL8 8 Try.f8 [1, 1, 1, 1, 1, 1, 0, 1, 0] 0 (pubK E0 K) (sh8 b1 b2 bY l1 c1 l2 c2 cY a1 a2 i cap tot vs E) := by
  refine same (by kernel_rfl) (?_ : bif decide ((NI i) < (NI l2)) then (13 + i) * 1 ≤ List.length (Row.cells (Row.vals vs)) ∧ cap * 1 ≤ tot ∧ 13 + i ≤ cap ∧ req ((13 + i + 1) * 8 ≤ 140737488355328) (∀ (cap' tot' : Nat), 13 + i + 1 ≤ cap' → cap' * 1 ≤ tot' → Lp WL8 8 Try.f8 [1, 1, 1, 1, 1, 1, 0, 1, 0] 0 (pubK E0 K) { fr := some (L b1 l1 c1) :: some (L b2 l2 c2) :: some (SV.raw (U8 a1)) :: some (SV.raw (U8 a2)) :: none :: none :: none :: none :: none :: some (B true) :: some (SV.loc 0 0) :: none :: some (SV.slc 3 0 (13 + i + 1) cap') :: n32 (n4 (some (I (NI l2)) :: some (I (WI ((NI i) + (1 : Int)))) :: n32 (n32 (n4 (n2 []))))), bx := [⟨24, .lst [I 128, L bY 8448 cY], 2, true⟩, ⟨3, .lst [], 0, false⟩, ⟨3, .lst [I (WI ((32 : Int) + (NI i)))], 1, true⟩, ⟨3, .vals (List.take ((13 + i) * 1) vs ++ [Value.int IntKind.i64 (WI ((32 : Int) + (NI i)))]), tot', true⟩], E := E : St }) else ∃ (cs : List Value), (cs = [] ∨ E (VS bY 8448 cY) cs) ∧ 8448 ≤ List.length cs ∧ (∀ (x : Value), List.Mem x cs → Value.oneCell' x = true) ∧ 0 ≤ 0 ∧ 0 ≤ 0 ∧ 0 ≤ 0 ∧ ∀ (cap' tot' : Nat), 8448 ≤ cap' → cap' * 1 ≤ tot' → ((NI (13 + i)) = (0 : Int) → False) ∧ req ((0 : Int) ≤ Int.tmod (WI a1) (NI (13 + i)) ∧ Int.tmod (WI a1) (NI (13 + i)) < (NI (13 + i))) (∃ (n : Int), LoadV WL8.P 3 vs (0 + Int.toNat (Int.tmod (WI a1) (NI (13 + i))) * 1) (SV.raw (Value.int IntKind.i64 n)) ∧ req ((0 : Int) ≤ WI ((4224 : Int) + n) ∧ WI ((4224 : Int) + n) < (8448 : Int)) (∃ (n_1 : Int), LoadV WL8.P 5 ([] ++ List.take 8448 cs) (0 + Int.toNat (WI ((4224 : Int) + n)) * 1) (SV.raw (U8 n_1)) ∧ req ((0 : Int) ≤ WI ((4224 : Int) + n) ∧ WI ((4224 : Int) + n) < (8448 : Int)) (0 + Int.toNat (WI ((4224 : Int) + n)) * 1 + 1 ≤ List.length ([] ++ List.take 8448 cs) ∧ ∀ (base : Option Addr) (E' : Mem), Mem.le E E' → WinE E' base (layV ([] ++ List.take 8448 cs) (0 + Int.toNat (WI ((4224 : Int) + n)) * 1) [U8 (IntKind.wrap IntKind.u8 (NI (BitVec.toNat (BitVec.ofInt (IntKind.bits IntKind.u8) n_1 ^^^ BitVec.ofInt (IntKind.bits IntKind.u8) a2))))]) → ∃ (zs : List Int), ∃ (p : List Int), ∃ (ms : List (Int × List Int)), ∃ (e : Int), Bs E' (Option.map (fun (x : Addr) => Addr.add x 0) base) 8448 cap' zs ∧ Bs E' b2 l2 c2 p ∧ installF 128 zs 20 p = (ms, e) ∧ ∀ (b' : Option Addr) (l' c' : Nat) (E'_1 : Mem), Mem.le E' E'_1 → FL E'_1 b' l' c' ms → ∃ (X : List (Int × List Int)), ∃ (w : List Int), FL E'_1 b' l' c' (X ++ [((128 : Int), w)]) ∧ e = (0 : Int) ∧ l' ≤ 100000 ∧ ∀ (b' : Option Addr) (l' c' : Nat) (E' : Mem), Mem.le E'_1 E' → Bs E' b' l' c' w → Mem.le E'_1 E' ∧ ∃ (zs : List Int), ∃ (ms : List (Int × List Int)), ∃ (e : Int), Bs E' b' l' c' zs ∧ markF 128 zs 20 (1 : Int) = (ms, e) ∧ ∀ (b' : Option Addr) (l' c' : Nat) (E'_2 : Mem), Mem.le E' E'_2 → FL E'_2 b' l' c' ms → Mem.le E' E'_2 ∧ ∃ (X : List (Int × List Int)), ∃ (w : List Int), FL E'_2 b' l' c' (X ++ [((128 : Int), w)]) ∧ e = (0 : Int) ∧ l' ≤ (100000 : Nat) ∧ ∀ (b' : Option Addr) (l' c' : Nat) (E' : Mem), Mem.le E'_2 E' → Bs E' b' l' c' w → Mem.le E'_2 E' ∧ ∃ (zs : List Int), ∃ (r : Int), Bs E' (Option.map (fun (x : Addr) => Addr.add x 0) base) 8448 cap' zs ∧ marksF 128 zs (7 : Int) = r ∧ ∀ (E'_3 : Mem), Mem.le E' E'_3 → Mem.le E' E'_3 ∧ bif bif true then r == (-1 : Int) else false then ∃ (zs : List Int), ∃ (ds : List Int), Bs E'_3 (Option.map (fun (x : Addr) => Addr.add x 0) base) 8448 cap' zs ∧ Bs E'_3 b1 l1 c1 ds ∧ selectF 128 zs = (((3 : Int), ds), (0 : Int)) ∧ l1 ≤ (100000 : Nat) ∧ ∀ (E' : Mem), Mem.le E'_3 E' → Mem.le E'_3 E' ∧ ∃ (zs : List Int), ∃ (ds : List Int), Bs E' b' l' c' zs ∧ Bs E' b2 l2 c2 ds ∧ selectF 128 zs = (((20 : Int), ds), (0 : Int)) ∧ l2 ≤ (100000 : Nat) ∧ ∀ (E'_4 : Mem), Mem.le E' E'_4 → Mem.le E' E'_4 ∧ Mem.le E0 E'_4 ∧ K (SV.raw (Value.bool true)) E'_4 else Mem.le E0 E'_3 ∧ K (SV.raw (Value.bool false)) E'_3))))
  delta WI NI U8 VS n2 n4 n32
  have ylen := R.len
  have z2l := B2.2.1
  refine condC (fun g => ?_) (fun g => ?_)
  · have g : i < l2 := by simpa using g
    have w1 : IntKind.wrap .i64 ((i : Int) + 1) = ((i + 1 : Nat) : Int) := by rw [wrap_i64 (by omega)]; simp
    have w2 : IntKind.wrap .i64 ((32 : Int) + (i : Int)) = ((32 + i : Nat) : Int) := by rw [wrap_i64 (by omega)]; omega
    rw [w1, w2]
    refine ⟨by show _ ≤ (List.map SV.raw _).length; rw [List.length_map]; omega, by omega, hc.1, req_intro (by omega) (fun cap' tot' c1 c2 => ?_)⟩
    have nx := fun vs' => ih g cap' tot' vs' ⟨by omega, by omega⟩
    rw [show 13 + (i + 1) = 13 + i + 1 by omega] at nx
    refine Lp_re [some 0, some 3] (nx (List.take ((13 + i) * 1) vs ++ [.int .i64 ((32 + i : Nat) : Int)]) ?_ ?_) (wkG (Mem.le_refl _))
    · rw [List.length_append, List.length_take]; simp only [List.length_cons, List.length_nil]; omega
    · rw [Nat.mul_one, hvs, plF_succ, List.map_append, List.take_of_length_le (by rw [List.length_append, List.length_map, plF_len]; simp)]; rfl
  · have g : i = l2 := by simp at g; omega
    have gz : i = z2.length := by omega
    obtain ⟨t1, t2, t3⟩ := BY.src
    have t2 : 8448 ≤ (y.map (Value.int .u8)).length := by rw [List.length_map]; omega
    refine ⟨_, t1, t2, t3, Nat.le_refl _, Nat.le_refl _, Nat.le_refl _, fun capB totB c1 c2 => ⟨fun q => by omega, ?_⟩⟩
    obtain ⟨k, hk, ek⟩ : ∃ k : Nat, k < 13 + i ∧ Int.tmod (IntKind.wrap .i64 a1) ((13 + i : Nat) : Int) = (k : Int) := idx_ok ⟨ha1.1, by omega⟩ (by omega) (by omega)
    obtain ⟨q, eq1, eq2⟩ := plF_get hk
    rw [ek]
    have lv : LoadV Try.prog 3 vs (0 + Int.toNat (k : Int) * 1) (.raw (.int .i64 (q : Int))) := by
      rw [Int.toNat_natCast, Nat.zero_add, Nat.mul_one]
      have hu : Try.prog.underlying 3 = some (.int .i64) := by kernel_rfl
      unfold LoadV loadW
      rw [hu]
      show (vs.map SV.raw)[k]? = _
      have this : (List.take (13 + i) vs)[k]? = ((plF i).map (Value.int .i64))[k]? := congrArg (fun l : List Value => l[k]?) hvs
      rw [List.getElem?_take_of_lt (by omega), List.getElem?_map, eq1] at this
      rw [List.getElem?_map, this]; rfl
    have q60 : q ≤ 100 := by omega
    have w1 : IntKind.wrap .i64 ((4224 : Int) + (q : Int)) = ((4224 + q : Nat) : Int) := by rw [wrap_i64 (by omega)]; omega
    have e1 : [] ++ List.take 8448 (y.map (Value.int .u8)) = vB y := by rw [List.nil_append, List.take_of_length_le (by simp; omega)]
    refine req_intro (by omega) ⟨(q : Int), lv, ?_⟩
    rw [w1, e1, Int.toNat_natCast, show 0 + (4224 + q) * 1 = 4224 + q by omega]
    have lve : (vB y).length = 8448 := by show (List.map _ y).length = _; rw [List.length_map]; exact R.len
    refine req_intro (by omega) ⟨y.getD (4224 + q) 0, loadV_byte rfl (by omega), req_intro (by omega) ⟨by rw [lve]; omega, ?_⟩⟩
    have by1 : 0 ≤ y.getD (4224 + q) 0 ∧ y.getD (4224 + q) 0 ≤ 255 := by
      rw [List.getD_eq_getElem?_getD, List.getElem?_eq_getElem (by omega)]
      exact R.byt _ (List.getElem_mem _)
    have xn := xor_ne by1 ha2 h2
    have xb := wu8b (((BitVec.ofInt (IntKind.bits .u8) (y.getD (4224 + q) 0) ^^^ BitVec.ofInt (IntKind.bits .u8) a2).toNat : Nat) : Int)
    generalize IntKind.wrap .u8 (((BitVec.ofInt (IntKind.bits .u8) (y.getD (4224 + q) 0) ^^^ BitVec.ofInt (IntKind.bits .u8) a2).toNat : Nat) : Int) = nv at xn xb
    rw [layV_set (by omega)]
    have wl : (y.set (4224 + q) nv).length = 8448 := by rw [List.length_set]; exact R.len
    have wb : ∀ x ∈ y.set (4224 + q) nv, 0 ≤ x ∧ x ≤ 255 := fun x hx => by
      rcases List.mem_or_eq_of_mem_set hx with hx | rfl
      · exact R.byt x hx
      · exact xb
    have wo : ∀ j, j ≠ 4224 + q → (y.set (4224 + q) nv).getD j 0 = y.getD j 0 := fun j hj => by
      rw [List.getD_eq_getElem?_getD, List.getD_eq_getElem?_getD, List.getElem?_set_ne (fun w => hj w.symm)]
    have wn : (y.set (4224 + q) nv).getD (4224 + q) 0 ≠ y.getD (4224 + q) 0 := by
      rw [List.getD_eq_getElem?_getD, List.getElem?_set_self (by omega)]; exact xn
    obtain ⟨d1, d2, X, x, v, d3, d4, d5⟩ := damage_run R (by omega) wl wb (by rw [← gz]; exact eq2) wo wn B2.2.2.2.1
    generalize y.set (4224 + q) nv = w at wl wb wo wn d1 d2 d3
    have nq := inst_num (s := 128) (z := w) (v := 20) (p := z2)
    rw [d3] at nq
    have nq : (X ++ [((128 : Int), x)]).length ≤ 9000 := nq
    refine fun base E1 k1 ww => ?_
    have le1 : Mem.le E E1 := Mem.le_trans (Mem.le_refl E) k1
    have B1 := B1.mono k1
    have B2 := B2.mono k1
    have BW := Bs.win ww rfl wl c1 wb
    refine ⟨w, z2, _, 0, BW, B2, d3, fun bF lF cF E2 k2 FX => ?_⟩
    have le2 : Mem.le E E2 := Mem.le_trans le1 k2
    have B1 := B1.mono k2
    have B2 := B2.mono k2
    have BW := BW.mono k2
    have nF := FX.len
    refine ⟨X, x, FX, rfl, by omega, fun bV lV cV E3 k3 BV => ?_⟩
    have le3 : Mem.le E E3 := Mem.le_trans le2 k3
    have B1 := B1.mono k3
    have B2 := B2.mono k3
    have BW := BW.mono k3
    have FX := FX.mono k3
    refine ⟨k3, x, _, 0, BV, d4, fun bG lG cG E4 k4 FM => ?_⟩
    have le4 : Mem.le E E4 := Mem.le_trans le3 k4
    have B1 := B1.mono k4
    have B2 := B2.mono k4
    have BW := BW.mono k4
    have FX := FX.mono k4
    have BV := BV.mono k4
    have nG := FM.len
    have nG : 2 = lG := nG
    refine ⟨k4, [(128, x)], v, FM, rfl, by omega, fun bU lU cU E5 k5 BU => ?_⟩
    have le5 : Mem.le E E5 := Mem.le_trans le4 k5
    have B1 := B1.mono k5
    have B2 := B2.mono k5
    have BW := BW.mono k5
    have FX := FX.mono k5
    have BV := BV.mono k5
    have FM := FM.mono k5
    refine ⟨k5, w, -1, BW, d1, fun E6 k6 => ?_⟩
    have le6 : Mem.le E E6 := Mem.le_trans le5 k6
    have B1 := B1.mono k6
    have B2 := B2.mono k6
    have BW := BW.mono k6
    have FX := FX.mono k6
    have BV := BV.mono k6
    have FM := FM.mono k6
    have BU := BU.mono k6
    refine ⟨k6, condC (fun _ => ?_) (fun g => absurd g (by decide))⟩
    refine ⟨w, z1, BW, B1, d2, by omega, fun E7 k7 => ?_⟩
    have le7 : Mem.le E E7 := Mem.le_trans le6 k7
    have B1 := B1.mono k7
    have B2 := B2.mono k7
    have BW := BW.mono k7
    have FX := FX.mono k7
    have BV := BV.mono k7
    have FM := FM.mono k7
    have BU := BU.mono k7
    refine ⟨k7, v, z2, BU, B2, d5, by omega, fun E8 k8 => ?_⟩
    have le8 : Mem.le E E8 := Mem.le_trans le7 k8
    have B1 := B1.mono k8
    have B2 := B2.mono k8
    have BW := BW.mono k8
    have FX := FX.mono k8
    have BV := BV.mono k8
    have FM := FM.mono k8
    have BU := BU.mono k8
    exact ⟨k8, Mem.le_trans hE le8, h E8 (Mem.le_trans hE le8)⟩
theorem lp8 {b1 b2 bY : Option Addr} {l1 c1 l2 c2 cY : Nat} {a1 a2 : Int} {E0 E : Mem} {y z1 z2 : List Int} (R : Run y z1 z2) (BY : Bs E bY 8448 cY y) (B1 : Bs E b1 l1 c1 z1) (B2 : Bs E b2 l2 c2 z2) (g1 : l1 ≤ 60) (g2 : l2 ≤ 60) (ha1 : 0 ≤ a1 ∧ a1 ≤ 255) (ha2 : 0 ≤ a2 ∧ a2 ≤ 255) (h2 : a2 ≠ 0) (h : ∀ E', Mem.le E0 E' → K (B true) E') (hE : Mem.le E0 E) :
    ∀ {r : Nat} {i cap tot : Nat} {vs : List Value} (hc : 13 + i ≤ cap ∧ cap ≤ tot) (hv : 13 + i ≤ vs.length) (hvs : List.take (13 + i) vs = (plF i).map (.int .i64)) (hi : i ≤ l2), i + r = l2 → Lp WL8 8 Try.f8 [1, 1, 1, 1, 1, 1, 0, 1, 0] 0 (pubK E0 K) (sh8 b1 b2 bY l1 c1 l2 c2 cY a1 a2 i cap tot vs E)
  | 0, i, cap, tot, vs, hc, hv, hvs, hi, hr => Lp_ind (ι := Unit) okWL8 (fun _ => sh8 b1 b2 bY l1 c1 l2 c2 cY a1 a2 i cap tot vs E) (fun _ => 0) (fun _ _ => r8 R BY B1 B2 g1 g2 ha1 ha2 h2 h hE hc hv hvs hi (fun g => by omega)) ()
  | r + 1, i, cap, tot, vs, hc, hv, hvs, hi, hr => Lp_ind (ι := Unit) okWL8 (fun _ => sh8 b1 b2 bY l1 c1 l2 c2 cY a1 a2 i cap tot vs E) (fun _ => 0) (fun _ _ => r8 R BY B1 B2 g1 g2 ha1 ha2 h2 h hE hc hv hvs hi (fun g cap' tot' vs' k1 k2 k3 => lp8 R BY B1 B2 g1 g2 ha1 ha2 h2 h hE (r := r) k1 k2 k3 g (by omega))) ()
theorem e8 {b1 : Option Addr} {l1 : Nat} {c1 : Nat} {z1 : List Int} {b2 : Option Addr} {l2 : Nat} {c2 : Nat} {z2 : List Int} {a1 : Int} {a2 : Int} (hB1 : Bs E b1 l1 c1 z1) (hL1 : l1 ≤ 9223372036854775807) (hB2 : Bs E b2 l2 c2 z2) (hL2 : l2 ≤ 9223372036854775807) (ha1 : (Lit.int .u8 a1).wf = true) (ha2 : (Lit.int .u8 a2).wf = true) (h : ∀ E' : Mem, Mem.le E E' → K (B true) E') :
    Ent WL8 8 Try.f8 [L b1 l1 c1, L b2 l2 c2, .raw (.int .u8 a1), .raw (.int .u8 a2)] E K := by
  refine same (by kernel_rfl) (?_ : ∀ (E' : Mem), Mem.le E E' → Mem.le E E' ∧ bif decide ((NI l1) > (60 : Int)) then Mem.le E E' ∧ K (SV.raw (Value.bool true)) E' else bif bif false then true else decide ((NI l2) > (60 : Int)) then Mem.le E E' ∧ K (SV.raw (Value.bool true)) E' else bif bif false then true else a2 == (0 : Int) then Mem.le E E' ∧ K (SV.raw (Value.bool true)) E' else ∃ (xs : List Int), ∃ (ys : List Int), Bs E' b1 l1 c1 xs ∧ Bs E' b2 l2 c2 ys ∧ l1 ≤ 60 ∧ l2 ≤ 60 ∧ ∀ (b' : Option Addr) (l' c' : Nat) (y : List Int) (E'_1 : Mem), Mem.le E' E'_1 → Hyp (Run y xs ys) → Bs E'_1 b' l' c' y → Mem.le E' E'_1 ∧ Mem.le E'_1 E'_1 ∧ bif bif false then true else !bif true then (NI l') == (8448 : Int) else false then Mem.le E E'_1 ∧ K (SV.raw (Value.bool false)) E'_1 else Lp WL8 8 Try.f8 [1, 1, 1, 1, 1, 1, 0, 1, 0] 0 (pubK E K) { fr := some (L b1 l1 c1) :: some (L b2 l2 c2) :: some (SV.raw (U8 a1)) :: some (SV.raw (U8 a2)) :: none :: none :: none :: none :: some (B false) :: some (B true) :: some (SV.loc 0 0) :: some (B true) :: some (SV.slc 2 0 13 13) :: n4 (n2 (none :: (some (B true) :: some (L b1 l1 c1) :: some (I (NI l1)) :: some (B (decide ((NI l1) > (60 : Int)))) :: some (B false) :: some (L b2 l2 c2) :: some (I (NI l2)) :: some (B (decide ((NI l2) > (60 : Int)))) :: some (B (bif false then true else decide ((NI l2) > (60 : Int)))) :: some (B false) :: some (SV.raw (U8 a2)) :: some (B (a2 == (0 : Int))) :: some (B (bif false then true else a2 == (0 : Int))) :: none :: some (SV.tup [SV.agg [I 128, L b' l' c'], B true]) :: some (L b1 l1 c1) :: some (L b2 l2 c2) :: some (SV.tup [SV.agg [I 128, L b' l' c'], B true]) :: some (SV.agg [I 128, L b' l' c']) :: some (B true) :: some (B true) :: some (B false) :: some (B false) :: some (SV.agg [I 128, L b' l' c']) :: some (B (bif true then (NI l') == (8448 : Int) else false)) :: some (B !bif true then (NI l') == (8448 : Int) else false) :: some (B (bif false then true else !bif true then (NI l') == (8448 : Int) else false)) :: some (SV.slc 2 0 13 13) :: some (L b2 l2 c2) :: some (I (NI l2)) :: some (I 0) :: n32 (n32 (n4 (n2 [])))))), bx := [⟨24, .lst [I 128, L b' l' c'], 2, true⟩, ⟨24, .lst [I 128, L b' l' c'], 2, true⟩, ⟨3, .lst [I 0, I 1, I 2, I 3, I 6, I 7, I 8, I 9, I 10, I 11, I 12, I 13, I 14], 13, true⟩], E := E'_1 : St })
  delta NI U8 n2 n4 n32
  refine fun E1 k1 => ?_
  have le1 : Mem.le E E1 := Mem.le_trans (Mem.le_refl E) k1
  refine ⟨k1, condC (fun g => ⟨le1, h E1 le1⟩) (fun g1 => condC (fun g => ⟨le1, h E1 le1⟩) (fun g2 => condC (fun g => ⟨le1, h E1 le1⟩) (fun g3 => ?_)))⟩
  have g1 : l1 ≤ 60 := by simp at g1; omega
  have g2 : l2 ≤ 60 := by simp at g2; omega
  have h2 : a2 ≠ 0 := by simpa using g3
  have m1 := hB1.2.1
  have m2 := hB2.2.1
  have B1 := hB1.mono le1
  have B2 := hB2.mono le1
  refine ⟨z1, z2, B1, B2, g1, g2, fun bY lY cY y E2 k2 R BY => ?_⟩
  have le2 : Mem.le E E2 := Mem.le_trans le1 k2
  have B1 := B1.mono k2
  have B2 := B2.mono k2
  have R : Run y z1 z2 := R
  have lye : lY = 8448 := by rw [← BY.2.1, R.len]
  subst lye
  refine ⟨k2, Mem.le_refl _, condC (fun g => absurd g (by decide)) (fun _ => ?_)⟩
  exact Lp_re [some 0, some 2] (lp8 R BY B1 B2 g1 g2 (u8_wf ha1) (u8_wf ha2) h2 h le2 (r := l2) (i := 0) (cap := 13) (tot := 13) (vs := (plF 0).map (.int .i64)) ⟨by decide, by decide⟩ (by decide) rfl (Nat.zero_le _) (by omega)) (wkG (Mem.le_refl _))
theorem opn8 (W : World) (K : List SV → Prop) (h : ∀ (b1 : Option Addr) (l1 c1 : Nat) (z1 : List Int), (l1 ≤ c1) → (c1 ≤ maxLen) → (b1 = none → c1 = 0) → (z1.length = c1) → (∀ x ∈ z1, (Lit.int .u8 x).wf = true) → RowAt W (.slice b1 l1 c1) (z1.map (.int .u8)) → ∀ (b2 : Option Addr) (l2 c2 : Nat) (z2 : List Int), (l2 ≤ c2) → (c2 ≤ maxLen) → (b2 = none → c2 = 0) → (z2.length = c2) → (∀ x ∈ z2, (Lit.int .u8 x).wf = true) → RowAt W (.slice b2 l2 c2) (z2.map (.int .u8)) → ∀ a1 : Int, (Lit.int .u8 a1).wf = true → ∀ a2 : Int, (Lit.int .u8 a2).wf = true → K [L b1 l1 c1, L b2 l2 c2, .raw (.int .u8 a1), .raw (.int .u8 a2)]) : opnAll Try.prog W Try.f8.params.toList K :=
  same (by kernel_rfl) h
theorem sem8 (W : World) : opnAll Try.prog W Try.f8.params.toList fun ss => TabSem Try.prog 8 ss (fun v cs => RowAt W v cs) fun r _ => r = .raw (.bool true) := by
  refine opn8 W _ ?_
  intro b1 l1 c1 z1 hl1 hc1 hb1 hz1 hw1 hE1 b2 l2 c2 z2 hl2 hc2 hb2 hz2 hw2 hE2 a1 ha1 a2 ha2
  exact Ent.sem okWL8 Try.func8 ⟨by kernel_rfl, by kernel_rfl⟩ rfl (e8 (Bs.of hl1 hb1 hz1 hw1 hE1) (Nat.le_trans hl1 (by simpa [maxLen] using hc1)) (Bs.of hl2 hb2 hz2 hw2 hE2) (Nat.le_trans hl2 (by simpa [maxLen] using hc2)) ha1 ha2 (fun _ _ => rfl))
theorem lifted8 (os : Os) (started : os.Started) (H : Type) (enc : TypeId × Value → H) :
    ReturnsInHanded {} Try.checked os 8 .any (Rows.bootDamageSpec.pre6 enc Try.prog Try.f8 Rows.bootDamageRow.domain false) (Rows.bootDamageSpec.post enc Try.prog Try.f8 false true false false) :=
  lift_true (C := Try.checked) (by kernel_rfl) (by kernel_rfl) started (by kernel_rfl) Try.func8
    (ChangeSpec.witness6 (enc := enc) (C := Try.checked) false ⟨#[], #[.slice none 0 0, .slice none 0 0, .int .u8 0, .int .u8 0], []⟩ 8 (by kernel_rfl) (by kernel_rfl) (by kernel_rfl) (by kernel_rfl))
    (Tb := 4) (by kernel_rfl) (by kernel_rfl) (by kernel_rfl) rfl
    (fun ds hl => by
      match ds, hl with
      | [d0, d1, d2, d3], _ => exact ⟨rfl, rfl, rfl⟩)
    sem8
theorem over8 : Rows.bootDamageRow.holds Try.pinned (OpenSpec.ofChange Rows.bootDamageSpec) :=
  OpenClaim.holds_of_wide 8 Try.f8 rfl rfl rfl rfl rfl rfl rfl ⟨rfl, rfl, rfl, rfl, rfl⟩ rfl rfl rfl rfl rfl (by kernel_rfl) Try.func8 (by kernel_rfl)
    (of_decide_eq_true (by kernel_rfl)) (by unfold Func.isWrapper; first | (rw [if_pos (by decide +kernel)]; kernel_rfl) | (rw [if_neg (by decide +kernel)]; exact ⟨rfl, rfl⟩))
    (fun os started H enc _ => lifted8 os started H enc)
theorem proved8 : Rows.BootDamageSaid := over8
end Go.Proofs.Ytdblighgcpabnaa.BootOwn
