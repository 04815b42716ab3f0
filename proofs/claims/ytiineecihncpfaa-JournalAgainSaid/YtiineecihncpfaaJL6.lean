/- The law's proof: for every input the law answers true. Conditions: none. -/
import Derived.Test.YtiineecihncpfaaJg22
import Derived.OpenShut
import Derived.Test.YtiineecihncpfaaRows
namespace Go.Proofs.Ytiineecihncpfaa.JournalOwn
open Go Go.Sx Go.Proofs.Ytiineecihncpfaa
set_option maxRecDepth 100000
set_option maxHeartbeats 4000000
set_option linter.unusedVariables false
set_option linter.unusedSimpArgs false
variable {E : Mem} {K : SV → Mem → Prop}
theorem SLr_of {α : Type} {R : RowR α} {Q : α → Prop} : ∀ {z : List (List Value)}, (∀ r ∈ z, ∃ x, R E x r ∧ Q x) → ∃ xs, SLr R E z xs ∧ ∀ x ∈ xs, Q x
  | [], _ => ⟨[], SLr.nil, fun x h => by cases h⟩
  | r :: z, h => by
    obtain ⟨x, h1, h2⟩ := h r (by simp)
    obtain ⟨xs, h3, h4⟩ := SLr_of (fun r hr => h r (List.mem_cons_of_mem _ hr))
    exact ⟨x :: xs, (SLr.one h1).app h3, fun y hy => by
      rcases List.mem_cons.1 hy with rfl | hy
      · exact h2
      · exact h4 y hy⟩
theorem RowAt_take {W : World} {v : Value} {cs : List Value} (h : RowAt W v cs) (k : Nat) : RowAt W v (cs.take k) := by
  rcases h with rfl | ⟨a, n, c, h1, h2, h3⟩
  · exact .inl (by simp)
  · exact .inr ⟨a, n, c, h1, h2, fun i x hx => h3 i x (by
      have hk := (List.getElem?_eq_some_iff.1 hx).1
      rw [List.length_take] at hk
      rwa [List.getElem?_take_of_lt (by omega)] at hx)⟩
theorem SL_of {α : Type} {k : Nat} {R : RowR α} {Q : α → Prop} {W : World} {b : Option Addr} {l c : Nat} {z : List (List Value)} (hl : l ≤ c) (hb : b = none → c = 0) (hz : z.length = c) (hE : RowAt W (.slice b l c) z.flatten) (hk : ∀ r ∈ z, r.length = k)
    (hr : ∀ r ∈ z, ∃ x, R (fun v cs => RowAt W v cs) x r ∧ Q x) : ∃ xs, SL R (fun v cs => RowAt W v cs) b l c xs ∧ ∀ x ∈ xs, Q x := by
  obtain ⟨xs, h1, h2⟩ := SLr_of (z := z.take l) (fun r h => hr r (List.mem_of_mem_take h))
  refine ⟨xs, ⟨z.take l, h1, ?_, hl, .inr ?_, fun e => by have := hb e; omega⟩, h2⟩
  · rw [← h1.1, List.length_take]; omega
  · show RowAt W _ _
    rw [← flat_take hk]; exact RowAt_take hE _
theorem Shp_sl {W : World} {n : Nat} {T e : TypeId} {v : Value} (hu : Try.prog.underlying T = some (.slice e)) (h : Shp Try.prog W (n + 1) T [v]) : ∃ (b : Option Addr) (l c : Nat) (z : List (List Value)), v = .slice b l c ∧ l ≤ c ∧ c ≤ maxLen ∧ (b = none → c = 0) ∧ z.length = c ∧ RowAt W (.slice b l c) z.flatten ∧ ∀ r ∈ z, r.length = Try.prog.cellsOf e ∧ Shp Try.prog W n e r := by
  unfold Shp at h
  rw [hu] at h
  obtain ⟨b, l, c, z, h1, h⟩ := h
  exact ⟨b, l, c, z, by simpa using h1, h⟩
theorem bytes_of {W : World} {n : Nat} : ∀ {z : List (List Value)}, (∀ r ∈ z, r.length = Try.prog.cellsOf 5 ∧ Shp Try.prog W (n + 1) 5 r) → ∃ zs : List Int, z.flatten = zs.map (.int .u8) ∧ zs.length = z.length ∧ ∀ x ∈ zs, (Lit.int .u8 x).wf = true
  | [], _ => ⟨[], rfl, rfl, by simp⟩
  | r :: z, h => by
    obtain ⟨zs, h1, h2, h3⟩ := bytes_of (fun r hr => h r (List.mem_cons_of_mem _ hr))
    obtain ⟨q1, q2⟩ := h r (by simp)
    have q1 : r.length = 1 := q1.trans (by kernel_rfl)
    match r, q1 with
    | [v], _ =>
      obtain ⟨x, rfl, w⟩ := Shp_int1 (k := .u8) (by kernel_rfl) q2
      exact ⟨x :: zs, by rw [List.flatten_cons, h1]; rfl, by simp [h2], fun y hy => by
        rcases List.mem_cons.1 hy with rfl | hy
        · exact w
        · exact h3 y hy⟩
theorem bs_row {W : World} {r : List Value} (h1 : r.length = 1) (h2 : Shp Try.prog W 12 22 r) : ∃ x : List Int, RB (fun v cs => RowAt W v cs) x r ∧ x.length ≤ 9223372036854775807 := by
  match r, h1 with
  | [v], _ =>
    obtain ⟨b, l, c, z, rfl, g1, g2, g3, g4, g5, g6⟩ := Shp_sl (e := 5) (by kernel_rfl) h2
    obtain ⟨zs, e1, e2, e3⟩ := bytes_of g6
    rw [e1] at g5
    have hB := Bs.of g1 g3 (e2.trans g4) e3 g5
    refine ⟨_, ⟨b, l, c, rfl, hB⟩, ?_⟩
    have e : maxLen = 9223372036854775807 := by decide
    rw [hB.2.1]; omega
theorem BLof {W : World} {b : Option Addr} {l c : Nat} {z : List (List Value)} (hl : l ≤ c) (hb : b = none → c = 0) (hz : z.length = c) (hE : RowAt W (.slice b l c) z.flatten) (hr : ∀ r ∈ z, r.length = 1 ∧ Shp Try.prog W 12 22 r) :
    ∃ xs, BL (fun v cs => RowAt W v cs) b l c xs ∧ ∀ x ∈ xs, x.length ≤ 9223372036854775807 :=
  SL_of (k := 1) hl hb hz hE (fun r h => (hr r h).1) (fun r h => bs_row (hr r h).1 (hr r h).2)
noncomputable def tabL6 : FuncId → List SV → Mem → (SV → Mem → Prop) → Prop := fun f args E K => match f with
  | 10 => d0 args ((∀ E' : Mem, Mem.le E E' → K (B true) E'))
  | 14 => d2 args fun x0 x1 => dC x0 fun l1 => d2 l1 fun x0_0 x0_1 => dI x0_0 fun a1 => dS x0_1 fun b2 l3 c4 => dS x1 fun b5 l6 c7 => ∃ (xsss : List (List (List Int))), l3 ≤ 9223372036854775807 ∧ SL RBL E b5 l6 c7 xsss ∧ l6 ≤ 10 ∧ (K (B (decide (shortP l3 xsss))) E)
  | 15 => d1 args fun x0 => dC x0 fun l1 => d2 l1 fun x0_0 x0_1 => dI x0_0 fun a1 => dS x0_1 fun b2 l3 c4 => ∃ (zs : List Int), Bs E b2 l3 c4 zs ∧ (∀ (b' : Option Addr) (l' c' : Nat) (yss : List (List Int)) (e : Int) (E' : Mem), Mem.le E E' → Hyp (readF a1 zs = (yss, e)) → BL E' b' l' c' yss → K (.tup [L b' l' c', I e]) E')
  | 17 => d2 args fun x0 x1 => dC x0 fun l1 => d2 l1 fun x0_0 x0_1 => dI x0_0 fun a1 => dS x0_1 fun b2 l3 c4 => dS x1 fun b5 l6 c7 => ∃ (zs : List Int) (ds : List Int), Bs E b2 l3 c4 zs ∧ Bs E b5 l6 c7 ds ∧ l6 ≤ 60000 ∧ (∀ (b' : Option Addr) (l' c' : Nat) (ms : List (Int × List Int)) (e : Int) (E' : Mem), Mem.le E E' → Hyp (appendF a1 zs ds = (ms, e)) → FL E' b' l' c' ms → K (.tup [L b' l' c', I e]) E')
  | 23 => d2 args fun x0 x1 => dC x0 fun l1 => d2 l1 fun x0_0 x0_1 => dI x0_0 fun a1 => dS x0_1 fun b2 l3 c4 => dS x1 fun b5 l6 c7 => ∃ (zs : List Int) (want : List (List Int)), Bs E b2 l3 c4 zs ∧ BL E b5 l6 c7 want ∧ (∀ E' : Mem, Mem.le E E' → K (B (decide (readF a1 zs = (want, 0)))) E')
  | 24 => d1 args fun x0 => dC x0 fun l1 => d2 l1 fun x0_0 x0_1 => dI x0_0 fun a1 => dS x0_1 fun b2 l3 c4 => ∃ (zs : List Int), Bs E b2 l3 c4 zs ∧ areaF a1 l3 ≠ 0 ∧ (∀ (u g : Int) (E' : Mem), Mem.le E E' → Hyp (usedF (areaF a1 l3) zs = (u, g)) → K (.tup [I u, I g]) E')
  | 25 => d1 args fun x0 => dS x0 fun b1 l2 c3 => ∃ (dss : List (List Int)), BL E b1 l2 c3 dss ∧ (∀ d ∈ dss, d.length ≤ 100000) ∧ l2 ≤ 1000 ∧ (K (I (needF dss : Nat)) E)
  | _ => False
theorem tabL6_ok : TabOK Try.prog tabL6 := by
  intro f args E K h
  unfold tabL6 at h
  split at h
  · obtain ⟨rfl, h⟩ := d0_elim h
    exact TabSem.congr rfl (Ent.sem okL2 Try.func10 ⟨by kernel_rfl, by kernel_rfl⟩ rfl (j10 h))
  · replace h := d2_elim h
    obtain ⟨x0, x1, rfl, h⟩ := h
    replace h := dC_elim h
    obtain ⟨l1, hl1, h⟩ := h
    replace h := d2_elim h
    obtain ⟨x0_0, x0_1, rfl, h⟩ := h
    replace h := dI_elim h
    obtain ⟨a1, rfl, h⟩ := h
    replace h := dS_elim h
    obtain ⟨b2, l3, c4, rfl, h⟩ := h
    replace h := dS_elim h
    obtain ⟨b5, l6, c7, rfl, h⟩ := h
    obtain ⟨xsss, g0, g1, g2, h⟩ := h
    exact TabSem.congr (valL_cons (asCells_val hl1) (valL_cons rfl rfl)) (Ent.sem okL1 Try.func14 ⟨by kernel_rfl, by kernel_rfl⟩ rfl (j14 g0 g1 g2 h))
  · replace h := d1_elim h
    obtain ⟨x0, rfl, h⟩ := h
    replace h := dC_elim h
    obtain ⟨l1, hl1, h⟩ := h
    replace h := d2_elim h
    obtain ⟨x0_0, x0_1, rfl, h⟩ := h
    replace h := dI_elim h
    obtain ⟨a1, rfl, h⟩ := h
    replace h := dS_elim h
    obtain ⟨b2, l3, c4, rfl, h⟩ := h
    obtain ⟨zs, g0, h⟩ := h
    exact TabSem.congr (valL_cons (asCells_val hl1) rfl) (Ent.sem okKI Try.func15 ⟨by kernel_rfl, by kernel_rfl⟩ rfl (j15 g0 h))
  · replace h := d2_elim h
    obtain ⟨x0, x1, rfl, h⟩ := h
    replace h := dC_elim h
    obtain ⟨l1, hl1, h⟩ := h
    replace h := d2_elim h
    obtain ⟨x0_0, x0_1, rfl, h⟩ := h
    replace h := dI_elim h
    obtain ⟨a1, rfl, h⟩ := h
    replace h := dS_elim h
    obtain ⟨b2, l3, c4, rfl, h⟩ := h
    replace h := dS_elim h
    obtain ⟨b5, l6, c7, rfl, h⟩ := h
    obtain ⟨zs, ds, g0, g1, g2, h⟩ := h
    exact TabSem.congr (valL_cons (asCells_val hl1) (valL_cons rfl rfl)) (Ent.sem okKI Try.func17 ⟨by kernel_rfl, by kernel_rfl⟩ rfl (j17 g0 g1 g2 h))
  · replace h := d2_elim h
    obtain ⟨x0, x1, rfl, h⟩ := h
    replace h := dC_elim h
    obtain ⟨l1, hl1, h⟩ := h
    replace h := d2_elim h
    obtain ⟨x0_0, x0_1, rfl, h⟩ := h
    replace h := dI_elim h
    obtain ⟨a1, rfl, h⟩ := h
    replace h := dS_elim h
    obtain ⟨b2, l3, c4, rfl, h⟩ := h
    replace h := dS_elim h
    obtain ⟨b5, l6, c7, rfl, h⟩ := h
    obtain ⟨zs, want, g0, g1, h⟩ := h
    exact TabSem.congr (valL_cons (asCells_val hl1) (valL_cons rfl rfl)) (Ent.sem okK23 Try.func23 ⟨by kernel_rfl, by kernel_rfl⟩ rfl (j23 g0 g1 h))
  · replace h := d1_elim h
    obtain ⟨x0, rfl, h⟩ := h
    replace h := dC_elim h
    obtain ⟨l1, hl1, h⟩ := h
    replace h := d2_elim h
    obtain ⟨x0_0, x0_1, rfl, h⟩ := h
    replace h := dI_elim h
    obtain ⟨a1, rfl, h⟩ := h
    replace h := dS_elim h
    obtain ⟨b2, l3, c4, rfl, h⟩ := h
    obtain ⟨zs, g0, g1, h⟩ := h
    exact TabSem.congr (valL_cons (asCells_val hl1) rfl) (Ent.sem okK5 Try.func24 ⟨by kernel_rfl, by kernel_rfl⟩ rfl (j24 g0 g1 h))
  · replace h := d1_elim h
    obtain ⟨x0, rfl, h⟩ := h
    replace h := dS_elim h
    obtain ⟨b1, l2, c3, rfl, h⟩ := h
    obtain ⟨dss, g0, g1, g2, h⟩ := h
    exact TabSem.congr (valL_cons rfl rfl) (Ent.sem okK3 Try.func25 ⟨by kernel_rfl, by kernel_rfl⟩ rfl (j25 g0 g1 g2 h))
  · exact h.elim
noncomputable def WL6 : Cx := { P := Try.prog, inl := fun f => List.contains [] f, tab := tabL6, isB := fun _ => false, tabB := fun _ _ _ _ _ => False, opt := { unroll := 0, carry := [], cuts := [16] }, muts := (fun o => match o with | .buildSlice .. => true | o => mutsD o) }
theorem okWL6 : CxOK WL6 := CxOK.four tabL6_ok (by kernel_rfl) (okInl (by kernel_rfl)) (fun _ _ _ _ _ h => h.elim)
def sh6 (b3 bT bM : Option Addr) (l3 c3 nT cT nM cM : Nat) (E : Mem) : St := ⟨[none, none, some (L b3 l3 c3), none, none, none, none, none, some (B false), some (B true), none, none, none, some (L bT nT cT), none, none, none, some (L bM nM cM), none, some (B true), none, none, none, none, none, none, none, none, none, none, none, none, none, none, none, none, none, none, none, none, none, none, none, none, none, none, none, none, none, none, none, none, none, none, none, none, none, none, none, none, none, none, none, none, none, none, none, none, none, none, none, none, none, none, none, none, none, none, none, none, none, none, none, none, none, none, none, none, none, none, none, none, none, none, none, none, none, none, none, none, none, none, none, none, none, none, none, none, none, none, none, none, none, none, none, none, none, none, none, none, none, none, none, none, none, none, none], [], E⟩
theorem pc6 {b3 bT bM : Option Addr} {l3 c3 nT cT nM cM : Nat} {s : Int} {z3 w : List Int} {ls : List (List Int)} {X : List (Int × List Int)} {E0 : Mem} (hB3 : Bs E b3 l3 c3 z3) (hT : BL E bT nT cT ls) (FM : FL E bM nM cM (X ++ [(s, w)])) (hw : readF s w = (ls ++ [z3], 0)) (hn : nT ≤ 1000) (hM : nM ≤ 100000) (hE : Mem.le E0 E) (hK : ∀ E', Mem.le E E' → K (B true) E') :
    Pc WL6 8 Try.f6 [1, 1, 1, 1, 1, 1, 1, 1, 1, 1, 1, 1] 0 (pubK E0 K) (sh6 b3 bT bM l3 c3 nT cT nM cM E) := by
  refine same (by kernel_rfl) (?_ : req ((0 : Int) ≤ WI ((NI nM) - (1 : Int)) ∧ WI ((NI nM) - (1 : Int)) < (NI nM)) ((∃ (cs : List Value), E (VS bM nM cM) cs ∧ (cs = [] → False)) ∧ req (nT ≤ cT) (req ((0 : Int) ≤ (NI nT) ∧ (NI nT) ≤ (NI cT)) (req ((0 : Int) ≤ (NI nT) ∧ (NI nT) ≤ (NI (toN (some (NI nT)) cT))) (∀ (base' : Option Addr) (E' : Mem), Mem.le E E' → (∀ (cs : List Value), E (VS bT nT cT) cs → E' (VS base' (toN (some (NI nT)) nT - 0) (toN (some (NI nT)) cT - 0)) (List.take ((toN (some (NI nT)) nT - 0) * 1) (List.drop 0 cs))) → Option.isNone base' = Option.isNone bT → (∃ (n : Int), ∃ (base : Option Addr), ∃ (len : Nat), ∃ (cap : Nat), LoadE WL6.P E' 24 (VS bM nM cM) (Int.toNat (WI ((NI nM) - (1 : Int))) * 2) (SV.agg [SV.raw (Value.int IntKind.i64 n), SV.raw (VS base len cap)]) ∧ bif Option.isNone base' then req (toN (some (NI nT)) nT - 0 = 0 ∧ toN (some (NI nT)) cT - 0 = 0) (∀ (cap' tot' : Nat), 1 ≤ cap' → cap' * 1 ≤ tot' → ∀ (base_1 : Option Addr) (E'_1 : Mem), Mem.le E' E'_1 → WinE E'_1 base_1 [VS b3 l3 c3] → ∃ (zs : List Int), ∃ (want : List (List Int)), Bs E'_1 base len cap zs ∧ BL E'_1 (Option.map (fun (x : Addr) => Addr.add x 0) base_1) 1 cap' want ∧ ∀ (E' : Mem), Mem.le E'_1 E' → Mem.le E0 E' ∧ K (SV.raw (Value.bool (bif true then decide (readF n zs = (want, (0 : Int))) else false))) E') else ∃ (cs : List Value), (cs = [] ∨ E' (VS base' (toN (some (NI nT)) nT - 0) (toN (some (NI nT)) cT - 0)) cs) ∧ (toN (some (NI nT)) nT - 0) * 1 ≤ List.length cs ∧ (∀ (x : Value), List.Mem x cs → Value.oneCell' x = true) ∧ req (toN (some (NI nT)) cT - 0 < toN (some (NI nT)) nT - 0 + 1) (req ((toN (some (NI nT)) nT - 0 + 1) * 24 ≤ 140737488355328) (∀ (cap' tot' : Nat), toN (some (NI nT)) nT - 0 + 1 ≤ cap' → cap' * 1 ≤ tot' → ∀ (base_1 : Option Addr) (E'_1 : Mem), Mem.le E' E'_1 → WinE E'_1 base_1 (List.take ((toN (some (NI nT)) nT - 0) * 1) cs ++ [VS b3 l3 c3]) → ∃ (zs : List Int), ∃ (want : List (List Int)), Bs E'_1 base len cap zs ∧ BL E'_1 (Option.map (fun (x : Addr) => Addr.add x 0) base_1) (toN (some (NI nT)) nT - 0 + 1) cap' want ∧ ∀ (E' : Mem), Mem.le E'_1 E' → Mem.le E0 E' ∧ K (SV.raw (Value.bool (bif true then decide (readF n zs = (want, (0 : Int))) else false))) E'))) ∧ (∃ (n : Int), ∃ (base : Option Addr), ∃ (len : Nat), ∃ (cap : Nat), LoadE WL6.P E' 24 (VS bM nM cM) (Int.toNat (WI ((NI nM) - (1 : Int))) * 2) (SV.agg [SV.raw (Value.int IntKind.i64 n), SV.raw (VS base len cap)]) ∧ bif Option.isNone base' then req (toN (some (NI nT)) nT - 0 = 0 ∧ toN (some (NI nT)) cT - 0 = 0) (∀ (cap' tot' : Nat), 1 ≤ cap' → cap' * 1 ≤ tot' → ∀ (base_1 : Option Addr) (E'_1 : Mem), Mem.le E' E'_1 → WinE E'_1 base_1 [VS b3 l3 c3] → ∃ (zs : List Int), ∃ (want : List (List Int)), Bs E'_1 base len cap zs ∧ BL E'_1 (Option.map (fun (x : Addr) => Addr.add x 0) base_1) 1 cap' want ∧ ∀ (E' : Mem), Mem.le E'_1 E' → Mem.le E0 E' ∧ K (SV.raw (Value.bool (bif true then decide (readF n zs = (want, (0 : Int))) else false))) E') else ∃ (cs : List Value), (cs = [] ∨ E' (VS base' (toN (some (NI nT)) nT - 0) (toN (some (NI nT)) cT - 0)) cs) ∧ (toN (some (NI nT)) nT - 0) * 1 ≤ List.length cs ∧ (∀ (x : Value), List.Mem x cs → Value.oneCell' x = true) ∧ req (toN (some (NI nT)) cT - 0 < toN (some (NI nT)) nT - 0 + 1) (req ((toN (some (NI nT)) nT - 0 + 1) * 24 ≤ 140737488355328) (∀ (cap' tot' : Nat), toN (some (NI nT)) nT - 0 + 1 ≤ cap' → cap' * 1 ≤ tot' → ∀ (base_1 : Option Addr) (E'_1 : Mem), Mem.le E' E'_1 → WinE E'_1 base_1 (List.take ((toN (some (NI nT)) nT - 0) * 1) cs ++ [VS b3 l3 c3]) → ∃ (zs : List Int), ∃ (want : List (List Int)), Bs E'_1 base len cap zs ∧ BL E'_1 (Option.map (fun (x : Addr) => Addr.add x 0) base_1) (toN (some (NI nT)) nT - 0 + 1) cap' want ∧ ∀ (E' : Mem), Mem.le E'_1 E' → Mem.le E0 E' ∧ K (SV.raw (Value.bool (bif true then decide (readF n zs = (want, (0 : Int))) else false))) E'))) ∧ bif Option.isNone base' then req (toN (some (NI nT)) nT - 0 = 0 ∧ toN (some (NI nT)) cT - 0 = 0) (∀ (cap' tot' : Nat), 1 ≤ cap' → cap' * 1 ≤ tot' → ∃ (n : Int), ∃ (base : Option Addr), ∃ (len : Nat), ∃ (cap : Nat), LoadE WL6.P E' 24 (VS bM nM cM) (Int.toNat (WI ((NI nM) - (1 : Int))) * 2) (SV.agg [SV.raw (Value.int IntKind.i64 n), SV.raw (VS base len cap)]) ∧ ∀ (base_1 : Option Addr) (E'_1 : Mem), Mem.le E' E'_1 → WinE E'_1 base_1 [VS b3 l3 c3] → ∃ (zs : List Int), ∃ (want : List (List Int)), Bs E'_1 base len cap zs ∧ BL E'_1 (Option.map (fun (x : Addr) => Addr.add x 0) base_1) 1 cap' want ∧ ∀ (E' : Mem), Mem.le E'_1 E' → Mem.le E0 E' ∧ K (SV.raw (Value.bool (bif true then decide (readF n zs = (want, (0 : Int))) else false))) E') else ∃ (cs : List Value), (cs = [] ∨ E' (VS base' (toN (some (NI nT)) nT - 0) (toN (some (NI nT)) cT - 0)) cs) ∧ (toN (some (NI nT)) nT - 0) * 1 ≤ List.length cs ∧ (∀ (x : Value), List.Mem x cs → Value.oneCell' x = true) ∧ req (toN (some (NI nT)) cT - 0 < toN (some (NI nT)) nT - 0 + 1) (req ((toN (some (NI nT)) nT - 0 + 1) * 24 ≤ 140737488355328) (∀ (cap' tot' : Nat), toN (some (NI nT)) nT - 0 + 1 ≤ cap' → cap' * 1 ≤ tot' → ∃ (n : Int), ∃ (base : Option Addr), ∃ (len : Nat), ∃ (cap : Nat), LoadE WL6.P E' 24 (VS bM nM cM) (Int.toNat (WI ((NI nM) - (1 : Int))) * 2) (SV.agg [SV.raw (Value.int IntKind.i64 n), SV.raw (VS base len cap)]) ∧ ∀ (base_1 : Option Addr) (E'_1 : Mem), Mem.le E' E'_1 → WinE E'_1 base_1 (List.take ((toN (some (NI nT)) nT - 0) * 1) cs ++ [VS b3 l3 c3]) → ∃ (zs : List Int), ∃ (want : List (List Int)), Bs E'_1 base len cap zs ∧ BL E'_1 (Option.map (fun (x : Addr) => Addr.add x 0) base_1) (toN (some (NI nT)) nT - 0 + 1) cap' want ∧ ∀ (E' : Mem), Mem.le E'_1 E' → Mem.le E0 E' ∧ K (SV.raw (Value.bool (bif true then decide (readF n zs = (want, (0 : Int))) else false))) E')))))))
  delta WI NI VS
  have hm := FM.len
  rw [List.length_append, List.length_singleton] at hm
  have hT' := hT.len
  have hcap := hT.cap
  have tN : ∀ x y : Nat, toN (some (x : Int)) y - 0 = x := fun x y => rfl
  have tN2 : ∀ x y : Nat, toN (some (x : Int)) y = x := fun x y => rfl
  obtain ⟨x1, bw, lw, cw, x2, x3⟩ := FM.load (show (X ++ [(s, w)])[X.length]? = some (s, w) by simp)
  rw [wrap_i64 (x := (nM : Int) - 1) (by omega), show Int.toNat ((nM : Int) - 1) = X.length by omega]
  simp only [tN, tN2]
  refine req_intro (by omega) ⟨x1, req_intro (by omega) (req_intro (by omega) (req_intro (by omega) (fun base' E4 k4 f4 n4 => ?_)))⟩
  have S4 := SL.full RB_ok hT k4 f4 n4
  have x4 : LoadE Try.prog E4 24 (.slice bM nM cM) (X.length * 2) (.agg [I s, L bw lw cw]) := let ⟨cs, q1, q2⟩ := x2; ⟨cs, k4 _ _ q1, q2⟩
  have fin : ∀ (want : List (List Int)) (E5 E6 : Mem) (b : Option Addr), Mem.le E4 E5 → Mem.le E5 E6 → want = ls ++ [z3] → Mem.le E0 E6 ∧ K (SV.raw (Value.bool (bif true then decide (readF s w = (want, (0 : Int))) else false))) E6 := fun want E5 E6 b k5 k6 e => by
    subst e
    refine ⟨Mem.le_trans hE (Mem.le_trans k4 (Mem.le_trans k5 k6)), ?_⟩
    rw [hw]
    simpa using hK E6 (Mem.le_trans k4 (Mem.le_trans k5 k6))
  have P1 : nT = 0 → ∀ (cap' tot' : Nat), 1 ≤ cap' → cap' * 1 ≤ tot' → ∀ (base_2 : Option Addr) (E' : Mem), Mem.le E4 E' → WinE E' base_2 [Value.slice b3 l3 c3] → ∃ (zs : List Int), ∃ (want : List (List Int)), Bs E' bw lw cw zs ∧ BL E' (Option.map (fun (x : Addr) => Addr.add x 0) base_2) 1 cap' want ∧ ∀ (E'_5 : Mem), Mem.le E' E'_5 → Mem.le E0 E'_5 ∧ K (SV.raw (Value.bool (bif true then decide (readF s zs = (want, (0 : Int))) else false))) E'_5 := fun h0 cap' tot' q1 q2 base_2 E5 k5 w5 => by
    have : ls = [] := List.length_eq_zero_iff.1 (by omega)
    exact ⟨w, [z3], x3.mono (Mem.le_trans k4 k5), SL.win RB_ok (rs := [[_]]) w5 rfl (SLr.nil.snoc ⟨_, _, _, rfl, hB3.mono (Mem.le_trans k4 k5)⟩) rfl q1, fun E6 k6 => fin _ _ _ none k5 k6 (by rw [this]; rfl)⟩
  have P2 : ∀ rs : List (List Value), SLr RB E4 rs ls → rs.flatten.take (nT * 1) = rs.flatten → ∀ (cap' tot' : Nat), nT + 1 ≤ cap' → cap' * 1 ≤ tot' → ∀ (base_2 : Option Addr) (E' : Mem), Mem.le E4 E' → WinE E' base_2 (List.take (nT * 1) rs.flatten ++ [Value.slice b3 l3 c3]) → ∃ (zs : List Int), ∃ (want : List (List Int)), Bs E' bw lw cw zs ∧ BL E' (Option.map (fun (x : Addr) => Addr.add x 0) base_2) (nT + 1) cap' want ∧ ∀ (E'_5 : Mem), Mem.le E' E'_5 → Mem.le E0 E'_5 ∧ K (SV.raw (Value.bool (bif true then decide (readF s zs = (want, (0 : Int))) else false))) E'_5 := fun rs h1 h2 cap' tot' q1 q2 base_2 E5 k5 w5 => by
    rw [h2] at w5
    exact ⟨w, ls ++ [z3], x3.mono (Mem.le_trans k4 k5), SL.win RB_ok (rs := rs ++ [[_]]) w5 (by simp) ((h1.mono RB_ok k5).snoc ⟨_, _, _, rfl, hB3.mono (Mem.le_trans k4 k5)⟩) (by simp [hT']) q1, fun E6 k6 => fin _ _ _ none k5 k6 rfl⟩
  have A1 := app_full RB_ok S4 (L := (nT + 1) * 24 ≤ 140737488355328) (B := fun cs => ∀ (cap' tot' : Nat), nT + 1 ≤ cap' → cap' * 1 ≤ tot' → ∀ (base_2 : Option Addr) (E' : Mem), Mem.le E4 E' → WinE E' base_2 (List.take (nT * 1) cs ++ [Value.slice b3 l3 c3]) → ∃ (zs : List Int), ∃ (want : List (List Int)), Bs E' bw lw cw zs ∧ BL E' (Option.map (fun (x : Addr) => Addr.add x 0) base_2) (nT + 1) cap' want ∧ ∀ (E'_5 : Mem), Mem.le E' E'_5 → Mem.le E0 E'_5 ∧ K (SV.raw (Value.bool (bif true then decide (readF s zs = (want, (0 : Int))) else false))) E'_5) (by omega) P1 P2
  have A2 := app_full RB_ok S4 (L := (nT + 1) * 24 ≤ 140737488355328) (A := ∀ (cap' tot' : Nat), 1 ≤ cap' → cap' * 1 ≤ tot' → ∃ (n : Int), ∃ (base : Option Addr), ∃ (len : Nat), ∃ (cap : Nat), LoadE Try.prog E4 24 (.slice bM nM cM) (X.length * 2) (.agg [I n, L base len cap]) ∧ ∀ (base_2 : Option Addr) (E' : Mem), Mem.le E4 E' → WinE E' base_2 ([Value.slice b3 l3 c3]) → ∃ (zs : List Int), ∃ (want : List (List Int)), Bs E' base len cap zs ∧ BL E' (Option.map (fun (x : Addr) => Addr.add x 0) base_2) (1) cap' want ∧ ∀ (E'_5 : Mem), Mem.le E' E'_5 → Mem.le E0 E'_5 ∧ K (SV.raw (Value.bool (bif true then decide (readF n zs = (want, (0 : Int))) else false))) E'_5) (B := fun cs => ∀ (cap' tot' : Nat), nT + 1 ≤ cap' → cap' * 1 ≤ tot' → ∃ (n : Int), ∃ (base : Option Addr), ∃ (len : Nat), ∃ (cap : Nat), LoadE Try.prog E4 24 (.slice bM nM cM) (X.length * 2) (.agg [I n, L base len cap]) ∧ ∀ (base_2 : Option Addr) (E' : Mem), Mem.le E4 E' → WinE E' base_2 (List.take (nT * 1) cs ++ [Value.slice b3 l3 c3]) → ∃ (zs : List Int), ∃ (want : List (List Int)), Bs E' base len cap zs ∧ BL E' (Option.map (fun (x : Addr) => Addr.add x 0) base_2) (nT + 1) cap' want ∧ ∀ (E'_5 : Mem), Mem.le E' E'_5 → Mem.le E0 E'_5 ∧ K (SV.raw (Value.bool (bif true then decide (readF n zs = (want, (0 : Int))) else false))) E'_5) (by omega) (fun h0 cap' tot' q1 q2 => ⟨s, bw, lw, cw, x4, P1 h0 cap' tot' q1 q2⟩) (fun rs h1 h2 cap' tot' q1 q2 => ⟨s, bw, lw, cw, x4, P2 rs h1 h2 cap' tot' q1 q2⟩)
  repeat' first | exact ⟨s, bw, lw, cw, x4, A1⟩ | exact A2 | refine And.intro ?_ ?_
theorem e6 {a1 : Int} {b1 : Option Addr} {l1 : Nat} {c1 : Nat} {z1 : List Int} {b2 : Option Addr} {l2 : Nat} {c2 : Nat} {z2 : List Int} {b3 : Option Addr} {l3 : Nat} {c3 : Nat} {z3 : List Int} {a2 : Int} (ha1 : (Lit.int .i64 a1).wf = true) (hB1 : Bs E b1 l1 c1 z1) (hL1 : l1 ≤ 9223372036854775807) (hB2 : Bs E b2 l2 c2 z2) (hL2 : l2 ≤ 9223372036854775807) (hB3 : Bs E b3 l3 c3 z3) (hL3 : l3 ≤ 9223372036854775807) (ha2 : (Lit.int .u16 a2).wf = true) (h : ∀ E' : Mem, Mem.le E E' → K (B true) E') :
    Ent WL6 8 Try.f6 [.agg [I a1, L b1 l1 c1], L b2 l2 c2, L b3 l3 c3, .raw (.int .u16 a2)] E K := by
  refine same (by kernel_rfl) (?_ : ∀ (E' : Mem), Mem.le E E' → Mem.le E E' ∧ ∀ (base : Option Addr) (E'_1 : Mem), Mem.le E' E'_1 → WinE E'_1 base [VS b2 l2 c2, VS b3 l3 c3] → ∀ (base_1 : Option Addr) (E' : Mem), Mem.le E'_1 E' → WinE E' base_1 [VS (Option.map (fun (x : Addr) => Addr.add x 0) base) 2 2] → ∃ (xsss : List (List (List Int))), l1 ≤ 9223372036854775807 ∧ SL RBL E' (Option.map (fun (x : Addr) => Addr.add x 0) base_1) 1 1 xsss ∧ 1 ≤ 10 ∧ bif !decide (shortP l1 xsss) then Mem.le E E' ∧ K (SV.raw (Value.bool true)) E' else ∃ (zs : List Int), ∃ (ds : List Int), Bs E' b1 l1 c1 zs ∧ Bs E' b2 l2 c2 ds ∧ l2 ≤ 60000 ∧ ∀ (b' : Option Addr) (l' c' : Nat) (ms : List (Int × List Int)) (e : Int) (E'_2 : Mem), Mem.le E' E'_2 → Hyp (appendF a1 zs ds = (ms, e)) → FL E'_2 b' l' c' ms → Mem.le E' E'_2 ∧ bif e != (0 : Int) then Mem.le E E'_2 ∧ K (SV.raw (Value.bool (bif true then e != (0 : Int) else false))) E'_2 else bif bif false then true else (NI l') == (0 : Int) then Mem.le E E'_2 ∧ K (SV.raw (Value.bool (bif true then e != (0 : Int) else false))) E'_2 else ((NI l') = (0 : Int) → False) ∧ req ((0 : Int) ≤ Int.tmod (WI a2) (NI l') ∧ Int.tmod (WI a2) (NI l') < (NI l')) ((∃ (cs : List Value), E'_2 (VS b' l' c') cs ∧ (cs = [] → False)) ∧ ∃ (n : Int), ∃ (base_2 : Option Addr), ∃ (len : Nat), ∃ (cap : Nat), LoadE WL6.P E'_2 24 (VS b' l' c') (Int.toNat (Int.tmod (WI a2) (NI l')) * 2) (SV.agg [SV.raw (Value.int IntKind.i64 n), SV.raw (VS base_2 len cap)]) ∧ ∃ (zs : List Int), Bs E'_2 base_2 len cap zs ∧ ∀ (b'_1 : Option Addr) (l'_1 c'_1 : Nat) (yss : List (List Int)) (e_1 : Int) (E' : Mem), Mem.le E'_2 E' → Hyp (((openF n zs).fst.fst, (openF n zs).snd) = (yss, e_1)) → BL E' b'_1 l'_1 c'_1 yss → Mem.le E'_2 E' ∧ bif e_1 != (0 : Int) then Mem.le E E' ∧ K (SV.raw (Value.bool false)) E' else ∃ (zs : List Int), Bs E' base_2 len cap zs ∧ (areaF n len = 0 → False) ∧ ∀ (u g : Int) (E'_3 : Mem), Mem.le E' E'_3 → Hyp (usedF (areaF n len) zs = (u, g)) → Mem.le E' E'_3 ∧ ∃ (zs : List Int), ∃ (ds : List Int), Bs E'_3 base_2 len cap zs ∧ Bs E'_3 b3 l3 c3 ds ∧ l3 ≤ (60000 : Nat) ∧ ∀ (b'_2 : Option Addr) (l'_2 c'_2 : Nat) (ms : List (Int × List Int)) (e_2 : Int) (E' : Mem), Mem.le E'_3 E' → Hyp (appendF n zs ds = (ms, e_2)) → FL E' b'_2 l'_2 c'_2 ms → Mem.le E'_3 E' ∧ ((2 : Int) = (0 : Int) → False) ∧ ∃ (dss : List (List Int)), BL E' b'_1 l'_1 c'_1 dss ∧ (∀ (d : List Int), List.Mem d dss → List.length d ≤ (100000 : Nat)) ∧ l'_1 ≤ (1000 : Nat) ∧ Mem.le E' E' ∧ bif e_2 != (0 : Int) then bif bif true then e_2 == (10 : Int) else false then bif !decide (WI (WI ((NI (needF dss)) + (NI l3)) + (11 : Int)) ≤ WI (WI (Int.tdiv (NI l1) 2) - (5 : Int))) then Mem.le E E' ∧ K (SV.raw (Value.bool true)) E' else Mem.le E E' ∧ K (SV.raw (Value.bool (bif true then bif false then true else decide (g ≥ (4294967295 : Int)) else false))) E' else Mem.le E E' ∧ K (SV.raw (Value.bool false)) E' else bif bif false then true else (NI l'_2) == (0 : Int) then bif bif true then e_2 == (10 : Int) else false then bif !decide (WI (WI ((NI (needF dss)) + (NI l3)) + (11 : Int)) ≤ WI (WI (Int.tdiv (NI l1) 2) - (5 : Int))) then Mem.le E E' ∧ K (SV.raw (Value.bool true)) E' else Mem.le E E' ∧ K (SV.raw (Value.bool (bif true then bif false then true else decide (g ≥ (4294967295 : Int)) else false))) E' else Mem.le E E' ∧ K (SV.raw (Value.bool false)) E' else Ct WL6 8 Try.f6 [(1 : Nat), (1 : Nat), (1 : Nat), (1 : Nat), (1 : Nat), (1 : Nat), (1 : Nat), (1 : Nat), (1 : Nat), (1 : Nat), (1 : Nat), (1 : Nat)] (0 : Nat) (pubK E K) { fr := some (SV.agg [I a1, L b1 l1 c1]) :: some (L b2 l2 c2) :: some (L b3 l3 c3) :: some (SV.raw (Value.int IntKind.u16 a2)) :: some (SV.loc 0 0) :: none :: none :: none :: some (B false) :: some (B true) :: some (L b' l' c') :: some (I e) :: some (SV.loc 3 0) :: some (L b'_1 l'_1 c'_1) :: some (I e_1) :: some (I u) :: some (I g) :: some (L b'_2 l'_2 c'_2) :: some (I e_2) :: some (B (decide (WI (WI ((NI (needF dss)) + (NI l3)) + (11 : Int)) ≤ WI (WI (Int.tdiv (NI l1) 2) - (5 : Int))))) :: some (B true) :: some (SV.agg [I a1, L b1 l1 c1]) :: some (L b2 l2 c2) :: some (L b3 l3 c3) :: some (SV.slc 1 0 2 2) :: some (SV.slc 2 0 1 1) :: some (B (decide (shortP l1 xsss))) :: some (B !decide (shortP l1 xsss)) :: none :: some (SV.tup [L b' l' c', I e]) :: some (SV.agg [I a1, L b1 l1 c1]) :: some (L b2 l2 c2) :: some (SV.tup [L b' l' c', I e]) :: some (L b' l' c') :: some (I e) :: some (I e) :: some (B (e != (0 : Int))) :: some (B false) :: some (L b' l' c') :: some (I (NI l')) :: some (B ((NI l') == (0 : Int))) :: some (B (bif false then true else (NI l') == (0 : Int))) :: none :: none :: none :: none :: none :: some (L b' l' c') :: some (SV.raw (Value.int IntKind.u16 a2)) :: some (I (WI a2)) :: some (L b' l' c') :: some (I (NI l')) :: some (I (Int.tmod (WI a2) (NI l'))) :: some (SV.rp (VS b' l' c') (Int.toNat (Int.tmod (WI a2) (NI l')) * (2 : Nat))) :: some (SV.agg [I n, L base_2 len cap]) :: some (SV.tup [L b'_1 l'_1 c'_1, I e_1]) :: some (SV.agg [I n, L base_2 len cap]) :: some (SV.tup [L b'_1 l'_1 c'_1, I e_1]) :: some (L b'_1 l'_1 c'_1) :: some (I e_1) :: some (I e_1) :: some (B (e_1 != (0 : Int))) :: some (SV.tup [I u, I g]) :: some (SV.agg [I n, L base_2 len cap]) :: some (SV.tup [I u, I g]) :: some (I u) :: some (I g) :: some (SV.tup [L b'_2 l'_2 c'_2, I e_2]) :: some (SV.agg [I n, L base_2 len cap]) :: some (L b3 l3 c3) :: some (SV.tup [L b'_2 l'_2 c'_2, I e_2]) :: some (L b'_2 l'_2 c'_2) :: some (I e_2) :: some (L b'_1 l'_1 c'_1) :: some (I (NI (needF dss))) :: some (L b3 l3 c3) :: some (I (NI l3)) :: some (I (WI ((NI (needF dss)) + (NI l3)))) :: some (I (WI (WI ((NI (needF dss)) + (NI l3)) + (11 : Int)))) :: some (SV.loc 0 1) :: some (L b1 l1 c1) :: some (I (NI l1)) :: some (I (WI (Int.tdiv (NI l1) 2))) :: some (I (WI (WI (Int.tdiv (NI l1) 2) - (5 : Int)))) :: some (B (decide (WI (WI ((NI (needF dss)) + (NI l3)) + (11 : Int)) ≤ WI (WI (Int.tdiv (NI l1) 2) - (5 : Int))))) :: some (I e_2) :: some (B (e_2 != (0 : Int))) :: some (B false) :: some (L b'_2 l'_2 c'_2) :: some (I (NI l'_2)) :: some (B ((NI l'_2) == (0 : Int))) :: some (B (bif false then true else (NI l'_2) == (0 : Int))) :: n32 (n2 (none :: [])), bx := [⟨(24 : Nat), Row.lst [I a1, L b1 l1 c1], (2 : Nat), true⟩, ⟨(22 : Nat), Row.lst [L b2 l2 c2, L b3 l3 c3], (2 : Nat), false⟩, ⟨(25 : Nat), Row.lst [L (Option.map (fun (x : Addr) => Addr.add x 0) base) 2 2], (1 : Nat), false⟩, ⟨(24 : Nat), Row.lst [I n, L base_2 len cap], (2 : Nat), true⟩], E := E' : St }))
  delta WI NI VS n2 n32
  refine fun EA kA => ⟨kA, fun tD ED kD wD tF EF kF wF => ⟨[[z2, z3]], hL1, ?_, by decide, ?_⟩⟩
  · exact SL.win RBL_ok (rs := [[_]]) wF rfl (SLr.nil.snoc ⟨_, _, _, rfl, (SL.win RB_ok (rs := [[_], [_]]) wD rfl ((SLr.nil.snoc ⟨_, _, _, rfl, hB2.mono (Mem.le_trans kA kD)⟩).snoc ⟨_, _, _, rfl, hB3.mono (Mem.le_trans kA kD)⟩) rfl (Nat.le_refl _)).mono RB_ok kF⟩) rfl (Nat.le_refl _)
  have kf : Mem.le E EF := Mem.le_trans kA (Mem.le_trans kD kF)
  refine condC (fun g => ⟨kf, h EF kf⟩) (fun g => ?_)
  have g : shortP l1 [[z2, z3]] := by simpa using g
  obtain ⟨g1, g2⟩ := g
  have g3 := (g1 [z2, z3] (by simp)).2 z2 (by simp)
  have g4 := (g1 [z2, z3] (by simp)).2 z3 (by simp)
  have n1 := hB1.2.1
  have n2 := hB2.2.1
  have n3 := hB3.2.1
  have bz := hB1.2.2.2.1
  have s2 : z2.length < 65536 ∧ ∀ x ∈ z2, 0 ≤ x ∧ x ≤ 255 := ⟨by omega, hB2.2.2.2.1⟩
  have s3 : z3.length < 65536 ∧ ∀ x ∈ z3, 0 ≤ x ∧ x ≤ 255 := ⟨by omega, hB3.2.2.2.1⟩
  refine ⟨z1, z2, hB1.mono kf, hB2.mono kf, by omega, fun bG lG cG mG eG EG kG nG FG => ⟨kG, ?_⟩⟩
  have nG : appendF a1 z1 z2 = (mG, eG) := nG
  have kg : Mem.le E EG := Mem.le_trans kf kG
  have hG := FG.len
  refine condC (fun g => ⟨kg, by simpa [g] using h EG kg⟩) (fun g => ?_)
  have g : eG = 0 := by simpa using g
  subst g
  have ho : (openF a1 z1).2 = 0 := Decidable.byContradiction fun q => by
    rw [(no_jo q z2 []).1] at nG
    exact q (Prod.mk.inj nG).2
  obtain ⟨ls, a, gn, hh, J⟩ := Jo.of bz ho
  obtain ⟨ne, al⟩ := J.append_any s2 nG
  have lp : 0 < mG.length := List.length_pos_iff.2 ne
  refine condC (fun q => by simp at q; omega) (fun _ => ?_)
  have wa := u16w ha2
  obtain ⟨i, hi1, hi2⟩ : ∃ i : Nat, Int.tmod a2 (lG : Int) = (i : Nat) ∧ i < lG := by
    have := Int.emod_nonneg a2 (show (lG : Int) ≠ 0 by omega)
    have := Int.emod_lt_of_pos a2 (show 0 < (lG : Int) by omega)
    exact ⟨(a2 % (lG : Int)).toNat, by rw [Int.tmod_eq_emod_of_nonneg (by omega)]; omega, by omega⟩
  rw [wrap_i64 (x := a2) (by omega), hi1]
  obtain ⟨m, hm⟩ : ∃ m, mG[i]? = some m := ⟨_, List.getElem?_eq_getElem (by omega)⟩
  obtain ⟨m1, m2, ls', a', g', J'⟩ := al m (List.mem_of_getElem? hm)
  obtain ⟨x1, bt, lt, ct, x2, x3⟩ := FG.load hm
  have nt := x3.2.1
  have bt' := x3.2.2.2.1
  have ap := append_num a1 m.2 z3
  refine ⟨by omega, req_intro (by omega) ⟨x1, m.1, bt, lt, ct, x2, m.2, x3, fun bH lH cH yH eH EH kH nH BH => ⟨kH, ?_⟩⟩⟩
  have nH : ((openF m.1 m.2).fst.fst, (openF m.1 m.2).snd) = (yH, eH) := nH
  rw [m1, J'.op] at nH
  have nH : (ls', (0 : Int)) = (yH, eH) := nH
  cases nH
  have kh : Mem.le E EH := Mem.le_trans kg kH
  have hl' := BH.len
  have ge := needF_ge ls'
  have rm := J'.rm
  have hb := J'.hb
  have sz := J'.sz
  refine condC (fun q => by simp at q) (fun _ => ?_)
  rw [m1]
  refine ⟨m.2, x3.mono kH, by rw [← nt, J'.ar]; exact J'.h0, fun u g EI kI nI => ⟨kI, ?_⟩⟩
  have nI : usedF (areaF a1 lt) m.2 = (u, g) := nI
  rw [← nt, J'.ar, J'.us] at nI
  cases nI
  have ki : Mem.le E EI := Mem.le_trans kh kI
  refine ⟨m.2, z3, x3.mono (Mem.le_trans kH kI), hB3.mono ki, by omega, fun bJ lJ cJ mJ eJ EJ kJ nJ FJ => ⟨kJ, by decide, ls', (BH.mono RB_ok kI).mono RB_ok kJ, fun d hd => by have := (J'.sm d hd).1; omega, by omega, Mem.le_refl _, ?_⟩⟩
  have nJ : appendF a1 m.2 z3 = (mJ, eJ) := nJ
  have kj : Mem.le E EJ := Mem.le_trans ki kJ
  have hJ := FJ.len
  rw [nJ] at ap
  have ap : mJ.length ≤ 40000 := ap
  have nn : (needF ls' : Int) + l3 + 11 ≤ 100000 := by omega
  have er : (decide (IntKind.wrap .i64 (IntKind.wrap .i64 ((needF ls' : Int) + (l3 : Int)) + 11) ≤ IntKind.wrap .i64 (IntKind.wrap .i64 (Int.tdiv (l1 : Int) 2) - 5))) = decide (5 + needF ls' + z3.length + 11 ≤ hh) := by
    rw [Int.tdiv_eq_ediv_of_nonneg (by omega), wrap_i64 (x := (l1 : Int) / 2) (by omega), wrap_i64 (x := (l1 : Int) / 2 - 5) (by omega), wrap_i64 (x := (needF ls' : Int) + l3) (by omega), wrap_i64 (by omega)]
    rw [Bool.eq_iff_iff, decide_eq_true_iff, decide_eq_true_iff]; omega
  rw [er]
  rcases J'.append s3 with ⟨e1, e2⟩ | ⟨e0, X, w, a3, g3, e1, e2, e3, e4, e5, e6⟩
  · rw [nJ] at e1
    cases e1
    refine condC (fun _ => condC (fun _ => condC (fun _ => ⟨kj, h EJ kj⟩) (fun q => ⟨kj, ?_⟩)) (fun q => by simp at q)) (fun q => by simp at q)
    rcases e2 with e2 | ⟨_, e2⟩
    · simp at q; omega
    · simpa [e2] using h EJ kj
  · rw [nJ] at e1
    cases e1
    simp only [List.length_append, List.length_singleton] at hJ ap
    rw [decide_eq_true e0]
    refine condC (fun q => by simp at q) (fun _ => condC (fun q => by simp at q; omega) (fun _ => ?_))
    exact Ct_re [] (Ct_intro okWL6 (pc6 (hB3.mono kj) ((BH.mono RB_ok kI).mono RB_ok kJ) FJ e5.read (by omega) (by omega) kj (fun E' k => h E' (Mem.le_trans kj k)))) (wkG (Mem.le_refl _))
theorem opn6 (W : World) (K : List SV → Prop) (h : ∀ a1 : Int, (Lit.int .i64 a1).wf = true → ∀ (b1 : Option Addr) (l1 c1 : Nat) (z1 : List Int), (l1 ≤ c1) → (c1 ≤ maxLen) → (b1 = none → c1 = 0) → (z1.length = c1) → (∀ x ∈ z1, (Lit.int .u8 x).wf = true) → RowAt W (.slice b1 l1 c1) (z1.map (.int .u8)) → ∀ (b2 : Option Addr) (l2 c2 : Nat) (z2 : List Int), (l2 ≤ c2) → (c2 ≤ maxLen) → (b2 = none → c2 = 0) → (z2.length = c2) → (∀ x ∈ z2, (Lit.int .u8 x).wf = true) → RowAt W (.slice b2 l2 c2) (z2.map (.int .u8)) → ∀ (b3 : Option Addr) (l3 c3 : Nat) (z3 : List Int), (l3 ≤ c3) → (c3 ≤ maxLen) → (b3 = none → c3 = 0) → (z3.length = c3) → (∀ x ∈ z3, (Lit.int .u8 x).wf = true) → RowAt W (.slice b3 l3 c3) (z3.map (.int .u8)) → ∀ a2 : Int, (Lit.int .u16 a2).wf = true → K [.agg [I a1, L b1 l1 c1], L b2 l2 c2, L b3 l3 c3, .raw (.int .u16 a2)]) : opnAll Try.prog W Try.f6.params.toList K :=
  same (by kernel_rfl) h
theorem sem6 (W : World) : opnAll Try.prog W Try.f6.params.toList fun ss => TabSem Try.prog 6 ss (fun v cs => RowAt W v cs) fun r _ => r = .raw (.bool true) := by
  refine opn6 W _ ?_
  intro a1 ha1 b1 l1 c1 z1 hl1 hc1 hb1 hz1 hw1 hE1 b2 l2 c2 z2 hl2 hc2 hb2 hz2 hw2 hE2 b3 l3 c3 z3 hl3 hc3 hb3 hz3 hw3 hE3 a2 ha2
  exact Ent.sem okWL6 Try.func6 ⟨by kernel_rfl, by kernel_rfl⟩ rfl (e6 ha1 (Bs.of hl1 hb1 hz1 hw1 hE1) (Nat.le_trans hl1 (by simpa [maxLen] using hc1)) (Bs.of hl2 hb2 hz2 hw2 hE2) (Nat.le_trans hl2 (by simpa [maxLen] using hc2)) (Bs.of hl3 hb3 hz3 hw3 hE3) (Nat.le_trans hl3 (by simpa [maxLen] using hc3)) ha2 (fun _ _ => rfl))
theorem lifted6 (os : Os) (started : os.Started) (H : Type) (enc : TypeId × Value → H) :
    ReturnsInHanded {} Try.checked os 6 .any (Rows.journalAgainSpec.pre6 enc Try.prog Try.f6 Rows.journalAgainRow.domain false) (Rows.journalAgainSpec.post enc Try.prog Try.f6 false true false false) :=
  lift_true (C := Try.checked) (by kernel_rfl) (by kernel_rfl) started (by kernel_rfl) Try.func6
    (ChangeSpec.witness6 (enc := enc) (C := Try.checked) false ⟨#[], #[.agg #[.int .i64 0, .slice none 0 0], .slice none 0 0, .slice none 0 0, .int .u16 0], []⟩ 8 (by kernel_rfl) (by kernel_rfl) (by kernel_rfl) (by kernel_rfl))
    (Tb := 4) (by kernel_rfl) (by kernel_rfl) (by kernel_rfl) rfl
    (fun ds hl => by
      match ds, hl with
      | [d0, d1, d2, d3], _ => exact ⟨rfl, rfl, rfl⟩)
    sem6
theorem over6 : Rows.journalAgainRow.holds Try.pinned (OpenSpec.ofChange Rows.journalAgainSpec) :=
  OpenClaim.holds_of_wide 6 Try.f6 rfl rfl rfl rfl rfl rfl rfl ⟨rfl, rfl, rfl, rfl, rfl⟩ rfl rfl rfl rfl rfl (by kernel_rfl) Try.func6 (by kernel_rfl)
    (of_decide_eq_true (by kernel_rfl)) (by unfold Func.isWrapper; first | (rw [if_pos (by decide +kernel)]; kernel_rfl) | (rw [if_neg (by decide +kernel)]; exact ⟨rfl, rfl⟩))
    (fun os started H enc _ => lifted6 os started H enc)
theorem proved6 : Rows.JournalAgainSaid := over6
end Go.Proofs.Ytiineecihncpfaa.JournalOwn
