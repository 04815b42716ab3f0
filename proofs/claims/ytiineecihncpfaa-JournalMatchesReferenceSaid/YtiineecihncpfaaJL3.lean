/- The law's proof: for every input the law answers true. Conditions: none. -/
import Derived.Test.YtiineecihncpfaaJg20
import Derived.OpenShut
import Derived.Test.YtiineecihncpfaaRows
namespace Go.Proofs.Ytiineecihncpfaa.JournalOwn
open Go Go.Sx Go.Proofs.Ytiineecihncpfaa
set_option maxRecDepth 100000
set_option maxHeartbeats 4000000
set_option linter.unusedVariables false
set_option linter.unusedSimpArgs false
variable {E : Mem} {K : SV → Mem → Prop}
theorem SLr_of {α : Type} {R : RowR α} {Q : α → Prop} : ∀ {z : List (List Value)}, (∀ r ∈ z, ∃ x, R E x r ∧ Q x) → ∃ xs, SLr R E z xs ∧ ∀ x ∈ xs, Q x
  | [], _ => ⟨[], SLr.nil, fun x h => by cases h⟩
  | r :: z, h => by
    obtain ⟨x, h1, h2⟩ := h r (by simp)
    obtain ⟨xs, h3, h4⟩ := SLr_of (fun r hr => h r (List.mem_cons_of_mem _ hr))
    exact ⟨x :: xs, (SLr.one h1).app h3, fun y hy => by
      rcases List.mem_cons.1 hy with rfl | hy
      · exact h2
      · exact h4 y hy⟩
theorem RowAt_take {W : World} {v : Value} {cs : List Value} (h : RowAt W v cs) (k : Nat) : RowAt W v (cs.take k) := by
  rcases h with rfl | ⟨a, n, c, h1, h2, h3⟩
  · exact .inl (by simp)
  · exact .inr ⟨a, n, c, h1, h2, fun i x hx => h3 i x (by
      have hk := (List.getElem?_eq_some_iff.1 hx).1
      rw [List.length_take] at hk
      rwa [List.getElem?_take_of_lt (by omega)] at hx)⟩
theorem SL_of {α : Type} {k : Nat} {R : RowR α} {Q : α → Prop} {W : World} {b : Option Addr} {l c : Nat} {z : List (List Value)} (hl : l ≤ c) (hb : b = none → c = 0) (hz : z.length = c) (hE : RowAt W (.slice b l c) z.flatten) (hk : ∀ r ∈ z, r.length = k)
    (hr : ∀ r ∈ z, ∃ x, R (fun v cs => RowAt W v cs) x r ∧ Q x) : ∃ xs, SL R (fun v cs => RowAt W v cs) b l c xs ∧ ∀ x ∈ xs, Q x := by
  obtain ⟨xs, h1, h2⟩ := SLr_of (z := z.take l) (fun r h => hr r (List.mem_of_mem_take h))
  refine ⟨xs, ⟨z.take l, h1, ?_, hl, .inr ?_, fun e => by have := hb e; omega⟩, h2⟩
  · rw [← h1.1, List.length_take]; omega
  · show RowAt W _ _
    rw [← flat_take hk]; exact RowAt_take hE _
theorem Shp_sl {W : World} {n : Nat} {T e : TypeId} {v : Value} (hu : Try.prog.underlying T = some (.slice e)) (h : Shp Try.prog W (n + 1) T [v]) : ∃ (b : Option Addr) (l c : Nat) (z : List (List Value)), v = .slice b l c ∧ l ≤ c ∧ c ≤ maxLen ∧ (b = none → c = 0) ∧ z.length = c ∧ RowAt W (.slice b l c) z.flatten ∧ ∀ r ∈ z, r.length = Try.prog.cellsOf e ∧ Shp Try.prog W n e r := by
  unfold Shp at h
  rw [hu] at h
  obtain ⟨b, l, c, z, h1, h⟩ := h
  exact ⟨b, l, c, z, by simpa using h1, h⟩
theorem bytes_of {W : World} {n : Nat} : ∀ {z : List (List Value)}, (∀ r ∈ z, r.length = Try.prog.cellsOf 5 ∧ Shp Try.prog W (n + 1) 5 r) → ∃ zs : List Int, z.flatten = zs.map (.int .u8) ∧ zs.length = z.length ∧ ∀ x ∈ zs, (Lit.int .u8 x).wf = true
  | [], _ => ⟨[], rfl, rfl, by simp⟩
  | r :: z, h => by
    obtain ⟨zs, h1, h2, h3⟩ := bytes_of (fun r hr => h r (List.mem_cons_of_mem _ hr))
    obtain ⟨q1, q2⟩ := h r (by simp)
    have q1 : r.length = 1 := q1.trans (by kernel_rfl)
    match r, q1 with
    | [v], _ =>
      obtain ⟨x, rfl, w⟩ := Shp_int1 (k := .u8) (by kernel_rfl) q2
      exact ⟨x :: zs, by rw [List.flatten_cons, h1]; rfl, by simp [h2], fun y hy => by
        rcases List.mem_cons.1 hy with rfl | hy
        · exact w
        · exact h3 y hy⟩
theorem bs_row {W : World} {r : List Value} (h1 : r.length = 1) (h2 : Shp Try.prog W 12 22 r) : ∃ x : List Int, RB (fun v cs => RowAt W v cs) x r ∧ x.length ≤ 9223372036854775807 := by
  match r, h1 with
  | [v], _ =>
    obtain ⟨b, l, c, z, rfl, g1, g2, g3, g4, g5, g6⟩ := Shp_sl (e := 5) (by kernel_rfl) h2
    obtain ⟨zs, e1, e2, e3⟩ := bytes_of g6
    rw [e1] at g5
    have hB := Bs.of g1 g3 (e2.trans g4) e3 g5
    refine ⟨_, ⟨b, l, c, rfl, hB⟩, ?_⟩
    have e : maxLen = 9223372036854775807 := by decide
    rw [hB.2.1]; omega
theorem BLof {W : World} {b : Option Addr} {l c : Nat} {z : List (List Value)} (hl : l ≤ c) (hb : b = none → c = 0) (hz : z.length = c) (hE : RowAt W (.slice b l c) z.flatten) (hr : ∀ r ∈ z, r.length = 1 ∧ Shp Try.prog W 12 22 r) :
    ∃ xs, BL (fun v cs => RowAt W v cs) b l c xs ∧ ∀ x ∈ xs, x.length ≤ 9223372036854775807 :=
  SL_of (k := 1) hl hb hz hE (fun r h => (hr r h).1) (fun r h => bs_row (hr r h).1 (hr r h).2)
noncomputable def tabL3 : FuncId → List SV → Mem → (SV → Mem → Prop) → Prop := fun f args E K => match f with
  | 10 => d0 args ((∀ E' : Mem, Mem.le E E' → K (B true) E'))
  | 11 => d2 args fun x0 x1 => dI x0 fun a1 => dI x1 fun a2 => (∀ (s' : Int) (b' : Option Addr) (l' c' : Nat) (ys : List Int) (e : Int) (E' : Mem), Mem.le E E' → Hyp (formatF a1 a2 = ((s', ys), e)) → Bs E' b' l' c' ys → K (.tup [.agg [I s', L b' l' c'], I e]) E')
  | 12 => d2 args fun x0 x1 => dI x0 fun a1 => dI x1 fun a2 => (∀ (s' : Int) (b' : Option Addr) (l' c' : Nat) (ys : List Int) (e : Int) (E' : Mem), Mem.le E E' → Hyp (formatF a1 a2 = ((s', ys), e)) → Bs E' b' l' c' ys → K (.tup [.agg [I s', L b' l' c'], I e]) E')
  | 13 => d2 args fun x0 x1 => dC x0 fun l1 => d2 l1 fun x0_0 x0_1 => dI x0_0 fun a1 => dS x0_1 fun b2 l3 c4 => dC x1 fun l2 => d2 l2 fun x1_0 x1_1 => dI x1_0 fun a5 => dS x1_1 fun b6 l7 c8 => ∃ (zs : List Int) (ys : List Int), Bs E b2 l3 c4 zs ∧ Bs E b6 l7 c8 ys ∧ l3 ≤ 100000 ∧ (K (B (decide (a1 = a5 ∧ zs = ys))) E)
  | 14 => d2 args fun x0 x1 => dC x0 fun l1 => d2 l1 fun x0_0 x0_1 => dI x0_0 fun a1 => dS x0_1 fun b2 l3 c4 => dS x1 fun b5 l6 c7 => ∃ (xsss : List (List (List Int))), l3 ≤ 9223372036854775807 ∧ SL RBL E b5 l6 c7 xsss ∧ l6 ≤ 10 ∧ (K (B (decide (shortP l3 xsss))) E)
  | 15 => d1 args fun x0 => dC x0 fun l1 => d2 l1 fun x0_0 x0_1 => dI x0_0 fun a1 => dS x0_1 fun b2 l3 c4 => ∃ (zs : List Int), Bs E b2 l3 c4 zs ∧ (∀ (b' : Option Addr) (l' c' : Nat) (yss : List (List Int)) (e : Int) (E' : Mem), Mem.le E E' → Hyp (readF a1 zs = (yss, e)) → BL E' b' l' c' yss → K (.tup [L b' l' c', I e]) E')
  | 16 => d1 args fun x0 => dC x0 fun l1 => d2 l1 fun x0_0 x0_1 => dI x0_0 fun a1 => dS x0_1 fun b2 l3 c4 => ∃ (zs : List Int), Bs E b2 l3 c4 zs ∧ (∀ (b' : Option Addr) (l' c' : Nat) (yss : List (List Int)) (e : Int) (E' : Mem), Mem.le E E' → Hyp (readF a1 zs = (yss, e)) → BL E' b' l' c' yss → K (.tup [L b' l' c', I e]) E')
  | 17 => d2 args fun x0 x1 => dC x0 fun l1 => d2 l1 fun x0_0 x0_1 => dI x0_0 fun a1 => dS x0_1 fun b2 l3 c4 => dS x1 fun b5 l6 c7 => ∃ (zs : List Int) (ds : List Int), Bs E b2 l3 c4 zs ∧ Bs E b5 l6 c7 ds ∧ l6 ≤ 60000 ∧ (∀ (b' : Option Addr) (l' c' : Nat) (ms : List (Int × List Int)) (e : Int) (E' : Mem), Mem.le E E' → Hyp (appendF a1 zs ds = (ms, e)) → FL E' b' l' c' ms → K (.tup [L b' l' c', I e]) E')
  | 18 => d2 args fun x0 x1 => dC x0 fun l1 => d2 l1 fun x0_0 x0_1 => dI x0_0 fun a1 => dS x0_1 fun b2 l3 c4 => dS x1 fun b5 l6 c7 => ∃ (zs : List Int) (ds : List Int), Bs E b2 l3 c4 zs ∧ Bs E b5 l6 c7 ds ∧ l6 ≤ 60000 ∧ (∀ (b' : Option Addr) (l' c' : Nat) (ms : List (Int × List Int)) (e : Int) (E' : Mem), Mem.le E E' → Hyp (appendF a1 zs ds = (ms, e)) → FL E' b' l' c' ms → K (.tup [L b' l' c', I e]) E')
  | 19 => d2 args fun x0 x1 => dC x0 fun l1 => d2 l1 fun x0_0 x0_1 => dI x0_0 fun a1 => dS x0_1 fun b2 l3 c4 => dS x1 fun b5 l6 c7 => ∃ (zs : List Int) (keep : List (List Int)), Bs E b2 l3 c4 zs ∧ BL E b5 l6 c7 keep ∧ (∀ d ∈ keep, d.length ≤ 60000) ∧ l6 ≤ 1000 ∧ (∀ (b' : Option Addr) (l' c' : Nat) (ms : List (Int × List Int)) (e : Int) (E' : Mem), Mem.le E E' → Hyp (compactF a1 zs keep = (ms, e)) → FL E' b' l' c' ms → K (.tup [L b' l' c', I e]) E')
  | 20 => d2 args fun x0 x1 => dC x0 fun l1 => d2 l1 fun x0_0 x0_1 => dI x0_0 fun a1 => dS x0_1 fun b2 l3 c4 => dS x1 fun b5 l6 c7 => ∃ (zs : List Int) (keep : List (List Int)), Bs E b2 l3 c4 zs ∧ BL E b5 l6 c7 keep ∧ (∀ d ∈ keep, d.length ≤ 60000) ∧ l6 ≤ 1000 ∧ (∀ (b' : Option Addr) (l' c' : Nat) (ms : List (Int × List Int)) (e : Int) (E' : Mem), Mem.le E E' → Hyp (compactF a1 zs keep = (ms, e)) → FL E' b' l' c' ms → K (.tup [L b' l' c', I e]) E')
  | 21 => d2 args fun x0 x1 => dS x0 fun b1 l2 c3 => dS x1 fun b4 l5 c6 => ∃ (xss : List (List Int)) (yss : List (List Int)), BL E b1 l2 c3 xss ∧ BL E b4 l5 c6 yss ∧ (∀ d ∈ xss, d.length ≤ 100000) ∧ l2 ≤ 100000 ∧ (K (B (decide (xss = yss))) E)
  | 22 => d2 args fun x0 x1 => dS x0 fun b1 l2 c3 => dS x1 fun b4 l5 c6 => ∃ (ms : List (Int × List Int)) (ns : List (Int × List Int)), FL E b1 l2 c3 ms ∧ FL E b4 l5 c6 ns ∧ (∀ m ∈ ms, m.2.length ≤ 100000) ∧ l2 ≤ 100000 ∧ (K (B (decide (ms = ns))) E)
  | _ => False
theorem tabL3_ok : TabOK Try.prog tabL3 := by
  intro f args E K h
  unfold tabL3 at h
  split at h
  · obtain ⟨rfl, h⟩ := d0_elim h
    exact TabSem.congr rfl (Ent.sem okL2 Try.func10 ⟨by kernel_rfl, by kernel_rfl⟩ rfl (j10 h))
  · replace h := d2_elim h
    obtain ⟨x0, x1, rfl, h⟩ := h
    replace h := dI_elim h
    obtain ⟨a1, rfl, h⟩ := h
    replace h := dI_elim h
    obtain ⟨a2, rfl, h⟩ := h
    exact TabSem.congr (valL_cons rfl (valL_cons rfl rfl)) (Ent.sem okKL Try.func11 ⟨by kernel_rfl, by kernel_rfl⟩ rfl (j11 h))
  · replace h := d2_elim h
    obtain ⟨x0, x1, rfl, h⟩ := h
    replace h := dI_elim h
    obtain ⟨a1, rfl, h⟩ := h
    replace h := dI_elim h
    obtain ⟨a2, rfl, h⟩ := h
    exact TabSem.congr (valL_cons rfl (valL_cons rfl rfl)) (Ent.sem okKM Try.func12 ⟨by kernel_rfl, by kernel_rfl⟩ rfl (j12 h))
  · replace h := d2_elim h
    obtain ⟨x0, x1, rfl, h⟩ := h
    replace h := dC_elim h
    obtain ⟨l1, hl1, h⟩ := h
    replace h := d2_elim h
    obtain ⟨x0_0, x0_1, rfl, h⟩ := h
    replace h := dI_elim h
    obtain ⟨a1, rfl, h⟩ := h
    replace h := dS_elim h
    obtain ⟨b2, l3, c4, rfl, h⟩ := h
    replace h := dC_elim h
    obtain ⟨l2, hl2, h⟩ := h
    replace h := d2_elim h
    obtain ⟨x1_0, x1_1, rfl, h⟩ := h
    replace h := dI_elim h
    obtain ⟨a5, rfl, h⟩ := h
    replace h := dS_elim h
    obtain ⟨b6, l7, c8, rfl, h⟩ := h
    obtain ⟨zs, ys, g0, g1, g2, h⟩ := h
    exact TabSem.congr (valL_cons (asCells_val hl1) (valL_cons (asCells_val hl2) rfl)) (Ent.sem okFA Try.func13 ⟨by kernel_rfl, by kernel_rfl⟩ rfl (s13 g0 g1 g2 h))
  · replace h := d2_elim h
    obtain ⟨x0, x1, rfl, h⟩ := h
    replace h := dC_elim h
    obtain ⟨l1, hl1, h⟩ := h
    replace h := d2_elim h
    obtain ⟨x0_0, x0_1, rfl, h⟩ := h
    replace h := dI_elim h
    obtain ⟨a1, rfl, h⟩ := h
    replace h := dS_elim h
    obtain ⟨b2, l3, c4, rfl, h⟩ := h
    replace h := dS_elim h
    obtain ⟨b5, l6, c7, rfl, h⟩ := h
    obtain ⟨xsss, g0, g1, g2, h⟩ := h
    exact TabSem.congr (valL_cons (asCells_val hl1) (valL_cons rfl rfl)) (Ent.sem okL1 Try.func14 ⟨by kernel_rfl, by kernel_rfl⟩ rfl (j14 g0 g1 g2 h))
  · replace h := d1_elim h
    obtain ⟨x0, rfl, h⟩ := h
    replace h := dC_elim h
    obtain ⟨l1, hl1, h⟩ := h
    replace h := d2_elim h
    obtain ⟨x0_0, x0_1, rfl, h⟩ := h
    replace h := dI_elim h
    obtain ⟨a1, rfl, h⟩ := h
    replace h := dS_elim h
    obtain ⟨b2, l3, c4, rfl, h⟩ := h
    obtain ⟨zs, g0, h⟩ := h
    exact TabSem.congr (valL_cons (asCells_val hl1) rfl) (Ent.sem okKI Try.func15 ⟨by kernel_rfl, by kernel_rfl⟩ rfl (j15 g0 h))
  · replace h := d1_elim h
    obtain ⟨x0, rfl, h⟩ := h
    replace h := dC_elim h
    obtain ⟨l1, hl1, h⟩ := h
    replace h := d2_elim h
    obtain ⟨x0_0, x0_1, rfl, h⟩ := h
    replace h := dI_elim h
    obtain ⟨a1, rfl, h⟩ := h
    replace h := dS_elim h
    obtain ⟨b2, l3, c4, rfl, h⟩ := h
    obtain ⟨zs, g0, h⟩ := h
    exact TabSem.congr (valL_cons (asCells_val hl1) rfl) (Ent.sem okK7 Try.func16 ⟨by kernel_rfl, by kernel_rfl⟩ rfl (j16 g0 h))
  · replace h := d2_elim h
    obtain ⟨x0, x1, rfl, h⟩ := h
    replace h := dC_elim h
    obtain ⟨l1, hl1, h⟩ := h
    replace h := d2_elim h
    obtain ⟨x0_0, x0_1, rfl, h⟩ := h
    replace h := dI_elim h
    obtain ⟨a1, rfl, h⟩ := h
    replace h := dS_elim h
    obtain ⟨b2, l3, c4, rfl, h⟩ := h
    replace h := dS_elim h
    obtain ⟨b5, l6, c7, rfl, h⟩ := h
    obtain ⟨zs, ds, g0, g1, g2, h⟩ := h
    exact TabSem.congr (valL_cons (asCells_val hl1) (valL_cons rfl rfl)) (Ent.sem okKI Try.func17 ⟨by kernel_rfl, by kernel_rfl⟩ rfl (j17 g0 g1 g2 h))
  · replace h := d2_elim h
    obtain ⟨x0, x1, rfl, h⟩ := h
    replace h := dC_elim h
    obtain ⟨l1, hl1, h⟩ := h
    replace h := d2_elim h
    obtain ⟨x0_0, x0_1, rfl, h⟩ := h
    replace h := dI_elim h
    obtain ⟨a1, rfl, h⟩ := h
    replace h := dS_elim h
    obtain ⟨b2, l3, c4, rfl, h⟩ := h
    replace h := dS_elim h
    obtain ⟨b5, l6, c7, rfl, h⟩ := h
    obtain ⟨zs, ds, g0, g1, g2, h⟩ := h
    exact TabSem.congr (valL_cons (asCells_val hl1) (valL_cons rfl rfl)) (Ent.sem okKB Try.func18 ⟨by kernel_rfl, by kernel_rfl⟩ rfl (j18 g0 g1 g2 h))
  · replace h := d2_elim h
    obtain ⟨x0, x1, rfl, h⟩ := h
    replace h := dC_elim h
    obtain ⟨l1, hl1, h⟩ := h
    replace h := d2_elim h
    obtain ⟨x0_0, x0_1, rfl, h⟩ := h
    replace h := dI_elim h
    obtain ⟨a1, rfl, h⟩ := h
    replace h := dS_elim h
    obtain ⟨b2, l3, c4, rfl, h⟩ := h
    replace h := dS_elim h
    obtain ⟨b5, l6, c7, rfl, h⟩ := h
    obtain ⟨zs, keep, g0, g1, g2, g3, h⟩ := h
    exact TabSem.congr (valL_cons (asCells_val hl1) (valL_cons rfl rfl)) (Ent.sem okKJ Try.func19 ⟨by kernel_rfl, by kernel_rfl⟩ rfl (j19 g0 g1 g2 g3 h))
  · replace h := d2_elim h
    obtain ⟨x0, x1, rfl, h⟩ := h
    replace h := dC_elim h
    obtain ⟨l1, hl1, h⟩ := h
    replace h := d2_elim h
    obtain ⟨x0_0, x0_1, rfl, h⟩ := h
    replace h := dI_elim h
    obtain ⟨a1, rfl, h⟩ := h
    replace h := dS_elim h
    obtain ⟨b2, l3, c4, rfl, h⟩ := h
    replace h := dS_elim h
    obtain ⟨b5, l6, c7, rfl, h⟩ := h
    obtain ⟨zs, keep, g0, g1, g2, g3, h⟩ := h
    exact TabSem.congr (valL_cons (asCells_val hl1) (valL_cons rfl rfl)) (Ent.sem okKB Try.func20 ⟨by kernel_rfl, by kernel_rfl⟩ rfl (j20 g0 g1 g2 g3 h))
  · replace h := d2_elim h
    obtain ⟨x0, x1, rfl, h⟩ := h
    replace h := dS_elim h
    obtain ⟨b1, l2, c3, rfl, h⟩ := h
    replace h := dS_elim h
    obtain ⟨b4, l5, c6, rfl, h⟩ := h
    obtain ⟨xss, yss, g0, g1, g2, g3, h⟩ := h
    exact TabSem.congr (valL_cons rfl (valL_cons rfl rfl)) (Ent.sem okK4 Try.func21 ⟨by kernel_rfl, by kernel_rfl⟩ rfl (j21 g0 g1 g2 g3 h))
  · replace h := d2_elim h
    obtain ⟨x0, x1, rfl, h⟩ := h
    replace h := dS_elim h
    obtain ⟨b1, l2, c3, rfl, h⟩ := h
    replace h := dS_elim h
    obtain ⟨b4, l5, c6, rfl, h⟩ := h
    obtain ⟨ms, ns, g0, g1, g2, g3, h⟩ := h
    exact TabSem.congr (valL_cons rfl (valL_cons rfl rfl)) (Ent.sem okFE Try.func22 ⟨by kernel_rfl, by kernel_rfl⟩ rfl (s20 g0 g1 g2 g3 h))
  · exact h.elim
noncomputable def WL3 : Cx := { P := Try.prog, inl := fun f => List.contains [] f, tab := tabL3, isB := fun _ => false, tabB := fun _ _ _ _ _ => False, opt := { unroll := 0, carry := [] }, muts := mutsD }
theorem okWL3 : CxOK WL3 := CxOK.four tabL3_ok (by kernel_rfl) (okInl (by kernel_rfl)) (fun _ _ _ _ _ h => h.elim)
theorem RB_bytes {E : Mem} {b : Option Addr} {l c : Nat} {xs : List (List Int)} (h : BL E b l c xs) : ∀ d ∈ xs, ∀ x ∈ d, 0 ≤ x ∧ x ≤ 255 := by
  obtain ⟨rs, h1, _⟩ := h
  intro d hd
  obtain ⟨i, hi, rfl⟩ := List.getElem_of_mem hd
  obtain ⟨r, hr⟩ : ∃ r, rs[i]? = some r := ⟨_, List.getElem?_eq_getElem (by rw [h1.1]; exact hi)⟩
  obtain ⟨b', l', c', _, hB⟩ := h1.2 i r _ hr (List.getElem?_eq_getElem hi)
  exact hB.2.2.2.1
theorem e3 {a1 : Int} {b1 : Option Addr} {l1 : Nat} {c1 : Nat} {z1 : List Int} {b2 : Option Addr} {l2 : Nat} {c2 : Nat} {z2 : List Int} {b3 : Option Addr} {l3 : Nat} {c3 : Nat} {x3 : List (List Int)} {a2 : Int} {a3 : Int} (ha1 : (Lit.int .i64 a1).wf = true) (hB1 : Bs E b1 l1 c1 z1) (hL1 : l1 ≤ 9223372036854775807) (hB2 : Bs E b2 l2 c2 z2) (hc3 : l3 ≤ maxLen) (hS30 : BL E b3 l3 c3 x3) (hS31 : ∀ d ∈ x3, d.length ≤ 9223372036854775807) (ha2 : (Lit.int .i64 a2).wf = true) (ha3 : (Lit.int .i64 a3).wf = true) (h : ∀ E' : Mem, Mem.le E E' → K (B true) E') :
    Ent WL3 8 Try.f3 [.agg [I a1, L b1 l1 c1], L b2 l2 c2, L b3 l3 c3, I a2, I a3] E K := by
  refine same (by kernel_rfl) (?_ : ∀ (E' : Mem), Mem.le E E' → Mem.le E E' ∧ ∀ (s' : Int) (b' : Option Addr) (l' c' : Nat) (ys : List Int) (e : Int) (E'_1 : Mem), Mem.le E' E'_1 → Hyp (formatF a2 a3 = ((s', ys), e)) → Bs E'_1 b' l' c' ys → Mem.le E' E'_1 ∧ ∀ (s'_1 : Int) (b'_1 : Option Addr) (l'_1 c'_1 : Nat) (ys : List Int) (e_1 : Int) (E' : Mem), Mem.le E'_1 E' → Hyp (formatF a2 a3 = ((s'_1, ys), e_1)) → Bs E' b'_1 l'_1 c'_1 ys → Mem.le E'_1 E' ∧ bif e != e_1 then Mem.le E E' ∧ K (SV.raw (Value.bool false)) E' else ∃ (zs : List Int), ∃ (ys : List Int), Bs E' b' l' c' zs ∧ Bs E' b'_1 l'_1 c'_1 ys ∧ l' ≤ 100000 ∧ Mem.le E' E' ∧ bif bif false then true else !decide (s' = s'_1 ∧ zs = ys) then Mem.le E E' ∧ K (SV.raw (Value.bool false)) E' else ∀ (base : Option Addr) (E'_2 : Mem), Mem.le E' E'_2 → WinE E'_2 base [Value.slice b2 l2 c2] → ∀ (base_1 : Option Addr) (E' : Mem), Mem.le E'_2 E' → WinE E' base_1 [Value.slice b3 l3 c3, Value.slice (Option.map (fun (x : Addr) => Addr.add x 0) base) 1 1] → ∃ (xsss : List (List (List Int))), l1 ≤ 9223372036854775807 ∧ SL RBL E' (Option.map (fun (x : Addr) => Addr.add x 0) base_1) 2 2 xsss ∧ 2 ≤ 10 ∧ bif !decide (shortP l1 xsss) then Mem.le E E' ∧ K (SV.raw (Value.bool true)) E' else ∃ (zs : List Int), Bs E' b1 l1 c1 zs ∧ ∀ (b' : Option Addr) (l' c' : Nat) (yss : List (List Int)) (e : Int) (E'_3 : Mem), Mem.le E' E'_3 → Hyp (((openF a1 zs).fst.fst, (openF a1 zs).snd) = (yss, e)) → BL E'_3 b' l' c' yss → Mem.le E' E'_3 ∧ ∃ (zs : List Int), Bs E'_3 b1 l1 c1 zs ∧ ∀ (b'_2 : Option Addr) (l'_2 c'_2 : Nat) (yss : List (List Int)) (e_2 : Int) (E' : Mem), Mem.le E'_3 E' → Hyp (((openF a1 zs).fst.fst, (openF a1 zs).snd) = (yss, e_2)) → BL E' b'_2 l'_2 c'_2 yss → Mem.le E'_3 E' ∧ ∃ (zs : List Int), ∃ (ds : List Int), Bs E' b1 l1 c1 zs ∧ Bs E' b2 l2 c2 ds ∧ l2 ≤ 60000 ∧ ∀ (b'_3 : Option Addr) (l'_3 c'_3 : Nat) (ms : List (Int × List Int)) (e_3 : Int) (E'_4 : Mem), Mem.le E' E'_4 → Hyp (appendF a1 zs ds = (ms, e_3)) → FL E'_4 b'_3 l'_3 c'_3 ms → Mem.le E' E'_4 ∧ ∃ (zs : List Int), ∃ (ds : List Int), Bs E'_4 b1 l1 c1 zs ∧ Bs E'_4 b2 l2 c2 ds ∧ l2 ≤ (60000 : Nat) ∧ ∀ (b'_4 : Option Addr) (l'_4 c'_4 : Nat) (ms : List (Int × List Int)) (e_4 : Int) (E' : Mem), Mem.le E'_4 E' → Hyp (appendF a1 zs ds = (ms, e_4)) → FL E' b'_4 l'_4 c'_4 ms → Mem.le E'_4 E' ∧ ∃ (zs : List Int), ∃ (keep : List (List Int)), Bs E' b1 l1 c1 zs ∧ BL E' b3 l3 c3 keep ∧ (∀ (d : List Int), List.Mem d keep → List.length d ≤ (60000 : Nat)) ∧ l3 ≤ (1000 : Nat) ∧ ∀ (b'_5 : Option Addr) (l'_5 c'_5 : Nat) (ms : List (Int × List Int)) (e_5 : Int) (E'_5 : Mem), Mem.le E' E'_5 → Hyp (compactF a1 zs keep = (ms, e_5)) → FL E'_5 b'_5 l'_5 c'_5 ms → Mem.le E' E'_5 ∧ ∃ (zs : List Int), ∃ (keep : List (List Int)), Bs E'_5 b1 l1 c1 zs ∧ BL E'_5 b3 l3 c3 keep ∧ (∀ (d : List Int), List.Mem d keep → List.length d ≤ (60000 : Nat)) ∧ l3 ≤ (1000 : Nat) ∧ ∀ (b'_6 : Option Addr) (l'_6 c'_6 : Nat) (ms : List (Int × List Int)) (e_6 : Int) (E' : Mem), Mem.le E'_5 E' → Hyp (compactF a1 zs keep = (ms, e_6)) → FL E' b'_6 l'_6 c'_6 ms → Mem.le E'_5 E' ∧ ∃ (xss : List (List Int)), ∃ (yss : List (List Int)), BL E' b' l' c' xss ∧ BL E' b'_2 l'_2 c'_2 yss ∧ (∀ (d : List Int), List.Mem d xss → List.length d ≤ (100000 : Nat)) ∧ l' ≤ (100000 : Nat) ∧ Mem.le E' E' ∧ bif bif true then decide (xss = yss) else false then bif bif true then e == e_2 else false then ∃ (ms : List (Int × List Int)), ∃ (ns : List (Int × List Int)), FL E' b'_3 l'_3 c'_3 ms ∧ FL E' b'_4 l'_4 c'_4 ns ∧ (∀ (m : Int × List Int), List.Mem m ms → List.length m.snd ≤ (100000 : Nat)) ∧ l'_3 ≤ (100000 : Nat) ∧ Mem.le E' E' ∧ bif bif true then decide (ms = ns) else false then bif bif true then e_3 == e_4 else false then ∃ (ms : List (Int × List Int)), ∃ (ns : List (Int × List Int)), FL E' b'_5 l'_5 c'_5 ms ∧ FL E' b'_6 l'_6 c'_6 ns ∧ (∀ (m : Int × List Int), List.Mem m ms → List.length m.snd ≤ (100000 : Nat)) ∧ l'_5 ≤ (100000 : Nat) ∧ Mem.le E' E' ∧ bif bif true then decide (ms = ns) else false then Mem.le E E' ∧ K (SV.raw (Value.bool (bif true then e_5 == e_6 else false))) E' else Mem.le E E' ∧ K (SV.raw (Value.bool false)) E' else Mem.le E E' ∧ K (SV.raw (Value.bool false)) E' else Mem.le E E' ∧ K (SV.raw (Value.bool false)) E' else Mem.le E E' ∧ K (SV.raw (Value.bool false)) E' else Mem.le E E' ∧ K (SV.raw (Value.bool false)) E')
  refine fun EA kA => ⟨kA, fun sB bB lB cB yB eB EB kB nB BB => ⟨kB, fun sC bC lC cC yC eC EC kC nC BC => ⟨kC, ?_⟩⟩⟩
  have nB : formatF a2 a3 = ((sB, yB), eB) := nB
  have nC : formatF a2 a3 = ((sC, yC), eC) := nC
  have hl := format_size nB
  rw [nB] at nC
  obtain ⟨⟨rfl, rfl⟩, rfl⟩ : (sB = sC ∧ yB = yC) ∧ eB = eC := by simpa using nC
  have k3 : Mem.le E EC := Mem.le_trans kA (Mem.le_trans kB kC)
  refine condC (fun g => by simp at g) (fun _ => ⟨yB, yB, BB.mono kC, BC, by rw [← BB.2.1]; omega, Mem.le_refl _, condC (fun g => by simp at g) (fun _ => fun tD ED kD wD tF EF kF wF => ⟨[x3, [z2]], hL1, ?_, by decide, ?_⟩)⟩)
  · exact SL.win RBL_ok (rs := [[_], [_]]) wF rfl ((SLr.nil.snoc ⟨b3, l3, c3, rfl, hS30.mono RB_ok (Mem.le_trans k3 (Mem.le_trans kD kF))⟩).snoc ⟨_, _, _, rfl, (SL.win RB_ok (rs := [[_]]) wD rfl (SLr.nil.snoc ⟨_, _, _, rfl, hB2.mono (Mem.le_trans k3 kD)⟩) rfl (Nat.le_refl _)).mono RB_ok kF⟩) rfl (Nat.le_refl _)
  have kf : Mem.le E EF := Mem.le_trans k3 (Mem.le_trans kD kF)
  refine condC (fun g => ⟨kf, h EF kf⟩) (fun g => ?_)
  have g : shortP l1 [x3, [z2]] := by simpa using g
  obtain ⟨g1, g2⟩ := g
  obtain ⟨g3, g4⟩ := g1 x3 (by simp)
  have g5 := (g1 [z2] (by simp)).2 z2 (by simp)
  have nz := hB2.2.1
  have nl := hS30.len
  have bz := hB1.2.2.2.1
  have sk : ∀ d ∈ x3, d.length < 65536 ∧ ∀ x ∈ d, 0 ≤ x ∧ x ≤ 255 := fun d hd => ⟨by have := g4 d hd; omega, RB_bytes hS30 d hd⟩
  have sd : z2.length < 65536 ∧ ∀ x ∈ z2, 0 ≤ x ∧ x ≤ 255 := ⟨by omega, hB2.2.2.2.1⟩
  have rs := read_size (s := a1) bz
  have ap := append_size (s := a1) bz sd
  have an := append_num a1 z1 z2
  have cs := compact_size (s := a1) bz sk
  have cn := compact_num a1 z1 x3
  have nz1 := hB1.2.1
  refine ⟨z1, hB1.mono kf, fun bG lG cG yG eG EG kG nG BG => ⟨kG, z1, hB1.mono (Mem.le_trans kf kG), fun bH lH cH yH eH EH kH nH BH => ⟨kH, ?_⟩⟩⟩
  have kh : Mem.le E EH := Mem.le_trans kf (Mem.le_trans kG kH)
  refine ⟨z1, z2, hB1.mono kh, hB2.mono kh, by omega, fun bI lI cI mI eI EI kI nI FI => ⟨kI, z1, z2, hB1.mono (Mem.le_trans kh kI), hB2.mono (Mem.le_trans kh kI), by omega, fun bJ lJ cJ mJ eJ EJ kJ nJ FJ => ⟨kJ, ?_⟩⟩⟩
  have kj : Mem.le E EJ := Mem.le_trans kh (Mem.le_trans kI kJ)
  refine ⟨z1, x3, hB1.mono kj, hS30.mono RB_ok kj, fun d hd => by have := g4 d hd; omega, by omega, fun bK lK cK mK eK EK kK nK FK => ⟨kK, z1, x3, hB1.mono (Mem.le_trans kj kK), hS30.mono RB_ok (Mem.le_trans kj kK), fun d hd => by have := g4 d hd; omega, by omega, fun bM lM cM mM eM EM kM nM FM => ⟨kM, ?_⟩⟩⟩
  have nG : ((openF a1 z1).fst.fst, (openF a1 z1).snd) = (yG, eG) := nG
  have nH : ((openF a1 z1).fst.fst, (openF a1 z1).snd) = (yH, eH) := nH
  have nI : appendF a1 z1 z2 = (mI, eI) := nI
  have nJ : appendF a1 z1 z2 = (mJ, eJ) := nJ
  have nK : compactF a1 z1 x3 = (mK, eK) := nK
  have nM : compactF a1 z1 x3 = (mM, eM) := nM
  obtain ⟨hG, _⟩ := eq2 nG
  rw [hG] at rs
  rw [nG] at nH
  rw [nI] at nJ ap an
  rw [nK] at nM cs cn
  obtain ⟨rfl, rfl⟩ : yG = yH ∧ eG = eH := by simpa using nH
  obtain ⟨rfl, rfl⟩ : mI = mJ ∧ eI = eJ := by simpa using nJ
  obtain ⟨rfl, rfl⟩ : mK = mM ∧ eK = eM := by simpa using nM
  have pG := BG.len
  have pI := FI.len
  have pK := FK.len
  have an : mI.length ≤ 40000 := an
  have cn : mK.length ≤ 40000 := cn
  have rs1 : yG.length ≤ 8192 := rs.1
  have q1 : Mem.le EH EM := Mem.le_trans kI (Mem.le_trans kJ (Mem.le_trans kK kM))
  have q2 : Mem.le EJ EM := Mem.le_trans kK kM
  have km : Mem.le E EM := Mem.le_trans kj q2
  refine ⟨yG, yG, BG.mono RB_ok (Mem.le_trans kH q1), BH.mono RB_ok q1, fun d hd => by have := (rs.2 d hd).1; omega, by omega, Mem.le_refl _, condC (fun _ => condC (fun _ => ⟨mI, mI, FI.mono (Mem.le_trans kJ q2), FJ.mono q2, fun m hm => by have := (ap m hm).2; omega, by omega, Mem.le_refl _, condC (fun _ => condC (fun _ => ⟨mK, mK, FK.mono kM, FM, fun m hm => by have := (cs m hm).2; omega, by omega, Mem.le_refl _, condC (fun _ => ⟨km, ?_⟩) (fun g => by simp at g)⟩) (fun g => by simp at g)) (fun g => by simp at g)⟩) (fun g => by simp at g)) (fun g => by simp at g)⟩
  have := h EM km
  simpa using this
theorem opn3 (W : World) (K : List SV → Prop) (h : ∀ a1 : Int, (Lit.int .i64 a1).wf = true → ∀ (b1 : Option Addr) (l1 c1 : Nat) (z1 : List Int), (l1 ≤ c1) → (c1 ≤ maxLen) → (b1 = none → c1 = 0) → (z1.length = c1) → (∀ x ∈ z1, (Lit.int .u8 x).wf = true) → RowAt W (.slice b1 l1 c1) (z1.map (.int .u8)) → ∀ (b2 : Option Addr) (l2 c2 : Nat) (z2 : List Int), (l2 ≤ c2) → (c2 ≤ maxLen) → (b2 = none → c2 = 0) → (z2.length = c2) → (∀ x ∈ z2, (Lit.int .u8 x).wf = true) → RowAt W (.slice b2 l2 c2) (z2.map (.int .u8)) → ∀ (b3 : Option Addr) (l3 c3 : Nat) (z3 : List (List Value)), (l3 ≤ c3) → (c3 ≤ maxLen) → (b3 = none → c3 = 0) → (z3.length = c3) → RowAt W (.slice b3 l3 c3) z3.flatten → (∀ r ∈ z3, r.length = 1 ∧ Shp Try.prog W 12 22 r) → ∀ a2 : Int, (Lit.int .i64 a2).wf = true → ∀ a3 : Int, (Lit.int .i64 a3).wf = true → K [.agg [I a1, L b1 l1 c1], L b2 l2 c2, L b3 l3 c3, I a2, I a3]) : opnAll Try.prog W Try.f3.params.toList K :=
  same (by kernel_rfl) h
theorem sem3 (W : World) : opnAll Try.prog W Try.f3.params.toList fun ss => TabSem Try.prog 3 ss (fun v cs => RowAt W v cs) fun r _ => r = .raw (.bool true) := by
  refine opn3 W _ ?_
  intro a1 ha1 b1 l1 c1 z1 hl1 hc1 hb1 hz1 hw1 hE1 b2 l2 c2 z2 hl2 hc2 hb2 hz2 hw2 hE2 b3 l3 c3 z3 hl3 hc3 hb3 hz3 hE3 hr3 a2 ha2 a3 ha3
  exact Ent.sem okWL3 Try.func3 ⟨by kernel_rfl, by kernel_rfl⟩ rfl (e3 ha1 (Bs.of hl1 hb1 hz1 hw1 hE1) (Nat.le_trans hl1 (by simpa [maxLen] using hc1)) (Bs.of hl2 hb2 hz2 hw2 hE2) (Nat.le_trans hl3 hc3) (BLof hl3 hb3 hz3 hE3 hr3).choose_spec.1 (BLof hl3 hb3 hz3 hE3 hr3).choose_spec.2 ha2 ha3 (fun _ _ => rfl))
theorem lifted3 (os : Os) (started : os.Started) (H : Type) (enc : TypeId × Value → H) :
    ReturnsInHanded {} Try.checked os 3 .any (Rows.journalMatchesReferenceSpec.pre6 enc Try.prog Try.f3 Rows.journalMatchesReferenceRow.domain false) (Rows.journalMatchesReferenceSpec.post enc Try.prog Try.f3 false true false false) :=
  lift_true (C := Try.checked) (by kernel_rfl) (by kernel_rfl) started (by kernel_rfl) Try.func3
    (ChangeSpec.witness6 (enc := enc) (C := Try.checked) false ⟨#[], #[.agg #[.int .i64 0, .slice none 0 0], .slice none 0 0, .slice none 0 0, .int .i64 0, .int .i64 0], []⟩ 8 (by kernel_rfl) (by kernel_rfl) (by kernel_rfl) (by kernel_rfl))
    (Tb := 4) (by kernel_rfl) (by kernel_rfl) (by kernel_rfl) rfl
    (fun ds hl => by
      match ds, hl with
      | [d0, d1, d2, d3, d4], _ => exact ⟨rfl, rfl, rfl⟩)
    sem3
theorem over3 : Rows.journalMatchesReferenceRow.holds Try.pinned (OpenSpec.ofChange Rows.journalMatchesReferenceSpec) :=
  OpenClaim.holds_of_wide 3 Try.f3 rfl rfl rfl rfl rfl rfl rfl ⟨rfl, rfl, rfl, rfl, rfl⟩ rfl rfl rfl rfl rfl (by kernel_rfl) Try.func3 (by kernel_rfl)
    (of_decide_eq_true (by kernel_rfl)) (by unfold Func.isWrapper; first | (rw [if_pos (by decide +kernel)]; kernel_rfl) | (rw [if_neg (by decide +kernel)]; exact ⟨rfl, rfl⟩))
    (fun os started H enc _ => lifted3 os started H enc)
theorem proved3 : Rows.JournalMatchesReferenceSaid := over3
end Go.Proofs.Ytiineecihncpfaa.JournalOwn
