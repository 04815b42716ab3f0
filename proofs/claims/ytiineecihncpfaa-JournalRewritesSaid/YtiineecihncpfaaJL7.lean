/- The law's proof: for every input the law answers true. Conditions: none. -/
import Derived.Test.YtiineecihncpfaaJg22
import Derived.OpenShut
import Derived.Test.YtiineecihncpfaaRows
namespace Go.Proofs.Ytiineecihncpfaa.JournalOwn
open Go Go.Sx Go.Proofs.Ytiineecihncpfaa
set_option maxRecDepth 100000
set_option maxHeartbeats 4000000
set_option linter.unusedVariables false
set_option linter.unusedSimpArgs false
variable {E : Mem} {K : SV → Mem → Prop}
theorem SLr_of {α : Type} {R : RowR α} {Q : α → Prop} : ∀ {z : List (List Value)}, (∀ r ∈ z, ∃ x, R E x r ∧ Q x) → ∃ xs, SLr R E z xs ∧ ∀ x ∈ xs, Q x
  | [], _ => ⟨[], SLr.nil, fun x h => by cases h⟩
  | r :: z, h => by
    obtain ⟨x, h1, h2⟩ := h r (by simp)
    obtain ⟨xs, h3, h4⟩ := SLr_of (fun r hr => h r (List.mem_cons_of_mem _ hr))
    exact ⟨x :: xs, (SLr.one h1).app h3, fun y hy => by
      rcases List.mem_cons.1 hy with rfl | hy
      · exact h2
      · exact h4 y hy⟩
theorem RowAt_take {W : World} {v : Value} {cs : List Value} (h : RowAt W v cs) (k : Nat) : RowAt W v (cs.take k) := by
  rcases h with rfl | ⟨a, n, c, h1, h2, h3⟩
  · exact .inl (by simp)
  · exact .inr ⟨a, n, c, h1, h2, fun i x hx => h3 i x (by
      have hk := (List.getElem?_eq_some_iff.1 hx).1
      rw [List.length_take] at hk
      rwa [List.getElem?_take_of_lt (by omega)] at hx)⟩
theorem SL_of {α : Type} {k : Nat} {R : RowR α} {Q : α → Prop} {W : World} {b : Option Addr} {l c : Nat} {z : List (List Value)} (hl : l ≤ c) (hb : b = none → c = 0) (hz : z.length = c) (hE : RowAt W (.slice b l c) z.flatten) (hk : ∀ r ∈ z, r.length = k)
    (hr : ∀ r ∈ z, ∃ x, R (fun v cs => RowAt W v cs) x r ∧ Q x) : ∃ xs, SL R (fun v cs => RowAt W v cs) b l c xs ∧ ∀ x ∈ xs, Q x := by
  obtain ⟨xs, h1, h2⟩ := SLr_of (z := z.take l) (fun r h => hr r (List.mem_of_mem_take h))
  refine ⟨xs, ⟨z.take l, h1, ?_, hl, .inr ?_, fun e => by have := hb e; omega⟩, h2⟩
  · rw [← h1.1, List.length_take]; omega
  · show RowAt W _ _
    rw [← flat_take hk]; exact RowAt_take hE _
theorem Shp_sl {W : World} {n : Nat} {T e : TypeId} {v : Value} (hu : Try.prog.underlying T = some (.slice e)) (h : Shp Try.prog W (n + 1) T [v]) : ∃ (b : Option Addr) (l c : Nat) (z : List (List Value)), v = .slice b l c ∧ l ≤ c ∧ c ≤ maxLen ∧ (b = none → c = 0) ∧ z.length = c ∧ RowAt W (.slice b l c) z.flatten ∧ ∀ r ∈ z, r.length = Try.prog.cellsOf e ∧ Shp Try.prog W n e r := by
  unfold Shp at h
  rw [hu] at h
  obtain ⟨b, l, c, z, h1, h⟩ := h
  exact ⟨b, l, c, z, by simpa using h1, h⟩
theorem bytes_of {W : World} {n : Nat} : ∀ {z : List (List Value)}, (∀ r ∈ z, r.length = Try.prog.cellsOf 5 ∧ Shp Try.prog W (n + 1) 5 r) → ∃ zs : List Int, z.flatten = zs.map (.int .u8) ∧ zs.length = z.length ∧ ∀ x ∈ zs, (Lit.int .u8 x).wf = true
  | [], _ => ⟨[], rfl, rfl, by simp⟩
  | r :: z, h => by
    obtain ⟨zs, h1, h2, h3⟩ := bytes_of (fun r hr => h r (List.mem_cons_of_mem _ hr))
    obtain ⟨q1, q2⟩ := h r (by simp)
    have q1 : r.length = 1 := q1.trans (by kernel_rfl)
    match r, q1 with
    | [v], _ =>
      obtain ⟨x, rfl, w⟩ := Shp_int1 (k := .u8) (by kernel_rfl) q2
      exact ⟨x :: zs, by rw [List.flatten_cons, h1]; rfl, by simp [h2], fun y hy => by
        rcases List.mem_cons.1 hy with rfl | hy
        · exact w
        · exact h3 y hy⟩
theorem bs_row {W : World} {r : List Value} (h1 : r.length = 1) (h2 : Shp Try.prog W 12 22 r) : ∃ x : List Int, RB (fun v cs => RowAt W v cs) x r ∧ x.length ≤ 9223372036854775807 := by
  match r, h1 with
  | [v], _ =>
    obtain ⟨b, l, c, z, rfl, g1, g2, g3, g4, g5, g6⟩ := Shp_sl (e := 5) (by kernel_rfl) h2
    obtain ⟨zs, e1, e2, e3⟩ := bytes_of g6
    rw [e1] at g5
    have hB := Bs.of g1 g3 (e2.trans g4) e3 g5
    refine ⟨_, ⟨b, l, c, rfl, hB⟩, ?_⟩
    have e : maxLen = 9223372036854775807 := by decide
    rw [hB.2.1]; omega
theorem BLof {W : World} {b : Option Addr} {l c : Nat} {z : List (List Value)} (hl : l ≤ c) (hb : b = none → c = 0) (hz : z.length = c) (hE : RowAt W (.slice b l c) z.flatten) (hr : ∀ r ∈ z, r.length = 1 ∧ Shp Try.prog W 12 22 r) :
    ∃ xs, BL (fun v cs => RowAt W v cs) b l c xs ∧ ∀ x ∈ xs, x.length ≤ 9223372036854775807 :=
  SL_of (k := 1) hl hb hz hE (fun r h => (hr r h).1) (fun r h => bs_row (hr r h).1 (hr r h).2)
noncomputable def tabL7 : FuncId → List SV → Mem → (SV → Mem → Prop) → Prop := fun f args E K => match f with
  | 10 => d0 args ((∀ E' : Mem, Mem.le E E' → K (B true) E'))
  | 14 => d2 args fun x0 x1 => dC x0 fun l1 => d2 l1 fun x0_0 x0_1 => dI x0_0 fun a1 => dS x0_1 fun b2 l3 c4 => dS x1 fun b5 l6 c7 => ∃ (xsss : List (List (List Int))), l3 ≤ 9223372036854775807 ∧ SL RBL E b5 l6 c7 xsss ∧ l6 ≤ 10 ∧ (K (B (decide (shortP l3 xsss))) E)
  | 15 => d1 args fun x0 => dC x0 fun l1 => d2 l1 fun x0_0 x0_1 => dI x0_0 fun a1 => dS x0_1 fun b2 l3 c4 => ∃ (zs : List Int), Bs E b2 l3 c4 zs ∧ (∀ (b' : Option Addr) (l' c' : Nat) (yss : List (List Int)) (e : Int) (E' : Mem), Mem.le E E' → Hyp (readF a1 zs = (yss, e)) → BL E' b' l' c' yss → K (.tup [L b' l' c', I e]) E')
  | 17 => d2 args fun x0 x1 => dC x0 fun l1 => d2 l1 fun x0_0 x0_1 => dI x0_0 fun a1 => dS x0_1 fun b2 l3 c4 => dS x1 fun b5 l6 c7 => ∃ (zs : List Int) (ds : List Int), Bs E b2 l3 c4 zs ∧ Bs E b5 l6 c7 ds ∧ l6 ≤ 60000 ∧ (∀ (b' : Option Addr) (l' c' : Nat) (ms : List (Int × List Int)) (e : Int) (E' : Mem), Mem.le E E' → Hyp (appendF a1 zs ds = (ms, e)) → FL E' b' l' c' ms → K (.tup [L b' l' c', I e]) E')
  | 19 => d2 args fun x0 x1 => dC x0 fun l1 => d2 l1 fun x0_0 x0_1 => dI x0_0 fun a1 => dS x0_1 fun b2 l3 c4 => dS x1 fun b5 l6 c7 => ∃ (zs : List Int) (keep : List (List Int)), Bs E b2 l3 c4 zs ∧ BL E b5 l6 c7 keep ∧ (∀ d ∈ keep, d.length ≤ 60000) ∧ l6 ≤ 1000 ∧ (∀ (b' : Option Addr) (l' c' : Nat) (ms : List (Int × List Int)) (e : Int) (E' : Mem), Mem.le E E' → Hyp (compactF a1 zs keep = (ms, e)) → FL E' b' l' c' ms → K (.tup [L b' l' c', I e]) E')
  | 21 => d2 args fun x0 x1 => dS x0 fun b1 l2 c3 => dS x1 fun b4 l5 c6 => ∃ (xss : List (List Int)) (yss : List (List Int)), BL E b1 l2 c3 xss ∧ BL E b4 l5 c6 yss ∧ (∀ d ∈ xss, d.length ≤ 100000) ∧ l2 ≤ 100000 ∧ (K (B (decide (xss = yss))) E)
  | 23 => d2 args fun x0 x1 => dC x0 fun l1 => d2 l1 fun x0_0 x0_1 => dI x0_0 fun a1 => dS x0_1 fun b2 l3 c4 => dS x1 fun b5 l6 c7 => ∃ (zs : List Int) (want : List (List Int)), Bs E b2 l3 c4 zs ∧ BL E b5 l6 c7 want ∧ (∀ E' : Mem, Mem.le E E' → K (B (decide (readF a1 zs = (want, 0)))) E')
  | 24 => d1 args fun x0 => dC x0 fun l1 => d2 l1 fun x0_0 x0_1 => dI x0_0 fun a1 => dS x0_1 fun b2 l3 c4 => ∃ (zs : List Int), Bs E b2 l3 c4 zs ∧ areaF a1 l3 ≠ 0 ∧ (∀ (u g : Int) (E' : Mem), Mem.le E E' → Hyp (usedF (areaF a1 l3) zs = (u, g)) → K (.tup [I u, I g]) E')
  | 25 => d1 args fun x0 => dS x0 fun b1 l2 c3 => ∃ (dss : List (List Int)), BL E b1 l2 c3 dss ∧ (∀ d ∈ dss, d.length ≤ 100000) ∧ l2 ≤ 1000 ∧ (K (I (needF dss : Nat)) E)
  | _ => False
theorem tabL7_ok : TabOK Try.prog tabL7 := by
  intro f args E K h
  unfold tabL7 at h
  split at h
  · obtain ⟨rfl, h⟩ := d0_elim h
    exact TabSem.congr rfl (Ent.sem okL2 Try.func10 ⟨by kernel_rfl, by kernel_rfl⟩ rfl (j10 h))
  · replace h := d2_elim h
    obtain ⟨x0, x1, rfl, h⟩ := h
    replace h := dC_elim h
    obtain ⟨l1, hl1, h⟩ := h
    replace h := d2_elim h
    obtain ⟨x0_0, x0_1, rfl, h⟩ := h
    replace h := dI_elim h
    obtain ⟨a1, rfl, h⟩ := h
    replace h := dS_elim h
    obtain ⟨b2, l3, c4, rfl, h⟩ := h
    replace h := dS_elim h
    obtain ⟨b5, l6, c7, rfl, h⟩ := h
    obtain ⟨xsss, g0, g1, g2, h⟩ := h
    exact TabSem.congr (valL_cons (asCells_val hl1) (valL_cons rfl rfl)) (Ent.sem okL1 Try.func14 ⟨by kernel_rfl, by kernel_rfl⟩ rfl (j14 g0 g1 g2 h))
  · replace h := d1_elim h
    obtain ⟨x0, rfl, h⟩ := h
    replace h := dC_elim h
    obtain ⟨l1, hl1, h⟩ := h
    replace h := d2_elim h
    obtain ⟨x0_0, x0_1, rfl, h⟩ := h
    replace h := dI_elim h
    obtain ⟨a1, rfl, h⟩ := h
    replace h := dS_elim h
    obtain ⟨b2, l3, c4, rfl, h⟩ := h
    obtain ⟨zs, g0, h⟩ := h
    exact TabSem.congr (valL_cons (asCells_val hl1) rfl) (Ent.sem okKI Try.func15 ⟨by kernel_rfl, by kernel_rfl⟩ rfl (j15 g0 h))
  · replace h := d2_elim h
    obtain ⟨x0, x1, rfl, h⟩ := h
    replace h := dC_elim h
    obtain ⟨l1, hl1, h⟩ := h
    replace h := d2_elim h
    obtain ⟨x0_0, x0_1, rfl, h⟩ := h
    replace h := dI_elim h
    obtain ⟨a1, rfl, h⟩ := h
    replace h := dS_elim h
    obtain ⟨b2, l3, c4, rfl, h⟩ := h
    replace h := dS_elim h
    obtain ⟨b5, l6, c7, rfl, h⟩ := h
    obtain ⟨zs, ds, g0, g1, g2, h⟩ := h
    exact TabSem.congr (valL_cons (asCells_val hl1) (valL_cons rfl rfl)) (Ent.sem okKI Try.func17 ⟨by kernel_rfl, by kernel_rfl⟩ rfl (j17 g0 g1 g2 h))
  · replace h := d2_elim h
    obtain ⟨x0, x1, rfl, h⟩ := h
    replace h := dC_elim h
    obtain ⟨l1, hl1, h⟩ := h
    replace h := d2_elim h
    obtain ⟨x0_0, x0_1, rfl, h⟩ := h
    replace h := dI_elim h
    obtain ⟨a1, rfl, h⟩ := h
    replace h := dS_elim h
    obtain ⟨b2, l3, c4, rfl, h⟩ := h
    replace h := dS_elim h
    obtain ⟨b5, l6, c7, rfl, h⟩ := h
    obtain ⟨zs, keep, g0, g1, g2, g3, h⟩ := h
    exact TabSem.congr (valL_cons (asCells_val hl1) (valL_cons rfl rfl)) (Ent.sem okKJ Try.func19 ⟨by kernel_rfl, by kernel_rfl⟩ rfl (j19 g0 g1 g2 g3 h))
  · replace h := d2_elim h
    obtain ⟨x0, x1, rfl, h⟩ := h
    replace h := dS_elim h
    obtain ⟨b1, l2, c3, rfl, h⟩ := h
    replace h := dS_elim h
    obtain ⟨b4, l5, c6, rfl, h⟩ := h
    obtain ⟨xss, yss, g0, g1, g2, g3, h⟩ := h
    exact TabSem.congr (valL_cons rfl (valL_cons rfl rfl)) (Ent.sem okK4 Try.func21 ⟨by kernel_rfl, by kernel_rfl⟩ rfl (j21 g0 g1 g2 g3 h))
  · replace h := d2_elim h
    obtain ⟨x0, x1, rfl, h⟩ := h
    replace h := dC_elim h
    obtain ⟨l1, hl1, h⟩ := h
    replace h := d2_elim h
    obtain ⟨x0_0, x0_1, rfl, h⟩ := h
    replace h := dI_elim h
    obtain ⟨a1, rfl, h⟩ := h
    replace h := dS_elim h
    obtain ⟨b2, l3, c4, rfl, h⟩ := h
    replace h := dS_elim h
    obtain ⟨b5, l6, c7, rfl, h⟩ := h
    obtain ⟨zs, want, g0, g1, h⟩ := h
    exact TabSem.congr (valL_cons (asCells_val hl1) (valL_cons rfl rfl)) (Ent.sem okK23 Try.func23 ⟨by kernel_rfl, by kernel_rfl⟩ rfl (j23 g0 g1 h))
  · replace h := d1_elim h
    obtain ⟨x0, rfl, h⟩ := h
    replace h := dC_elim h
    obtain ⟨l1, hl1, h⟩ := h
    replace h := d2_elim h
    obtain ⟨x0_0, x0_1, rfl, h⟩ := h
    replace h := dI_elim h
    obtain ⟨a1, rfl, h⟩ := h
    replace h := dS_elim h
    obtain ⟨b2, l3, c4, rfl, h⟩ := h
    obtain ⟨zs, g0, g1, h⟩ := h
    exact TabSem.congr (valL_cons (asCells_val hl1) rfl) (Ent.sem okK5 Try.func24 ⟨by kernel_rfl, by kernel_rfl⟩ rfl (j24 g0 g1 h))
  · replace h := d1_elim h
    obtain ⟨x0, rfl, h⟩ := h
    replace h := dS_elim h
    obtain ⟨b1, l2, c3, rfl, h⟩ := h
    obtain ⟨dss, g0, g1, g2, h⟩ := h
    exact TabSem.congr (valL_cons rfl rfl) (Ent.sem okK3 Try.func25 ⟨by kernel_rfl, by kernel_rfl⟩ rfl (j25 g0 g1 g2 h))
  · exact h.elim
noncomputable def WL7 : Cx := { P := Try.prog, inl := fun f => List.contains [] f, tab := tabL7, isB := fun _ => false, tabB := fun _ _ _ _ _ => False, opt := { unroll := 0, carry := [] }, muts := mutsD }
theorem okWL7 : CxOK WL7 := CxOK.four tabL7_ok (by kernel_rfl) (okInl (by kernel_rfl)) (fun _ _ _ _ _ h => h.elim)
theorem e7 {a1 : Int} {b1 : Option Addr} {l1 : Nat} {c1 : Nat} {z1 : List Int} {b2 : Option Addr} {l2 : Nat} {c2 : Nat} {x2 : List (List Int)} {b3 : Option Addr} {l3 : Nat} {c3 : Nat} {z3 : List Int} (ha1 : (Lit.int .i64 a1).wf = true) (hB1 : Bs E b1 l1 c1 z1) (hL1 : l1 ≤ 9223372036854775807) (hc2 : l2 ≤ maxLen) (hS20 : BL E b2 l2 c2 x2) (hS21 : ∀ d ∈ x2, d.length ≤ 9223372036854775807) (hB3 : Bs E b3 l3 c3 z3) (h : ∀ E' : Mem, Mem.le E E' → K (B true) E') :
    Ent WL7 8 Try.f7 [.agg [I a1, L b1 l1 c1], L b2 l2 c2, L b3 l3 c3] E K := by
  refine same (by kernel_rfl) (?_ : ∀ (E' : Mem), Mem.le E E' → Mem.le E E' ∧ ∀ (base : Option Addr) (E'_1 : Mem), Mem.le E' E'_1 → WinE E'_1 base [VS b3 l3 c3] → ∀ (base_1 : Option Addr) (E' : Mem), Mem.le E'_1 E' → WinE E' base_1 [VS b2 l2 c2, VS (Option.map (fun (x : Addr) => Addr.add x 0) base) 1 1] → ∃ (xsss : List (List (List Int))), l1 ≤ 9223372036854775807 ∧ SL RBL E' (Option.map (fun (x : Addr) => Addr.add x 0) base_1) 2 2 xsss ∧ 2 ≤ 10 ∧ bif !decide (shortP l1 xsss) then Mem.le E E' ∧ K (SV.raw (Value.bool true)) E' else ∃ (zs : List Int), ∃ (keep : List (List Int)), Bs E' b1 l1 c1 zs ∧ BL E' b2 l2 c2 keep ∧ (∀ (d : List Int), List.Mem d keep → List.length d ≤ 60000) ∧ l2 ≤ 1000 ∧ ∀ (b' : Option Addr) (l' c' : Nat) (ms : List (Int × List Int)) (e : Int) (E'_2 : Mem), Mem.le E' E'_2 → Hyp (compactF a1 zs keep = (ms, e)) → FL E'_2 b' l' c' ms → Mem.le E' E'_2 ∧ bif e != (0 : Int) then Mem.le E E'_2 ∧ K (SV.raw (Value.bool (bif true then e != (0 : Int) else false))) E'_2 else bif bif false then true else (NI l') == (0 : Int) then Mem.le E E'_2 ∧ K (SV.raw (Value.bool (bif true then e != (0 : Int) else false))) E'_2 else req ((0 : Int) ≤ WI ((NI l') - (1 : Int)) ∧ WI ((NI l') - (1 : Int)) < (NI l')) ((∃ (cs : List Value), E'_2 (VS b' l' c') cs ∧ (cs = [] → False)) ∧ ∃ (n : Int), ∃ (base : Option Addr), ∃ (len : Nat), ∃ (cap : Nat), LoadE WL7.P E'_2 24 (VS b' l' c') (Int.toNat (WI ((NI l') - (1 : Int))) * 2) (SV.agg [SV.raw (Value.int IntKind.i64 n), SV.raw (VS base len cap)]) ∧ ∃ (zs : List Int), ∃ (ds : List Int), Bs E'_2 base len cap zs ∧ Bs E'_2 b3 l3 c3 ds ∧ l3 ≤ 60000 ∧ ∀ (b' : Option Addr) (l' c' : Nat) (ms : List (Int × List Int)) (e : Int) (E' : Mem), Mem.le E'_2 E' → Hyp (appendF n zs ds = (ms, e)) → FL E' b' l' c' ms → Mem.le E'_2 E' ∧ ∃ (zs : List Int), ∃ (want : List (List Int)), Bs E' base len cap zs ∧ BL E' b2 l2 c2 want ∧ ∀ (E'_3 : Mem), Mem.le E' E'_3 → Mem.le E' E'_3 ∧ bif bif true then decide (readF n zs = (want, (0 : Int))) else false then bif e == (10 : Int) then bif bif true then (NI l') == (0 : Int) else false then Mem.le E E'_3 ∧ K (SV.raw (Value.bool true)) E'_3 else bif e == (0 : Int) then Mem.le E E'_3 ∧ K (SV.raw (Value.bool (bif true then bif false then true else bif true then (NI l') == WI ((NI l3) + (12 : Int)) else false else false))) E'_3 else Mem.le E E'_3 ∧ K (SV.raw (Value.bool false)) E'_3 else bif e == (0 : Int) then Mem.le E E'_3 ∧ K (SV.raw (Value.bool (bif true then bif false then true else bif true then (NI l') == WI ((NI l3) + (12 : Int)) else false else false))) E'_3 else Mem.le E E'_3 ∧ K (SV.raw (Value.bool false)) E'_3 else Mem.le E E'_3 ∧ K (SV.raw (Value.bool false)) E'_3))
  delta WI NI VS
  refine fun EA kA => ⟨kA, fun tD ED kD wD tF EF kF wF => ⟨[x2, [z3]], hL1, ?_, by decide, ?_⟩⟩
  · exact SL.win RBL_ok (rs := [[_], [_]]) wF rfl ((SLr.nil.snoc ⟨b2, l2, c2, rfl, hS20.mono RB_ok (Mem.le_trans kA (Mem.le_trans kD kF))⟩).snoc ⟨_, _, _, rfl, (SL.win RB_ok (rs := [[_]]) wD rfl (SLr.nil.snoc ⟨_, _, _, rfl, hB3.mono (Mem.le_trans kA kD)⟩) rfl (Nat.le_refl _)).mono RB_ok kF⟩) rfl (Nat.le_refl _)
  have kf : Mem.le E EF := Mem.le_trans kA (Mem.le_trans kD kF)
  refine condC (fun g => ⟨kf, h EF kf⟩) (fun g => ?_)
  have g : shortP l1 [x2, [z3]] := by simpa using g
  obtain ⟨g1, g2⟩ := g
  obtain ⟨g3, g4⟩ := g1 x2 (by simp)
  have g5 := (g1 [z3] (by simp)).2 z3 (by simp)
  have nz := hB3.2.1
  have nl := hS20.len
  have bz := hB1.2.2.2.1
  have sk : ∀ d ∈ x2, d.length < 65536 ∧ ∀ x ∈ d, 0 ≤ x ∧ x ≤ 255 := fun d hd => ⟨by have := g4 d hd; omega, BL_bytes hS20 d hd⟩
  have sd : z3.length < 65536 ∧ ∀ x ∈ z3, 0 ≤ x ∧ x ≤ 255 := ⟨by omega, hB3.2.2.2.1⟩
  refine ⟨z1, x2, hB1.mono kf, hS20.mono RB_ok kf, fun d hd => by have := g4 d hd; omega, by omega, fun bG lG cG mG eG EG kG nG FG => ⟨kG, ?_⟩⟩
  have nG : compactF a1 z1 x2 = (mG, eG) := nG
  have kg : Mem.le E EG := Mem.le_trans kf kG
  by_cases ho : (openF a1 z1).2 = 0
  · obtain ⟨ls, a, g, hh, J⟩ := Jo.of bz ho
    rcases J.compact sk with ⟨e1, e2⟩ | ⟨e0, e1, X, w, o, e2, e3, e4, e5, e6, e7⟩
    · rw [e1] at nG
      cases nG
      exact condC (fun _ => ⟨kg, by simpa using h EG kg⟩) (fun g => by simp at g)
    · rw [e2] at nG
      cases nG
      have nF := FG.len
      rw [List.length_append, List.length_singleton] at nF
      have cn := compact_num a1 z1 x2
      rw [e2, List.length_append, List.length_singleton] at cn
      refine condC (fun g => by simp at g) (fun _ => condC (fun g => by simp at g; omega) (fun _ => ?_))
      rw [wrap_i64 (x := (lG : Int) - 1) (by omega)]
      obtain ⟨x1, b5, l5, c5, y2, y3⟩ := FG.load (show (X ++ [(a1, w)])[X.length]? = some (a1, w) by simp)
      refine req_intro (by omega) ⟨x1, a1, b5, l5, c5, by rw [show Int.toNat ((lG : Int) - 1) = X.length by omega]; exact y2, w, z3, y3, hB3.mono kg, by omega, fun bI lI cI mI eI EI kI nI FI => ⟨kI, w, x2, y3.mono kI, hS20.mono RB_ok (Mem.le_trans kg kI), fun EJ kJ => ⟨kJ, ?_⟩⟩⟩
      have nI : appendF a1 w z3 = (mI, eI) := nI
      have kj : Mem.le E EJ := Mem.le_trans kg (Mem.le_trans kI kJ)
      have hr : readF a1 w = (x2, 0) := by unfold readF; rw [e6.op]
      refine condC (fun _ => ?_) (fun g => by simp [hr] at g)
      have nN := FI.len
      rcases e6.append sd with ⟨p1, p2⟩ | ⟨p0, Y, v, a', g', p1, p2, p3, p4, p5, p6⟩
      · rw [p1] at nI
        cases nI
        simp only [List.length_nil] at nN
        exact condC (fun _ => condC (fun _ => ⟨kj, h EJ kj⟩) (fun g => by simp at g; omega)) (fun g => by simp at g)
      · rw [p1] at nI
        cases nI
        obtain ⟨q1, _⟩ := p6 e7
        rw [List.length_append, List.length_singleton] at nN
        refine condC (fun g => by simp at g) (fun _ => condC (fun _ => ⟨kj, ?_⟩) (fun g => by simp at g))
        have := h EJ kj
        rw [wrap_i64 (x := (l3 : Int) + 12) (by omega)]
        have e : ((lI : Int) == (l3 : Int) + 12) = true := by simp; omega
        simpa [e] using this
  · rw [(no_jo ho z3 x2).2] at nG
    cases nG
    have q : ((openF a1 z1).snd != 0) = true := by simpa using ho
    exact condC (fun _ => ⟨kg, by simpa [q] using h EG kg⟩) (fun g => by rw [q] at g; cases g)
theorem opn7 (W : World) (K : List SV → Prop) (h : ∀ a1 : Int, (Lit.int .i64 a1).wf = true → ∀ (b1 : Option Addr) (l1 c1 : Nat) (z1 : List Int), (l1 ≤ c1) → (c1 ≤ maxLen) → (b1 = none → c1 = 0) → (z1.length = c1) → (∀ x ∈ z1, (Lit.int .u8 x).wf = true) → RowAt W (.slice b1 l1 c1) (z1.map (.int .u8)) → ∀ (b2 : Option Addr) (l2 c2 : Nat) (z2 : List (List Value)), (l2 ≤ c2) → (c2 ≤ maxLen) → (b2 = none → c2 = 0) → (z2.length = c2) → RowAt W (.slice b2 l2 c2) z2.flatten → (∀ r ∈ z2, r.length = 1 ∧ Shp Try.prog W 12 22 r) → ∀ (b3 : Option Addr) (l3 c3 : Nat) (z3 : List Int), (l3 ≤ c3) → (c3 ≤ maxLen) → (b3 = none → c3 = 0) → (z3.length = c3) → (∀ x ∈ z3, (Lit.int .u8 x).wf = true) → RowAt W (.slice b3 l3 c3) (z3.map (.int .u8)) → K [.agg [I a1, L b1 l1 c1], L b2 l2 c2, L b3 l3 c3]) : opnAll Try.prog W Try.f7.params.toList K :=
  same (by kernel_rfl) h
theorem sem7 (W : World) : opnAll Try.prog W Try.f7.params.toList fun ss => TabSem Try.prog 7 ss (fun v cs => RowAt W v cs) fun r _ => r = .raw (.bool true) := by
  refine opn7 W _ ?_
  intro a1 ha1 b1 l1 c1 z1 hl1 hc1 hb1 hz1 hw1 hE1 b2 l2 c2 z2 hl2 hc2 hb2 hz2 hE2 hr2 b3 l3 c3 z3 hl3 hc3 hb3 hz3 hw3 hE3
  exact Ent.sem okWL7 Try.func7 ⟨by kernel_rfl, by kernel_rfl⟩ rfl (e7 ha1 (Bs.of hl1 hb1 hz1 hw1 hE1) (Nat.le_trans hl1 (by simpa [maxLen] using hc1)) (Nat.le_trans hl2 hc2) (BLof hl2 hb2 hz2 hE2 hr2).choose_spec.1 (BLof hl2 hb2 hz2 hE2 hr2).choose_spec.2 (Bs.of hl3 hb3 hz3 hw3 hE3) (fun _ _ => rfl))
theorem lifted7 (os : Os) (started : os.Started) (H : Type) (enc : TypeId × Value → H) :
    ReturnsInHanded {} Try.checked os 7 .any (Rows.journalRewritesSpec.pre6 enc Try.prog Try.f7 Rows.journalRewritesRow.domain false) (Rows.journalRewritesSpec.post enc Try.prog Try.f7 false true false false) :=
  lift_true (C := Try.checked) (by kernel_rfl) (by kernel_rfl) started (by kernel_rfl) Try.func7
    (ChangeSpec.witness6 (enc := enc) (C := Try.checked) false ⟨#[], #[.agg #[.int .i64 0, .slice none 0 0], .slice none 0 0, .slice none 0 0], []⟩ 8 (by kernel_rfl) (by kernel_rfl) (by kernel_rfl) (by kernel_rfl))
    (Tb := 4) (by kernel_rfl) (by kernel_rfl) (by kernel_rfl) rfl
    (fun ds hl => by
      match ds, hl with
      | [d0, d1, d2], _ => exact ⟨rfl, rfl, rfl⟩)
    sem7
theorem over7 : Rows.journalRewritesRow.holds Try.pinned (OpenSpec.ofChange Rows.journalRewritesSpec) :=
  OpenClaim.holds_of_wide 7 Try.f7 rfl rfl rfl rfl rfl rfl rfl ⟨rfl, rfl, rfl, rfl, rfl⟩ rfl rfl rfl rfl rfl (by kernel_rfl) Try.func7 (by kernel_rfl)
    (of_decide_eq_true (by kernel_rfl)) (by unfold Func.isWrapper; first | (rw [if_pos (by decide +kernel)]; kernel_rfl) | (rw [if_neg (by decide +kernel)]; exact ⟨rfl, rfl⟩))
    (fun os started H enc _ => lifted7 os started H enc)
theorem proved7 : Rows.JournalRewritesSaid := over7
end Go.Proofs.Ytiineecihncpfaa.JournalOwn
