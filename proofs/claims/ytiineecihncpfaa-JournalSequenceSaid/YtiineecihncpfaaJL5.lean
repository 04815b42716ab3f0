/- The law's proof: for every input the law answers true. Conditions: none. -/
import Derived.Test.YtiineecihncpfaaJg22
import Derived.OpenShut
import Derived.Test.YtiineecihncpfaaRows
namespace Go.Proofs.Ytiineecihncpfaa.JournalOwn
open Go Go.Sx Go.Proofs.Ytiineecihncpfaa
set_option maxRecDepth 100000
set_option maxHeartbeats 4000000
set_option linter.unusedVariables false
set_option linter.unusedSimpArgs false
variable {E : Mem} {K : SV → Mem → Prop}
theorem SLr_of {α : Type} {R : RowR α} {Q : α → Prop} : ∀ {z : List (List Value)}, (∀ r ∈ z, ∃ x, R E x r ∧ Q x) → ∃ xs, SLr R E z xs ∧ ∀ x ∈ xs, Q x
  | [], _ => ⟨[], SLr.nil, fun x h => by cases h⟩
  | r :: z, h => by
    obtain ⟨x, h1, h2⟩ := h r (by simp)
    obtain ⟨xs, h3, h4⟩ := SLr_of (fun r hr => h r (List.mem_cons_of_mem _ hr))
    exact ⟨x :: xs, (SLr.one h1).app h3, fun y hy => by
      rcases List.mem_cons.1 hy with rfl | hy
      · exact h2
      · exact h4 y hy⟩
theorem RowAt_take {W : World} {v : Value} {cs : List Value} (h : RowAt W v cs) (k : Nat) : RowAt W v (cs.take k) := by
  rcases h with rfl | ⟨a, n, c, h1, h2, h3⟩
  · exact .inl (by simp)
  · exact .inr ⟨a, n, c, h1, h2, fun i x hx => h3 i x (by
      have hk := (List.getElem?_eq_some_iff.1 hx).1
      rw [List.length_take] at hk
      rwa [List.getElem?_take_of_lt (by omega)] at hx)⟩
theorem SL_of {α : Type} {k : Nat} {R : RowR α} {Q : α → Prop} {W : World} {b : Option Addr} {l c : Nat} {z : List (List Value)} (hl : l ≤ c) (hb : b = none → c = 0) (hz : z.length = c) (hE : RowAt W (.slice b l c) z.flatten) (hk : ∀ r ∈ z, r.length = k)
    (hr : ∀ r ∈ z, ∃ x, R (fun v cs => RowAt W v cs) x r ∧ Q x) : ∃ xs, SL R (fun v cs => RowAt W v cs) b l c xs ∧ ∀ x ∈ xs, Q x := by
  obtain ⟨xs, h1, h2⟩ := SLr_of (z := z.take l) (fun r h => hr r (List.mem_of_mem_take h))
  refine ⟨xs, ⟨z.take l, h1, ?_, hl, .inr ?_, fun e => by have := hb e; omega⟩, h2⟩
  · rw [← h1.1, List.length_take]; omega
  · show RowAt W _ _
    rw [← flat_take hk]; exact RowAt_take hE _
theorem Shp_sl {W : World} {n : Nat} {T e : TypeId} {v : Value} (hu : Try.prog.underlying T = some (.slice e)) (h : Shp Try.prog W (n + 1) T [v]) : ∃ (b : Option Addr) (l c : Nat) (z : List (List Value)), v = .slice b l c ∧ l ≤ c ∧ c ≤ maxLen ∧ (b = none → c = 0) ∧ z.length = c ∧ RowAt W (.slice b l c) z.flatten ∧ ∀ r ∈ z, r.length = Try.prog.cellsOf e ∧ Shp Try.prog W n e r := by
  unfold Shp at h
  rw [hu] at h
  obtain ⟨b, l, c, z, h1, h⟩ := h
  exact ⟨b, l, c, z, by simpa using h1, h⟩
theorem bytes_of {W : World} {n : Nat} : ∀ {z : List (List Value)}, (∀ r ∈ z, r.length = Try.prog.cellsOf 5 ∧ Shp Try.prog W (n + 1) 5 r) → ∃ zs : List Int, z.flatten = zs.map (.int .u8) ∧ zs.length = z.length ∧ ∀ x ∈ zs, (Lit.int .u8 x).wf = true
  | [], _ => ⟨[], rfl, rfl, by simp⟩
  | r :: z, h => by
    obtain ⟨zs, h1, h2, h3⟩ := bytes_of (fun r hr => h r (List.mem_cons_of_mem _ hr))
    obtain ⟨q1, q2⟩ := h r (by simp)
    have q1 : r.length = 1 := q1.trans (by kernel_rfl)
    match r, q1 with
    | [v], _ =>
      obtain ⟨x, rfl, w⟩ := Shp_int1 (k := .u8) (by kernel_rfl) q2
      exact ⟨x :: zs, by rw [List.flatten_cons, h1]; rfl, by simp [h2], fun y hy => by
        rcases List.mem_cons.1 hy with rfl | hy
        · exact w
        · exact h3 y hy⟩
theorem bs_row {W : World} {r : List Value} (h1 : r.length = 1) (h2 : Shp Try.prog W 12 22 r) : ∃ x : List Int, RB (fun v cs => RowAt W v cs) x r ∧ x.length ≤ 9223372036854775807 := by
  match r, h1 with
  | [v], _ =>
    obtain ⟨b, l, c, z, rfl, g1, g2, g3, g4, g5, g6⟩ := Shp_sl (e := 5) (by kernel_rfl) h2
    obtain ⟨zs, e1, e2, e3⟩ := bytes_of g6
    rw [e1] at g5
    have hB := Bs.of g1 g3 (e2.trans g4) e3 g5
    refine ⟨_, ⟨b, l, c, rfl, hB⟩, ?_⟩
    have e : maxLen = 9223372036854775807 := by decide
    rw [hB.2.1]; omega
theorem BLof {W : World} {b : Option Addr} {l c : Nat} {z : List (List Value)} (hl : l ≤ c) (hb : b = none → c = 0) (hz : z.length = c) (hE : RowAt W (.slice b l c) z.flatten) (hr : ∀ r ∈ z, r.length = 1 ∧ Shp Try.prog W 12 22 r) :
    ∃ xs, BL (fun v cs => RowAt W v cs) b l c xs ∧ ∀ x ∈ xs, x.length ≤ 9223372036854775807 :=
  SL_of (k := 1) hl hb hz hE (fun r h => (hr r h).1) (fun r h => bs_row (hr r h).1 (hr r h).2)
noncomputable def tabL5 : FuncId → List SV → Mem → (SV → Mem → Prop) → Prop := fun f args E K => match f with
  | 10 => d0 args ((∀ E' : Mem, Mem.le E E' → K (B true) E'))
  | 11 => d2 args fun x0 x1 => dI x0 fun a1 => dI x1 fun a2 => (∀ (s' : Int) (b' : Option Addr) (l' c' : Nat) (ys : List Int) (e : Int) (E' : Mem), Mem.le E E' → Hyp (formatF a1 a2 = ((s', ys), e)) → Bs E' b' l' c' ys → K (.tup [.agg [I s', L b' l' c'], I e]) E')
  | 14 => d2 args fun x0 x1 => dC x0 fun l1 => d2 l1 fun x0_0 x0_1 => dI x0_0 fun a1 => dS x0_1 fun b2 l3 c4 => dS x1 fun b5 l6 c7 => ∃ (xsss : List (List (List Int))), l3 ≤ 9223372036854775807 ∧ SL RBL E b5 l6 c7 xsss ∧ l6 ≤ 10 ∧ (K (B (decide (shortP l3 xsss))) E)
  | 17 => d2 args fun x0 x1 => dC x0 fun l1 => d2 l1 fun x0_0 x0_1 => dI x0_0 fun a1 => dS x0_1 fun b2 l3 c4 => dS x1 fun b5 l6 c7 => ∃ (zs : List Int) (ds : List Int), Bs E b2 l3 c4 zs ∧ Bs E b5 l6 c7 ds ∧ l6 ≤ 60000 ∧ (∀ (b' : Option Addr) (l' c' : Nat) (ms : List (Int × List Int)) (e : Int) (E' : Mem), Mem.le E E' → Hyp (appendF a1 zs ds = (ms, e)) → FL E' b' l' c' ms → K (.tup [L b' l' c', I e]) E')
  | 23 => d2 args fun x0 x1 => dC x0 fun l1 => d2 l1 fun x0_0 x0_1 => dI x0_0 fun a1 => dS x0_1 fun b2 l3 c4 => dS x1 fun b5 l6 c7 => ∃ (zs : List Int) (want : List (List Int)), Bs E b2 l3 c4 zs ∧ BL E b5 l6 c7 want ∧ (∀ E' : Mem, Mem.le E E' → K (B (decide (readF a1 zs = (want, 0)))) E')
  | _ => False
theorem tabL5_ok : TabOK Try.prog tabL5 := by
  intro f args E K h
  unfold tabL5 at h
  split at h
  · obtain ⟨rfl, h⟩ := d0_elim h
    exact TabSem.congr rfl (Ent.sem okL2 Try.func10 ⟨by kernel_rfl, by kernel_rfl⟩ rfl (j10 h))
  · replace h := d2_elim h
    obtain ⟨x0, x1, rfl, h⟩ := h
    replace h := dI_elim h
    obtain ⟨a1, rfl, h⟩ := h
    replace h := dI_elim h
    obtain ⟨a2, rfl, h⟩ := h
    exact TabSem.congr (valL_cons rfl (valL_cons rfl rfl)) (Ent.sem okKL Try.func11 ⟨by kernel_rfl, by kernel_rfl⟩ rfl (j11 h))
  · replace h := d2_elim h
    obtain ⟨x0, x1, rfl, h⟩ := h
    replace h := dC_elim h
    obtain ⟨l1, hl1, h⟩ := h
    replace h := d2_elim h
    obtain ⟨x0_0, x0_1, rfl, h⟩ := h
    replace h := dI_elim h
    obtain ⟨a1, rfl, h⟩ := h
    replace h := dS_elim h
    obtain ⟨b2, l3, c4, rfl, h⟩ := h
    replace h := dS_elim h
    obtain ⟨b5, l6, c7, rfl, h⟩ := h
    obtain ⟨xsss, g0, g1, g2, h⟩ := h
    exact TabSem.congr (valL_cons (asCells_val hl1) (valL_cons rfl rfl)) (Ent.sem okL1 Try.func14 ⟨by kernel_rfl, by kernel_rfl⟩ rfl (j14 g0 g1 g2 h))
  · replace h := d2_elim h
    obtain ⟨x0, x1, rfl, h⟩ := h
    replace h := dC_elim h
    obtain ⟨l1, hl1, h⟩ := h
    replace h := d2_elim h
    obtain ⟨x0_0, x0_1, rfl, h⟩ := h
    replace h := dI_elim h
    obtain ⟨a1, rfl, h⟩ := h
    replace h := dS_elim h
    obtain ⟨b2, l3, c4, rfl, h⟩ := h
    replace h := dS_elim h
    obtain ⟨b5, l6, c7, rfl, h⟩ := h
    obtain ⟨zs, ds, g0, g1, g2, h⟩ := h
    exact TabSem.congr (valL_cons (asCells_val hl1) (valL_cons rfl rfl)) (Ent.sem okKI Try.func17 ⟨by kernel_rfl, by kernel_rfl⟩ rfl (j17 g0 g1 g2 h))
  · replace h := d2_elim h
    obtain ⟨x0, x1, rfl, h⟩ := h
    replace h := dC_elim h
    obtain ⟨l1, hl1, h⟩ := h
    replace h := d2_elim h
    obtain ⟨x0_0, x0_1, rfl, h⟩ := h
    replace h := dI_elim h
    obtain ⟨a1, rfl, h⟩ := h
    replace h := dS_elim h
    obtain ⟨b2, l3, c4, rfl, h⟩ := h
    replace h := dS_elim h
    obtain ⟨b5, l6, c7, rfl, h⟩ := h
    obtain ⟨zs, want, g0, g1, h⟩ := h
    exact TabSem.congr (valL_cons (asCells_val hl1) (valL_cons rfl rfl)) (Ent.sem okK23 Try.func23 ⟨by kernel_rfl, by kernel_rfl⟩ rfl (j23 g0 g1 h))
  · exact h.elim
noncomputable def WL5 : Cx := { P := Try.prog, inl := fun f => List.contains [] f, tab := tabL5, isB := fun _ => false, tabB := fun _ _ _ _ _ => False, opt := { unroll := 0, carry := [10, 11, 45], cuts := [14] }, muts := (fun o => match o with | .buildSlice .. => true | o => mutsD o) }
theorem okWL5 : CxOK WL5 := CxOK.four tabL5_ok (by kernel_rfl) (okInl (by kernel_rfl)) (fun _ _ _ _ _ h => h.elim)
def sL5w (s : Int) (b b1 : Option Addr) (l c l1 c1 : Nat) (left : Int) (n cap tot : Nat) (rs : List Value) (i : Nat) (E : Mem) : St := ⟨[none, none, none, none, none, none, none, some (B true), some (.loc 0 0), none, some (I left), some (.slc 1 0 n cap), none, none, none, none, none, none, none, none, none, none, none, none, none, none, none, none, none, none, none, none, none, none, none, none, none, none, none, none, none, none, none, some (L b1 l1 c1), some (I (l1 : Nat)), some (I (i : Nat)), none, none, none, none, none, none, none, none, none, none, none, none, none, none, none, none, none, none, none, none, none, none, none, none, none, none, none, none, none, none, none, none, none, none, none, none, none, none, none, none, none, none, none, none, none, none, none, none, none, none, none, none, none, none, none], [⟨24, .lst [I s, L b l c], 2, true⟩, ⟨22, .vals rs, tot, true⟩], E⟩
def sL5c (s : Int) (b b1 : Option Addr) (l c l1 c1 : Nat) (left : Int) (n cap tot : Nat) (rs : List Value) (b2 b5 : Option Addr) (l2 c2 l5 c5 : Nat) (i : Nat) (E : Mem) : St := ⟨[none, none, none, none, none, none, none, some (B true), some (.loc 0 0), none, some (I left), some (.slc 1 0 n cap), none, some (L b2 l2 c2), some (L b5 l5 c5), none, none, none, none, none, none, none, none, none, none, none, none, none, none, none, none, none, none, none, none, none, none, none, none, none, none, none, none, some (L b1 l1 c1), some (I (l1 : Nat)), some (I (i : Nat)), none, none, none, none, none, none, none, none, none, none, none, none, none, none, none, none, none, none, none, none, none, none, none, none, none, none, none, none, none, none, none, none, none, none, none, none, none, none, none, none, none, none, none, none, none, none, none, none, none, none, none, none, none, none, none], [⟨24, .lst [I s, L b l c], 2, true⟩, ⟨22, .vals rs, tot, true⟩], E⟩
theorem pcS5 {s : Int} {b b1 : Option Addr} {l c l1 c1 : Nat} {left : Int} {i : Nat} {z : List Int} {lst want : List (List Int)} {rr : List (List Value)} {a h : Nat} {g : Int} {E0 : Mem} {n cap tot : Nat} {rs : List Value} {b2 b5 : Option Addr} {l2 c2 l5 c5 : Nat} {ds w : List Int} {X : List (Int × List Int)} (J : Jo s z want a g h) (he : Er z (a + 5 + needF want) (a + h)) (hB' : Bs E b l c z) (hL : BL E b1 l1 c1 lst) (hl : l1 ≤ 20 ∧ l ≤ 400) (hd : ∀ d ∈ lst, d.length ≤ 400) (hleft : left = (h : Int) - 5 - needF want) (hR : SLr RB E rr want) (hrs : rs = rr.flatten) (hn : want.length = n ∧ n ≤ cap ∧ cap ≤ tot) (hE : Mem.le E0 E) (hK : ∀ E', Mem.le E E' → K (B true) E') (hD : Bs E b2 l2 c2 ds) (FM : FL E b5 l5 c5 (X ++ [(s, w)])) (hX : X.length = ds.length + 11) (hwl : w.length = z.length) (J' : Jo s w (want ++ [ds]) a g h) (he' : Er w (a + 5 + needF (want ++ [ds])) (a + h)) (hi : i < l1)
    (ih : i < l1 → ∀ (s : Int) (b : Option Addr) (l c : Nat) (left : Int) (z : List Int) (want : List (List Int)) (rr : List (List Value)) (a h : Nat) (g : Int) (n cap tot : Nat) (rs : List Value) (E1 : Mem), Mem.le E E1 → Jo s z want a g h → Er z (a + 5 + needF want) (a + h) → Bs E1 b l c z → BL E1 b1 l1 c1 lst → l ≤ 400 → left = (h : Int) - 5 - needF want → SLr RB E1 rr want → rs = rr.flatten → (want.length = n ∧ n ≤ cap ∧ cap ≤ tot) → Lp WL5 8 Try.f5 [1, 1, 1, 1, 1, 1, 0, 1, 0] 0 (pubK E0 K) (sL5w s b b1 l c l1 c1 left n cap tot rs (i + 1) E1)) : Pc WL5 8 Try.f5 [1, 1, 1, 1, 1, 1, 0, 1, 0, 0, 1, 1, 0, 0, 1, 1, 1, 1] 0 (pubK E0 K) (sL5c s b b1 l c l1 c1 left n cap tot rs b2 b5 l2 c2 l5 c5 i E) := by
  refine same (by kernel_rfl) (?_ : bif (NI l5) != WI ((NI l2) + (12 : Int)) then Mem.le E0 E ∧ K (SV.raw (Value.bool false)) E else req ((0 : Int) ≤ WI ((NI l5) - (1 : Int)) ∧ WI ((NI l5) - (1 : Int)) < (NI l5)) ((∃ (cs : List Value), E (VS b5 l5 c5) cs ∧ (cs = [] → False)) ∧ (∃ (n_1 : Int), ∃ (base : Option Addr), ∃ (len : Nat), ∃ (cap_1 : Nat), LoadE WL5.P E 24 (VS b5 l5 c5) (Int.toNat (WI ((NI l5) - (1 : Int))) * 2) (SV.agg [SV.raw (Value.int IntKind.i64 n_1), SV.raw (VS base len cap_1)]) ∧ n * 1 ≤ List.length (Row.cells (Row.vals rs)) ∧ cap * 1 ≤ tot ∧ n ≤ cap ∧ req ((n + 1) * 24 ≤ 140737488355328) (∀ (cap' tot' : Nat), n + 1 ≤ cap' → cap' * 1 ≤ tot' → Lp WL5 8 Try.f5 [1, 1, 1, 1, 1, 1, 0, 1, 0] 0 (pubK E0 K) { fr := n4 (n2 (none :: (some (B true) :: some (SV.loc 0 0) :: none :: some (I (WI (WI (left - (NI l2)) - (11 : Int)))) :: some (SV.slc 3 0 (n + 1) cap') :: n16 (n8 (n4 (n2 (none :: (some (L b1 l1 c1) :: some (I (NI l1)) :: some (I (WI ((NI i) + (1 : Int)))) :: n32 (n16 (n4 (n2 (none :: [])))))))))))), bx := [⟨24, .lst [I n_1, L base len cap_1], 2, true⟩, ⟨22, .lst [], 0, false⟩, ⟨22, .lst [L b2 l2 c2], 1, true⟩, ⟨22, .vals (List.take (n * 1) rs ++ [VS b2 l2 c2]), tot', true⟩], E := E : St })) ∧ (∃ (n_1 : Int), ∃ (base : Option Addr), ∃ (len : Nat), ∃ (cap_1 : Nat), LoadE WL5.P E 24 (VS b5 l5 c5) (Int.toNat (WI ((NI l5) - (1 : Int))) * 2) (SV.agg [SV.raw (Value.int IntKind.i64 n_1), SV.raw (VS base len cap_1)]) ∧ n * 1 ≤ List.length (Row.cells (Row.vals rs)) ∧ cap * 1 ≤ tot ∧ n ≤ cap ∧ req ((n + 1) * 24 ≤ 140737488355328) (∀ (cap' tot' : Nat), n + 1 ≤ cap' → cap' * 1 ≤ tot' → Lp WL5 8 Try.f5 [1, 1, 1, 1, 1, 1, 0, 1, 0] 0 (pubK E0 K) { fr := n4 (n2 (none :: (some (B true) :: some (SV.loc 0 0) :: none :: some (I (WI (WI (left - (NI l2)) - (11 : Int)))) :: some (SV.slc 3 0 (n + 1) cap') :: n16 (n8 (n4 (n2 (none :: (some (L b1 l1 c1) :: some (I (NI l1)) :: some (I (WI ((NI i) + (1 : Int)))) :: n32 (n16 (n4 (n2 (none :: [])))))))))))), bx := [⟨24, .lst [I n_1, L base len cap_1], 2, true⟩, ⟨22, .lst [], 0, false⟩, ⟨22, .lst [L b2 l2 c2], 1, true⟩, ⟨22, .vals (List.take (n * 1) rs ++ [VS b2 l2 c2]), tot', true⟩], E := E : St })) ∧ n * 1 ≤ List.length (Row.cells (Row.vals rs)) ∧ cap * 1 ≤ tot ∧ n ≤ cap ∧ req ((n + 1) * 24 ≤ 140737488355328) (∀ (cap' tot' : Nat), n + 1 ≤ cap' → cap' * 1 ≤ tot' → ∃ (n_1 : Int), ∃ (base : Option Addr), ∃ (len : Nat), ∃ (cap : Nat), LoadE WL5.P E 24 (VS b5 l5 c5) (Int.toNat (WI ((NI l5) - (1 : Int))) * 2) (SV.agg [SV.raw (Value.int IntKind.i64 n_1), SV.raw (VS base len cap)]) ∧ Lp WL5 8 Try.f5 [1, 1, 1, 1, 1, 1, 0, 1, 0] 0 (pubK E0 K) { fr := n4 (n2 (none :: (some (B true) :: some (SV.loc 0 0) :: none :: some (I (WI (WI (left - (NI l2)) - (11 : Int)))) :: some (SV.slc 3 0 (n + 1) cap') :: n16 (n8 (n4 (n2 (none :: (some (L b1 l1 c1) :: some (I (NI l1)) :: some (I (WI ((NI i) + (1 : Int)))) :: n32 (n16 (n4 (n2 (none :: [])))))))))))), bx := [⟨24, .lst [I n_1, L base len cap], 2, true⟩, ⟨22, .lst [], 0, false⟩, ⟨22, .lst [L b2 l2 c2], 1, true⟩, ⟨22, .vals (List.take (n * 1) rs ++ [VS b2 l2 c2]), tot', true⟩], E := E : St })))
  delta WI NI VS n2 n4 n8 n16 n32
  have hw := hR.flat RB_ok
  have ns := needF_snoc want ds
  have nd := hD.2.1
  have nm := FM.len
  rw [List.length_append, List.length_singleton] at nm
  have sz := J'.sz
  have hb := J'.hb
  have rm := J'.rm
  have n2 := hB'.2.1
  obtain ⟨x1, bw, lw, cw, x2, x3⟩ := FM.load (show (X ++ [(s, w)])[X.length]? = some (s, w) by simp)
  have nw := x3.2.1
  have el : IntKind.wrap .i64 (IntKind.wrap .i64 (left - (l2 : Int)) - 11) = (h : Int) - 5 - needF (want ++ [ds]) := by
    rw [hleft, wrap_i64 (x := (h : Int) - 5 - needF want - l2) (by omega), wrap_i64 (by omega)]; omega
  rw [el, wrap_i64 (x := (l2 : Int) + 12) (by omega), wrap_i64 (x := (l5 : Int) - 1) (by omega), show Int.toNat ((l5 : Int) - 1) = X.length by omega, wrap_i64 (x := (i : Int) + 1) (by omega), show (i : Int) + 1 = ((i + 1 : Nat) : Int) by simp]
  have nw : w.length = lw := nw
  refine condC (fun q => by simp at q; omega) (fun _ => req_intro (by omega) ⟨x1, ?_⟩)
  have cR : n * 1 ≤ List.length (Row.cells (Row.vals rs)) := by
    show n * 1 ≤ (rs.map SV.raw).length
    rw [List.length_map, hrs, hw]; omega
  have ge := needF_ge want
  have fin : ∀ cap' tot' : Nat, n + 1 ≤ cap' → cap' * 1 ≤ tot' → Lp WL5 8 Try.f5 [1, 1, 1, 1, 1, 1, 0, 1, 0] 0 (pubK E0 K) (sL5w s bw b1 lw cw l1 c1 ((h : Int) - 5 - needF (want ++ [ds])) (n + 1) cap' tot' (List.take (n * 1) rs ++ [Value.slice b2 l2 c2]) (i + 1) E) := fun cap' tot' q1 q2 => by
    refine ih hi s bw lw cw _ w (want ++ [ds]) (rr ++ [[.slice b2 l2 c2]]) a h g (n + 1) cap' tot' _ E (Mem.le_refl _) J' he' x3 hL (by omega) rfl (hR.snoc ⟨_, _, _, rfl, hD⟩) ?_ ⟨by simp [hn.1], q1, by omega⟩
    rw [List.take_of_length_le (by rw [hrs, hw]; omega), hrs]; simp
  repeat' first | refine And.intro ?_ ?_ | exact cR | exact (by omega) | exact req_intro (by omega) (fun cap' tot' q1 q2 => ⟨s, bw, lw, cw, x2, Lp_re [some 0, some 3] (fin cap' tot' q1 q2) (wkG (Mem.le_refl _))⟩) | exact ⟨s, bw, lw, cw, x2, cR, by omega, by omega, req_intro (by omega) (fun cap' tot' q1 q2 => Lp_re [some 0, some 3] (fin cap' tot' q1 q2) (wkG (Mem.le_refl _)))⟩
theorem r5w {s : Int} {b b1 : Option Addr} {l c l1 c1 : Nat} {left : Int} {i : Nat} {z : List Int} {lst want : List (List Int)} {rr : List (List Value)} {a h : Nat} {g : Int} {E0 : Mem} {n cap tot : Nat} {rs : List Value} (J : Jo s z want a g h) (he : Er z (a + 5 + needF want) (a + h)) (hB : Bs E b l c z) (hL : BL E b1 l1 c1 lst) (hl : l1 ≤ 20 ∧ l ≤ 400) (hd : ∀ d ∈ lst, d.length ≤ 400) (hleft : left = (h : Int) - 5 - needF want) (hR : SLr RB E rr want) (hrs : rs = rr.flatten) (hn : want.length = n ∧ n ≤ cap ∧ cap ≤ tot) (hE : Mem.le E0 E) (hK : ∀ E', Mem.le E E' → K (B true) E') (hi : i ≤ l1)
    (ih : i < l1 → ∀ (s : Int) (b : Option Addr) (l c : Nat) (left : Int) (z : List Int) (want : List (List Int)) (rr : List (List Value)) (a h : Nat) (g : Int) (n cap tot : Nat) (rs : List Value) (E1 : Mem), Mem.le E E1 → Jo s z want a g h → Er z (a + 5 + needF want) (a + h) → Bs E1 b l c z → BL E1 b1 l1 c1 lst → l ≤ 400 → left = (h : Int) - 5 - needF want → SLr RB E1 rr want → rs = rr.flatten → (want.length = n ∧ n ≤ cap ∧ cap ≤ tot) → Lp WL5 8 Try.f5 [1, 1, 1, 1, 1, 1, 0, 1, 0] 0 (pubK E0 K) (sL5w s b b1 l c l1 c1 left n cap tot rs (i + 1) E1)) : Rnd WL5 8 Try.f5 [1, 1, 1, 1, 1, 1, 0, 1, 0] 0 (pubK E0 K) (sL5w s b b1 l c l1 c1 left n cap tot rs i E) := by
  refine same (by kernel_rfl) (?_ : bif decide ((NI i) < (NI l1)) then req ((0 : Int) ≤ (NI i) ∧ (NI i) < (NI l1)) ((∃ (cs : List Value), E (VS b1 l1 c1) cs ∧ (cs = [] → False)) ∧ ∃ (base : Option Addr), ∃ (len : Nat), ∃ (cap_1 : Nat), LoadE WL5.P E 22 (VS b1 l1 c1) (Int.toNat (NI i) * 1) (SV.raw (VS base len cap_1)) ∧ ∃ (zs : List Int), ∃ (ds : List Int), Bs E b l c zs ∧ Bs E base len cap_1 ds ∧ len ≤ 60000 ∧ ∀ (b' : Option Addr) (l' c' : Nat) (ms : List (Int × List Int)) (e : Int) (E' : Mem), Mem.le E E' → Hyp (appendF s zs ds = (ms, e)) → FL E' b' l' c' ms → Mem.le E E' ∧ bif !(e == (0 : Int)) == decide (WI ((NI len) + (11 : Int)) ≤ left) then Mem.le E0 E' ∧ K (SV.raw (Value.bool false)) E' else bif e != (0 : Int) then bif bif false then true else bif true then e != (10 : Int) else false then Mem.le E0 E' ∧ K (SV.raw (Value.bool false)) E' else bif e != (0 : Int) then Lp WL5 8 Try.f5 [1, 1, 1, 1, 1, 1, 0, 1, 0] 0 (pubK E0 K) { fr := n4 (n2 (none :: (some (B true) :: some (SV.loc 0 0) :: none :: some (I left) :: some (SV.slc 1 0 n cap) :: n16 (n8 (n4 (n2 (none :: (some (L b1 l1 c1) :: some (I (NI l1)) :: some (I (WI ((NI i) + (1 : Int)))) :: n32 (n16 (n4 (n2 (none :: [])))))))))))), bx := [⟨24, .lst [I s, L b l c], 2, true⟩, ⟨22, .vals rs, tot, true⟩], E := E' : St } else Ct WL5 8 Try.f5 [1, 1, 1, 1, 1, 1, 0, 1, 0, 0, 1, 1, 0, 0, 1, 1, 1, 1] 0 (pubK E0 K) { fr := n4 (n2 (none :: (some (B true) :: some (SV.loc 0 0) :: none :: some (I left) :: some (SV.slc 1 0 n cap) :: none :: some (L base len cap_1) :: some (L b' l' c') :: some (I e) :: n16 (n8 (n2 (none :: (some (L b1 l1 c1) :: some (I (NI l1)) :: some (I (NI i)) :: some (B (decide ((NI i) < (NI l1)))) :: some (SV.rp (VS b1 l1 c1) (Int.toNat (NI i) * 1)) :: some (L base len cap_1) :: some (SV.tup [L b' l' c', I e]) :: some (SV.agg [I s, L b l c]) :: some (L base len cap_1) :: some (SV.tup [L b' l' c', I e]) :: some (L b' l' c') :: some (I e) :: some (I e) :: some (B (e == (0 : Int))) :: some (L base len cap_1) :: some (I (NI len)) :: some (I (WI ((NI len) + (11 : Int)))) :: some (I left) :: some (B (decide (WI ((NI len) + (11 : Int)) ≤ left))) :: some (B !(e == (0 : Int)) == decide (WI ((NI len) + (11 : Int)) ≤ left)) :: some (B false) :: some (I e) :: some (B (e != (0 : Int))) :: some (B true) :: some (I e) :: some (B (e != (10 : Int))) :: some (B (bif true then e != (10 : Int) else false)) :: some (B (bif false then true else bif true then e != (10 : Int) else false)) :: some (I e) :: some (B (e != (0 : Int))) :: n16 (n8 (n4 []))))))))), bx := [⟨24, .lst [I s, L b l c], 2, true⟩, ⟨22, .vals rs, tot, true⟩], E := E' : St } else bif e != (0 : Int) then Lp WL5 8 Try.f5 [1, 1, 1, 1, 1, 1, 0, 1, 0] 0 (pubK E0 K) { fr := n4 (n2 (none :: (some (B true) :: some (SV.loc 0 0) :: none :: some (I left) :: some (SV.slc 1 0 n cap) :: n16 (n8 (n4 (n2 (none :: (some (L b1 l1 c1) :: some (I (NI l1)) :: some (I (WI ((NI i) + (1 : Int)))) :: n32 (n16 (n4 (n2 (none :: [])))))))))))), bx := [⟨24, .lst [I s, L b l c], 2, true⟩, ⟨22, .vals rs, tot, true⟩], E := E' : St } else Ct WL5 8 Try.f5 [1, 1, 1, 1, 1, 1, 0, 1, 0, 0, 1, 1, 0, 0, 1, 1, 1, 1] 0 (pubK E0 K) { fr := n4 (n2 (none :: (some (B true) :: some (SV.loc 0 0) :: none :: some (I left) :: some (SV.slc 1 0 n cap) :: none :: some (L base len cap_1) :: some (L b' l' c') :: some (I e) :: n16 (n8 (n2 (none :: (some (L b1 l1 c1) :: some (I (NI l1)) :: some (I (NI i)) :: some (B (decide ((NI i) < (NI l1)))) :: some (SV.rp (VS b1 l1 c1) (Int.toNat (NI i) * 1)) :: some (L base len cap_1) :: some (SV.tup [L b' l' c', I e]) :: some (SV.agg [I s, L b l c]) :: some (L base len cap_1) :: some (SV.tup [L b' l' c', I e]) :: some (L b' l' c') :: some (I e) :: some (I e) :: some (B (e == (0 : Int))) :: some (L base len cap_1) :: some (I (NI len)) :: some (I (WI ((NI len) + (11 : Int)))) :: some (I left) :: some (B (decide (WI ((NI len) + (11 : Int)) ≤ left))) :: some (B !(e == (0 : Int)) == decide (WI ((NI len) + (11 : Int)) ≤ left)) :: some (B false) :: some (I e) :: some (B (e != (0 : Int))) :: some (B false) :: some (SV.raw (Value.tuple #[])) :: some (SV.raw (Value.tuple #[])) :: some (B false) :: some (B false) :: some (I e) :: some (B (e != (0 : Int))) :: n16 (n8 (n4 []))))))))), bx := [⟨24, .lst [I s, L b l c], 2, true⟩, ⟨22, .vals rs, tot, true⟩], E := E' : St }) else ∀ (base : Option Addr) (E' : Mem), Mem.le E E' → WinE E' base rs → ∃ (zs : List Int), ∃ (want : List (List Int)), Bs E' b l c zs ∧ BL E' (Option.map (fun (x : Addr) => Addr.add x 0) base) n cap want ∧ ∀ (E'_1 : Mem), Mem.le E' E'_1 → Mem.le E0 E'_1 ∧ K (SV.raw (Value.bool (bif true then decide (readF s zs = (want, (0 : Int))) else false))) E'_1)
  delta WI NI VS n2 n4 n8 n16 n32
  have hw := hR.flat RB_ok
  have nl := hL.len
  have sz := J.sz
  have hb := J.hb
  have rm := J.rm
  have n1 := hB.2.1
  refine condC (fun q => ?_) (fun q => ?_)
  · have q : i < l1 := by simpa using q
    obtain ⟨ds, ed⟩ := hL.get q
    obtain ⟨x1, b2, l2, c2, x2, x3⟩ := hL.load ed
    have d4 := hd ds (List.mem_of_getElem? ed)
    have nd := x3.2.1
    have sd : ds.length < 65536 ∧ ∀ x ∈ ds, 0 ≤ x ∧ x ≤ 255 := ⟨by omega, x3.2.2.2.1⟩
    refine req_intro (by omega) ⟨x1, b2, l2, c2, x2, z, ds, hB, x3, by omega, fun b5 l5 c5 ms e E1 k1 r1 F1 => ⟨k1, ?_⟩⟩
    have r1 : appendF s z ds = (ms, e) := r1
    rw [wrap_i64 (x := (l2 : Int) + 11) (by omega), wrap_i64 (x := (i : Int) + 1) (by omega), show (i : Int) + 1 = ((i + 1 : Nat) : Int) by simp]
    rcases J.clean_append he sd with ⟨e1, e2⟩ | ⟨e0, X, w, e1, e2, e3, e4, e5⟩
    · rw [r1] at e1
      cases e1
      have q2 : decide ((l2 : Int) + 11 ≤ left) = false := by rw [decide_eq_false_iff_not]; omega
      rw [q2]
      refine condC (fun v => by simp at v) (fun _ => condC (fun _ => condC (fun v => by simp at v) (fun _ => condC (fun _ => ?_) (fun v => by simp at v))) (fun v => by simp at v))
      exact Lp_re [some 0, some 1] (ih q s b l c left z want rr a h g n cap tot rs E1 k1 J he (hB.mono k1) (hL.mono RB_ok k1) hl.2 hleft (hR.mono RB_ok k1) hrs hn) (wkG (Mem.le_refl _))
    · rw [r1] at e1
      cases e1
      have q2 : decide ((l2 : Int) + 11 ≤ left) = true := by rw [decide_eq_true_iff]; omega
      rw [q2]
      refine condC (fun v => by simp at v) (fun _ => condC (fun v => by simp at v) (fun _ => condC (fun v => by simp at v) (fun _ => ?_)))
      exact Ct_re [some 0, some 1] (Ct_intro okWL5 (pcS5 J he (hB.mono k1) (hL.mono RB_ok k1) hl hd hleft (hR.mono RB_ok k1) hrs hn (Mem.le_trans hE k1) (fun E' k => hK E' (Mem.le_trans k1 k)) (x3.mono k1) F1 e2 e3 e4 e5 q (fun g s b l c left z want rr a h gg n cap tot rs E2 k2 => ih g s b l c left z want rr a h gg n cap tot rs E2 (Mem.le_trans k1 k2)))) (wkG (Mem.le_refl _))
  · refine fun base E1 k1 w1 => ⟨z, want, hB.mono k1, SL.win RB_ok w1 hrs (hR.mono RB_ok k1) hn.1 hn.2.1, fun E2 k2 => ⟨Mem.le_trans hE (Mem.le_trans k1 k2), ?_⟩⟩
    rw [J.read]
    simpa using hK E2 (Mem.le_trans k1 k2)
theorem lp5w {E : Mem} {s : Int} {b b1 : Option Addr} {l c l1 c1 : Nat} {left : Int} {z : List Int} {lst want : List (List Int)} {rr : List (List Value)} {a h : Nat} {g : Int} {E0 : Mem} {n cap tot : Nat} {rs : List Value} (J : Jo s z want a g h) (he : Er z (a + 5 + needF want) (a + h)) (hB : Bs E b l c z) (hL : BL E b1 l1 c1 lst) (hl : l1 ≤ 20 ∧ l ≤ 400) (hd : ∀ d ∈ lst, d.length ≤ 400) (hleft : left = (h : Int) - 5 - needF want) (hR : SLr RB E rr want) (hrs : rs = rr.flatten) (hn : want.length = n ∧ n ≤ cap ∧ cap ≤ tot) (hE : Mem.le E0 E) (hK : ∀ E', Mem.le E E' → K (B true) E') : ∀ {r i : Nat}, i + r = l1 → Lp WL5 8 Try.f5 [1, 1, 1, 1, 1, 1, 0, 1, 0] 0 (pubK E0 K) (sL5w s b b1 l c l1 c1 left n cap tot rs i E)
  | 0, i, hr => Lp_ind (ι := Unit) okWL5 (fun _ => sL5w s b b1 l c l1 c1 left n cap tot rs i E) (fun _ => 0) (fun _ _ => r5w J he hB hL hl hd hleft hR hrs hn hE hK (by omega) (fun g => by omega)) ()
  | r + 1, i, hr => Lp_ind (ι := Unit) okWL5 (fun _ => sL5w s b b1 l c l1 c1 left n cap tot rs i E) (fun _ => 0) (fun _ _ => r5w J he hB hL hl hd hleft hR hrs hn hE hK (by omega) (fun q s b l c left z want rr a h g n cap tot rs E1 k J he hB hL hl' hleft hR hrs hn => lp5w J he hB hL ⟨hl.1, hl'⟩ hd hleft hR hrs hn (Mem.le_trans hE k) (fun E2 k2 => hK E2 (Mem.le_trans k k2)) (r := r) (i := i + 1) (by omega))) ()
theorem e5 {a1 : Int} {a2 : Int} {b1 : Option Addr} {l1 : Nat} {c1 : Nat} {x1 : List (List Int)} (ha1 : (Lit.int .i64 a1).wf = true) (ha2 : (Lit.int .i64 a2).wf = true) (hc1 : l1 ≤ maxLen) (hS10 : BL E b1 l1 c1 x1) (hS11 : ∀ d ∈ x1, d.length ≤ 9223372036854775807) (h : ∀ E' : Mem, Mem.le E E' → K (B true) E') :
    Ent WL5 8 Try.f5 [I a1, I a2, L b1 l1 c1] E K := by
  refine same (by kernel_rfl) (?_ : ∀ (E' : Mem), Mem.le E E' → Mem.le E E' ∧ ∀ (s' : Int) (b' : Option Addr) (l' c' : Nat) (ys : List Int) (e : Int) (E'_1 : Mem), Mem.le E' E'_1 → Hyp (formatF a1 a2 = ((s', ys), e)) → Bs E'_1 b' l' c' ys → Mem.le E' E'_1 ∧ bif e != (0 : Int) then Mem.le E E'_1 ∧ K (SV.raw (Value.bool true)) E'_1 else ∀ (base : Option Addr) (E' : Mem), Mem.le E'_1 E' → WinE E' base [VS b1 l1 c1] → ∃ (xsss : List (List (List Int))), l' ≤ 9223372036854775807 ∧ SL RBL E' (Option.map (fun (x : Addr) => Addr.add x 0) base) 1 1 xsss ∧ 1 ≤ 10 ∧ bif bif false then true else !decide (shortP l' xsss) then Mem.le E E' ∧ K (SV.raw (Value.bool true)) E' else bif bif false then true else decide ((NI l1) > (20 : Int)) then Mem.le E E' ∧ K (SV.raw (Value.bool true)) E' else ((2 : Int) = (0 : Int) → False) ∧ Lp WL5 8 Try.f5 [1, 1, 1, 1, 1, 1, 0, 1, 0] 0 (pubK E K) { fr := some (I a1) :: some (I a2) :: some (L b1 l1 c1) :: none :: none :: none :: none :: some (B true) :: some (SV.loc 0 0) :: some (I e) :: some (I (WI (WI (Int.tdiv (NI l') 2) - (5 : Int)))) :: some (L none 0 0) :: none :: none :: none :: none :: some (B true) :: some (SV.tup [SV.agg [I s', L b' l' c'], I e]) :: some (I a1) :: some (I a2) :: some (SV.tup [SV.agg [I s', L b' l' c'], I e]) :: some (SV.agg [I s', L b' l' c']) :: some (I e) :: some (I e) :: some (B (e != (0 : Int))) :: some (B false) :: some (SV.agg [I s', L b' l' c']) :: some (L b1 l1 c1) :: some (SV.slc 1 0 1 1) :: some (B (decide (shortP l' xsss))) :: some (B !decide (shortP l' xsss)) :: some (B (bif false then true else !decide (shortP l' xsss))) :: some (B false) :: some (L b1 l1 c1) :: some (I (NI l1)) :: some (B (decide ((NI l1) > (20 : Int)))) :: some (B (bif false then true else decide ((NI l1) > (20 : Int)))) :: none :: some (SV.loc 0 1) :: some (L b' l' c') :: some (I (NI l')) :: some (I (WI (Int.tdiv (NI l') 2))) :: some (I (WI (WI (Int.tdiv (NI l') 2) - (5 : Int)))) :: some (L b1 l1 c1) :: some (I (NI l1)) :: some (I 0) :: n32 (n16 (n4 (n2 (none :: [])))), bx := [⟨24, .lst [I s', L b' l' c'], 2, true⟩, ⟨25, .lst [L b1 l1 c1], 1, false⟩], E := E' : St })
  delta WI NI VS n2 n4 n16 n32
  refine fun EA kA => ⟨kA, fun s1 bB lB cB zB eB EB kB nB BB => ⟨kB, ?_⟩⟩
  have nB : formatF a1 a2 = ((s1, zB), eB) := nB
  have kb : Mem.le E EB := Mem.le_trans kA kB
  refine condC (fun _ => ⟨kb, h EB kb⟩) (fun g => ?_)
  have g : eB = 0 := by simpa using g
  subst g
  obtain ⟨rfl, hh, J, he⟩ := Jo_format nB
  have hb := J.hb
  have n1 := BB.2.1
  have sz := J.sz
  refine fun tD ED kD wD => ⟨[x1], by omega, SL.win RBL_ok (rs := [[_]]) wD rfl (SLr.nil.snoc ⟨_, _, _, rfl, hS10.mono RB_ok (Mem.le_trans kb kD)⟩) rfl (Nat.le_refl _), by decide, ?_⟩
  have kd : Mem.le E ED := Mem.le_trans kb kD
  refine condC (fun _ => ⟨kd, h ED kd⟩) (fun g => condC (fun _ => ⟨kd, h ED kd⟩) (fun g2 => ⟨by decide, ?_⟩))
  have g : shortP lB [x1] := by simpa using g
  have g2 : l1 ≤ 20 := by simp at g2; omega
  obtain ⟨g3, g4⟩ := g
  obtain ⟨g5, g6⟩ := g3 x1 (by simp)
  rw [Int.tdiv_eq_ediv_of_nonneg (by omega), wrap_i64 (x := (lB : Int) / 2) (by omega), wrap_i64 (x := (lB : Int) / 2 - 5) (by omega)]
  exact Lp_re [some 0, none] (lp5w (a := 0) (rr := []) J (by have e : 0 + 5 + needF [] = 5 := rfl; rw [e, Nat.zero_add]; exact he) (BB.mono kD) (hS10.mono RB_ok kd) ⟨g2, g4⟩ g6 (by show (lB : Int) / 2 - 5 = (hh : Int) - 5 - ((needF [] : Nat) : Int); rw [show needF [] = 0 from rfl]; omega) SLr.nil (rs := []) rfl (n := 0) (cap := 0) (tot := 0) ⟨rfl, by omega, by omega⟩ kd (fun E' k => h E' (Mem.le_trans kd k)) (r := l1) (i := 0) (by omega)) (wkG (Mem.le_refl _))
theorem opn5 (W : World) (K : List SV → Prop) (h : ∀ a1 : Int, (Lit.int .i64 a1).wf = true → ∀ a2 : Int, (Lit.int .i64 a2).wf = true → ∀ (b1 : Option Addr) (l1 c1 : Nat) (z1 : List (List Value)), (l1 ≤ c1) → (c1 ≤ maxLen) → (b1 = none → c1 = 0) → (z1.length = c1) → RowAt W (.slice b1 l1 c1) z1.flatten → (∀ r ∈ z1, r.length = 1 ∧ Shp Try.prog W 12 22 r) → K [I a1, I a2, L b1 l1 c1]) : opnAll Try.prog W Try.f5.params.toList K :=
  same (by kernel_rfl) h
theorem sem5 (W : World) : opnAll Try.prog W Try.f5.params.toList fun ss => TabSem Try.prog 5 ss (fun v cs => RowAt W v cs) fun r _ => r = .raw (.bool true) := by
  refine opn5 W _ ?_
  intro a1 ha1 a2 ha2 b1 l1 c1 z1 hl1 hc1 hb1 hz1 hE1 hr1
  exact Ent.sem okWL5 Try.func5 ⟨by kernel_rfl, by kernel_rfl⟩ rfl (e5 ha1 ha2 (Nat.le_trans hl1 hc1) (BLof hl1 hb1 hz1 hE1 hr1).choose_spec.1 (BLof hl1 hb1 hz1 hE1 hr1).choose_spec.2 (fun _ _ => rfl))
theorem lifted5 (os : Os) (started : os.Started) (H : Type) (enc : TypeId × Value → H) :
    ReturnsInHanded {} Try.checked os 5 .any (Rows.journalSequenceSpec.pre6 enc Try.prog Try.f5 Rows.journalSequenceRow.domain false) (Rows.journalSequenceSpec.post enc Try.prog Try.f5 false true false false) :=
  lift_true (C := Try.checked) (by kernel_rfl) (by kernel_rfl) started (by kernel_rfl) Try.func5
    (ChangeSpec.witness6 (enc := enc) (C := Try.checked) false ⟨#[], #[.int .i64 0, .int .i64 0, .slice none 0 0], []⟩ 8 (by kernel_rfl) (by kernel_rfl) (by kernel_rfl) (by kernel_rfl))
    (Tb := 4) (by kernel_rfl) (by kernel_rfl) (by kernel_rfl) rfl
    (fun ds hl => by
      match ds, hl with
      | [d0, d1, d2], _ => exact ⟨rfl, rfl, rfl⟩)
    sem5
theorem over5 : Rows.journalSequenceRow.holds Try.pinned (OpenSpec.ofChange Rows.journalSequenceSpec) :=
  OpenClaim.holds_of_wide 5 Try.f5 rfl rfl rfl rfl rfl rfl rfl ⟨rfl, rfl, rfl, rfl, rfl⟩ rfl rfl rfl rfl rfl (by kernel_rfl) Try.func5 (by kernel_rfl)
    (of_decide_eq_true (by kernel_rfl)) (by unfold Func.isWrapper; first | (rw [if_pos (by decide +kernel)]; kernel_rfl) | (rw [if_neg (by decide +kernel)]; exact ⟨rfl, rfl⟩))
    (fun os started H enc _ => lifted5 os started H enc)
theorem proved5 : Rows.JournalSequenceSaid := over5
end Go.Proofs.Ytiineecihncpfaa.JournalOwn
