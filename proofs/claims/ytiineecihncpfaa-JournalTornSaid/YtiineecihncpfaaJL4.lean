/- The law's proof: for every input the law answers true. Conditions: none. -/
import Derived.Test.YtiineecihncpfaaJg22
import Derived.OpenShut
import Derived.Test.YtiineecihncpfaaRows
namespace Go.Proofs.Ytiineecihncpfaa.JournalOwn
open Go Go.Sx Go.Proofs.Ytiineecihncpfaa
set_option maxRecDepth 100000
set_option maxHeartbeats 4000000
set_option linter.unusedVariables false
set_option linter.unusedSimpArgs false
variable {E : Mem} {K : SV → Mem → Prop}
theorem SLr_of {α : Type} {R : RowR α} {Q : α → Prop} : ∀ {z : List (List Value)}, (∀ r ∈ z, ∃ x, R E x r ∧ Q x) → ∃ xs, SLr R E z xs ∧ ∀ x ∈ xs, Q x
  | [], _ => ⟨[], SLr.nil, fun x h => by cases h⟩
  | r :: z, h => by
    obtain ⟨x, h1, h2⟩ := h r (by simp)
    obtain ⟨xs, h3, h4⟩ := SLr_of (fun r hr => h r (List.mem_cons_of_mem _ hr))
    exact ⟨x :: xs, (SLr.one h1).app h3, fun y hy => by
      rcases List.mem_cons.1 hy with rfl | hy
      · exact h2
      · exact h4 y hy⟩
theorem RowAt_take {W : World} {v : Value} {cs : List Value} (h : RowAt W v cs) (k : Nat) : RowAt W v (cs.take k) := by
  rcases h with rfl | ⟨a, n, c, h1, h2, h3⟩
  · exact .inl (by simp)
  · exact .inr ⟨a, n, c, h1, h2, fun i x hx => h3 i x (by
      have hk := (List.getElem?_eq_some_iff.1 hx).1
      rw [List.length_take] at hk
      rwa [List.getElem?_take_of_lt (by omega)] at hx)⟩
theorem SL_of {α : Type} {k : Nat} {R : RowR α} {Q : α → Prop} {W : World} {b : Option Addr} {l c : Nat} {z : List (List Value)} (hl : l ≤ c) (hb : b = none → c = 0) (hz : z.length = c) (hE : RowAt W (.slice b l c) z.flatten) (hk : ∀ r ∈ z, r.length = k)
    (hr : ∀ r ∈ z, ∃ x, R (fun v cs => RowAt W v cs) x r ∧ Q x) : ∃ xs, SL R (fun v cs => RowAt W v cs) b l c xs ∧ ∀ x ∈ xs, Q x := by
  obtain ⟨xs, h1, h2⟩ := SLr_of (z := z.take l) (fun r h => hr r (List.mem_of_mem_take h))
  refine ⟨xs, ⟨z.take l, h1, ?_, hl, .inr ?_, fun e => by have := hb e; omega⟩, h2⟩
  · rw [← h1.1, List.length_take]; omega
  · show RowAt W _ _
    rw [← flat_take hk]; exact RowAt_take hE _
theorem Shp_sl {W : World} {n : Nat} {T e : TypeId} {v : Value} (hu : Try.prog.underlying T = some (.slice e)) (h : Shp Try.prog W (n + 1) T [v]) : ∃ (b : Option Addr) (l c : Nat) (z : List (List Value)), v = .slice b l c ∧ l ≤ c ∧ c ≤ maxLen ∧ (b = none → c = 0) ∧ z.length = c ∧ RowAt W (.slice b l c) z.flatten ∧ ∀ r ∈ z, r.length = Try.prog.cellsOf e ∧ Shp Try.prog W n e r := by
  unfold Shp at h
  rw [hu] at h
  obtain ⟨b, l, c, z, h1, h⟩ := h
  exact ⟨b, l, c, z, by simpa using h1, h⟩
theorem bytes_of {W : World} {n : Nat} : ∀ {z : List (List Value)}, (∀ r ∈ z, r.length = Try.prog.cellsOf 5 ∧ Shp Try.prog W (n + 1) 5 r) → ∃ zs : List Int, z.flatten = zs.map (.int .u8) ∧ zs.length = z.length ∧ ∀ x ∈ zs, (Lit.int .u8 x).wf = true
  | [], _ => ⟨[], rfl, rfl, by simp⟩
  | r :: z, h => by
    obtain ⟨zs, h1, h2, h3⟩ := bytes_of (fun r hr => h r (List.mem_cons_of_mem _ hr))
    obtain ⟨q1, q2⟩ := h r (by simp)
    have q1 : r.length = 1 := q1.trans (by kernel_rfl)
    match r, q1 with
    | [v], _ =>
      obtain ⟨x, rfl, w⟩ := Shp_int1 (k := .u8) (by kernel_rfl) q2
      exact ⟨x :: zs, by rw [List.flatten_cons, h1]; rfl, by simp [h2], fun y hy => by
        rcases List.mem_cons.1 hy with rfl | hy
        · exact w
        · exact h3 y hy⟩
theorem bs_row {W : World} {r : List Value} (h1 : r.length = 1) (h2 : Shp Try.prog W 12 22 r) : ∃ x : List Int, RB (fun v cs => RowAt W v cs) x r ∧ x.length ≤ 9223372036854775807 := by
  match r, h1 with
  | [v], _ =>
    obtain ⟨b, l, c, z, rfl, g1, g2, g3, g4, g5, g6⟩ := Shp_sl (e := 5) (by kernel_rfl) h2
    obtain ⟨zs, e1, e2, e3⟩ := bytes_of g6
    rw [e1] at g5
    have hB := Bs.of g1 g3 (e2.trans g4) e3 g5
    refine ⟨_, ⟨b, l, c, rfl, hB⟩, ?_⟩
    have e : maxLen = 9223372036854775807 := by decide
    rw [hB.2.1]; omega
theorem BLof {W : World} {b : Option Addr} {l c : Nat} {z : List (List Value)} (hl : l ≤ c) (hb : b = none → c = 0) (hz : z.length = c) (hE : RowAt W (.slice b l c) z.flatten) (hr : ∀ r ∈ z, r.length = 1 ∧ Shp Try.prog W 12 22 r) :
    ∃ xs, BL (fun v cs => RowAt W v cs) b l c xs ∧ ∀ x ∈ xs, x.length ≤ 9223372036854775807 :=
  SL_of (k := 1) hl hb hz hE (fun r h => (hr r h).1) (fun r h => bs_row (hr r h).1 (hr r h).2)
noncomputable def tabL4 : FuncId → List SV → Mem → (SV → Mem → Prop) → Prop := fun f args E K => match f with
  | 10 => d0 args ((∀ E' : Mem, Mem.le E E' → K (B true) E'))
  | 14 => d2 args fun x0 x1 => dC x0 fun l1 => d2 l1 fun x0_0 x0_1 => dI x0_0 fun a1 => dS x0_1 fun b2 l3 c4 => dS x1 fun b5 l6 c7 => ∃ (xsss : List (List (List Int))), l3 ≤ 9223372036854775807 ∧ SL RBL E b5 l6 c7 xsss ∧ l6 ≤ 10 ∧ (K (B (decide (shortP l3 xsss))) E)
  | 15 => d1 args fun x0 => dC x0 fun l1 => d2 l1 fun x0_0 x0_1 => dI x0_0 fun a1 => dS x0_1 fun b2 l3 c4 => ∃ (zs : List Int), Bs E b2 l3 c4 zs ∧ (∀ (b' : Option Addr) (l' c' : Nat) (yss : List (List Int)) (e : Int) (E' : Mem), Mem.le E E' → Hyp (readF a1 zs = (yss, e)) → BL E' b' l' c' yss → K (.tup [L b' l' c', I e]) E')
  | 17 => d2 args fun x0 x1 => dC x0 fun l1 => d2 l1 fun x0_0 x0_1 => dI x0_0 fun a1 => dS x0_1 fun b2 l3 c4 => dS x1 fun b5 l6 c7 => ∃ (zs : List Int) (ds : List Int), Bs E b2 l3 c4 zs ∧ Bs E b5 l6 c7 ds ∧ l6 ≤ 60000 ∧ (∀ (b' : Option Addr) (l' c' : Nat) (ms : List (Int × List Int)) (e : Int) (E' : Mem), Mem.le E E' → Hyp (appendF a1 zs ds = (ms, e)) → FL E' b' l' c' ms → K (.tup [L b' l' c', I e]) E')
  | 19 => d2 args fun x0 x1 => dC x0 fun l1 => d2 l1 fun x0_0 x0_1 => dI x0_0 fun a1 => dS x0_1 fun b2 l3 c4 => dS x1 fun b5 l6 c7 => ∃ (zs : List Int) (keep : List (List Int)), Bs E b2 l3 c4 zs ∧ BL E b5 l6 c7 keep ∧ (∀ d ∈ keep, d.length ≤ 60000) ∧ l6 ≤ 1000 ∧ (∀ (b' : Option Addr) (l' c' : Nat) (ms : List (Int × List Int)) (e : Int) (E' : Mem), Mem.le E E' → Hyp (compactF a1 zs keep = (ms, e)) → FL E' b' l' c' ms → K (.tup [L b' l' c', I e]) E')
  | 23 => d2 args fun x0 x1 => dC x0 fun l1 => d2 l1 fun x0_0 x0_1 => dI x0_0 fun a1 => dS x0_1 fun b2 l3 c4 => dS x1 fun b5 l6 c7 => ∃ (zs : List Int) (want : List (List Int)), Bs E b2 l3 c4 zs ∧ BL E b5 l6 c7 want ∧ (∀ E' : Mem, Mem.le E E' → K (B (decide (readF a1 zs = (want, 0)))) E')
  | _ => False
theorem tabL4_ok : TabOK Try.prog tabL4 := by
  intro f args E K h
  unfold tabL4 at h
  split at h
  · obtain ⟨rfl, h⟩ := d0_elim h
    exact TabSem.congr rfl (Ent.sem okL2 Try.func10 ⟨by kernel_rfl, by kernel_rfl⟩ rfl (j10 h))
  · replace h := d2_elim h
    obtain ⟨x0, x1, rfl, h⟩ := h
    replace h := dC_elim h
    obtain ⟨l1, hl1, h⟩ := h
    replace h := d2_elim h
    obtain ⟨x0_0, x0_1, rfl, h⟩ := h
    replace h := dI_elim h
    obtain ⟨a1, rfl, h⟩ := h
    replace h := dS_elim h
    obtain ⟨b2, l3, c4, rfl, h⟩ := h
    replace h := dS_elim h
    obtain ⟨b5, l6, c7, rfl, h⟩ := h
    obtain ⟨xsss, g0, g1, g2, h⟩ := h
    exact TabSem.congr (valL_cons (asCells_val hl1) (valL_cons rfl rfl)) (Ent.sem okL1 Try.func14 ⟨by kernel_rfl, by kernel_rfl⟩ rfl (j14 g0 g1 g2 h))
  · replace h := d1_elim h
    obtain ⟨x0, rfl, h⟩ := h
    replace h := dC_elim h
    obtain ⟨l1, hl1, h⟩ := h
    replace h := d2_elim h
    obtain ⟨x0_0, x0_1, rfl, h⟩ := h
    replace h := dI_elim h
    obtain ⟨a1, rfl, h⟩ := h
    replace h := dS_elim h
    obtain ⟨b2, l3, c4, rfl, h⟩ := h
    obtain ⟨zs, g0, h⟩ := h
    exact TabSem.congr (valL_cons (asCells_val hl1) rfl) (Ent.sem okKI Try.func15 ⟨by kernel_rfl, by kernel_rfl⟩ rfl (j15 g0 h))
  · replace h := d2_elim h
    obtain ⟨x0, x1, rfl, h⟩ := h
    replace h := dC_elim h
    obtain ⟨l1, hl1, h⟩ := h
    replace h := d2_elim h
    obtain ⟨x0_0, x0_1, rfl, h⟩ := h
    replace h := dI_elim h
    obtain ⟨a1, rfl, h⟩ := h
    replace h := dS_elim h
    obtain ⟨b2, l3, c4, rfl, h⟩ := h
    replace h := dS_elim h
    obtain ⟨b5, l6, c7, rfl, h⟩ := h
    obtain ⟨zs, ds, g0, g1, g2, h⟩ := h
    exact TabSem.congr (valL_cons (asCells_val hl1) (valL_cons rfl rfl)) (Ent.sem okKI Try.func17 ⟨by kernel_rfl, by kernel_rfl⟩ rfl (j17 g0 g1 g2 h))
  · replace h := d2_elim h
    obtain ⟨x0, x1, rfl, h⟩ := h
    replace h := dC_elim h
    obtain ⟨l1, hl1, h⟩ := h
    replace h := d2_elim h
    obtain ⟨x0_0, x0_1, rfl, h⟩ := h
    replace h := dI_elim h
    obtain ⟨a1, rfl, h⟩ := h
    replace h := dS_elim h
    obtain ⟨b2, l3, c4, rfl, h⟩ := h
    replace h := dS_elim h
    obtain ⟨b5, l6, c7, rfl, h⟩ := h
    obtain ⟨zs, keep, g0, g1, g2, g3, h⟩ := h
    exact TabSem.congr (valL_cons (asCells_val hl1) (valL_cons rfl rfl)) (Ent.sem okKJ Try.func19 ⟨by kernel_rfl, by kernel_rfl⟩ rfl (j19 g0 g1 g2 g3 h))
  · replace h := d2_elim h
    obtain ⟨x0, x1, rfl, h⟩ := h
    replace h := dC_elim h
    obtain ⟨l1, hl1, h⟩ := h
    replace h := d2_elim h
    obtain ⟨x0_0, x0_1, rfl, h⟩ := h
    replace h := dI_elim h
    obtain ⟨a1, rfl, h⟩ := h
    replace h := dS_elim h
    obtain ⟨b2, l3, c4, rfl, h⟩ := h
    replace h := dS_elim h
    obtain ⟨b5, l6, c7, rfl, h⟩ := h
    obtain ⟨zs, want, g0, g1, h⟩ := h
    exact TabSem.congr (valL_cons (asCells_val hl1) (valL_cons rfl rfl)) (Ent.sem okK23 Try.func23 ⟨by kernel_rfl, by kernel_rfl⟩ rfl (j23 g0 g1 h))
  · exact h.elim
noncomputable def WL4 : Cx := { P := Try.prog, inl := fun f => List.contains [] f, tab := tabL4, isB := fun _ => false, tabB := fun _ _ _ _ _ => False, opt := { unroll := 0, carry := [45, 78], cuts := [] }, muts := (fun o => match o with | .buildSlice .. => true | o => mutsD o) }
theorem okWL4 : CxOK WL4 := CxOK.four tabL4_ok (by kernel_rfl) (okInl (by kernel_rfl)) (fun _ _ _ _ _ h => h.elim)
def sh4b (e g : Int) (b3 b4 b5 b6 : Option Addr) (l3 c3 l4 c4 l5 c5 l6 c6 : Nat) (i : Nat) (E : Mem) : St := ⟨[none, none, some (L b3 l3 c3), none, none, none, none, some (B true), some (L b4 l4 c4), none, some (L b5 l5 c5), some (I e), none, none, none, some (L b6 l6 c6), some (I g), none, none, none, none, none, none, none, none, none, none, none, none, none, none, none, none, none, none, none, none, none, none, none, none, none, none, none, none, none, none, none, none, none, none, none, none, none, none, none, none, none, none, none, none, none, none, none, none, none, none, none, none, none, none, none, none, none, none, none, some (L b6 l6 c6), some (I (l6 : Nat)), some (I (i : Nat)), none, none, none, none, none, none, none, none, none, none, none, none, none, none, none, none, none, none, none, none, none, none, none, none, none, none, none, none, none, none, none, none, none], [], E⟩
theorem r4b {e g : Int} {b3 b4 b5 b6 : Option Addr} {l3 c3 l4 c4 l5 c5 l6 c6 : Nat} {i : Nat} {ls keep : List (List Int)} {ms : List (Int × List Int)} {E0 : Mem} (hS4 : BL E b4 l4 c4 ls) (hS3 : BL E b3 l3 c3 keep) (FG : FL E b6 l6 c6 ms) (hl : l3 ≤ 1000 ∧ l4 ≤ 1000 ∧ l6 ≤ 40000) (hsz : (∀ d ∈ ls, d.length ≤ 100000) ∧ ∀ d ∈ keep, d.length ≤ 100000) (u1 : e = 0 ↔ 0 < l5) (u2 : g = 0 ↔ 0 < l6) (u3 : ∀ i m, ms[i]? = some m → readF m.1 m.2 = (if i + 1 = ms.length then keep else ls, 0)) (hE : Mem.le E0 E) (hK : ∀ E', Mem.le E E' → K (B true) E') (hi : i ≤ l6) (ih : i < l6 → ∀ E', Mem.le E E' → Lp WL4 8 Try.f4 [1, 1, 1, 1, 1, 1, 1, 1, 0, 1, 0] 0 (pubK E0 K) (sh4b e g b3 b4 b5 b6 l3 c3 l4 c4 l5 c5 l6 c6 (i + 1) E')) : Rnd WL4 8 Try.f4 [1, 1, 1, 1, 1, 1, 1, 1, 0, 1, 0] 0 (pubK E0 K) (sh4b e g b3 b4 b5 b6 l3 c3 l4 c4 l5 c5 l6 c6 i E) := by
  refine same (by kernel_rfl) (?_ : bif decide ((NI i) < (NI l6)) then req ((0 : Int) ≤ (NI i) ∧ (NI i) < (NI l6)) ((∃ (cs : List Value), E (VS b6 l6 c6) cs ∧ (cs = [] → False)) ∧ ∃ (n : Int), ∃ (base : Option Addr), ∃ (len : Nat), ∃ (cap : Nat), LoadE WL4.P E 24 (VS b6 l6 c6) (Int.toNat (NI i) * 2) (SV.agg [SV.raw (Value.int IntKind.i64 n), SV.raw (VS base len cap)]) ∧ bif (NI i) == WI ((NI l6) - (1 : Int)) then ∃ (zs : List Int), ∃ (want : List (List Int)), Bs E base len cap zs ∧ BL E b3 l3 c3 want ∧ ∀ (E' : Mem), Mem.le E E' → Mem.le E E' ∧ bif !decide (readF n zs = (want, (0 : Int))) then Mem.le E0 E' ∧ K (SV.raw (Value.bool false)) E' else Lp WL4 8 Try.f4 [1, 1, 1, 1, 1, 1, 1, 1, 0, 1, 0] 0 (pubK E0 K) { fr := none :: none :: some (L b3 l3 c3) :: none :: none :: none :: none :: some (B true) :: some (L b4 l4 c4) :: none :: some (L b5 l5 c5) :: some (I e) :: none :: none :: none :: some (L b6 l6 c6) :: some (I g) :: n32 (n16 (n8 (n2 (none :: (some (L b6 l6 c6) :: some (I (NI l6)) :: some (I (WI ((NI i) + (1 : Int)))) :: n32 (none :: [])))))), bx := [⟨24, .lst [I n, L base len cap], 2, true⟩], E := E' : St } else ∃ (zs : List Int), ∃ (want : List (List Int)), Bs E base len cap zs ∧ BL E b4 l4 c4 want ∧ ∀ (E' : Mem), Mem.le E E' → Mem.le E E' ∧ bif !decide (readF n zs = (want, (0 : Int))) then Mem.le E0 E' ∧ K (SV.raw (Value.bool false)) E' else Lp WL4 8 Try.f4 [1, 1, 1, 1, 1, 1, 1, 1, 0, 1, 0] 0 (pubK E0 K) { fr := none :: none :: some (L b3 l3 c3) :: none :: none :: none :: none :: some (B true) :: some (L b4 l4 c4) :: none :: some (L b5 l5 c5) :: some (I e) :: none :: none :: none :: some (L b6 l6 c6) :: some (I g) :: n32 (n16 (n8 (n2 (none :: (some (L b6 l6 c6) :: some (I (NI l6)) :: some (I (WI ((NI i) + (1 : Int)))) :: n32 (none :: [])))))), bx := [⟨24, .lst [I n, L base len cap], 2, true⟩], E := E' : St }) else bif bif true then (e == (0 : Int)) == decide ((NI l5) > (0 : Int)) else false then Mem.le E0 E ∧ K (SV.raw (Value.bool (bif true then (g == (0 : Int)) == decide ((NI l6) > (0 : Int)) else false))) E else Mem.le E0 E ∧ K (SV.raw (Value.bool false)) E)
  delta WI NI VS n2 n8 n16 n32
  have n4 := hS4.len
  have n3 := hS3.len
  have nG := FG.len
  refine condC (fun q => ?_) (fun q => ?_)
  · have q : i < l6 := by simpa using q
    obtain ⟨m, hm⟩ : ∃ m, ms[i]? = some m := ⟨_, List.getElem?_eq_getElem (by omega)⟩
    have hr := u3 i m hm
    obtain ⟨x1, b7, l7, c7, x2, x3⟩ := FG.load hm
    rw [wrap_i64 (x := (l6 : Int) - 1) (by omega), wrap_i64 (x := (i : Int) + 1) (by omega), show (i : Int) + 1 = ((i + 1 : Nat) : Int) by simp]
    refine req_intro (by omega) ⟨x1, m.1, b7, l7, c7, x2, condC (fun w => ?_) (fun w => ?_)⟩
    · have w : i + 1 = ms.length := by simp at w; omega
      rw [if_pos w] at hr
      refine ⟨m.2, keep, x3, hS3, fun E' k => ⟨k, condC (fun v => by simp [hr] at v) (fun _ => ?_)⟩⟩
      exact Lp_re [] (ih q E' k) (wkG (Mem.le_refl _))
    · have w : ¬ i + 1 = ms.length := by simp at w; omega
      rw [if_neg w] at hr
      refine ⟨m.2, ls, x3, hS4, fun E' k => ⟨k, condC (fun v => by simp [hr] at v) (fun _ => ?_)⟩⟩
      exact Lp_re [] (ih q E' k) (wkG (Mem.le_refl _))
  · have f1 : (e == 0) = decide ((l5 : Int) > 0) := by
      rw [Bool.eq_iff_iff, beq_iff_eq, decide_eq_true_iff, u1]; omega
    have f2 : (g == 0) = decide ((l6 : Int) > 0) := by
      rw [Bool.eq_iff_iff, beq_iff_eq, decide_eq_true_iff, u2]; omega
    rw [f1, f2]
    have := hK E (Mem.le_refl _)
    simpa [hE] using this
theorem lp4b {E : Mem} {e g : Int} {b3 b4 b5 b6 : Option Addr} {l3 c3 l4 c4 l5 c5 l6 c6 : Nat} {ls keep : List (List Int)} {ms : List (Int × List Int)} {E0 : Mem} (hS4 : BL E b4 l4 c4 ls) (hS3 : BL E b3 l3 c3 keep) (FG : FL E b6 l6 c6 ms) (hl : l3 ≤ 1000 ∧ l4 ≤ 1000 ∧ l6 ≤ 40000) (hsz : (∀ d ∈ ls, d.length ≤ 100000) ∧ ∀ d ∈ keep, d.length ≤ 100000) (u1 : e = 0 ↔ 0 < l5) (u2 : g = 0 ↔ 0 < l6) (u3 : ∀ i m, ms[i]? = some m → readF m.1 m.2 = (if i + 1 = ms.length then keep else ls, 0)) (hE : Mem.le E0 E) (hK : ∀ E', Mem.le E E' → K (B true) E') : ∀ {r i : Nat}, i + r = l6 → Lp WL4 8 Try.f4 [1, 1, 1, 1, 1, 1, 1, 1, 0, 1, 0] 0 (pubK E0 K) (sh4b e g b3 b4 b5 b6 l3 c3 l4 c4 l5 c5 l6 c6 i E)
  | 0, i, hr => Lp_ind (ι := Unit) okWL4 (fun _ => sh4b e g b3 b4 b5 b6 l3 c3 l4 c4 l5 c5 l6 c6 i E) (fun _ => 0) (fun _ _ => r4b hS4 hS3 FG hl hsz u1 u2 u3 hE hK (by omega) (fun g => by omega)) ()
  | r + 1, i, hr => Lp_ind (ι := Unit) okWL4 (fun _ => sh4b e g b3 b4 b5 b6 l3 c3 l4 c4 l5 c5 l6 c6 i E) (fun _ => 0) (fun _ _ => r4b hS4 hS3 FG hl hsz u1 u2 u3 hE hK (by omega) (fun q E' k => lp4b (hS4.mono RB_ok k) (hS3.mono RB_ok k) (FG.mono k) hl hsz u1 u2 u3 (Mem.le_trans hE k) (fun E2 k2 => hK E2 (Mem.le_trans k k2)) (r := r) (i := i + 1) (by omega))) ()
def sh4a (a1 e : Int) (b1 b2 b3 b4 b5 : Option Addr) (l1 c1 l2 c2 l3 c3 l4 c4 l5 c5 : Nat) (i : Nat) (E : Mem) : St := ⟨[none, some (L b2 l2 c2), some (L b3 l3 c3), some (.loc 0 0), none, none, none, some (B true), some (L b4 l4 c4), none, some (L b5 l5 c5), some (I e), none, none, none, none, none, none, none, none, none, none, none, none, none, none, none, none, none, none, none, none, none, none, none, none, none, none, none, none, none, none, none, some (L b5 l5 c5), some (I (l5 : Nat)), some (I (i : Nat)), none, none, none, none, none, none, none, none, none, none, none, none, none, none, none, none, none, none, none, none, none, none, none, none, none, none, none, none, none, none, none, none, none, none, none, none, none, none, none, none, none, none, none, none, none, none, none, none, none, none, none, none, none, none, none, none, none, none, none, none, none, none, none, none, none, none], [⟨24, .lst [I a1, L b1 l1 c1], 2, true⟩], E⟩
theorem r4a {a1 e : Int} {b1 b2 b3 b4 b5 : Option Addr} {l1 c1 l2 c2 l3 c3 l4 c4 l5 c5 : Nat} {i : Nat} {z1 z2 : List Int} {ls keep : List (List Int)} {ms : List (Int × List Int)} {a h : Nat} {g : Int} {E0 : Mem} (J : Jo a1 z1 ls a g h) (hB1 : Bs E b1 l1 c1 z1) (hB2 : Bs E b2 l2 c2 z2) (hS3 : BL E b3 l3 c3 keep) (hS4 : BL E b4 l4 c4 ls) (FG : FL E b5 l5 c5 ms) (hl : l3 ≤ 1000 ∧ l4 ≤ 1000 ∧ l5 ≤ 40000) (hk : ∀ d ∈ keep, d.length ≤ 60000) (u1 : e = 0 ↔ 0 < l5) (u3 : ∀ i m, ms[i]? = some m → readF m.1 m.2 = (if i + 1 = ms.length then ls ++ [z2] else ls, 0)) (hE : Mem.le E0 E) (hK : ∀ E', Mem.le E E' → K (B true) E') (hi : i ≤ l5) (ih : i < l5 → ∀ E', Mem.le E E' → Lp WL4 8 Try.f4 [1, 1, 1, 1, 1, 1, 0, 1, 0] 0 (pubK E0 K) (sh4a a1 e b1 b2 b3 b4 b5 l1 c1 l2 c2 l3 c3 l4 c4 l5 c5 (i + 1) E')) : Rnd WL4 8 Try.f4 [1, 1, 1, 1, 1, 1, 0, 1, 0] 0 (pubK E0 K) (sh4a a1 e b1 b2 b3 b4 b5 l1 c1 l2 c2 l3 c3 l4 c4 l5 c5 i E) := by
  refine same (by kernel_rfl) (?_ : bif decide ((NI i) < (NI l5)) then req ((0 : Int) ≤ (NI i) ∧ (NI i) < (NI l5)) ((∃ (cs : List Value), E (VS b5 l5 c5) cs ∧ (cs = [] → False)) ∧ ∃ (n : Int), ∃ (base : Option Addr), ∃ (len : Nat), ∃ (cap : Nat), LoadE WL4.P E 24 (VS b5 l5 c5) (Int.toNat (NI i) * 2) (SV.agg [SV.raw (Value.int IntKind.i64 n), SV.raw (VS base len cap)]) ∧ bif (NI i) == WI ((NI l5) - (1 : Int)) then req (l4 ≤ c4) (req ((0 : Int) ≤ (NI l4) ∧ (NI l4) ≤ (NI c4)) (req ((0 : Int) ≤ (NI l4) ∧ (NI l4) ≤ (NI (toN (some (NI l4)) c4))) (∀ (base' : Option Addr) (E' : Mem), Mem.le E E' → (∀ (cs : List Value), E (VS b4 l4 c4) cs → E' (VS base' (toN (some (NI l4)) l4 - 0) (toN (some (NI l4)) c4 - 0)) (List.take ((toN (some (NI l4)) l4 - 0) * 1) (List.drop 0 cs))) → Option.isNone base' = Option.isNone b4 → bif Option.isNone base' then req (toN (some (NI l4)) l4 - 0 = 0 ∧ toN (some (NI l4)) c4 - 0 = 0) (∀ (cap' tot' : Nat), 1 ≤ cap' → cap' * 1 ≤ tot' → ∀ (base_1 : Option Addr) (E'_1 : Mem), Mem.le E' E'_1 → WinE E'_1 base_1 [VS b2 l2 c2] → ∃ (zs : List Int), ∃ (want : List (List Int)), Bs E'_1 base len cap zs ∧ BL E'_1 (Option.map (fun (x : Addr) => Addr.add x 0) base_1) 1 cap' want ∧ ∀ (E' : Mem), Mem.le E'_1 E' → bif !decide (readF n zs = (want, (0 : Int))) then Mem.le E0 E' ∧ K (SV.raw (Value.bool false)) E' else Lp WL4 8 Try.f4 [1, 1, 1, 1, 1, 1, 0, 1, 0] 0 (pubK E0 K) { fr := none :: some (L b2 l2 c2) :: some (L b3 l3 c3) :: some (SV.loc 0 0) :: none :: none :: none :: some (B true) :: some (L b4 l4 c4) :: none :: some (L b5 l5 c5) :: some (I e) :: n16 (n8 (n4 (n2 (none :: (some (L b5 l5 c5) :: some (I (NI l5)) :: some (I (WI ((NI i) + (1 : Int)))) :: n32 (n32 (n2 []))))))), bx := [⟨24, .lst [I a1, L b1 l1 c1], 2, true⟩, ⟨24, .lst [I n, L base len cap], 2, true⟩, ⟨22, .lst [L b2 l2 c2], 1, true⟩, ⟨22, .lst [L b2 l2 c2], tot', false⟩], E := E' : St }) else ∃ (cs : List Value), (cs = [] ∨ E' (VS base' (toN (some (NI l4)) l4 - 0) (toN (some (NI l4)) c4 - 0)) cs) ∧ (toN (some (NI l4)) l4 - 0) * 1 ≤ List.length cs ∧ (∀ (x : Value), List.Mem x cs → Value.oneCell' x = true) ∧ req (toN (some (NI l4)) c4 - 0 < toN (some (NI l4)) l4 - 0 + 1) (req ((toN (some (NI l4)) l4 - 0 + 1) * 24 ≤ 140737488355328) (∀ (cap' tot' : Nat), toN (some (NI l4)) l4 - 0 + 1 ≤ cap' → cap' * 1 ≤ tot' → ∀ (base_1 : Option Addr) (E'_1 : Mem), Mem.le E' E'_1 → WinE E'_1 base_1 (List.take ((toN (some (NI l4)) l4 - 0) * 1) cs ++ [VS b2 l2 c2]) → ∃ (zs : List Int), ∃ (want : List (List Int)), Bs E'_1 base len cap zs ∧ BL E'_1 (Option.map (fun (x : Addr) => Addr.add x 0) base_1) (toN (some (NI l4)) l4 - 0 + 1) cap' want ∧ ∀ (E' : Mem), Mem.le E'_1 E' → bif !decide (readF n zs = (want, (0 : Int))) then Mem.le E0 E' ∧ K (SV.raw (Value.bool false)) E' else Lp WL4 8 Try.f4 [1, 1, 1, 1, 1, 1, 0, 1, 0] 0 (pubK E0 K) { fr := none :: some (L b2 l2 c2) :: some (L b3 l3 c3) :: some (SV.loc 0 0) :: none :: none :: none :: some (B true) :: some (L b4 l4 c4) :: none :: some (L b5 l5 c5) :: some (I e) :: n16 (n8 (n4 (n2 (none :: (some (L b5 l5 c5) :: some (I (NI l5)) :: some (I (WI ((NI i) + (1 : Int)))) :: n32 (n32 (n2 []))))))), bx := [⟨24, .lst [I a1, L b1 l1 c1], 2, true⟩, ⟨24, .lst [I n, L base len cap], 2, true⟩, ⟨22, .lst [L b2 l2 c2], 1, true⟩, ⟨22, .vals (List.take ((toN (some (NI l4)) l4 - 0) * 1) cs ++ [VS b2 l2 c2]), tot', false⟩], E := E' : St }))))) else ∃ (zs : List Int), ∃ (want : List (List Int)), Bs E base len cap zs ∧ BL E b4 l4 c4 want ∧ ∀ (E' : Mem), Mem.le E E' → Mem.le E E' ∧ bif !decide (readF n zs = (want, (0 : Int))) then Mem.le E0 E' ∧ K (SV.raw (Value.bool false)) E' else Lp WL4 8 Try.f4 [1, 1, 1, 1, 1, 1, 0, 1, 0] 0 (pubK E0 K) { fr := none :: some (L b2 l2 c2) :: some (L b3 l3 c3) :: some (SV.loc 0 0) :: none :: none :: none :: some (B true) :: some (L b4 l4 c4) :: none :: some (L b5 l5 c5) :: some (I e) :: n16 (n8 (n4 (n2 (none :: (some (L b5 l5 c5) :: some (I (NI l5)) :: some (I (WI ((NI i) + (1 : Int)))) :: n32 (n32 (n2 []))))))), bx := [⟨24, .lst [I a1, L b1 l1 c1], 2, true⟩, ⟨24, .lst [I n, L base len cap], 2, true⟩], E := E' : St }) else ∃ (zs : List Int), ∃ (keep : List (List Int)), Bs E b1 l1 c1 zs ∧ BL E b3 l3 c3 keep ∧ (∀ (d : List Int), List.Mem d keep → List.length d ≤ 60000) ∧ l3 ≤ 1000 ∧ ∀ (b' : Option Addr) (l' c' : Nat) (ms : List (Int × List Int)) (e_1 : Int) (E' : Mem), Mem.le E E' → Hyp (compactF a1 zs keep = (ms, e_1)) → FL E' b' l' c' ms → Mem.le E E' ∧ Lp WL4 8 Try.f4 [1, 1, 1, 1, 1, 1, 1, 1, 0, 1, 0] 0 (pubK E0 K) { fr := none :: some (L b2 l2 c2) :: some (L b3 l3 c3) :: some (SV.loc 0 0) :: none :: none :: none :: some (B true) :: some (L b4 l4 c4) :: none :: some (L b5 l5 c5) :: some (I e) :: none :: none :: none :: some (L b' l' c') :: some (I e_1) :: n16 (n8 (n2 (some (L b5 l5 c5) :: some (I (NI l5)) :: some (I (NI i)) :: some (B (decide ((NI i) < (NI l5)))) :: n16 (n4 (n2 (none :: (some (SV.tup [L b' l' c', I e_1]) :: some (SV.agg [I a1, L b1 l1 c1]) :: some (L b3 l3 c3) :: some (SV.tup [L b' l' c', I e_1]) :: some (L b' l' c') :: some (I e_1) :: some (L b' l' c') :: some (I (NI l')) :: some (I 0) :: n32 (none :: [])))))))), bx := [⟨24, .lst [I a1, L b1 l1 c1], 2, true⟩], E := E' : St })
  delta WI NI VS n2 n4 n8 n16 n32
  have n4 := hS4.len
  have n3 := hS3.len
  have nG := FG.len
  have hcap := hS4.cap
  have tN : ∀ x y : Nat, toN (some (x : Int)) y - 0 = x := fun x y => rfl
  refine condC (fun q => ?_) (fun q => ?_)
  · have q : i < l5 := by simpa using q
    obtain ⟨m, hm⟩ : ∃ m, ms[i]? = some m := ⟨_, List.getElem?_eq_getElem (by omega)⟩
    have hr := u3 i m hm
    obtain ⟨x1, b7, l7, c7, x2, x3⟩ := FG.load hm
    rw [wrap_i64 (x := (l5 : Int) - 1) (by omega), wrap_i64 (x := (i : Int) + 1) (by omega), show (i : Int) + 1 = ((i + 1 : Nat) : Int) by simp]
    refine req_intro (by omega) ⟨x1, m.1, b7, l7, c7, x2, condC (fun w => ?_) (fun w => ?_)⟩
    · have w : i + 1 = ms.length := by simp at w; omega
      rw [if_pos w] at hr
      simp only [tN]
      refine req_intro (by omega) (req_intro (by omega) (req_intro (by show (0 : Int) ≤ (l4 : Int) ∧ (l4 : Int) ≤ (l4 : Int); omega) (fun base' E4 k4 f4 nn4 => ?_)))
      have S4 := SL.full RB_ok hS4 k4 f4 nn4
      refine app_full RB_ok S4 (by omega) (fun h0 cap' tot' q1 q2 base_1 E5 k5 w5 => ?_) (B := fun cs => _) (fun rs h1 h2 cap' tot' q1 q2 base_1 E5 k5 w5 => ?_)
      · have e0 : ls = [] := List.length_eq_zero_iff.1 (by omega)
        refine ⟨m.2, [z2], x3.mono (Mem.le_trans k4 k5), SL.win RB_ok (rs := [[_]]) w5 rfl (SLr.nil.snoc ⟨_, _, _, rfl, hB2.mono (Mem.le_trans k4 k5)⟩) rfl q1, fun E' k6 => condC (fun v => by rw [hr, e0] at v; simp at v) (fun _ => ?_)⟩
        exact Lp_re [some 0] (ih q E' (Mem.le_trans k4 (Mem.le_trans k5 k6))) (wkG (Mem.le_refl _))
      · rw [h2] at w5
        refine ⟨m.2, ls ++ [z2], x3.mono (Mem.le_trans k4 k5), SL.win RB_ok (rs := rs ++ [[_]]) w5 (by simp) ((h1.mono RB_ok k5).snoc ⟨_, _, _, rfl, hB2.mono (Mem.le_trans k4 k5)⟩) (by simp [n4]) q1, fun E' k6 => condC (fun v => by rw [hr] at v; simp at v) (fun _ => ?_)⟩
        exact Lp_re [some 0] (ih q E' (Mem.le_trans k4 (Mem.le_trans k5 k6))) (wkG (Mem.le_refl _))
    · have w : ¬ i + 1 = ms.length := by simp at w; omega
      rw [if_neg w] at hr
      refine ⟨m.2, ls, x3, hS4, fun E' k => ⟨k, condC (fun v => by simp [hr] at v) (fun _ => ?_)⟩⟩
      exact Lp_re [some 0] (ih q E' k) (wkG (Mem.le_refl _))
  · have bk : ∀ d ∈ keep, d.length < 65536 ∧ ∀ x ∈ d, 0 ≤ x ∧ x ≤ 255 := fun d hd => ⟨by have := hk d hd; omega, BL_bytes hS3 d hd⟩
    have cn := compact_num a1 z1 keep
    refine ⟨z1, keep, hB1, hS3, hk, hl.1, fun b6 l6 c6 ns g2 E' k n2 F2 => ⟨k, ?_⟩⟩
    have n2 : compactF a1 z1 keep = (ns, g2) := n2
    obtain ⟨d1, d2⟩ := J.compact_reads bk n2
    have nn := F2.len
    rw [n2] at cn
    have cn : ns.length ≤ 40000 := cn
    exact Lp_re [] (lp4b (hS4.mono RB_ok k) (hS3.mono RB_ok k) F2 ⟨hl.1, hl.2.1, by omega⟩ ⟨fun d hd => by have := (J.sm d hd).1; omega, fun d hd => by have := hk d hd; omega⟩ u1 (by rw [← nn]; exact d1) d2 (Mem.le_trans hE k) (fun E2 k2 => hK E2 (Mem.le_trans k k2)) (r := l6) (i := 0) (by omega)) (wkG (Mem.le_refl _))
theorem lp4a {E : Mem} {a1 e : Int} {b1 b2 b3 b4 b5 : Option Addr} {l1 c1 l2 c2 l3 c3 l4 c4 l5 c5 : Nat} {z1 z2 : List Int} {ls keep : List (List Int)} {ms : List (Int × List Int)} {a h : Nat} {g : Int} {E0 : Mem} (J : Jo a1 z1 ls a g h) (hB1 : Bs E b1 l1 c1 z1) (hB2 : Bs E b2 l2 c2 z2) (hS3 : BL E b3 l3 c3 keep) (hS4 : BL E b4 l4 c4 ls) (FG : FL E b5 l5 c5 ms) (hl : l3 ≤ 1000 ∧ l4 ≤ 1000 ∧ l5 ≤ 40000) (hk : ∀ d ∈ keep, d.length ≤ 60000) (u1 : e = 0 ↔ 0 < l5) (u3 : ∀ i m, ms[i]? = some m → readF m.1 m.2 = (if i + 1 = ms.length then ls ++ [z2] else ls, 0)) (hE : Mem.le E0 E) (hK : ∀ E', Mem.le E E' → K (B true) E') : ∀ {r i : Nat}, i + r = l5 → Lp WL4 8 Try.f4 [1, 1, 1, 1, 1, 1, 0, 1, 0] 0 (pubK E0 K) (sh4a a1 e b1 b2 b3 b4 b5 l1 c1 l2 c2 l3 c3 l4 c4 l5 c5 i E)
  | 0, i, hr => Lp_ind (ι := Unit) okWL4 (fun _ => sh4a a1 e b1 b2 b3 b4 b5 l1 c1 l2 c2 l3 c3 l4 c4 l5 c5 i E) (fun _ => 0) (fun _ _ => r4a J hB1 hB2 hS3 hS4 FG hl hk u1 u3 hE hK (by omega) (fun g => by omega)) ()
  | r + 1, i, hr => Lp_ind (ι := Unit) okWL4 (fun _ => sh4a a1 e b1 b2 b3 b4 b5 l1 c1 l2 c2 l3 c3 l4 c4 l5 c5 i E) (fun _ => 0) (fun _ _ => r4a J hB1 hB2 hS3 hS4 FG hl hk u1 u3 hE hK (by omega) (fun q E' k => lp4a J (hB1.mono k) (hB2.mono k) (hS3.mono RB_ok k) (hS4.mono RB_ok k) (FG.mono k) hl hk u1 u3 (Mem.le_trans hE k) (fun E2 k2 => hK E2 (Mem.le_trans k k2)) (r := r) (i := i + 1) (by omega))) ()
theorem e4 {a1 : Int} {b1 : Option Addr} {l1 : Nat} {c1 : Nat} {z1 : List Int} {b2 : Option Addr} {l2 : Nat} {c2 : Nat} {z2 : List Int} {b3 : Option Addr} {l3 : Nat} {c3 : Nat} {x3 : List (List Int)} (ha1 : (Lit.int .i64 a1).wf = true) (hB1 : Bs E b1 l1 c1 z1) (hL1 : l1 ≤ 9223372036854775807) (hB2 : Bs E b2 l2 c2 z2) (hL2 : l2 ≤ 9223372036854775807) (hc3 : l3 ≤ maxLen) (hS30 : BL E b3 l3 c3 x3) (hS31 : ∀ d ∈ x3, d.length ≤ 9223372036854775807) (h : ∀ E' : Mem, Mem.le E E' → K (B true) E') :
    Ent WL4 8 Try.f4 [.agg [I a1, L b1 l1 c1], L b2 l2 c2, L b3 l3 c3] E K := by
  refine same (by kernel_rfl) (?_ : ∀ (E' : Mem), Mem.le E E' → Mem.le E E' ∧ ∀ (base : Option Addr) (E'_1 : Mem), Mem.le E' E'_1 → WinE E'_1 base [VS b2 l2 c2] → ∀ (base_1 : Option Addr) (E' : Mem), Mem.le E'_1 E' → WinE E' base_1 [VS b3 l3 c3, VS (Option.map (fun (x : Addr) => Addr.add x 0) base) 1 1] → ∃ (xsss : List (List (List Int))), l1 ≤ 9223372036854775807 ∧ SL RBL E' (Option.map (fun (x : Addr) => Addr.add x 0) base_1) 2 2 xsss ∧ 2 ≤ 10 ∧ bif !decide (shortP l1 xsss) then Mem.le E E' ∧ K (SV.raw (Value.bool true)) E' else ∃ (zs : List Int), Bs E' b1 l1 c1 zs ∧ ∀ (b' : Option Addr) (l' c' : Nat) (yss : List (List Int)) (e : Int) (E'_2 : Mem), Mem.le E' E'_2 → Hyp (((openF a1 zs).fst.fst, (openF a1 zs).snd) = (yss, e)) → BL E'_2 b' l' c' yss → Mem.le E' E'_2 ∧ bif e != (0 : Int) then Mem.le E E'_2 ∧ K (SV.raw (Value.bool true)) E'_2 else ∃ (zs : List Int), ∃ (ds : List Int), Bs E'_2 b1 l1 c1 zs ∧ Bs E'_2 b2 l2 c2 ds ∧ l2 ≤ 60000 ∧ ∀ (b'_1 : Option Addr) (l'_1 c'_1 : Nat) (ms : List (Int × List Int)) (e_1 : Int) (E' : Mem), Mem.le E'_2 E' → Hyp (appendF a1 zs ds = (ms, e_1)) → FL E' b'_1 l'_1 c'_1 ms → Mem.le E'_2 E' ∧ Lp WL4 8 Try.f4 [1, 1, 1, 1, 1, 1, 0, 1, 0] 0 (pubK E K) { fr := some (SV.agg [I a1, L b1 l1 c1]) :: some (L b2 l2 c2) :: some (L b3 l3 c3) :: some (SV.loc 0 0) :: none :: none :: none :: some (B true) :: some (L b' l' c') :: some (I e) :: some (L b'_1 l'_1 c'_1) :: some (I e_1) :: n8 (some (B true) :: some (SV.agg [I a1, L b1 l1 c1]) :: some (L b3 l3 c3) :: some (L b2 l2 c2) :: some (SV.slc 1 0 1 1) :: some (SV.slc 2 0 2 2) :: some (B (decide (shortP l1 xsss))) :: some (B !decide (shortP l1 xsss)) :: none :: some (SV.tup [L b' l' c', I e]) :: some (SV.agg [I a1, L b1 l1 c1]) :: some (SV.tup [L b' l' c', I e]) :: some (L b' l' c') :: some (I e) :: some (I e) :: some (B (e != (0 : Int))) :: none :: some (SV.tup [L b'_1 l'_1 c'_1, I e_1]) :: some (SV.agg [I a1, L b1 l1 c1]) :: some (L b2 l2 c2) :: some (SV.tup [L b'_1 l'_1 c'_1, I e_1]) :: some (L b'_1 l'_1 c'_1) :: some (I e_1) :: some (L b'_1 l'_1 c'_1) :: some (I (NI l'_1)) :: some (I 0) :: n32 (n32 (n2 []))), bx := [⟨24, .lst [I a1, L b1 l1 c1], 2, true⟩, ⟨22, .lst [L b2 l2 c2], 1, false⟩, ⟨25, .lst [L b3 l3 c3, L (Option.map (fun (x : Addr) => Addr.add x 0) base) 1 1], 2, false⟩], E := E' : St })
  delta NI VS n2 n8 n32
  refine fun EA kA => ⟨kA, fun tD ED kD wD tF EF kF wF => ⟨[x3, [z2]], hL1, ?_, by decide, ?_⟩⟩
  · exact SL.win RBL_ok (rs := [[_], [_]]) wF rfl ((SLr.nil.snoc ⟨b3, l3, c3, rfl, hS30.mono RB_ok (Mem.le_trans kA (Mem.le_trans kD kF))⟩).snoc ⟨_, _, _, rfl, (SL.win RB_ok (rs := [[_]]) wD rfl (SLr.nil.snoc ⟨_, _, _, rfl, hB2.mono (Mem.le_trans kA kD)⟩) rfl (Nat.le_refl _)).mono RB_ok kF⟩) rfl (Nat.le_refl _)
  have kf : Mem.le E EF := Mem.le_trans kA (Mem.le_trans kD kF)
  refine condC (fun g => ⟨kf, h EF kf⟩) (fun g => ?_)
  have g : shortP l1 [x3, [z2]] := by simpa using g
  obtain ⟨g1, g2⟩ := g
  obtain ⟨g3, g4⟩ := g1 x3 (by simp)
  have g5 := (g1 [z2] (by simp)).2 z2 (by simp)
  have n1 := hB1.2.1
  have n2 := hB2.2.1
  have n3 := hS30.len
  have bz := hB1.2.2.2.1
  have s2 : z2.length < 65536 ∧ ∀ x ∈ z2, 0 ≤ x ∧ x ≤ 255 := ⟨by omega, hB2.2.2.2.1⟩
  refine ⟨z1, hB1.mono kf, fun bG lG cG yG eG EG kG nG BG => ⟨kG, ?_⟩⟩
  have nG : ((openF a1 z1).fst.fst, (openF a1 z1).snd) = (yG, eG) := nG
  have kg : Mem.le E EG := Mem.le_trans kf kG
  refine condC (fun _ => ⟨kg, h EG kg⟩) (fun g => ?_)
  have g : eG = 0 := by simpa using g
  subst g
  obtain ⟨ls, a, gn, hh, J⟩ := Jo.of bz (eq2 nG).2
  have lsG : yG = ls := by have := (eq2 nG).1; rw [J.op] at this; exact this.symm
  subst lsG
  have nY := BG.len
  have ge := needF_ge yG
  have rm := J.rm
  have hb := J.hb
  have ap := append_num a1 z1 z2
  refine ⟨z1, z2, hB1.mono kg, hB2.mono kg, by omega, fun bH lH cH mH eH EH kH nH FH => ⟨kH, ?_⟩⟩
  have nH : appendF a1 z1 z2 = (mH, eH) := nH
  have kh : Mem.le E EH := Mem.le_trans kg kH
  obtain ⟨d1, d2⟩ := J.append_reads s2 nH
  have nF := FH.len
  rw [nH] at ap
  have ap : mH.length ≤ 40000 := ap
  rw [nF] at d1
  exact Lp_re [some 0] (lp4a J (hB1.mono kh) (hB2.mono kh) (hS30.mono RB_ok kh) (BG.mono RB_ok kH) FH ⟨by omega, by omega, by omega⟩ (fun d hd => by have := g4 d hd; omega) d1 d2 kh (fun E' k => h E' (Mem.le_trans kh k)) (r := lH) (i := 0) (by omega)) (wkG (Mem.le_refl _))
theorem opn4 (W : World) (K : List SV → Prop) (h : ∀ a1 : Int, (Lit.int .i64 a1).wf = true → ∀ (b1 : Option Addr) (l1 c1 : Nat) (z1 : List Int), (l1 ≤ c1) → (c1 ≤ maxLen) → (b1 = none → c1 = 0) → (z1.length = c1) → (∀ x ∈ z1, (Lit.int .u8 x).wf = true) → RowAt W (.slice b1 l1 c1) (z1.map (.int .u8)) → ∀ (b2 : Option Addr) (l2 c2 : Nat) (z2 : List Int), (l2 ≤ c2) → (c2 ≤ maxLen) → (b2 = none → c2 = 0) → (z2.length = c2) → (∀ x ∈ z2, (Lit.int .u8 x).wf = true) → RowAt W (.slice b2 l2 c2) (z2.map (.int .u8)) → ∀ (b3 : Option Addr) (l3 c3 : Nat) (z3 : List (List Value)), (l3 ≤ c3) → (c3 ≤ maxLen) → (b3 = none → c3 = 0) → (z3.length = c3) → RowAt W (.slice b3 l3 c3) z3.flatten → (∀ r ∈ z3, r.length = 1 ∧ Shp Try.prog W 12 22 r) → K [.agg [I a1, L b1 l1 c1], L b2 l2 c2, L b3 l3 c3]) : opnAll Try.prog W Try.f4.params.toList K :=
  same (by kernel_rfl) h
theorem sem4 (W : World) : opnAll Try.prog W Try.f4.params.toList fun ss => TabSem Try.prog 4 ss (fun v cs => RowAt W v cs) fun r _ => r = .raw (.bool true) := by
  refine opn4 W _ ?_
  intro a1 ha1 b1 l1 c1 z1 hl1 hc1 hb1 hz1 hw1 hE1 b2 l2 c2 z2 hl2 hc2 hb2 hz2 hw2 hE2 b3 l3 c3 z3 hl3 hc3 hb3 hz3 hE3 hr3
  exact Ent.sem okWL4 Try.func4 ⟨by kernel_rfl, by kernel_rfl⟩ rfl (e4 ha1 (Bs.of hl1 hb1 hz1 hw1 hE1) (Nat.le_trans hl1 (by simpa [maxLen] using hc1)) (Bs.of hl2 hb2 hz2 hw2 hE2) (Nat.le_trans hl2 (by simpa [maxLen] using hc2)) (Nat.le_trans hl3 hc3) (BLof hl3 hb3 hz3 hE3 hr3).choose_spec.1 (BLof hl3 hb3 hz3 hE3 hr3).choose_spec.2 (fun _ _ => rfl))
theorem lifted4 (os : Os) (started : os.Started) (H : Type) (enc : TypeId × Value → H) :
    ReturnsInHanded {} Try.checked os 4 .any (Rows.journalTornSpec.pre6 enc Try.prog Try.f4 Rows.journalTornRow.domain false) (Rows.journalTornSpec.post enc Try.prog Try.f4 false true false false) :=
  lift_true (C := Try.checked) (by kernel_rfl) (by kernel_rfl) started (by kernel_rfl) Try.func4
    (ChangeSpec.witness6 (enc := enc) (C := Try.checked) false ⟨#[], #[.agg #[.int .i64 0, .slice none 0 0], .slice none 0 0, .slice none 0 0], []⟩ 8 (by kernel_rfl) (by kernel_rfl) (by kernel_rfl) (by kernel_rfl))
    (Tb := 4) (by kernel_rfl) (by kernel_rfl) (by kernel_rfl) rfl
    (fun ds hl => by
      match ds, hl with
      | [d0, d1, d2], _ => exact ⟨rfl, rfl, rfl⟩)
    sem4
theorem over4 : Rows.journalTornRow.holds Try.pinned (OpenSpec.ofChange Rows.journalTornSpec) :=
  OpenClaim.holds_of_wide 4 Try.f4 rfl rfl rfl rfl rfl rfl rfl ⟨rfl, rfl, rfl, rfl, rfl⟩ rfl rfl rfl rfl rfl (by kernel_rfl) Try.func4 (by kernel_rfl)
    (of_decide_eq_true (by kernel_rfl)) (by unfold Func.isWrapper; first | (rw [if_pos (by decide +kernel)]; kernel_rfl) | (rw [if_neg (by decide +kernel)]; exact ⟨rfl, rfl⟩))
    (fun os started H enc _ => lifted4 os started H enc)
theorem proved4 : Rows.JournalTornSaid := over4
end Go.Proofs.Ytiineecihncpfaa.JournalOwn
