/- The law's proof: for every input the law answers true. Conditions: none. -/
import Derived.Test.YtdblighgcpabnaaBg18
import Derived.OpenShut
import Derived.Test.YtdblighgcpabnaaRows
namespace Go.Proofs.Ytdblighgcpabnaa.BootOwn
open Go Go.Sx Go.Proofs.Ytdblighgcpabnaa
set_option maxRecDepth 100000
set_option maxHeartbeats 4000000
set_option linter.unusedVariables false
set_option linter.unusedSimpArgs false
variable {E : Mem} {K : SV → Mem → Prop}
noncomputable def tabL4 : FuncId → List SV → Mem → (SV → Mem → Prop) → Prop := fun f args E K => match f with
  | 10 => d0 args ((∀ E' : Mem, Mem.le E E' → K (B true) E'))
  | 25 => d2 args fun x0 x1 => dS x0 fun b1 l2 c3 => dS x1 fun b4 l5 c6 => ∃ (xs : List Int) (ys : List Int), Bs E b1 l2 c3 xs ∧ Bs E b4 l5 c6 ys ∧ l2 ≤ 60 ∧ l5 ≤ 60 ∧ (∀ (b' : Option Addr) (l' c' : Nat) (y : List Int) (E' : Mem), Mem.le E E' → Hyp (Run y xs ys) → Bs E' b' l' c' y → K (.tup [.agg [I 128, L b' l' c'], B true]) E')
  | 17 => d3 args fun x0 x1 x2 => dC x0 fun l1 => d2 l1 fun x0_0 x0_1 => dI x0_0 fun a1 => dS x0_1 fun b2 l3 c4 => dI x1 fun a5 => dS x2 fun b6 l7 c8 => ∃ (zs : List Int) (p : List Int) (ms : List (Int × List Int)) (e : Int), Bs E b2 l3 c4 zs ∧ Bs E b6 l7 c8 p ∧ installF a1 zs a5 p = (ms, e) ∧ (∀ (b' : Option Addr) (l' c' : Nat) (E' : Mem), Mem.le E E' → FL E' b' l' c' ms → K (.tup [L b' l' c', I e]) E')
  | 19 => d3 args fun x0 x1 x2 => dC x0 fun l1 => d2 l1 fun x0_0 x0_1 => dI x0_0 fun a1 => dS x0_1 fun b2 l3 c4 => dI x1 fun a5 => dI x2 fun a6 => ∃ (zs : List Int) (ms : List (Int × List Int)) (e : Int), Bs E b2 l3 c4 zs ∧ markF a1 zs a5 a6 = (ms, e) ∧ (∀ (b' : Option Addr) (l' c' : Nat) (E' : Mem), Mem.le E E' → FL E' b' l' c' ms → K (.tup [L b' l' c', I e]) E')
  | 27 => d2 args fun x0 x1 => dS x0 fun b1 l2 c3 => dI x1 fun a4 => ∃ (X : List (Int × List Int)) (w : List Int), FL E b1 l2 c3 (X ++ [(128, w)]) ∧ a4 = 0 ∧ l2 ≤ 100000 ∧ (∀ (b' : Option Addr) (l' c' : Nat) (E' : Mem), Mem.le E E' → Bs E' b' l' c' w → K (.tup [.agg [I 128, L b' l' c'], B true]) E')
  | 26 => d3 args fun x0 x1 x2 => dC x0 fun l1 => d2 l1 fun x0_0 x0_1 => dI x0_0 fun a1 => dS x0_1 fun b2 l3 c4 => dI x1 fun a5 => dS x2 fun b6 l7 c8 => ∃ (zs : List Int) (ds : List Int), Bs E b2 l3 c4 zs ∧ Bs E b6 l7 c8 ds ∧ selectF a1 zs = ((a5, ds), 0) ∧ l7 ≤ 100000 ∧ (∀ E' : Mem, Mem.le E E' → K (B true) E')
  | _ => False
theorem tabL4_ok : TabOK Try.prog tabL4 := by
  intro f args E K h
  unfold tabL4 at h
  split at h
  · obtain ⟨rfl, h⟩ := d0_elim h
    exact TabSem.congr rfl (Ent.sem okQ4 Try.func10 ⟨by kernel_rfl, by kernel_rfl⟩ rfl (q10 h))
  · replace h := d2_elim h
    obtain ⟨x0, x1, rfl, h⟩ := h
    replace h := dS_elim h
    obtain ⟨b1, l2, c3, rfl, h⟩ := h
    replace h := dS_elim h
    obtain ⟨b4, l5, c6, rfl, h⟩ := h
    obtain ⟨xs, ys, g0, g1, g2, g3, h⟩ := h
    exact TabSem.congr (valL_cons rfl (valL_cons rfl rfl)) (Ent.sem okQ4 Try.func25 ⟨by kernel_rfl, by kernel_rfl⟩ rfl (q25 g0 g1 g2 g3 h))
  · replace h := d3_elim h
    obtain ⟨x0, x1, x2, rfl, h⟩ := h
    replace h := dC_elim h
    obtain ⟨l1, hl1, h⟩ := h
    replace h := d2_elim h
    obtain ⟨x0_0, x0_1, rfl, h⟩ := h
    replace h := dI_elim h
    obtain ⟨a1, rfl, h⟩ := h
    replace h := dS_elim h
    obtain ⟨b2, l3, c4, rfl, h⟩ := h
    replace h := dI_elim h
    obtain ⟨a5, rfl, h⟩ := h
    replace h := dS_elim h
    obtain ⟨b6, l7, c8, rfl, h⟩ := h
    obtain ⟨zs, p, ms, e, g0, g1, g2, h⟩ := h
    exact TabSem.congr (valL_cons (asCells_val hl1) (valL_cons rfl (valL_cons rfl rfl))) (Ent.sem okP7 Try.func17 ⟨by kernel_rfl, by kernel_rfl⟩ rfl (q17E g0 g1 g2 h))
  · replace h := d3_elim h
    obtain ⟨x0, x1, x2, rfl, h⟩ := h
    replace h := dC_elim h
    obtain ⟨l1, hl1, h⟩ := h
    replace h := d2_elim h
    obtain ⟨x0_0, x0_1, rfl, h⟩ := h
    replace h := dI_elim h
    obtain ⟨a1, rfl, h⟩ := h
    replace h := dS_elim h
    obtain ⟨b2, l3, c4, rfl, h⟩ := h
    replace h := dI_elim h
    obtain ⟨a5, rfl, h⟩ := h
    replace h := dI_elim h
    obtain ⟨a6, rfl, h⟩ := h
    obtain ⟨zs, ms, e, g0, g1, h⟩ := h
    exact TabSem.congr (valL_cons (asCells_val hl1) (valL_cons rfl (valL_cons rfl rfl))) (Ent.sem okP5 Try.func19 ⟨by kernel_rfl, by kernel_rfl⟩ rfl (q19E g0 g1 h))
  · replace h := d2_elim h
    obtain ⟨x0, x1, rfl, h⟩ := h
    replace h := dS_elim h
    obtain ⟨b1, l2, c3, rfl, h⟩ := h
    replace h := dI_elim h
    obtain ⟨a4, rfl, h⟩ := h
    obtain ⟨X, w, g0, g1, g2, h⟩ := h
    exact TabSem.congr (valL_cons rfl (valL_cons rfl rfl)) (Ent.sem okQ2 Try.func27 ⟨by kernel_rfl, by kernel_rfl⟩ rfl (q27H g0 g1 g2 h))
  · replace h := d3_elim h
    obtain ⟨x0, x1, x2, rfl, h⟩ := h
    replace h := dC_elim h
    obtain ⟨l1, hl1, h⟩ := h
    replace h := d2_elim h
    obtain ⟨x0_0, x0_1, rfl, h⟩ := h
    replace h := dI_elim h
    obtain ⟨a1, rfl, h⟩ := h
    replace h := dS_elim h
    obtain ⟨b2, l3, c4, rfl, h⟩ := h
    replace h := dI_elim h
    obtain ⟨a5, rfl, h⟩ := h
    replace h := dS_elim h
    obtain ⟨b6, l7, c8, rfl, h⟩ := h
    obtain ⟨zs, ds, g0, g1, g2, g3, h⟩ := h
    exact TabSem.congr (valL_cons (asCells_val hl1) (valL_cons rfl (valL_cons rfl rfl))) (Ent.sem okQ3 Try.func26 ⟨by kernel_rfl, by kernel_rfl⟩ rfl (q26H g0 g1 g2 g3 h))
  · exact h.elim
noncomputable def WL4 : Cx := { P := Try.prog, inl := fun f => List.contains [] f, tab := tabL4, isB := fun _ => false, tabB := fun _ _ _ _ _ => False, opt := { unroll := 0, carry := [14, 56, 77], cuts := [] }, muts := mutsD }
theorem okWL4 : CxOK WL4 := CxOK.four tabL4_ok (by kernel_rfl) (okInl (by kernel_rfl)) (fun _ _ _ _ _ h => h.elim)
theorem row_field {rs : List FRow} {i : Nat} {r : FRow} (h : rs[i]? = some r) : loadW Try.prog 22 ((rs.flatMap rowV).map .raw) (i * 2 + 1) = some (L r.2.1 r.2.2.1 r.2.2.2) := by
  have key : ∀ (rs : List FRow) (i : Nat), rs[i]? = some r → ((rs.flatMap rowV).map SV.raw)[i * 2 + 1]? = some (L r.2.1 r.2.2.1 r.2.2.2) := by
    intro rs
    induction rs with
    | nil => intro i h; simp at h
    | cons x rs ih =>
      intro i h
      cases i with
      | zero => simp at h; subst h; simp [rowV]
      | succ i =>
        have := ih i (by simpa using h)
        rw [show (i + 1) * 2 + 1 = 2 + (i * 2 + 1) by omega, List.flatMap_cons, List.map_append, List.getElem?_append_right (by simp [rowV])]
        rw [show 2 + (i * 2 + 1) - (List.map SV.raw (rowV x)).length = i * 2 + 1 by simp [rowV]]
        exact this
  have hu : Try.prog.underlying 22 = some (.slice 5) := by kernel_rfl
  unfold loadW
  rw [hu]
  exact key rs i h
theorem FL.field {b : Option Addr} {n c : Nat} {ms : List (Int × List Int)} (h : FL E b n c ms) {i : Nat} {m : Int × List Int} (hm : ms[i]? = some m) :
    ∃ (b' : Option Addr) (l' c' : Nat), LoadE Try.prog E 22 (.slice b n c) (i * 2 + 1) (L b' l' c') ∧ Bs E b' l' c' m.2 := by
  obtain ⟨rs, h1, h2, h3, h4, h5⟩ := h
  have hi : i < ms.length := (List.getElem?_eq_some_iff.1 hm).1
  have hE := h4.resolve_left (by omega)
  obtain ⟨r, er⟩ : ∃ r, rs[i]? = some r := ⟨_, List.getElem?_eq_getElem (by rw [h1.1]; exact hi)⟩
  obtain ⟨q1, q2⟩ := h1.2 i r m er hm
  exact ⟨r.2.1, r.2.2.1, r.2.2.2, ⟨_, hE, row_field er⟩, q2⟩
theorem FL.nth {b : Option Addr} {n c : Nat} {ms : List (Int × List Int)} (h : FL E b n c ms) {i : Nat} (hi : i < n) : ∃ m, ms[i]? = some m :=
  ⟨_, List.getElem?_eq_getElem (by rw [h.len]; exact hi)⟩
theorem sec4 {A B : Prop} {bx bY : Option Addr} {lx cx cY k : Nat} {xs y : List Int} (BX : Bs E bx lx cx xs) (BY : Bs E bY 8448 cY y) (hk : k < lx) (hl : lx = 8448) (e : 4224 ≤ k → xs.getD k 0 = y.getD k 0) (n : B) :
    bif decide ((k : Int) ≥ 4224) then req (0 ≤ (k : Int) ∧ (k : Int) < (lx : Int)) ((∃ cs, E (.slice bx lx cx) cs ∧ (cs = [] → False)) ∧ ∃ n, LoadE Try.prog E 5 (.slice bx lx cx) (Int.toNat (k : Int) * 1) (.raw (.int .u8 n)) ∧
      req (0 ≤ (k : Int) ∧ (k : Int) < (8448 : Int)) ((∃ cs, E (.slice bY 8448 cY) cs ∧ (cs = [] → False)) ∧ ∃ n2, LoadE Try.prog E 5 (.slice bY 8448 cY) (Int.toNat (k : Int) * 1) (.raw (.int .u8 n2)) ∧ bif bif true then n != n2 else false then A else B)) else B := by
  refine condC (fun g => ?_) (fun _ => n)
  have g : 4224 ≤ k := by simp at g; omega
  refine req_intro (by omega) ⟨BX.ne hk, xs.getD k 0, BX.load rfl hk, req_intro (by omega) ⟨BY.ne (i := k) (by omega), y.getD k 0, BY.load rfl (i := k) (by omega), condC (fun q => ?_) (fun _ => n)⟩⟩
  exact absurd (e g) (by simpa using q)
def sh4o (b2 bF bY : Option Addr) (l2 c2 lF cF cY : Nat) (i : Nat) (E : Mem) : St := ⟨[none, some (L b2 l2 c2), none, none, none, none, none, some (B true), some (.loc 0 0), none, some (L bF lF cF), none, none, none, none, none, none, none, none, none, none, none, none, none, none, none, none, none, none, none, none, none, none, none, none, none, none, none, none, none, none, none, none, none, none, none, none, none, none, none, none, none, none, none, some (L bF lF cF), some (I (lF : Nat)), some (I (i : Nat))] ++ List.replicate 64 none, [⟨24, .lst [I 128, L bY 8448 cY], 2, true⟩], E⟩
def sh4i (b2 bF bY bx : Option Addr) (l2 c2 lF cF cY lx cx : Nat) (i d k : Nat) (E : Mem) : St := ⟨[none, some (L b2 l2 c2), none, none, none, none, none, some (B true), some (.loc 0 0), none, some (L bF lF cF), none, some (I (i : Nat)), some (.loc 1 0), some (I (d : Nat)), none, none, none, none, none, none, none, none, none, none, none, none, none, none, none, none, none, none, none, none, none, none, none, none, none, none, none, none, none, none, none, none, none, none, none, none, none, none, none, some (L bF lF cF), some (I (lF : Nat)), some (I (i : Nat)), none, none, none, none, none, none, none, none, none, none, none, none, none, none, none, none, none, none, none, some (I (lx : Nat)), some (I (k : Nat))] ++ List.replicate 43 none, [⟨24, .lst [I 128, L bY 8448 cY], 2, true⟩, ⟨24, .lst [I 128, L bx lx cx], 2, true⟩], E⟩
theorem r4i {b2 bF bY bx : Option Addr} {l2 c2 lF cF cY lx cx i d k q : Nat} {ms : List (Int × List Int)} {xs y : List Int} {E0 : Mem} (FX : FL E bF lF cF ms) (BX : Bs E bx lx cx xs) (BY : Bs E bY 8448 cY y) (hlx : lx = 8448) (hi : i < lF) (nF : lF ≤ 100000)
    (hy : ∀ j, 4224 ≤ j → xs.getD j 0 = y.getD j 0) (hq : ∀ pv, 0 < i → ms[i - 1]? = some pv → pv.2.length = 8448 ∧ ∀ j, j ≠ q → xs.getD j 0 = pv.2.getD j 0) (hd : d ≤ 1 ∧ (k ≤ q → d = 0)) (hk : k ≤ lx) (hE : Mem.le E0 E)
    (ih : ∀ d', k < lx → d' ≤ 1 → (k + 1 ≤ q → d' = 0) → Lp WL4 8 Try.f4 [1, 1, 1, 1, 1, 1, 0, 1, 0, 0, 1, 1, 0, 0, 1, 1, 1, 0, 1, 0] 0 (pubK E0 K) (sh4i b2 bF bY bx l2 c2 lF cF cY lx cx i d' (k + 1) E)) (fin : Lp WL4 8 Try.f4 [1, 1, 1, 1, 1, 1, 0, 1, 0] 0 (pubK E0 K) (sh4o b2 bF bY l2 c2 lF cF cY (i + 1) E)) :
    Rnd WL4 8 Try.f4 [1, 1, 1, 1, 1, 1, 0, 1, 0, 0, 1, 1, 0, 0, 1, 1, 1, 0, 1, 0] 0 (pubK E0 K) (sh4i b2 bF bY bx l2 c2 lF cF cY lx cx i d k E) := by
  refine same (by kernel_rfl) (?_ : bif decide ((NI k) < (NI lx)) then bif decide ((NI i) > (0 : Int)) then req ((0 : Int) ≤ (NI k) ∧ (NI k) < (NI lx)) ((∃ (cs : List Value), E (VS bx lx cx) cs ∧ (cs = [] → False)) ∧ ∃ (n : Int), LoadE WL4.P E 5 (VS bx lx cx) (Int.toNat (NI k) * 1) (SV.raw (U8 n)) ∧ req ((0 : Int) ≤ WI ((NI i) - (1 : Int)) ∧ WI ((NI i) - (1 : Int)) < (NI lF)) ((∃ (cs : List Value), E (VS bF lF cF) cs ∧ (cs = [] → False)) ∧ ∃ (base : Option Addr), ∃ (len : Nat), ∃ (cap : Nat), LoadE WL4.P E 22 (VS bF lF cF) (Int.toNat (WI ((NI i) - (1 : Int))) * 2 + 1) (SV.raw (VS base len cap)) ∧ req ((0 : Int) ≤ (NI k) ∧ (NI k) < (NI len)) ((∃ (cs : List Value), E (VS base len cap) cs ∧ (cs = [] → False)) ∧ ∃ (n_1 : Int), LoadE WL4.P E 5 (VS base len cap) (Int.toNat (NI k) * 1) (SV.raw (U8 n_1)) ∧ bif bif true then n != n_1 else false then bif decide ((NI k) ≥ (4224 : Int)) then req ((0 : Int) ≤ (NI k) ∧ (NI k) < (NI lx)) ((∃ (cs : List Value), E (VS bx lx cx) cs ∧ (cs = [] → False)) ∧ ∃ (n : Int), LoadE WL4.P E 5 (VS bx lx cx) (Int.toNat (NI k) * 1) (SV.raw (U8 n)) ∧ req ((0 : Int) ≤ (NI k) ∧ (NI k) < (8448 : Int)) ((∃ (cs : List Value), E (VS bY 8448 cY) cs ∧ (cs = [] → False)) ∧ ∃ (n_2 : Int), LoadE WL4.P E 5 (VS bY 8448 cY) (Int.toNat (NI k) * 1) (SV.raw (U8 n_2)) ∧ bif bif true then n != n_2 else false then Mem.le E0 E ∧ K (SV.raw (Value.bool false)) E else Lp WL4 8 Try.f4 [1, 1, 1, 1, 1, 1, 0, 1, 0, 0, 1, 1, 0, 0, 1, 1, 1, 0, 1, 0] 0 (pubK E0 K) { fr := none :: some (L b2 l2 c2) :: none :: none :: none :: none :: none :: some (B true) :: some (SV.loc 0 0) :: none :: some (L bF lF cF) :: none :: some (I (NI i)) :: some (SV.loc 1 0) :: some (I (WI ((NI d) + (1 : Int)))) :: n32 (n4 (n2 (none :: (some (L bF lF cF) :: some (I (NI lF)) :: some (I (NI i)) :: n16 (n2 (none :: (some (I (NI lx)) :: some (I (WI ((NI k) + (1 : Int)))) :: n32 (n8 (n2 (none :: [])))))))))), bx := [⟨24, .lst [I 128, L bY 8448 cY], 2, true⟩, ⟨24, .lst [I 128, L bx lx cx], 2, true⟩], E := E : St })) else Lp WL4 8 Try.f4 [1, 1, 1, 1, 1, 1, 0, 1, 0, 0, 1, 1, 0, 0, 1, 1, 1, 0, 1, 0] 0 (pubK E0 K) { fr := none :: some (L b2 l2 c2) :: none :: none :: none :: none :: none :: some (B true) :: some (SV.loc 0 0) :: none :: some (L bF lF cF) :: none :: some (I (NI i)) :: some (SV.loc 1 0) :: some (I (WI ((NI d) + (1 : Int)))) :: n32 (n4 (n2 (none :: (some (L bF lF cF) :: some (I (NI lF)) :: some (I (NI i)) :: n16 (n2 (none :: (some (I (NI lx)) :: some (I (WI ((NI k) + (1 : Int)))) :: n32 (n8 (n2 (none :: [])))))))))), bx := [⟨24, .lst [I 128, L bY 8448 cY], 2, true⟩, ⟨24, .lst [I 128, L bx lx cx], 2, true⟩], E := E : St } else bif decide ((NI k) ≥ (4224 : Int)) then req ((0 : Int) ≤ (NI k) ∧ (NI k) < (NI lx)) ((∃ (cs : List Value), E (VS bx lx cx) cs ∧ (cs = [] → False)) ∧ ∃ (n : Int), LoadE WL4.P E 5 (VS bx lx cx) (Int.toNat (NI k) * 1) (SV.raw (U8 n)) ∧ req ((0 : Int) ≤ (NI k) ∧ (NI k) < (8448 : Int)) ((∃ (cs : List Value), E (VS bY 8448 cY) cs ∧ (cs = [] → False)) ∧ ∃ (n_2 : Int), LoadE WL4.P E 5 (VS bY 8448 cY) (Int.toNat (NI k) * 1) (SV.raw (U8 n_2)) ∧ bif bif true then n != n_2 else false then Mem.le E0 E ∧ K (SV.raw (Value.bool false)) E else Lp WL4 8 Try.f4 [1, 1, 1, 1, 1, 1, 0, 1, 0, 0, 1, 1, 0, 0, 1, 1, 1, 0, 1, 0] 0 (pubK E0 K) { fr := none :: some (L b2 l2 c2) :: none :: none :: none :: none :: none :: some (B true) :: some (SV.loc 0 0) :: none :: some (L bF lF cF) :: none :: some (I (NI i)) :: some (SV.loc 1 0) :: some (I (NI d)) :: n32 (n4 (n2 (none :: (some (L bF lF cF) :: some (I (NI lF)) :: some (I (NI i)) :: n16 (n2 (none :: (some (I (NI lx)) :: some (I (WI ((NI k) + (1 : Int)))) :: n32 (n8 (n2 (none :: [])))))))))), bx := [⟨24, .lst [I 128, L bY 8448 cY], 2, true⟩, ⟨24, .lst [I 128, L bx lx cx], 2, true⟩], E := E : St })) else Lp WL4 8 Try.f4 [1, 1, 1, 1, 1, 1, 0, 1, 0, 0, 1, 1, 0, 0, 1, 1, 1, 0, 1, 0] 0 (pubK E0 K) { fr := none :: some (L b2 l2 c2) :: none :: none :: none :: none :: none :: some (B true) :: some (SV.loc 0 0) :: none :: some (L bF lF cF) :: none :: some (I (NI i)) :: some (SV.loc 1 0) :: some (I (NI d)) :: n32 (n4 (n2 (none :: (some (L bF lF cF) :: some (I (NI lF)) :: some (I (NI i)) :: n16 (n2 (none :: (some (I (NI lx)) :: some (I (WI ((NI k) + (1 : Int)))) :: n32 (n8 (n2 (none :: [])))))))))), bx := [⟨24, .lst [I 128, L bY 8448 cY], 2, true⟩, ⟨24, .lst [I 128, L bx lx cx], 2, true⟩], E := E : St }))) else bif decide ((NI k) ≥ (4224 : Int)) then req ((0 : Int) ≤ (NI k) ∧ (NI k) < (NI lx)) ((∃ (cs : List Value), E (VS bx lx cx) cs ∧ (cs = [] → False)) ∧ ∃ (n : Int), LoadE WL4.P E 5 (VS bx lx cx) (Int.toNat (NI k) * 1) (SV.raw (U8 n)) ∧ req ((0 : Int) ≤ (NI k) ∧ (NI k) < (8448 : Int)) ((∃ (cs : List Value), E (VS bY 8448 cY) cs ∧ (cs = [] → False)) ∧ ∃ (n_1 : Int), LoadE WL4.P E 5 (VS bY 8448 cY) (Int.toNat (NI k) * 1) (SV.raw (U8 n_1)) ∧ bif bif true then n != n_1 else false then Mem.le E0 E ∧ K (SV.raw (Value.bool false)) E else Lp WL4 8 Try.f4 [1, 1, 1, 1, 1, 1, 0, 1, 0, 0, 1, 1, 0, 0, 1, 1, 1, 0, 1, 0] 0 (pubK E0 K) { fr := none :: some (L b2 l2 c2) :: none :: none :: none :: none :: none :: some (B true) :: some (SV.loc 0 0) :: none :: some (L bF lF cF) :: none :: some (I (NI i)) :: some (SV.loc 1 0) :: some (I (NI d)) :: n32 (n4 (n2 (none :: (some (L bF lF cF) :: some (I (NI lF)) :: some (I (NI i)) :: n16 (n2 (none :: (some (I (NI lx)) :: some (I (WI ((NI k) + (1 : Int)))) :: n32 (n8 (n2 (none :: [])))))))))), bx := [⟨24, .lst [I 128, L bY 8448 cY], 2, true⟩, ⟨24, .lst [I 128, L bx lx cx], 2, true⟩], E := E : St })) else Lp WL4 8 Try.f4 [1, 1, 1, 1, 1, 1, 0, 1, 0, 0, 1, 1, 0, 0, 1, 1, 1, 0, 1, 0] 0 (pubK E0 K) { fr := none :: some (L b2 l2 c2) :: none :: none :: none :: none :: none :: some (B true) :: some (SV.loc 0 0) :: none :: some (L bF lF cF) :: none :: some (I (NI i)) :: some (SV.loc 1 0) :: some (I (NI d)) :: n32 (n4 (n2 (none :: (some (L bF lF cF) :: some (I (NI lF)) :: some (I (NI i)) :: n16 (n2 (none :: (some (I (NI lx)) :: some (I (WI ((NI k) + (1 : Int)))) :: n32 (n8 (n2 (none :: [])))))))))), bx := [⟨24, .lst [I 128, L bY 8448 cY], 2, true⟩, ⟨24, .lst [I 128, L bx lx cx], 2, true⟩], E := E : St } else bif decide ((NI d) > (1 : Int)) then Mem.le E0 E ∧ K (SV.raw (Value.bool false)) E else Lp WL4 8 Try.f4 [1, 1, 1, 1, 1, 1, 0, 1, 0] 0 (pubK E0 K) { fr := none :: some (L b2 l2 c2) :: none :: none :: none :: none :: none :: some (B true) :: some (SV.loc 0 0) :: none :: some (L bF lF cF) :: none :: none :: none :: some (I (NI d)) :: n32 (n4 (n2 (none :: (some (L bF lF cF) :: some (I (NI lF)) :: some (I (WI ((NI i) + (1 : Int)))) :: n16 (n4 (some (I (NI k)) :: n32 (n8 (n2 (none :: []))))))))), bx := [⟨24, .lst [I 128, L bY 8448 cY], 2, true⟩, ⟨24, .lst [I 128, L bx lx cx], 2, true⟩], E := E : St })
  delta WI NI U8 VS n2 n4 n8 n16 n32
  have w1 : IntKind.wrap .i64 ((k : Int) + 1) = ((k + 1 : Nat) : Int) := by rw [wrap_i64 (by omega)]; simp
  have w2 : IntKind.wrap .i64 ((d : Int) + 1) = ((d + 1 : Nat) : Int) := by rw [wrap_i64 (by omega)]; simp
  have w3 : IntKind.wrap .i64 ((i : Int) + 1) = ((i + 1 : Nat) : Int) := by rw [wrap_i64 (by omega)]; simp
  obtain ⟨d1, d2⟩ := hd
  refine condC (fun g => ?_) (fun g => condC (fun g2 => absurd g2 (by simp; omega)) (fun _ => ?_))
  · have g : k < lx := by simpa using g
    rw [w1, w2]
    have nx : ∀ d', d' ≤ 1 → (k + 1 ≤ q → d' = 0) → Lp WL4 8 Try.f4 [1, 1, 1, 1, 1, 1, 0, 1, 0, 0, 1, 1, 0, 0, 1, 1, 1, 0, 1, 0] 0 (pubK E0 K) (sh4i b2 bF bY bx l2 c2 lF cF cY lx cx i d' (k + 1) E) := fun d' => ih d' g
    refine condC (fun gi => ?_) (fun gi => ?_)
    · have gi : 0 < i := by simp at gi; omega
      have w4 : IntKind.wrap .i64 ((i : Int) - 1) = ((i - 1 : Nat) : Int) := by rw [wrap_i64 (by omega)]; omega
      rw [w4]
      obtain ⟨pv, hpv⟩ := FX.nth (i := i - 1) (by omega)
      obtain ⟨bp, lp, cp, f1, Bp⟩ := FX.field hpv
      obtain ⟨v1, v2⟩ := hq pv gi hpv
      have lpe := Bp.2.1
      refine req_intro (by omega) ⟨BX.ne g, xs.getD k 0, BX.load rfl g, req_intro (by omega) ⟨(FX.load hpv).1, bp, lp, cp, by rw [Int.toNat_natCast]; exact f1, req_intro (by omega) ⟨Bp.ne (i := k) (by omega), pv.2.getD k 0, Bp.load rfl (i := k) (by omega), condC (fun gd => ?_) (fun gd => ?_)⟩⟩⟩
      · have gd : xs.getD k 0 ≠ pv.2.getD k 0 := by simpa using gd
        have kq : k = q := Decidable.byContradiction fun w => gd (v2 k w)
        have d0 := d2 (by omega)
        refine sec4 BX BY g hlx (hy k) ?_
        exact Lp_re [some 0, some 1] (nx (d + 1) (by omega) (by omega)) (wkG (Mem.le_refl _))
      · refine sec4 BX BY g hlx (hy k) ?_
        exact Lp_re [some 0, some 1] (nx d d1 (fun u => d2 (by omega))) (wkG (Mem.le_refl _))
    · refine sec4 BX BY g hlx (hy k) ?_
      exact Lp_re [some 0, some 1] (nx d d1 (fun u => d2 (by omega))) (wkG (Mem.le_refl _))
  · rw [w3]
    exact Lp_re [some 0] fin (wkG (Mem.le_refl _))
theorem lp4i {b2 bF bY bx : Option Addr} {l2 c2 lF cF cY lx cx i q : Nat} {ms : List (Int × List Int)} {xs y : List Int} {E0 : Mem} (FX : FL E bF lF cF ms) (BX : Bs E bx lx cx xs) (BY : Bs E bY 8448 cY y) (hlx : lx = 8448) (hi : i < lF) (nF : lF ≤ 100000)
    (hy : ∀ j, 4224 ≤ j → xs.getD j 0 = y.getD j 0) (hq : ∀ pv, 0 < i → ms[i - 1]? = some pv → pv.2.length = 8448 ∧ ∀ j, j ≠ q → xs.getD j 0 = pv.2.getD j 0) (hE : Mem.le E0 E)
    (fin : Lp WL4 8 Try.f4 [1, 1, 1, 1, 1, 1, 0, 1, 0] 0 (pubK E0 K) (sh4o b2 bF bY l2 c2 lF cF cY (i + 1) E)) {d k : Nat} (hk : k ≤ lx) (hd : d ≤ 1 ∧ (k ≤ q → d = 0)) :
    Lp WL4 8 Try.f4 [1, 1, 1, 1, 1, 1, 0, 1, 0, 0, 1, 1, 0, 0, 1, 1, 1, 0, 1, 0] 0 (pubK E0 K) (sh4i b2 bF bY bx l2 c2 lF cF cY lx cx i d k E) :=
  Lp_ind okWL4 (fun x : {x : Nat × Nat // x.2 ≤ lx ∧ x.1 ≤ 1 ∧ (x.2 ≤ q → x.1 = 0)} => sh4i b2 bF bY bx l2 c2 lF cF cY lx cx i x.1.1 x.1.2 E) (fun x => lx - x.1.2)
    (fun x ih => r4i FX BX BY hlx hi nF hy hq x.2.2 x.2.1 hE (fun d' hlt h1 h2 => ih ⟨⟨d', x.1.2 + 1⟩, hlt, h1, h2⟩ (by show lx - (_ + 1) < lx - _; omega)) fin) ⟨⟨d, k⟩, hk, hd⟩
theorem r4o {b2 bF bY : Option Addr} {l2 c2 lF cF cY i : Nat} {ms : List (Int × List Int)} {y z2 : List Int} {E0 : Mem} (FX : FL E bF lF cF ms) (BY : Bs E bY 8448 cY y) (B2 : Bs E b2 l2 c2 z2) (g2 : l2 ≤ 60) (nF : lF ≤ 100000)
    (hL : ∀ m ∈ ms, m.1 = 128 ∧ m.2.length = 8448 ∧ selectF 128 m.2 = ((7, z2), 0) ∧ ∀ j, 4224 ≤ j → m.2.getD j 0 = y.getD j 0) (hC : Chain ms) (hi : i ≤ lF) (hE : Mem.le E0 E) (h : ∀ E', Mem.le E0 E' → K (B true) E')
    (ih : i < lF → ∀ E', Mem.le E E' → Lp WL4 8 Try.f4 [1, 1, 1, 1, 1, 1, 0, 1, 0] 0 (pubK E0 K) (sh4o b2 bF bY l2 c2 lF cF cY (i + 1) E')) : Rnd WL4 8 Try.f4 [1, 1, 1, 1, 1, 1, 0, 1, 0] 0 (pubK E0 K) (sh4o b2 bF bY l2 c2 lF cF cY i E) := by
  refine same (by kernel_rfl) (?_ : bif decide ((NI i) < (NI lF)) then req ((0 : Int) ≤ (NI i) ∧ (NI i) < (NI lF)) ((∃ (cs : List Value), E (VS bF lF cF) cs ∧ (cs = [] → False)) ∧ ∃ (n : Int), ∃ (base : Option Addr), ∃ (len : Nat), ∃ (cap : Nat), LoadE WL4.P E 24 (VS bF lF cF) (Int.toNat (NI i) * 2) (SV.agg [SV.raw (Value.int IntKind.i64 n), SV.raw (VS base len cap)]) ∧ bif (NI len) != (8448 : Int) then Mem.le E0 E ∧ K (SV.raw (Value.bool false)) E else ∃ (zs : List Int), ∃ (ds : List Int), Bs E base len cap zs ∧ Bs E b2 l2 c2 ds ∧ selectF n zs = (((7 : Int), ds), (0 : Int)) ∧ l2 ≤ 100000 ∧ ∀ (E' : Mem), Mem.le E E' → Mem.le E E' ∧ Lp WL4 8 Try.f4 [1, 1, 1, 1, 1, 1, 0, 1, 0, 0, 1, 1, 0, 0, 1, 1, 1, 0, 1, 0] 0 (pubK E0 K) { fr := none :: some (L b2 l2 c2) :: none :: none :: none :: none :: none :: some (B true) :: some (SV.loc 0 0) :: none :: some (L bF lF cF) :: none :: some (I (NI i)) :: some (SV.loc 1 0) :: some (I 0) :: n32 (n4 (n2 (none :: (some (L bF lF cF) :: some (I (NI lF)) :: some (I (NI i)) :: some (B (decide ((NI i) < (NI lF)))) :: some (I (NI i)) :: some (SV.rp (VS bF lF cF) (Int.toNat (NI i) * 2)) :: some (SV.agg [I n, L base len cap]) :: some (SV.loc 1 1) :: some (L base len cap) :: some (I (NI len)) :: some (SV.loc 0 1) :: some (L bY 8448 cY) :: some (I 8448) :: some (B ((NI len) != (8448 : Int))) :: some (B false) :: some (SV.agg [I n, L base len cap]) :: some (L b2 l2 c2) :: some (B true) :: some (B false) :: some (B false) :: some (SV.loc 1 1) :: some (L base len cap) :: some (I (NI len)) :: some (I 0) :: n32 (n8 (n2 (none :: []))))))), bx := [⟨24, .lst [I 128, L bY 8448 cY], 2, true⟩, ⟨24, .lst [I n, L base len cap], 2, true⟩], E := E' : St }) else Mem.le E0 E ∧ K (SV.raw (Value.bool true)) E)
  delta NI VS n2 n4 n8 n32
  refine condC (fun g => ?_) (fun _ => ⟨hE, h E hE⟩)
  have g : i < lF := by simpa using g
  obtain ⟨m, hm⟩ := FX.nth g
  obtain ⟨q1, bx, lx, cx, q2, BX⟩ := FX.load hm
  obtain ⟨m1, m2, m3, m4⟩ := hL m (List.mem_of_getElem? hm)
  obtain ⟨ms1, xs⟩ := m
  have m1 : ms1 = 128 := m1
  subst m1
  have lxe : lx = 8448 := by rw [← BX.2.1]; exact m2
  refine req_intro (by omega) ⟨q1, 128, bx, lx, cx, by rw [Int.toNat_natCast]; exact q2, condC (fun w => absurd w (by simp; omega)) (fun _ => ⟨xs, z2, BX, B2, m3, by omega, fun E' k => ⟨k, ?_⟩⟩)⟩
  have st : ∃ q, ∀ pv, 0 < i → ms[i - 1]? = some pv → pv.2.length = 8448 ∧ ∀ j, j ≠ q → xs.getD j 0 = pv.2.getD j 0 := by
    by_cases i0 : 0 < i
    · obtain ⟨pv, hpv⟩ := FX.nth (i := i - 1) (by omega)
      obtain ⟨c1, q, c2⟩ := hC (i - 1) pv (128, xs) hpv (by rw [show i - 1 + 1 = i by omega]; exact hm)
      refine ⟨q, fun pv2 _ e => ?_⟩
      rw [hpv] at e
      cases e
      exact ⟨(hL pv (List.mem_of_getElem? hpv)).2.1, c2⟩
    · exact ⟨0, fun pv e => absurd e i0⟩
  obtain ⟨q, hq⟩ := st
  exact Lp_re [some 0, some 1] (lp4i (q := q) (d := 0) (k := 0) (FX.mono k) (BX.mono k) (BY.mono k) lxe g nF m4 hq (Mem.le_trans hE k) (ih g E' k) (Nat.zero_le _) ⟨by decide, fun _ => rfl⟩) (wkG (Mem.le_refl _))
theorem lp4o {E : Mem} {b2 bF bY : Option Addr} {l2 c2 lF cF cY : Nat} {ms : List (Int × List Int)} {y z2 : List Int} {E0 : Mem} (g2 : l2 ≤ 60) (nF : lF ≤ 100000)
    (hL : ∀ m ∈ ms, m.1 = 128 ∧ m.2.length = 8448 ∧ selectF 128 m.2 = ((7, z2), 0) ∧ ∀ j, 4224 ≤ j → m.2.getD j 0 = y.getD j 0) (hC : Chain ms) (h : ∀ E', Mem.le E0 E' → K (B true) E') (FX : FL E bF lF cF ms) (BY : Bs E bY 8448 cY y) (B2 : Bs E b2 l2 c2 z2) (hE : Mem.le E0 E) :
    ∀ {r i : Nat}, i + r = lF → Lp WL4 8 Try.f4 [1, 1, 1, 1, 1, 1, 0, 1, 0] 0 (pubK E0 K) (sh4o b2 bF bY l2 c2 lF cF cY i E)
  | 0, i, hr => Lp_ind (ι := Unit) okWL4 (fun _ => sh4o b2 bF bY l2 c2 lF cF cY i E) (fun _ => 0) (fun _ _ => r4o FX BY B2 g2 nF hL hC (by omega) hE h (fun g => by omega)) ()
  | r + 1, i, hr => Lp_ind (ι := Unit) okWL4 (fun _ => sh4o b2 bF bY l2 c2 lF cF cY i E) (fun _ => 0) (fun _ _ => r4o FX BY B2 g2 nF hL hC (by omega) hE h (fun g E' k => lp4o g2 nF hL hC h (FX.mono k) (BY.mono k) (B2.mono k) (Mem.le_trans hE k) (r := r) (i := i + 1) (by omega))) ()
theorem e4 {b1 : Option Addr} {l1 : Nat} {c1 : Nat} {z1 : List Int} {b2 : Option Addr} {l2 : Nat} {c2 : Nat} {z2 : List Int} {b3 : Option Addr} {l3 : Nat} {c3 : Nat} {z3 : List Int} (hB1 : Bs E b1 l1 c1 z1) (hL1 : l1 ≤ 9223372036854775807) (hB2 : Bs E b2 l2 c2 z2) (hL2 : l2 ≤ 9223372036854775807) (hB3 : Bs E b3 l3 c3 z3) (hL3 : l3 ≤ 9223372036854775807) (h : ∀ E' : Mem, Mem.le E E' → K (B true) E') :
    Ent WL4 8 Try.f4 [L b1 l1 c1, L b2 l2 c2, L b3 l3 c3] E K := by
  refine same (by kernel_rfl) (?_ : ∀ (E' : Mem), Mem.le E E' → Mem.le E E' ∧ bif decide ((NI l1) > (60 : Int)) then Mem.le E E' ∧ K (SV.raw (Value.bool true)) E' else bif bif false then true else decide ((NI l2) > (60 : Int)) then Mem.le E E' ∧ K (SV.raw (Value.bool true)) E' else bif bif false then true else decide ((NI l3) > (60 : Int)) then Mem.le E E' ∧ K (SV.raw (Value.bool true)) E' else ∃ (xs : List Int), ∃ (ys : List Int), Bs E' b1 l1 c1 xs ∧ Bs E' b2 l2 c2 ys ∧ l1 ≤ 60 ∧ l2 ≤ 60 ∧ ∀ (b' : Option Addr) (l' c' : Nat) (y : List Int) (E'_1 : Mem), Mem.le E' E'_1 → Hyp (Run y xs ys) → Bs E'_1 b' l' c' y → Mem.le E' E'_1 ∧ ∃ (zs : List Int), ∃ (p : List Int), ∃ (ms : List (Int × List Int)), ∃ (e : Int), Bs E'_1 b' l' c' zs ∧ Bs E'_1 b3 l3 c3 p ∧ installF 128 zs 9 p = (ms, e) ∧ ∀ (b'_1 : Option Addr) (l'_1 c'_1 : Nat) (E' : Mem), Mem.le E'_1 E' → FL E' b'_1 l'_1 c'_1 ms → Mem.le E'_1 E' ∧ bif bif false then true else e != (0 : Int) then Mem.le E E' ∧ K (SV.raw (Value.bool false)) E' else bif bif false then true else (NI l'_1) == (0 : Int) then Mem.le E E' ∧ K (SV.raw (Value.bool false)) E' else Lp WL4 8 Try.f4 [1, 1, 1, 1, 1, 1, 0, 1, 0] 0 (pubK E K) { fr := some (L b1 l1 c1) :: some (L b2 l2 c2) :: some (L b3 l3 c3) :: none :: none :: none :: none :: some (B true) :: some (SV.loc 0 0) :: some (B true) :: some (L b'_1 l'_1 c'_1) :: some (I e) :: none :: none :: none :: none :: some (B true) :: some (L b1 l1 c1) :: some (I (NI l1)) :: some (B (decide ((NI l1) > (60 : Int)))) :: some (B false) :: some (L b2 l2 c2) :: some (I (NI l2)) :: some (B (decide ((NI l2) > (60 : Int)))) :: some (B (bif false then true else decide ((NI l2) > (60 : Int)))) :: some (B false) :: some (L b3 l3 c3) :: some (I (NI l3)) :: some (B (decide ((NI l3) > (60 : Int)))) :: some (B (bif false then true else decide ((NI l3) > (60 : Int)))) :: none :: some (SV.tup [SV.agg [I 128, L b' l' c'], B true]) :: some (L b1 l1 c1) :: some (L b2 l2 c2) :: some (SV.tup [SV.agg [I 128, L b' l' c'], B true]) :: some (SV.agg [I 128, L b' l' c']) :: some (B true) :: some (SV.tup [L b'_1 l'_1 c'_1, I e]) :: some (SV.agg [I 128, L b' l' c']) :: some (L b3 l3 c3) :: some (SV.tup [L b'_1 l'_1 c'_1, I e]) :: some (L b'_1 l'_1 c'_1) :: some (I e) :: some (B true) :: some (B false) :: some (B false) :: some (I e) :: some (B (e != (0 : Int))) :: some (B (bif false then true else e != (0 : Int))) :: some (B false) :: some (L b'_1 l'_1 c'_1) :: some (I (NI l'_1)) :: some (B ((NI l'_1) == (0 : Int))) :: some (B (bif false then true else (NI l'_1) == (0 : Int))) :: some (L b'_1 l'_1 c'_1) :: some (I (NI l'_1)) :: some (I 0) :: n32 (n32 []), bx := [⟨24, .lst [I 128, L b' l' c'], 2, true⟩], E := E' : St })
  delta NI n32
  refine fun E1 k1 => ?_
  have le1 : Mem.le E E1 := Mem.le_trans (Mem.le_refl E) k1
  refine ⟨k1, condC (fun g => ⟨le1, h E1 le1⟩) (fun g1 => condC (fun g => ⟨le1, h E1 le1⟩) (fun g2 => condC (fun g => ⟨le1, h E1 le1⟩) (fun g3 => ?_)))⟩
  have g1 : l1 ≤ 60 := by simp at g1; omega
  have g2 : l2 ≤ 60 := by simp at g2; omega
  have g3 : l3 ≤ 60 := by simp at g3; omega
  have m1 := hB1.2.1
  have m2 := hB2.2.1
  have m3 := hB3.2.1
  have B1 := hB1.mono le1
  have B2 := hB2.mono le1
  have B3 := hB3.mono le1
  refine ⟨z1, z2, B1, B2, g1, g2, fun bY lY cY y E2 k2 R BY => ?_⟩
  have le2 : Mem.le E E2 := Mem.le_trans le1 k2
  have B1 := B1.mono k2
  have B2 := B2.mono k2
  have B3 := B3.mono k2
  have R : Run y z1 z2 := R
  obtain ⟨X, w, x1, x2, x3, A, x5, x6, x7, x8⟩ := R.live.install (v := 9) (p := z3) (by decide) (by rw [R.prog.1]; show (3 : Int) < 9; decide) (by omega) hB3.2.2.2.1
  have nq := inst_num (s := 128) (z := y) (v := 9) (p := z3)
  rw [x1] at nq
  have nq : (X ++ [((128 : Int), w)]).length ≤ 9000 := nq
  refine ⟨k2, y, z3, _, 0, BY, B3, x1, fun bF lF cF E3 k3 FX => ?_⟩
  have le3 : Mem.le E E3 := Mem.le_trans le2 k3
  have B1 := B1.mono k3
  have B2 := B2.mono k3
  have B3 := B3.mono k3
  have BY := BY.mono k3
  have nF := FX.len
  have nX : X.length + 1 = lF := by rw [← nF]; simp
  have lye : lY = 8448 := by rw [← BY.2.1, R.len]
  subst lye
  refine ⟨k3, condC (fun g => absurd g (by decide)) (fun _ => condC (fun g => absurd g (by simp; omega)) (fun _ => ?_))⟩
  have hL : ∀ m ∈ X ++ [((128 : Int), w)], m.1 = 128 ∧ m.2.length = 8448 ∧ selectF 128 m.2 = ((7, z2), 0) ∧ ∀ j, 4224 ≤ j → m.2.getD j 0 = y.getD j 0 := by
    intro m hm
    rcases List.mem_append.1 hm with hm | hm
    · obtain ⟨e1, L, _, e4⟩ := x3 m hm
      exact ⟨e1, L.len, L.select, e4⟩
    · rw [List.mem_singleton] at hm
      subst hm
      have L := A.old (.inl (by rw [x5]; decide))
      exact ⟨rfl, L.len, L.select, x7⟩
  exact Lp_re [some 0] (lp4o (i := 0) (r := lF) g2 (by omega) hL x8 h FX BY B2 le3 (by omega)) (wkG (Mem.le_refl _))
theorem opn4 (W : World) (K : List SV → Prop) (h : ∀ (b1 : Option Addr) (l1 c1 : Nat) (z1 : List Int), (l1 ≤ c1) → (c1 ≤ maxLen) → (b1 = none → c1 = 0) → (z1.length = c1) → (∀ x ∈ z1, (Lit.int .u8 x).wf = true) → RowAt W (.slice b1 l1 c1) (z1.map (.int .u8)) → ∀ (b2 : Option Addr) (l2 c2 : Nat) (z2 : List Int), (l2 ≤ c2) → (c2 ≤ maxLen) → (b2 = none → c2 = 0) → (z2.length = c2) → (∀ x ∈ z2, (Lit.int .u8 x).wf = true) → RowAt W (.slice b2 l2 c2) (z2.map (.int .u8)) → ∀ (b3 : Option Addr) (l3 c3 : Nat) (z3 : List Int), (l3 ≤ c3) → (c3 ≤ maxLen) → (b3 = none → c3 = 0) → (z3.length = c3) → (∀ x ∈ z3, (Lit.int .u8 x).wf = true) → RowAt W (.slice b3 l3 c3) (z3.map (.int .u8)) → K [L b1 l1 c1, L b2 l2 c2, L b3 l3 c3]) : opnAll Try.prog W Try.f4.params.toList K :=
  same (by kernel_rfl) h
theorem sem4 (W : World) : opnAll Try.prog W Try.f4.params.toList fun ss => TabSem Try.prog 4 ss (fun v cs => RowAt W v cs) fun r _ => r = .raw (.bool true) := by
  refine opn4 W _ ?_
  intro b1 l1 c1 z1 hl1 hc1 hb1 hz1 hw1 hE1 b2 l2 c2 z2 hl2 hc2 hb2 hz2 hw2 hE2 b3 l3 c3 z3 hl3 hc3 hb3 hz3 hw3 hE3
  exact Ent.sem okWL4 Try.func4 ⟨by kernel_rfl, by kernel_rfl⟩ rfl (e4 (Bs.of hl1 hb1 hz1 hw1 hE1) (Nat.le_trans hl1 (by simpa [maxLen] using hc1)) (Bs.of hl2 hb2 hz2 hw2 hE2) (Nat.le_trans hl2 (by simpa [maxLen] using hc2)) (Bs.of hl3 hb3 hz3 hw3 hE3) (Nat.le_trans hl3 (by simpa [maxLen] using hc3)) (fun _ _ => rfl))
theorem lifted4 (os : Os) (started : os.Started) (H : Type) (enc : TypeId × Value → H) :
    ReturnsInHanded {} Try.checked os 4 .any (Rows.bootOldOrNewSpec.pre6 enc Try.prog Try.f4 Rows.bootOldOrNewRow.domain false) (Rows.bootOldOrNewSpec.post enc Try.prog Try.f4 false true false false) :=
  lift_true (C := Try.checked) (by kernel_rfl) (by kernel_rfl) started (by kernel_rfl) Try.func4
    (ChangeSpec.witness6 (enc := enc) (C := Try.checked) false ⟨#[], #[.slice none 0 0, .slice none 0 0, .slice none 0 0], []⟩ 8 (by kernel_rfl) (by kernel_rfl) (by kernel_rfl) (by kernel_rfl))
    (Tb := 4) (by kernel_rfl) (by kernel_rfl) (by kernel_rfl) rfl
    (fun ds hl => by
      match ds, hl with
      | [d0, d1, d2], _ => exact ⟨rfl, rfl, rfl⟩)
    sem4
theorem over4 : Rows.bootOldOrNewRow.holds Try.pinned (OpenSpec.ofChange Rows.bootOldOrNewSpec) :=
  OpenClaim.holds_of_wide 4 Try.f4 rfl rfl rfl rfl rfl rfl rfl ⟨rfl, rfl, rfl, rfl, rfl⟩ rfl rfl rfl rfl rfl (by kernel_rfl) Try.func4 (by kernel_rfl)
    (of_decide_eq_true (by kernel_rfl)) (by unfold Func.isWrapper; first | (rw [if_pos (by decide +kernel)]; kernel_rfl) | (rw [if_neg (by decide +kernel)]; exact ⟨rfl, rfl⟩))
    (fun os started H enc _ => lifted4 os started H enc)
theorem proved4 : Rows.BootOldOrNewSaid := over4
end Go.Proofs.Ytdblighgcpabnaa.BootOwn
