/- The law SeenOrder. -/
import Derived.Test.YtjibgfihfbdcaaaSeen17
import Derived.OpenShut
import Derived.Test.YtjibgfihfbdcaaaRows
namespace Go.Proofs.Ytjibgfihfbdcaaa.SeenOwn
open Go Go.Sx Go.Proofs.Ytjibgfihfbdcaaa
set_option maxRecDepth 100000
set_option maxHeartbeats 4000000
set_option linter.unusedVariables false
set_option linter.unusedSimpArgs false
variable {E : Mem} {K : SV → Mem → Prop}
noncomputable def tabL5 : FuncId → List SV → Mem → (SV → Mem → Prop) → Prop := fun f args E K => match f with
  | 9 => d0 args ((∀ (E' : Mem), Mem.le E E' → K (B true) E'))
  | 21 => d1 args fun x0 => dS x0 fun b1 l2 c3 => ∃ (ps : List (Int × Int)), PS E b1 l2 c3 ps ∧ l2 ≤ 1000 ∧ (∀ x ∈ ps, 0 ≤ x.1 ∧ x.1 ≤ 255 ∧ 0 ≤ x.2 ∧ x.2 ≤ 255) ∧ (∀ (ys : List Sn) (t : Bool), addsF ps = (ys, t) → ∀ (b' : Option Addr) (l' c' : Nat) (E' : Mem), Mem.le E E' → SS E' b' l' c' ys → K (.tup [L b' l' c', B t]) E')
  | 17 => d2 args fun x0 x1 => dS x0 fun b1 l2 c3 => dS x1 fun b4 l5 c6 => ∃ (xs : List Sn) (ys : List Sn), SS E b1 l2 c3 xs ∧ SS E b4 l5 c6 ys ∧ Sm xs ∧ (K (B (decide (xs = ys))) E)
  | _ => False
theorem tabL5_ok : TabOK Try.prog tabL5 := by
  intro f args E K h
  unfold tabL5 at h
  split at h
  · obtain ⟨rfl, h⟩ := d0_elim h
    exact TabSem.congr rfl (Ent.sem okN3 Try.func9 ⟨by kernel_rfl, by kernel_rfl⟩ rfl (s9 h))
  · replace h := d1_elim h
    obtain ⟨x0, rfl, h⟩ := h
    replace h := dS_elim h
    obtain ⟨b1, l2, c3, rfl, h⟩ := h
    obtain ⟨ps, g0, g1, g2, h⟩ := h
    exact TabSem.congr (valL_cons rfl rfl) (Ent.sem okN4 Try.func21 ⟨by kernel_rfl, by kernel_rfl⟩ rfl (s21 g0 g1 g2 h))
  · replace h := d2_elim h
    obtain ⟨x0, x1, rfl, h⟩ := h
    replace h := dS_elim h
    obtain ⟨b1, l2, c3, rfl, h⟩ := h
    replace h := dS_elim h
    obtain ⟨b4, l5, c6, rfl, h⟩ := h
    obtain ⟨xs, ys, g0, g1, g2, h⟩ := h
    exact TabSem.congr (valL_cons rfl (valL_cons rfl rfl)) (Ent.sem okG2 Try.func17 ⟨by kernel_rfl, by kernel_rfl⟩ rfl (s17 g0 g1 g2 h))
  · exact h.elim
noncomputable def WL5 : Cx := { P := Try.prog, inl := fun f => List.contains [] f, tab := tabL5, isB := fun _ => false, tabB := fun _ _ _ _ _ => False, opt := { unroll := 0, carry := [8, 9], cuts := [5, 11] }, muts := mutsD }
theorem okWL5 : CxOK WL5 := CxOK.four tabL5_ok (by kernel_rfl) (okInl (by kernel_rfl)) (fun _ _ _ _ _ h => h.elim)
def shP11 (b : Option Addr) (l c : Nat) (k : Nat) (p capp tot : Nat) (rs : List (List Value)) (q capq tot2 : Nat) (rt : List (List Value)) (E : Mem) : St := ⟨[some (L b l c), none, none, none, none, some (B true), some (I (k : Nat)), some (.slc 0 0 p capp), some (.slc 1 0 q capq), none, none, none, none, none, none, none, none, none, none, none, none, none, none, none, none, none, none, none, none, none, none, none, none, none, none, none, none, none, none, none, none, none, none, none, none, none, none, none, none, none, none, none, none, none, none, none, none, none, none, none, none, none, none, none, none, none, none, none, none, none, none, none, none, none, none, none, none, none, none, none, none, none, none, none, none, none, none, none, none, none, none, none, none, none, none], [⟨36, .vals rs.flatten, tot, true⟩, ⟨36, .vals rt.flatten, tot2, true⟩], E⟩
theorem pcP11 {b : Option Addr} {l c k p capp tot q capq tot2 : Nat} {rs rt : List (List Value)} {ps az bz : List (Int × Int)} {E0 : Mem} (hx : PS E b l c ps) (hk : k < l) (hl : l ≤ 60) (hb0 : ∀ x ∈ ps, 0 ≤ x.1 ∧ x.1 ≤ 255 ∧ 0 ≤ x.2 ∧ x.2 ≤ 255) (ha : SLr PR E rs az) (hb : SLr PR E rt bz) (ma : ∀ x, x ∈ az ↔ x ∈ ps) (mb : ∀ x, x ∈ bz ↔ x ∈ ps) (la : az.length = p) (lb : bz.length = q) (hpl : p = l) (hql : q = l) (ca : p ≤ capp ∧ capp * 2 ≤ tot) (cb : q ≤ capq) (hE : Mem.le E0 E) (h : ∀ E' : Mem, Mem.le E0 E' → K (B true) E') : Pc WL5 8 Try.f5 [1, 1, 1, 1, 1, 1, 1] 0 (pubK E0 K) (shP11 b l c k p capp tot rs q capq tot2 rt E) := by
  refine same (by kernel_rfl) (?_ : 
      ∃ (ps : List (Int × Int)),
        PS E b l c ps ∧
          l ≤ 1000 ∧
            (∀ (x : Int × Int),
                List.Mem x ps → (0 : Int) ≤ x.fst ∧ x.fst ≤ (255 : Int) ∧ (0 : Int) ≤ x.snd ∧ x.snd ≤ (255 : Int)) ∧
              ∀ (ys : List Sn) (t : Bool),
                addsF ps = (ys, t) →
                  ∀ (b' : Option Addr) (l' c' : Nat) (E' : Mem),
                    Mem.le E E' →
                      SS E' b' l' c' ys →
                        Mem.le E E' ∧
                          req ((0 : Int) ≤ (↑k : Int) ∧ (↑k : Int) < (↑l : Int))
                            ((∃ (cs : List Value), E' (Value.slice b l c) cs ∧ (cs = [] → False)) ∧
                              ∃ (n : Int),
                                ∃ (n_1 : Int),
                                  LoadE WL5.P E' 36 (Value.slice b l c) (Int.toNat (↑k : Int) * 2)
                                      (SV.agg [SV.raw (Value.int IntKind.u8 n), SV.raw (Value.int IntKind.u8 n_1)]) ∧
                                    p * 2 ≤ List.length (Row.cells (Row.vals (List.flatten rs))) ∧
                                      capp * 2 ≤ tot ∧
                                        p ≤ capp ∧
                                          req ((p + 1) * 2 ≤ 140737488355328)
                                            (∀ (cap' tot' : Nat),
                                              p + 1 ≤ cap' →
                                                cap' * 2 ≤ tot' →
                                                  ∀ (base : Option Addr) (E'_1 : Mem),
                                                    Mem.le E' E'_1 →
                                                      WinE E'_1 base
                                                          (List.take (p * 2) (List.flatten rs) ++
                                                            [Value.int IntKind.u8 n, Value.int IntKind.u8 n_1]) →
                                                        ∃ (ps : List (Int × Int)),
                                                          PS E'_1 (Option.map (fun (x : Addr) => Addr.add x 0) base)
                                                              (p + 1) cap' ps ∧
                                                            p + 1 ≤ 1000 ∧
                                                              (∀ (x : Int × Int),
                                                                  List.Mem x ps →
                                                                    (0 : Int) ≤ x.fst ∧
                                                                      x.fst ≤ (255 : Int) ∧
                                                                        (0 : Int) ≤ x.snd ∧ x.snd ≤ (255 : Int)) ∧
                                                                ∀ (ys : List Sn) (t_1 : Bool),
                                                                  addsF ps = (ys, t_1) →
                                                                    ∀ (b'_1 : Option Addr) (l'_1 c'_1 : Nat) (E' : Mem),
                                                                      Mem.le E'_1 E' →
                                                                        SS E' b'_1 l'_1 c'_1 ys →
                                                                          ∀ (base : Option Addr) (E'_2 : Mem),
                                                                            Mem.le E' E'_2 →
                                                                              WinE E'_2 base (List.flatten rt) →
                                                                                ∃ (ps : List (Int × Int)),
                                                                                  PS E'_2
                                                                                      (Option.map
                                                                                        (fun (x : Addr) =>
                                                                                          Addr.add x 0)
                                                                                        base)
                                                                                      q capq ps ∧
                                                                                    q ≤ 1000 ∧
                                                                                      (∀ (x : Int × Int),
                                                                                          List.Mem x ps →
                                                                                            (0 : Int) ≤ x.fst ∧
                                                                                              x.fst ≤ (255 : Int) ∧
                                                                                                (0 : Int) ≤ x.snd ∧
                                                                                                  x.snd ≤ (255 : Int)) ∧
                                                                                        ∀ (ys : List Sn) (t_2 : Bool),
                                                                                          addsF ps = (ys, t_2) →
                                                                                            ∀ (b'_2 : Option Addr)
                                                                                              (l'_2 c'_2 : Nat) (E' : Mem),
                                                                                              Mem.le E'_2 E' →
                                                                                                SS E' b'_2 l'_2 c'_2 ys →
                                                                                                  bif
                                                                                                      bif true then t
                                                                                                      else false then
                                                                                                    bif
                                                                                                        bif true then t_1
                                                                                                        else false then
                                                                                                      bif
                                                                                                          bif true then t_2
                                                                                                          else false then
                                                                                                        ∃ (xs : List Sn),
                                                                                                          ∃ (ys : List Sn),
                                                                                                            SS E' b' l' c'
                                                                                                                xs ∧
                                                                                                              SS E' b'_1 l'_1
                                                                                                                  c'_1 ys ∧
                                                                                                                Sm xs ∧
                                                                                                                  Mem.le E'
                                                                                                                      E' ∧
                                                                                                                    bif
                                                                                                                        bif
                                                                                                                            true then
                                                                                                                          decide
                                                                                                                            (xs =
                                                                                                                              ys)
                                                                                                                        else
                                                                                                                          false then
                                                                                                                      ∃ (xs :
                                                                                                                        List
                                                                                                                          Sn),
                                                                                                                        ∃ (ys
                                                                                                                          :
                                                                                                                          List
                                                                                                                            Sn),
                                                                                                                          SS
                                                                                                                              E'
                                                                                                                              b'
                                                                                                                              l'
                                                                                                                              c'
                                                                                                                              xs ∧
                                                                                                                            SS
                                                                                                                                E'
                                                                                                                                b'_2
                                                                                                                                l'_2
                                                                                                                                c'_2
                                                                                                                                ys ∧
                                                                                                                              Sm
                                                                                                                                  xs ∧
                                                                                                                                Mem.le
                                                                                                                                    E'
                                                                                                                                    E' ∧
                                                                                                                                  Mem.le
                                                                                                                                      E0
                                                                                                                                      E' ∧
                                                                                                                                    K
                                                                                                                                      (SV.raw
                                                                                                                                        (Value.bool
                                                                                                                                          (bif
                                                                                                                                              true then
                                                                                                                                            decide
                                                                                                                                              (xs =
                                                                                                                                                ys)
                                                                                                                                          else
                                                                                                                                            false)))
                                                                                                                                      E'
                                                                                                                    else
                                                                                                                      Mem.le
                                                                                                                          E0
                                                                                                                          E' ∧
                                                                                                                        K
                                                                                                                          (SV.raw
                                                                                                                            (Value.bool
                                                                                                                              false))
                                                                                                                          E'
                                                                                                      else
                                                                                                        Mem.le E0 E' ∧
                                                                                                          K
                                                                                                            (SV.raw
                                                                                                              (Value.bool
                                                                                                                false))
                                                                                                            E'
                                                                                                    else
                                                                                                      Mem.le E0 E' ∧
                                                                                                        K
                                                                                                          (SV.raw
                                                                                                            (Value.bool
                                                                                                              false))
                                                                                                          E'
                                                                                                  else
                                                                                                    Mem.le E0 E' ∧
                                                                                                      K
                                                                                                        (SV.raw
                                                                                                          (Value.bool false))
                                                                                                        E')))
  have hn := hx.len
  have hfl := ha.flat PR_ok
  obtain ⟨x, ex⟩ : ∃ x, ps[k]? = some x := ⟨_, List.getElem?_eq_getElem (by omega)⟩
  have hxm := List.mem_of_getElem? ex
  obtain ⟨y0, f1, f2, f3, _⟩ := adds_ok ps (by omega) hb0
  have sm : Sm y0 := Sm_of ⟨by have := chkS_len f2.2 (by omega) (by omega); omega, by have := f2.1; omega⟩
  have A1 : addsF (az ++ [x]) = (y0, true) := by
    obtain ⟨ys, g1, g2⟩ := adds_eq (ps := ps) (qs := az ++ [x]) (by omega) (by simp; omega) hb0 (fun z => by
      rw [List.mem_append, ma]
      exact ⟨.inl, fun w => w.elim id (fun w => by simp at w; rw [w]; exact hxm)⟩)
    rw [f1] at g1; cases g1; exact g2
  have A2 : addsF bz = (y0, true) := by
    obtain ⟨ys, g1, g2⟩ := adds_eq (ps := ps) (qs := bz) (by omega) (by omega) hb0 (fun z => (mb z).symm)
    rw [f1] at g1; cases g1; exact g2
  refine ⟨ps, hx, by omega, hb0, fun y1 t1 r1 b3 l3 c3 E3 q3 s3 => ⟨q3, req_intro (by omega) ?_⟩⟩
  have r1 : addsF ps = (y1, t1) := r1
  rw [f1] at r1; cases r1
  have hx3 := hx.mono PR_ok q3
  obtain ⟨r, e1, e2⟩ := PS.load hx3 ex
  subst e2
  refine ⟨SL.nex PR_ok hx3 ex, x.1, x.2, e1, by show _ ≤ (List.map SV.raw _).length; rw [List.length_map, hfl]; omega, ca.2, ca.1, req_intro (by omega) (fun cap' tot' d1 d2 base E4 q4 w4 => ?_)⟩
  rw [flat_snoc PR_ok ha la] at w4
  have ha4 := ((ha.mono PR_ok q3).mono PR_ok q4).snoc (x := x) (r := [.int .u8 x.1, .int .u8 x.2]) rfl
  refine ⟨az ++ [x], SL.win PR_ok w4 rfl ha4 (by simp [la]) d1, by omega, fun z hz => hb0 z (by
    rcases List.mem_append.1 hz with w | w
    · exact (ma z).1 w
    · simp at w; rw [w]; exact hxm), fun y2 t2 r2 b5 l5 c5 E5 q5 s5 base6 E6 q6 w6 => ?_⟩
  have r2 : addsF (az ++ [x]) = (y2, t2) := r2
  rw [A1] at r2; cases r2
  have hb6 := (((hb.mono PR_ok q3).mono PR_ok q4).mono PR_ok q5).mono PR_ok q6
  refine ⟨bz, SL.win PR_ok w6 rfl hb6 lb cb, by omega, fun z hz => hb0 z ((mb z).1 hz), fun y3 t3 r3 b7 l7 c7 E7 q7 s7 => ?_⟩
  have r3 : addsF bz = (y3, t3) := r3
  rw [A2] at r3; cases r3
  have k5 := Mem.le_trans q6 q7
  have k3 := Mem.le_trans (Mem.le_trans q4 q5) k5
  have kE := Mem.le_trans hE (Mem.le_trans q3 k3)
  refine condT (condT (condT ⟨y0, y0, s3.mono SR_ok k3, s5.mono SR_ok k5, sm, Mem.le_refl _, condE rfl ⟨y0, y0, s3.mono SR_ok k3, s7, sm, Mem.le_refl _, kE, ?_⟩⟩))
  simpa using h E7 kE
def shP8 (b : Option Addr) (l c : Nat) (k : Nat) (p capp tot : Nat) (rs : List (List Value)) (q capq tot2 : Nat) (rt : List (List Value)) (E : Mem) : St := ⟨[some (L b l c), none, none, none, none, some (B true), some (I (k : Nat)), some (.slc 0 0 p capp), some (.slc 1 0 q capq), some (I ((l : Int) - 1 - (q : Int))), none, none, none, none, none, none, none, none, none, none, none, none, none, none, none, none, none, none, none, none, none, none, none, none, none, none, none, none, none, none, none, none, none, none, none, none, none, none, none, none, none, none, none, none, none, none, none, none, none, none, none, none, none, none, none, none, none, none, none, none, none, none, none, none, none, none, none, none, none, none, none, none, none, none, none, none, none, none, none, none, none, none, none, none, none], [⟨36, .vals rs.flatten, tot, true⟩, ⟨36, .vals rt.flatten, tot2, true⟩], E⟩
theorem rndP8 {b : Option Addr} {l c k p capp tot q capq tot2 : Nat} {rs rt : List (List Value)} {ps az : List (Int × Int)} {E0 : Mem} (hx : PS E b l c ps) (hk : k < l) (hl : l ≤ 60) (hb0 : ∀ x ∈ ps, 0 ≤ x.1 ∧ x.1 ≤ 255 ∧ 0 ≤ x.2 ∧ x.2 ≤ 255) (ha : SLr PR E rs az) (ma : ∀ x, x ∈ az ↔ x ∈ ps) (la : az.length = p) (hpl : p = l) (ca : p ≤ capp ∧ capp * 2 ≤ tot) (hb : SLr PR E rt (ps.drop (l - q)).reverse) (hq : q ≤ l) (cb : q ≤ capq ∧ capq * 2 ≤ tot2) (hE : Mem.le E0 E) (h : ∀ E' : Mem, Mem.le E0 E' → K (B true) E') (ih : ∀ (capq tot2 : Nat) (rt : List (List Value)), q < l → SLr PR E rt (ps.drop (l - (q + 1))).reverse → (q + 1 ≤ capq ∧ capq * 2 ≤ tot2) → Lp WL5 8 Try.f5 [1, 1, 1, 1, 1, 1, 0, 1, 0] 0 (pubK E0 K) (shP8 b l c k p capp tot rs (q + 1) capq tot2 rt E)) : Rnd WL5 8 Try.f5 [1, 1, 1, 1, 1, 1, 0, 1, 0] 0 (pubK E0 K) (shP8 b l c k p capp tot rs q capq tot2 rt E) := by
  refine same (by kernel_rfl) (?_ : 
      bif decide ((↑l : Int) - (1 : Int) - (↑q : Int) ≥ (0 : Int)) then
        req ((0 : Int) ≤ (↑l : Int) - (1 : Int) - (↑q : Int) ∧ (↑l : Int) - (1 : Int) - (↑q : Int) < (↑l : Int))
          ((∃ (cs : List Value), E (Value.slice b l c) cs ∧ (cs = [] → False)) ∧
            ∃ (n : Int),
              ∃ (n_1 : Int),
                LoadE WL5.P E 36 (Value.slice b l c) (Int.toNat ((↑l : Int) - (1 : Int) - (↑q : Int)) * 2)
                    (SV.agg [SV.raw (Value.int IntKind.u8 n), SV.raw (Value.int IntKind.u8 n_1)]) ∧
                  q * 2 ≤ List.length (Row.cells (Row.vals (List.flatten rt))) ∧
                    capq * 2 ≤ tot2 ∧
                      q ≤ capq ∧
                        req ((q + 1) * 2 ≤ 140737488355328)
                          (∀ (cap' tot' : Nat),
                            q + 1 ≤ cap' →
                              cap' * 2 ≤ tot' →
                                Lp WL5 8 Try.f5
                                  [1, 1, 1, 1, 1, 1, 0, 1,
                                    0]
                                  0 (pubK E0 K)
                                  {
                                    fr :=
                                      [some (SV.raw (Value.slice b l c)), none, none, none, none, some (SV.raw (Value.bool true)), some (SV.raw (Value.int IntKind.i64 (↑k : Int))), some (SV.slc 0 0 p capp), some (SV.slc 3 0 (q + 1) cap'), some (SV.raw (Value.int IntKind.i64 (IntKind.wrap IntKind.i64 ((↑l : Int) - (1 : Int) - (↑q : Int) - (1 : Int))))), none, none, none, none, none, none, none, none, none, none, none, none, none, none, none, none, none, none, none, none, none, none, none, none, none, none, none, none, none, none, none, none, none, none, none, none, none, none, none, none, none, none, none, none, none, none, none, none, none, none, none, none, none, none, none, none, none, none, none, none, none, none, none, none, none, none, none, none, none, none, none, none, none, none, none, none, none, none, none, none, none, none, none, none, none],
                                    bx :=
                                      [{ elem := 36, row := Row.vals (List.flatten rs), total := tot, own := true :
                                          Box },
                                        { elem := 36, row := Row.lst [], total := 0, own := false : Box },
                                        { elem := 36,
                                          row := Row.lst [SV.raw (Value.int IntKind.u8 n), SV.raw (Value.int IntKind.u8 n_1)],
                                          total := 2, own := true : Box },
                                        { elem := 36,
                                          row :=
                                            Row.vals
                                              (List.take (q * 2) (List.flatten rt) ++
                                                [Value.int IntKind.u8 n, Value.int IntKind.u8 n_1]),
                                          total := tot', own := true : Box }],
                                    E := E : St }))
      else
        Ct WL5 8 Try.f5 [1, 1, 1, 1, 1, 1, 1] 0
          (pubK E0 K)
          {
            fr :=
              [some (SV.raw (Value.slice b l c)), none, none, none, none, some (SV.raw (Value.bool true)), some (SV.raw (Value.int IntKind.i64 (↑k : Int))), some (SV.slc 0 0 p capp), some (SV.slc 1 0 q capq), some (SV.raw (Value.int IntKind.i64 ((↑l : Int) - (1 : Int) - (↑q : Int)))), none, none, none, none, none, none, none, none, none, none, none, none, none, none, none, none, none, none, none, none, none, none, none, none, none, none, none, none, none, none, none, none, none, some (SV.raw (Value.int IntKind.i64 ((↑l : Int) - (1 : Int) - (↑q : Int)))), some (SV.raw (Value.bool (decide ((↑l : Int) - (1 : Int) - (↑q : Int) ≥ (0 : Int))))), none, none, none, none, none, none, none, none, none, none, none, none, none, none, none, none, none, none, none, none, none, none, none, none, none, none, none, none, none, none, none, none, none, none, none, none, none, none, none, none, none, none, none, none, none, none, none, none, none, none],
            bx :=
              [{ elem := 36, row := Row.vals (List.flatten rs), total := tot, own := true : Box },
                { elem := 36, row := Row.vals (List.flatten rt), total := tot2, own := true : Box }],
            E := E : St })
  have hn := hx.len
  have lb : (ps.drop (l - q)).reverse.length = q := by rw [List.length_reverse, List.length_drop]; omega
  have hfl := hb.flat PR_ok
  have w1 : IntKind.wrap .i64 ((l : Int) - 1 - (q : Int) - 1) = (l : Int) - 1 - ((q + 1 : Nat) : Int) := by rw [wrap_i64 (by omega)]; omega
  rw [w1]
  refine condC (fun g => ?_) (fun g => ?_)
  · have g : q < l := by simp at g; omega
    obtain ⟨x, ex⟩ : ∃ x, ps[l - 1 - q]? = some x := ⟨_, List.getElem?_eq_getElem (by omega)⟩
    have ei : ((l : Int) - 1 - (q : Int)).toNat = l - 1 - q := by omega
    rw [ei]
    obtain ⟨r, e1, e2⟩ := hx.load ex
    subst e2
    have ed : (ps.drop (l - (q + 1))).reverse = (ps.drop (l - q)).reverse ++ [x] := by
      obtain ⟨hi', e⟩ := List.getElem?_eq_some_iff.1 ex
      rw [show l - (q + 1) = l - 1 - q from by omega, List.drop_eq_getElem_cons hi', e, List.reverse_cons, show l - 1 - q + 1 = l - q from by omega]
    refine req_intro (by omega) ⟨SL.nex PR_ok hx ex, x.1, x.2, e1, by show _ ≤ (List.map SV.raw _).length; rw [List.length_map, hfl]; omega, cb.2, cb.1, req_intro (by omega) (fun cap' tot' d1 d2 => ?_)⟩
    rw [flat_snoc PR_ok hb lb]
    exact Lp_re [some 0, some 3] (ih cap' tot' _ g (by rw [ed]; exact hb.snoc (x := x) (r := [.int .u8 x.1, .int .u8 x.2]) rfl) ⟨d1, d2⟩) ⟨⟨by simp, by simp, fun j h => absurd h (Nat.not_lt_zero _)⟩, rfl, (by repeat' first | exact True.intro | refine And.intro (Or.inl rfl) ?_ | refine And.intro (Or.inr ⟨rfl, rfl⟩) ?_), (by repeat' first | exact True.intro | exact rfl | exact Or.inl rfl | fail | refine And.intro ?_ ?_), (show List.Nodup [0, 3] from by decide), Mem.le_refl _⟩
  · have g : q = l := by simp at g; omega
    have e0 : (ps.drop (l - q)).reverse = ps.reverse := by rw [g, Nat.sub_self, List.drop_zero]
    rw [e0] at hb
    exact Ct_re [some 0, some 1] (Ct_intro okWL5 (pcP11 hx hk hl hb0 ha hb ma (fun z => List.mem_reverse) la (by rw [List.length_reverse]; omega) hpl g ca cb.1 hE h)) ⟨⟨by simp, by simp, fun j h => absurd h (Nat.not_lt_zero _)⟩, rfl, (by repeat' first | exact True.intro | refine And.intro (Or.inl rfl) ?_ | refine And.intro (Or.inr ⟨rfl, rfl⟩) ?_), (by repeat' first | exact True.intro | exact rfl | exact Or.inl rfl | fail | refine And.intro ?_ ?_), (show List.Nodup [0, 1] from by decide), Mem.le_refl _⟩
theorem lpP8 {b : Option Addr} {l c k p capp tot q capq tot2 : Nat} {rs rt : List (List Value)} {ps az : List (Int × Int)} {E0 : Mem} (hx : PS E b l c ps) (hk : k < l) (hl : l ≤ 60) (hb0 : ∀ x ∈ ps, 0 ≤ x.1 ∧ x.1 ≤ 255 ∧ 0 ≤ x.2 ∧ x.2 ≤ 255) (ha : SLr PR E rs az) (ma : ∀ x, x ∈ az ↔ x ∈ ps) (la : az.length = p) (hpl : p = l) (ca : p ≤ capp ∧ capp * 2 ≤ tot) (hb : SLr PR E rt (ps.drop (l - q)).reverse) (hq : q ≤ l) (cb : q ≤ capq ∧ capq * 2 ≤ tot2) (hE : Mem.le E0 E) (h : ∀ E' : Mem, Mem.le E0 E' → K (B true) E') : Lp WL5 8 Try.f5 [1, 1, 1, 1, 1, 1, 0, 1, 0] 0 (pubK E0 K) (shP8 b l c k p capp tot rs q capq tot2 rt E) :=
  Lp_ind okWL5 (fun y : {y : (Nat × Nat × Nat) × List (List Value) // y.1.1 ≤ l ∧ SLr PR E y.2 (ps.drop (l - y.1.1)).reverse ∧ (y.1.1 ≤ y.1.2.1 ∧ y.1.2.1 * 2 ≤ y.1.2.2)} => shP8 b l c k p capp tot rs y.1.1.1 y.1.1.2.1 y.1.1.2.2 y.1.2 E) (fun y => l - y.1.1.1)
    (fun y ih => rndP8 hx hk hl hb0 ha ma la hpl ca y.2.2.1 y.2.1 y.2.2.2 hE h fun capq tot2 rt g k1 k2 => ih ⟨((y.1.1.1 + 1, capq, tot2), rt), by show y.1.1.1 + 1 ≤ l; omega, k1, k2⟩ (by show l - (_ + 1) < l - _; omega)) ⟨((q, capq, tot2), rt), hq, hb, cb⟩
def shP5 (b : Option Addr) (l c : Nat) (k : Nat) (E : Mem) : St := ⟨[some (L b l c), none, none, none, none, some (B true), some (I (k : Nat)), none, none, none, none, none, none, none, none, none, none, none, none, none, none, none, none, none, none, none, none, none, none, none, none, none, none, none, none, none, none, none, none, none, none, none, none, none, none, none, none, none, none, none, none, none, none, none, none, none, none, none, none, none, none, none, none, none, none, none, none, none, none, none, none, none, none, none, none, none, none, none, none, none, none, none, none, none, none, none, none, none, none, none, none, none, none, none, none], [], E⟩
theorem pcP5 {b : Option Addr} {l c k : Nat} {ps : List (Int × Int)} {E0 : Mem} (hx : PS E b l c ps) (hk : k < l) (hl : l ≤ 60) (hb0 : ∀ x ∈ ps, 0 ≤ x.1 ∧ x.1 ≤ 255 ∧ 0 ≤ x.2 ∧ x.2 ≤ 255) (hE : Mem.le E0 E) (h : ∀ E' : Mem, Mem.le E0 E' → K (B true) E') : Pc WL5 8 Try.f5 [1, 1, 1, 1] 0 (pubK E0 K) (shP5 b l c k E) := by
  refine same (by kernel_rfl) (?_ : 
      req (l ≤ c)
        (req ((0 : Int) ≤ (↑k : Int) ∧ (↑k : Int) ≤ (↑(toN none l) : Int))
          (∀ (base' : Option Addr) (E' : Mem),
            Mem.le E E' →
              (∀ (cs : List Value),
                  E (Value.slice b l c) cs →
                    E'
                      (Value.slice base' (toN none l - toN (some (↑k : Int)) 0)
                        (toN none c - toN (some (↑k : Int)) 0))
                      (List.take ((toN none l - toN (some (↑k : Int)) 0) * 2)
                        (List.drop (toN (some (↑k : Int)) 0 * 2) cs))) →
                Option.isNone base' = Option.isNone b →
                  req (l ≤ c)
                    (req ((0 : Int) ≤ (↑k : Int) ∧ (↑k : Int) ≤ (↑(toN none c) : Int))
                      (∀ (base'_1 : Option Addr) (E'_1 : Mem),
                        Mem.le E' E'_1 →
                          (∀ (cs : List Value),
                              E' (Value.slice b l c) cs →
                                E'_1 (Value.slice base'_1 (toN (some (↑k : Int)) l - 0) (toN none c - 0))
                                  (List.take ((toN (some (↑k : Int)) l - 0) * 2) (List.drop 0 cs))) →
                            Option.isNone base'_1 = Option.isNone b →
                              ∃ (cs : List Value),
                                (cs = [] ∨
                                    E'_1
                                      (Value.slice base' (toN none l - toN (some (↑k : Int)) 0)
                                        (toN none c - toN (some (↑k : Int)) 0))
                                      cs) ∧
                                  (toN none l - toN (some (↑k : Int)) 0) * 2 ≤ List.length cs ∧
                                    (∀ (x : Value), List.Mem x cs → Value.oneCell' x = true) ∧
                                      0 ≤ 0 ∧
                                        0 ≤ 0 ∧
                                          0 ≤ 0 ∧
                                            req
                                              ((0 + (toN none l - toN (some (↑k : Int)) 0)) * 2 ≤
                                                140737488355328)
                                              (∀ (cap' tot' : Nat),
                                                0 + (toN none l - toN (some (↑k : Int)) 0) ≤ cap' →
                                                  cap' * 2 ≤ tot' →
                                                    ∃ (cs_1 : List Value),
                                                      (cs_1 = [] ∨
                                                          E'_1
                                                            (Value.slice base'_1 (toN (some (↑k : Int)) l - 0)
                                                              (toN none c - 0))
                                                            cs_1) ∧
                                                        (toN (some (↑k : Int)) l - 0) * 2 ≤ List.length cs_1 ∧
                                                          (∀ (x : Value), List.Mem x cs_1 → Value.oneCell' x = true) ∧
                                                            (0 + (toN none l - toN (some (↑k : Int)) 0)) *
                                                                  2 ≤
                                                                List.length
                                                                  (Row.cells
                                                                    (Row.vals
                                                                      ([] ++
                                                                        List.take
                                                                          ((toN none l - toN (some (↑k : Int)) 0) *
                                                                            2)
                                                                          cs))) ∧
                                                              cap' * 2 ≤ tot' ∧
                                                                0 + (toN none l - toN (some (↑k : Int)) 0) ≤
                                                                    cap' ∧
                                                                  req
                                                                    ((0 +
                                                                            (toN none l - toN (some (↑k : Int)) 0) +
                                                                          (toN (some (↑k : Int)) l - 0)) *
                                                                        2 ≤
                                                                      140737488355328)
                                                                    (∀ (cap'_1 tot' : Nat),
                                                                      0 +
                                                                              (toN none l - toN (some (↑k : Int)) 0) +
                                                                            (toN (some (↑k : Int)) l - 0) ≤
                                                                          cap'_1 →
                                                                        cap'_1 * 2 ≤ tot' →
                                                                          Lp WL5 8 Try.f5
                                                                            [1, 1, 1, 1,
                                                                              1, 1, 0, 1,
                                                                              0]
                                                                            0 (pubK E0 K)
                                                                            {
                                                                              fr :=
                                                                                [some (SV.raw (Value.slice b l c)), none, none, none, none, some (SV.raw (Value.bool true)), some (SV.raw (Value.int IntKind.i64 (↑k : Int))), some (SV.slc 2 0 (0 + (toN none l - toN (some (↑k : Int)) 0) + (toN (some (↑k : Int)) l - 0)) cap'_1), some (SV.raw (Value.slice none 0 0)), some (SV.raw (Value.int IntKind.i64 (IntKind.wrap IntKind.i64 ((↑l : Int) - (1 : Int))))), none, none, none, none, none, none, none, none, none, none, none, none, none, none, none, none, none, none, none, none, none, some (SV.slc 0 0 0 0), some (SV.raw (Value.slice b l c)), some (SV.raw (Value.int IntKind.i64 (↑k : Int))), some (SV.raw (Value.slice base' (toN none l - toN (some (↑k : Int)) 0) (toN none c - toN (some (↑k : Int)) 0))), some (SV.slc 1 0 (0 + (toN none l - toN (some (↑k : Int)) 0)) cap'), some (SV.raw (Value.slice b l c)), some (SV.raw (Value.int IntKind.i64 (↑k : Int))), some (SV.raw (Value.slice base'_1 (toN (some (↑k : Int)) l - 0) (toN none c - 0))), some (SV.slc 2 0 (0 + (toN none l - toN (some (↑k : Int)) 0) + (toN (some (↑k : Int)) l - 0)) cap'_1), some (SV.raw (Value.slice b l c)), some (SV.raw (Value.int IntKind.i64 (↑l : Int))), some (SV.raw (Value.int IntKind.i64 (IntKind.wrap IntKind.i64 ((↑l : Int) - (1 : Int))))), none, none, none, none, none, none, none, none, none, none, none, none, none, none, none, none, none, none, none, none, none, none, none, none, none, none, none, none, none, none, none, none, none, none, none, none, none, none, none, none, none, none, none, none, none, none, none, none, none, none, none, none],
                                                                              bx :=
                                                                                [{ elem := 36, row := Row.lst [],
                                                                                    total := 0, own := false : Box },
                                                                                  { elem := 36, row := Row.lst [],
                                                                                    total := 0, own := false : Box },
                                                                                  { elem := 36,
                                                                                    row :=
                                                                                      Row.vals
                                                                                        (List.take
                                                                                            ((0 +
                                                                                                (toN none l -
                                                                                                  toN (some (↑k : Int))
                                                                                                    0)) *
                                                                                              2)
                                                                                            ([] ++
                                                                                              List.take
                                                                                                ((toN none l -
                                                                                                    toN (some (↑k : Int))
                                                                                                      0) *
                                                                                                  2)
                                                                                                cs) ++
                                                                                          List.take
                                                                                            ((toN (some (↑k : Int)) l -
                                                                                                0) *
                                                                                              2)
                                                                                            cs_1),
                                                                                    total := tot', own := true : Box }],
                                                                              E := E'_1 : St })))))))
  have hn := hx.len
  have hcap := hx.cap
  have w : IntKind.wrap .i64 ((l : Int) - 1) = (l : Int) - 1 - ((0 : Nat) : Int) := by rw [wrap_i64 (by omega)]; omega
  rw [w]
  refine req_intro hcap (req_intro (by simp only [toN]; omega) (fun b3 E3 q3 f3 n3 => req_intro hcap (req_intro (by simp only [toN]; omega) (fun b4 E4 q4 f4 n4 => ?_))))
  have S1 := (SL.sub PR_ok (lo := k) (hi := l) hx q3 f3 n3 (by omega) (by omega)).mono PR_ok q4
  have S2 := SL.sub PR_ok (lo := 0) (hi := k) (hx.mono PR_ok q3) q4 (fun cs w => f4 cs w) n4 (by omega) (by omega)
  obtain ⟨rs1, u1, u2, u3, u4, u5⟩ := SL.src PR_ok S1
  obtain ⟨rs2, v1, v2, v3, v4, v5⟩ := SL.src PR_ok S2
  have fl1 := u1.flat PR_ok
  have fl2 := v1.flat PR_ok
  have n1 := S1.len
  have n2 := S2.len
  have e : List.take ((0 + (l - k)) * 2) ([] ++ List.take ((l - k) * 2) rs1.flatten) ++ List.take ((k - 0) * 2) rs2.flatten = (rs1 ++ rs2).flatten := by
    rw [List.nil_append, List.take_of_length_le (l := rs1.flatten) (by omega), List.take_of_length_le (by omega), List.take_of_length_le (by omega), List.flatten_append]
  have mz : ∀ x, x ∈ (ps.drop k).take (l - k) ++ (ps.drop 0).take (k - 0) ↔ x ∈ ps := fun x => by
    rw [List.take_of_length_le (l := ps.drop k) (by rw [List.length_drop]; omega), List.drop_zero, Nat.sub_zero, List.mem_append]
    have := List.mem_append (a := x) (s := ps.take k) (t := ps.drop k)
    rw [List.take_append_drop] at this
    rw [this]; exact Or.comm
  refine ⟨rs1.flatten, u2, u3, u4, Nat.le_refl _, Nat.le_refl _, Nat.le_refl _, req_intro (by simp only [toN]; omega) (fun cap1 tot1 c1 c2 => ⟨rs2.flatten, v2, v3, v4, ?_, c2, c1, req_intro (by simp only [toN]; omega) (fun cap2 tot2 d1 d2 => ?_)⟩)⟩
  · show (0 + (l - k)) * 2 ≤ (List.map SV.raw ([] ++ List.take ((l - k) * 2) rs1.flatten)).length
    rw [List.length_map, List.nil_append, List.length_take]; omega
  · have K1 := lpP8 (K := K) (p := 0 + (l - k) + (k - 0)) (capp := cap2) (tot := tot2) (q := 0) (capq := 0) (tot2 := 0) (rs := rs1 ++ rs2) (rt := []) ((hx.mono PR_ok q3).mono PR_ok q4) hk hl hb0 (u1.app v1) mz (by rw [List.length_append, n1, n2]; omega) (by omega) ⟨d1, d2⟩ (by rw [Nat.sub_zero, List.drop_eq_nil_of_le (by omega)]; exact SLr.nil) (Nat.zero_le _) ⟨Nat.le_refl _, Nat.le_refl _⟩ (Mem.le_trans hE (Mem.le_trans q3 q4)) h
    unfold shP8 at K1
    rw [← e] at K1
    exact Lp_re [some 2, none] (K1) ⟨⟨by simp, by simp, fun j h => absurd h (Nat.not_lt_zero _)⟩, rfl, (by repeat' first | exact True.intro | refine And.intro (Or.inl rfl) ?_ | refine And.intro (Or.inr ⟨rfl, rfl⟩) ?_), (by repeat' first | exact True.intro | exact rfl | exact Or.inl rfl | fail | refine And.intro ?_ ?_), (show List.Nodup [2] from by decide), Mem.le_refl _⟩
theorem e5 {b1 : Option Addr} {l1 : Nat} {c1 : Nat} {x1 : List (Int × Int)} {a1 : Int} (hc1 : l1 ≤ maxLen) (hS10 : PS E b1 l1 c1 x1) (hS11 : ∀ x ∈ x1, 0 ≤ x.1 ∧ x.1 ≤ 255 ∧ 0 ≤ x.2 ∧ x.2 ≤ 255) (ha1 : (Lit.int .u8 a1).wf = true) (h : ∀ E' : Mem, Mem.le E E' → K (B true) E') :
    Ent WL5 8 Try.f5 [L b1 l1 c1, .raw (.int .u8 a1)] E K := by
  refine same (by kernel_rfl) (?_ : 
      ∀ (E' : Mem),
        Mem.le E E' →
          Mem.le E E' ∧
            bif (↑l1 : Int) == (0 : Int) then Mem.le E E' ∧ K (SV.raw (Value.bool true)) E'
            else
              bif bif false then true else decide ((↑l1 : Int) > (60 : Int)) then
                Mem.le E E' ∧ K (SV.raw (Value.bool true)) E'
              else
                ((↑l1 : Int) = (0 : Int) → False) ∧
                  Ct WL5 8 Try.f5 [1, 1, 1, 1] 0 (pubK E K)
                    {
                      fr :=
                        [some (SV.raw (Value.slice b1 l1 c1)), some (SV.raw (Value.int IntKind.u8 a1)), none, none, some (SV.raw (Value.bool false)), some (SV.raw (Value.bool true)), some (SV.raw (Value.int IntKind.i64 (Int.tmod (IntKind.wrap IntKind.i64 a1) (↑l1 : Int)))), none, none, none, none, none, none, none, none, none, some (SV.raw (Value.bool true)), some (SV.raw (Value.slice b1 l1 c1)), some (SV.raw (Value.int IntKind.i64 (↑l1 : Int))), some (SV.raw (Value.bool ((↑l1 : Int) == (0 : Int)))), some (SV.raw (Value.bool false)), some (SV.raw (Value.slice b1 l1 c1)), some (SV.raw (Value.int IntKind.i64 (↑l1 : Int))), some (SV.raw (Value.bool (decide ((↑l1 : Int) > (60 : Int))))), some (SV.raw (Value.bool (bif false then true else decide ((↑l1 : Int) > (60 : Int))))), none, some (SV.raw (Value.int IntKind.u8 a1)), some (SV.raw (Value.int IntKind.i64 (IntKind.wrap IntKind.i64 a1))), some (SV.raw (Value.slice b1 l1 c1)), some (SV.raw (Value.int IntKind.i64 (↑l1 : Int))), some (SV.raw (Value.int IntKind.i64 (Int.tmod (IntKind.wrap IntKind.i64 a1) (↑l1 : Int)))), none, none, none, none, none, none, none, none, none, none, none, none, none, none, none, none, none, none, none, none, none, none, none, none, none, none, none, none, none, none, none, none, none, none, none, none, none, none, none, none, none, none, none, none, none, none, none, none, none, none, none, none, none, none, none, none, none, none, none, none, none, none, none, none],
                      bx := [], E := E' : St })
  have b2' : 0 ≤ a1 ∧ a1 ≤ 255 := by simpa [Lit.wf, IntKind.min, IntKind.max, IntKind.signed, IntKind.bits] using ha1
  have hn := hS10.len
  intro E1 q1
  refine ⟨q1, condC (fun g => ⟨q1, h E1 q1⟩) (fun g => condC (fun g2 => ⟨q1, h E1 q1⟩) (fun g2 => ⟨fun w => by simp at g w; omega, ?_⟩))⟩
  have g : ¬ l1 = 0 := by simp at g; omega
  have g2 : l1 ≤ 60 := by simp at g2; omega
  have t : Int.tmod (IntKind.wrap .i64 a1) (l1 : Int) = ((a1.toNat % l1 : Nat) : Int) := by
    rw [wrap_i64 (by omega), Int.tmod_eq_emod_of_nonneg b2'.1, Int.natCast_emod]
    congr 1; omega
  rw [t]
  exact Ct_re [] (Ct_intro okWL5 (pcP5 (K := K) (k := a1.toNat % l1) (hS10.mono PR_ok q1) (Nat.mod_lt _ (by omega)) g2 hS11 q1 h)) ⟨⟨by simp, by simp, fun j h => absurd h (Nat.not_lt_zero _)⟩, rfl, (by repeat' first | exact True.intro | refine And.intro (Or.inl rfl) ?_ | refine And.intro (Or.inr ⟨rfl, rfl⟩) ?_), (by repeat' first | exact True.intro | exact rfl | exact Or.inl rfl | fail | refine And.intro ?_ ?_), (show List.Nodup [] from by decide), Mem.le_refl _⟩


theorem opn5 (W : World) (K : List SV → Prop) (h : ∀ (b1 : Option Addr) (l1 c1 : Nat) (z1 : List (List Value)), (l1 ≤ c1) → (c1 ≤ maxLen) → (b1 = none → c1 = 0) → (z1.length = c1) → RowAt W (.slice b1 l1 c1) z1.flatten → (∀ r ∈ z1, r.length = 2 ∧ Shp Try.prog W 12 36 r) → ∀ a1 : Int, (Lit.int .u8 a1).wf = true → K [L b1 l1 c1, .raw (.int .u8 a1)]) : opnAll Try.prog W Try.f5.params.toList K :=
  same (by kernel_rfl) h

theorem sem5 (W : World) : opnAll Try.prog W Try.f5.params.toList fun ss => TabSem Try.prog 5 ss (fun v cs => RowAt W v cs) fun r _ => r = .raw (.bool true) := by
  refine opn5 W _ ?_
  intro b1 l1 c1 z1 hl1 hc1 hb1 hz1 hE1 hr1 a1 ha1
  exact Ent.sem okWL5 Try.func5 ⟨by kernel_rfl, by kernel_rfl⟩ rfl (e5 (Nat.le_trans hl1 hc1) (PSof hl1 hb1 hz1 hE1 hr1).choose_spec.1 (PSof hl1 hb1 hz1 hE1 hr1).choose_spec.2 ha1 (fun _ _ => rfl))

theorem lifted5 (os : Os) (started : os.Started) (H : Type) (enc : TypeId × Value → H) :
    ReturnsInHanded {} Try.checked os 5 .any (Rows.seenOrderSpec.pre6 enc Try.prog Try.f5 Rows.seenOrderRow.domain false) (Rows.seenOrderSpec.post enc Try.prog Try.f5 false true false false) :=
  lift_true (C := Try.checked) (by kernel_rfl) (by kernel_rfl) started (by kernel_rfl) Try.func5
    (ChangeSpec.witness6 (enc := enc) (C := Try.checked) false ⟨#[], #[.slice none 0 0, .int .u8 0], []⟩ 8 (by kernel_rfl) (by kernel_rfl) (by kernel_rfl) (by kernel_rfl))
    (Tb := 4) (by kernel_rfl) (by kernel_rfl) (by kernel_rfl) rfl
    (fun ds hl => by
      match ds, hl with
      | [d0, d1], _ => exact ⟨rfl, rfl, rfl⟩)
    sem5

theorem over5 : Rows.seenOrderRow.holds Try.pinned (OpenSpec.ofChange Rows.seenOrderSpec) :=
  OpenClaim.holds_of_wide 5 Try.f5 rfl rfl rfl rfl rfl rfl rfl ⟨rfl, rfl, rfl, rfl, rfl⟩ rfl rfl rfl rfl rfl (by kernel_rfl) Try.func5 (by kernel_rfl)
    (of_decide_eq_true (by kernel_rfl)) (by unfold Func.isWrapper; first | (rw [if_pos (by decide +kernel)]; kernel_rfl) | (rw [if_neg (by decide +kernel)]; exact ⟨rfl, rfl⟩))
    (fun os started H enc _ => lifted5 os started H enc)

theorem proved5 : Rows.SeenOrderSaid := over5
end Go.Proofs.Ytjibgfihfbdcaaa.SeenOwn
