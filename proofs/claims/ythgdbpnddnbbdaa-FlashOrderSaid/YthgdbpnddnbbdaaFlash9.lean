/- The flash package: what its functions answer. -/
import Derived.Test.YthgdbpnddnbbdaaFlash8
namespace Go.Proofs.Ythgdbpnddnbbdaa.FlashOwn
open Go Go.Sx
set_option maxRecDepth 100000
set_option maxHeartbeats 4000000
set_option linter.unusedVariables false
set_option linter.unusedSimpArgs false
variable {E : Mem} {K : SV → Mem → Prop}

theorem loadW_row {rs : List FRow} {i : Nat} {r : FRow} (h : rs[i]? = some r) : loadW Try.prog 24 ((rs.flatMap rowV).map .raw) (i * 2) = some (.agg [I r.1, L r.2.1 r.2.2.1 r.2.2.2]) := by
  have key : ∀ (rs : List FRow) (i : Nat), rs[i]? = some r → (((rs.flatMap rowV).map SV.raw).drop (i * 2)).take 2 = [I r.1, L r.2.1 r.2.2.1 r.2.2.2] := by
    intro rs
    induction rs with
    | nil => intro i h; simp at h
    | cons x rs ih =>
      intro i h
      cases i with
      | zero => simp at h; subst h; simp [rowV]
      | succ i =>
        have := ih i (by simpa using h)
        rw [show (i + 1) * 2 = i * 2 + 2 by omega, List.flatMap_cons, List.map_append, List.drop_append, List.drop_eq_nil_of_le (by simp [rowV]), List.nil_append]
        simpa [rowV] using this
  have hu : (match Try.prog.underlying 24 with | some (.struct _) => true | _ => false) = true := by kernel_rfl
  have hi : (Try.prog.info? 24).map (·.size) = some 2 := by kernel_rfl
  unfold loadW
  split at hu
  · rename_i fs hfs
    rw [hfs]
    cases hinf : Try.prog.info? 24 with
    | none => rw [hinf] at hi; cases hi
    | some inf =>
      rw [hinf] at hi
      simp only [Option.map_some, Option.some.injEq] at hi
      simp only [hi, key rs i h]
      rfl
  · cases hu
noncomputable def tab29 : FuncId → List SV → Mem → (SV → Mem → Prop) → Prop := fun f args E K => match f with
  | 29 => d3 args fun x0 x1 x2 => dC x0 fun l1 => d2 l1 fun x0_0 x0_1 => dI x0_0 fun a1 => dS x0_1 fun b2 l3 c4 => dI x1 fun a5 => dN .u8 x2 fun a6 => ∃ (zs : List Int), Bs E b2 l3 c4 zs ∧ l3 ≤ 100000 ∧ (0 ≤ a5 ∧ a5 < l3) ∧ (0 ≤ a6 ∧ a6 ≤ 255) ∧ (∀ (b' : Option Addr) (l' c' : Nat) (ys : List Int) (E' : Mem), Mem.le E E' → Hyp (zs.set (Int.toNat a5) a6 = ys) → Bs E' b' l' c' ys → K (.agg [I a1, L b' l' c']) E')
  | 19 => d1 args fun x0 => dC x0 fun l1 => d2 l1 fun x0_0 x0_1 => dI x0_0 fun a1 => dS x0_1 fun b2 l3 c4 => (K (B (decide (validF a1 l3))) E)
  | _ => False
theorem tab29_ok : TabOK Try.prog tab29 := by
  intro f args E K h
  unfold tab29 at h
  split at h
  · replace h := d3_elim h
    obtain ⟨x0, x1, x2, rfl, h⟩ := h
    replace h := dC_elim h
    obtain ⟨l1, hl1, h⟩ := h
    replace h := d2_elim h
    obtain ⟨x0_0, x0_1, rfl, h⟩ := h
    replace h := dI_elim h
    obtain ⟨a1, rfl, h⟩ := h
    replace h := dS_elim h
    obtain ⟨b2, l3, c4, rfl, h⟩ := h
    replace h := dI_elim h
    obtain ⟨a5, rfl, h⟩ := h
    replace h := dN_elim h
    obtain ⟨a6, rfl, h⟩ := h
    obtain ⟨zs, g0, g1, g2, g3, h⟩ := h
    exact TabSem.congr (valL_cons (asCells_val hl1) (valL_cons rfl (valL_cons rfl rfl))) (Ent.sem okFB Try.func29 ⟨by kernel_rfl, by kernel_rfl⟩ rfl (s29 g0 g1 g2 g3 h))
  · replace h := d1_elim h
    obtain ⟨x0, rfl, h⟩ := h
    replace h := dC_elim h
    obtain ⟨l1, hl1, h⟩ := h
    replace h := d2_elim h
    obtain ⟨x0_0, x0_1, rfl, h⟩ := h
    replace h := dI_elim h
    obtain ⟨a1, rfl, h⟩ := h
    replace h := dS_elim h
    obtain ⟨b2, l3, c4, rfl, h⟩ := h
    exact TabSem.congr (valL_cons (asCells_val hl1) rfl) (Ent.sem okF5 Try.func19 ⟨by kernel_rfl, by kernel_rfl⟩ rfl (s19 h))
  · exact h.elim
noncomputable def FC : Cx := { P := Try.prog, inl := fun f => List.contains [] f, tab := tab29, isB := fun _ => false, tabB := fun _ _ _ _ _ => False, opt := { unroll := 0, carry := [8, 9] }, muts := mutsD }
theorem okFC : CxOK FC := CxOK.four tab29_ok (by kernel_rfl) (okInl (by kernel_rfl)) (fun _ _ _ _ _ h => h.elim)

def sh15 (s : Int) (a : Nat) (b db : Option Addr) (l c dl dc i cap tot : Nat) (rs : List FRow) (E : Mem) : St := ⟨[none, some (I (a : Nat)), some (L db dl dc), none, none, none, none, none, some (.slc 1 0 (i + 1) cap), some (I (i : Nat))] ++ List.replicate 56 none, [⟨24, .lst [I s, L b l c], 2, true⟩, ⟨24, .vals (rs.flatMap rowV), tot, true⟩], E⟩
theorem rnd15 {s : Int} {a : Nat} {b db : Option Addr} {l c dl dc i cap tot : Nat} {rs : List FRow} {E0 : Mem} {K : SV → Mem → Prop} {zs ds : List Int} (hd : Bs E0 db dl dc ds) (hl : 1 ≤ l ∧ l ≤ 16384 ∧ a + dl ≤ l) (hz : zs.length = l) (hi : i ≤ dl) (hc : i + 1 ≤ cap ∧ cap * 2 ≤ tot) (hE : Mem.le E0 E) (hr : FLr E rs (mems s (gP ds) a zs (i + 1)))
    (hK : ∀ (b : Option Addr) (c : Nat) (E' : Mem), Mem.le E0 E' → FL E' b (dl + 1) c (mems s (gP ds) a zs (dl + 1)) → K (.tup [L b (dl + 1) c, I 0]) E')
    (ih : ∀ (cap tot : Nat) (rs : List FRow) (E' : Mem), i < dl → i + 1 + 1 ≤ cap ∧ cap * 2 ≤ tot → Mem.le E0 E' → FLr E' rs (mems s (gP ds) a zs (i + 1 + 1)) → Lp FC 8 Try.f15 [1, 1, 1, 1, 0, 1, 0] 0 (pubK E0 K) (sh15 s a b db l c dl dc (i + 1) cap tot rs E')) : Rnd FC 8 Try.f15 [1, 1, 1, 1, 0, 1, 0] 0 (pubK E0 K) (sh15 s a b db l c dl dc i cap tot rs E) := by
  refine same (by kernel_rfl) (?_ : 
      bif decide ((↑i : Int) < (↑dl : Int)) then
        req ((0 : Int) ≤ (↑i : Int) ∧ (↑i : Int) < (↑(i + 1) : Int))
          (∃ (n : Int),
            ∃ (base : Option Addr),
              ∃ (len : Nat),
                ∃ (cap_1 : Nat),
                  LoadV FC.P 24 (List.flatMap rowV rs) (0 + Int.toNat (↑i : Int) * 2)
                      (SV.agg [SV.raw (Value.int IntKind.i64 n), SV.raw (Value.slice base len cap_1)]) ∧
                    req
                      ((0 : Int) ≤ IntKind.wrap IntKind.i64 ((↑a : Int) + (↑i : Int)) ∧
                        IntKind.wrap IntKind.i64 ((↑a : Int) + (↑i : Int)) < (↑len : Int))
                      ((∃ (cs : List Value), E (Value.slice base len cap_1) cs ∧ (cs = [] → False)) ∧
                        ∃ (n_1 : Int),
                          LoadE FC.P E 5 (Value.slice base len cap_1)
                              (Int.toNat (IntKind.wrap IntKind.i64 ((↑a : Int) + (↑i : Int))) * 1)
                              (SV.raw (Value.int IntKind.u8 n_1)) ∧
                            req ((0 : Int) ≤ (↑i : Int) ∧ (↑i : Int) < (↑dl : Int))
                              ((∃ (cs : List Value), E (Value.slice db dl dc) cs ∧ (cs = [] → False)) ∧
                                ∃ (n_2 : Int),
                                  LoadE FC.P E 5 (Value.slice db dl dc) (Int.toNat (↑i : Int) * 1)
                                      (SV.raw (Value.int IntKind.u8 n_2)) ∧
                                    IntKind.u8 = IntKind.u8 ∧
                                      ∃ (zs : List Int),
                                        Bs E base len cap_1 zs ∧
                                          len ≤ 100000 ∧
                                            ((0 : Int) ≤ IntKind.wrap IntKind.i64 ((↑a : Int) + (↑i : Int)) ∧
                                                IntKind.wrap IntKind.i64 ((↑a : Int) + (↑i : Int)) < (↑len : Int)) ∧
                                              ((0 : Int) ≤
                                                    IntKind.wrap IntKind.u8
                                                      (↑(BitVec.toNat
                                                            (BitVec.ofInt (IntKind.bits IntKind.u8) n_1 &&&
                                                              BitVec.ofInt (IntKind.bits IntKind.u8) n_2)) :
                                                        Int) ∧
                                                  IntKind.wrap IntKind.u8
                                                      (↑(BitVec.toNat
                                                            (BitVec.ofInt (IntKind.bits IntKind.u8) n_1 &&&
                                                              BitVec.ofInt (IntKind.bits IntKind.u8) n_2)) :
                                                        Int) ≤
                                                    (255 : Int)) ∧
                                                ∀ (b' : Option Addr) (l' c' : Nat) (ys : List Int) (E' : Mem),
                                                  Mem.le E E' →
                                                    Hyp
                                                        (List.set zs
                                                            (Int.toNat (IntKind.wrap IntKind.i64 ((↑a : Int) + (↑i : Int))))
                                                            (IntKind.wrap IntKind.u8
                                                              (↑(BitVec.toNat
                                                                    (BitVec.ofInt (IntKind.bits IntKind.u8) n_1 &&&
                                                                      BitVec.ofInt (IntKind.bits IntKind.u8) n_2)) :
                                                                Int)) =
                                                          ys) →
                                                      Bs E' b' l' c' ys →
                                                        Mem.le E E' ∧
                                                          (i + 1) * 2 ≤
                                                              List.length (Row.cells (Row.vals (List.flatMap rowV rs))) ∧
                                                            cap * 2 ≤ tot ∧
                                                              i + 1 ≤ cap ∧
                                                                req
                                                                  ((i + 1 + 1) * 32 ≤
                                                                    140737488355328)
                                                                  (∀ (cap' tot' : Nat),
                                                                    i + 1 + 1 ≤ cap' →
                                                                      cap' * 2 ≤ tot' →
                                                                        Lp FC 8 Try.f15
                                                                          [1, 1, 1, 1,
                                                                            0, 1, 0]
                                                                          0 (pubK E0 K)
                                                                          {
                                                                            fr :=
                                                                              [none,
                                                                                some
                                                                                  (SV.raw (Value.int IntKind.i64 (↑a : Int))),
                                                                                some (SV.raw (Value.slice db dl dc)), none,
                                                                                none, none, none, none,
                                                                                some
                                                                                  (SV.slc 4 0
                                                                                    (i + 1 + 1) cap'),
                                                                                some
                                                                                  (SV.raw
                                                                                    (Value.int IntKind.i64
                                                                                      (IntKind.wrap IntKind.i64
                                                                                        ((↑i : Int) + (1 : Int))))),
                                                                                none, none, none, none, none, none, none,
                                                                                none, none, none, none, none, none, none,
                                                                                none, none, none, none, none, none, none,
                                                                                none, none, none, none, none, none, none,
                                                                                none, none, none, none, none, none, none,
                                                                                none, none, none, none, none, none, none,
                                                                                none, none, none, none, none, none, none,
                                                                                none, none, none, none, none, none, none],
                                                                            bx :=
                                                                              [{ elem := 24,
                                                                                  row :=
                                                                                    Row.lst
                                                                                      [SV.raw (Value.int IntKind.i64 s),
                                                                                        SV.raw (Value.slice b l c)],
                                                                                  total := 2, own := true : Box },
                                                                                { elem := 24, row := Row.lst [],
                                                                                  total := 0, own := false : Box },
                                                                                { elem := 24,
                                                                                  row :=
                                                                                    Row.lst
                                                                                      [SV.raw (Value.int IntKind.i64 n),
                                                                                        SV.raw (Value.slice base len cap_1)],
                                                                                  total := 2, own := true : Box },
                                                                                { elem := 24,
                                                                                  row :=
                                                                                    Row.lst
                                                                                      [SV.raw (Value.int IntKind.i64 n),
                                                                                        SV.raw (Value.slice b' l' c')],
                                                                                  total := 2, own := true : Box },
                                                                                { elem := 24,
                                                                                  row :=
                                                                                    Row.vals
                                                                                      (List.take ((i + 1) * 2)
                                                                                          (List.flatMap rowV rs) ++
                                                                                        [Value.int IntKind.i64 n,
                                                                                          Value.slice b' l' c']),
                                                                                  total := tot', own := true : Box }],
                                                                            E := E' : St }))))
      else
        ∀ (base : Option Addr) (E' : Mem),
          Mem.le E E' →
            WinE E' base (List.flatMap rowV rs) →
              Mem.le E0 E' ∧
                K
                  (SV.tup
                    [SV.raw (Value.slice (Option.map (fun (x : Addr) => Addr.add x 0) base) (i + 1) cap),
                      SV.raw (Value.int IntKind.i64 (0 : Int))])
                  E')
  have hrl : rs.length = i + 1 := by rw [hr.1, mems_len]
  obtain ⟨r, er⟩ : ∃ r, rs[i]? = some r := ⟨_, List.getElem?_eq_getElem (by omega)⟩
  have em : (mems s (gP ds) a zs (i + 1))[i]? = some (s, stp (gP ds) a zs i) := by simp [mems]
  obtain ⟨q1, hB⟩ := hr.2 i r _ er em
  have hzl : (stp (gP ds) a zs i).length = l := by rw [stp_len, hz]
  have hbl := hB.2.1
  rw [hzl] at hbl
  refine condC (fun g => ?_) (fun g => ?_)
  · have g : i < dl := by simpa using g
    have eai : IntKind.wrap .i64 ((a : Int) + (i : Int)) = ((a + i : Nat) : Int) := by rw [wrap_i64 (by omega)]; simp
    have ei1 : IntKind.wrap .i64 ((i : Int) + 1) = ((i + 1 : Nat) : Int) := by rw [wrap_i64 (by omega)]; simp
    rw [eai, ei1]
    refine req_intro (by omega) ⟨r.1, r.2.1, r.2.2.1, r.2.2.2, ?_, req_intro (by omega) ⟨hB.ne (i := a + i) (by omega), (stp (gP ds) a zs i).getD (a + i) 0, ?_, req_intro (by omega) ⟨(hd.mono hE).ne (i := i) g, ds.getD i 0, (hd.mono hE).load (i := i) rfl g, rfl, stp (gP ds) a zs i, hB, by omega, by omega, wu8b _, ?_⟩⟩⟩
    · show loadW Try.prog 24 _ _ = _
      rw [show 0 + Int.toNat (i : Int) * 2 = i * 2 by omega]
      exact loadW_row er
    · exact hB.load (i := a + i) rfl (by omega)
    intro b' l' c' ys E' hE' hys hB'
    have hB' : Bs E' b' l' c' ys := hB'
    have hys : ys = stp (gP ds) a zs (i + 1) := by rw [← (show _ = ys from hys), Int.toNat_natCast]; rfl
    refine ⟨hE', by show _ ≤ (List.map SV.raw _).length; rw [List.length_map, rows_len, hrl]; exact Nat.le_refl _, hc.2, hc.1, req_intro (by omega) (fun cap' tot' c1 c2 => ?_)⟩
    have e : List.take ((i + 1) * 2) (rs.flatMap rowV) ++ [Value.int IntKind.i64 r.1, Value.slice b' l' c'] = (rs ++ [(r.1, b', l', c')]).flatMap rowV := by
      rw [rows_snoc, List.take_of_length_le (by rw [rows_len]; omega)]; rfl
    rw [e]
    refine Lp_re [some 0, some 4] (ih cap' tot' _ E' g ⟨c1, c2⟩ (Mem.le_trans hE hE') ?_) ⟨⟨by simp, by simp, fun j h => absurd h (Nat.not_lt_zero _)⟩, rfl, (by repeat' first | exact True.intro | refine And.intro (Or.inl rfl) ?_), (by repeat' first | exact True.intro | exact rfl | exact Or.inl rfl | fail | refine And.intro ?_ ?_), (show List.Nodup [0, 4] from by decide), Mem.le_refl _⟩
    rw [mems_succ _ _ _ _ (i + 1)]
    exact (hr.mono hE').snoc q1 (by rw [← hys]; exact hB')
  · have g : i = dl := by simp at g; omega
    subst g
    intro base E' hE' hW
    exact ⟨Mem.le_trans hE hE', hK _ _ E' (Mem.le_trans hE hE') (FL.win hW rfl (hr.mono hE') (by simp [mems_len]) hc.1)⟩
theorem lp15 {s : Int} {a : Nat} {b db : Option Addr} {l c dl dc i cap tot : Nat} {rs : List FRow} {E0 : Mem} {K : SV → Mem → Prop} {zs ds : List Int} (hd : Bs E0 db dl dc ds) (hl : 1 ≤ l ∧ l ≤ 16384 ∧ a + dl ≤ l) (hz : zs.length = l)
    (hK : ∀ (b : Option Addr) (c : Nat) (E' : Mem), Mem.le E0 E' → FL E' b (dl + 1) c (mems s (gP ds) a zs (dl + 1)) → K (.tup [L b (dl + 1) c, I 0]) E') {E : Mem} (hi : i ≤ dl) (hc : i + 1 ≤ cap ∧ cap * 2 ≤ tot) (hE : Mem.le E0 E) (hr : FLr E rs (mems s (gP ds) a zs (i + 1))) :
    Lp FC 8 Try.f15 [1, 1, 1, 1, 0, 1, 0] 0 (pubK E0 K) (sh15 s a b db l c dl dc i cap tot rs E) :=
  Lp_ind okFC (fun x : {x : Nat × Nat × Nat × List FRow × Mem // x.1 ≤ dl ∧ (x.1 + 1 ≤ x.2.1 ∧ x.2.1 * 2 ≤ x.2.2.1) ∧ Mem.le E0 x.2.2.2.2 ∧ FLr x.2.2.2.2 x.2.2.2.1 (mems s (gP ds) a zs (x.1 + 1))} => sh15 s a b db l c dl dc x.1.1 x.1.2.1 x.1.2.2.1 x.1.2.2.2.1 x.1.2.2.2.2) (fun x => dl - x.1.1)
    (fun x ih => rnd15 hd hl hz x.2.1 x.2.2.1 x.2.2.2.1 x.2.2.2.2 hK fun cap tot rs E' g h1 h2 h3 => ih ⟨(x.1.1 + 1, cap, tot, rs, E'), by show x.1.1 + 1 ≤ dl; omega, h1, h2, h3⟩ (by show dl - (_ + 1) < dl - _; omega)) ⟨(i, cap, tot, rs, E), hi, hc, hE, hr⟩
theorem s15 {a1 : Int} {b2 : Option Addr} {l3 : Nat} {c4 : Nat} {a5 : Int} {b6 : Option Addr} {l7 : Nat} {c8 : Nat} {zs : List Int} {ds : List Int} (h0 : Bs E b2 l3 c4 zs) (h1 : Bs E b6 l7 c8 ds) (h : ∀ (b' : Option Addr) (l' c' : Nat) (ms : List (Int × List Int)) (e : Int) (E' : Mem), Mem.le E E' → Hyp (progF a1 zs a5 ds = (ms, e)) → FL E' b' l' c' ms → K (.tup [L b' l' c', I e]) E') :
    Ent FC 8 Try.f15 [.agg [I a1, L b2 l3 c4], I a5, L b6 l7 c8] E K := by
  refine same (by kernel_rfl) (?_ : 
      Mem.le E E ∧
        bif !decide (validF a1 l3) then
          Mem.le E E ∧ K (SV.tup [SV.raw (Value.slice none 0 0), SV.raw (Value.int IntKind.i64 (1 : Int))]) E
        else
          bif bif false then true else decide (a5 < (0 : Int)) then
            Mem.le E E ∧
              K (SV.tup [SV.raw (Value.slice none 0 0), SV.raw (Value.int IntKind.i64 (1 : Int))]) E
          else
            bif decide (a5 > (↑l3 : Int)) then
              Mem.le E E ∧
                K (SV.tup [SV.raw (Value.slice none 0 0), SV.raw (Value.int IntKind.i64 (3 : Int))]) E
            else
              bif bif false then true else decide ((↑l7 : Int) > IntKind.wrap IntKind.i64 ((↑l3 : Int) - a5)) then
                Mem.le E E ∧
                  K (SV.tup [SV.raw (Value.slice none 0 0), SV.raw (Value.int IntKind.i64 (3 : Int))]) E
              else
                Lp FC 8 Try.f15 [1, 1, 1, 1, 0, 1, 0]
                  0 (pubK E K)
                  {
                    fr :=
                      [some (SV.agg [SV.raw (Value.int IntKind.i64 a1), SV.raw (Value.slice b2 l3 c4)]),
                        some (SV.raw (Value.int IntKind.i64 a5)), some (SV.raw (Value.slice b6 l7 c8)),
                        some (SV.loc 0 0), none, none, some (SV.raw (Value.slice none 0 0)),
                        some (SV.raw (Value.int IntKind.i64 (0 : Int))),
                        some (SV.slc 1 0 1 1),
                        some (SV.raw (Value.int IntKind.i64 (0 : Int))), none,
                        some (SV.agg [SV.raw (Value.int IntKind.i64 a1), SV.raw (Value.slice b2 l3 c4)]),
                        some (SV.raw (Value.bool (decide (validF a1 l3)))), some (SV.raw (Value.bool !decide (validF a1 l3))),
                        some (SV.raw (Value.bool false)), some (SV.raw (Value.int IntKind.i64 a5)),
                        some (SV.raw (Value.bool (decide (a5 < (0 : Int))))),
                        some (SV.raw (Value.bool (bif false then true else decide (a5 < (0 : Int))))),
                        some (SV.raw (Value.int IntKind.i64 a5)), some (SV.loc 0 1),
                        some (SV.raw (Value.slice b2 l3 c4)), some (SV.raw (Value.int IntKind.i64 (↑l3 : Int))),
                        some (SV.raw (Value.bool (decide (a5 > (↑l3 : Int))))), some (SV.raw (Value.bool false)),
                        some (SV.raw (Value.slice b6 l7 c8)), some (SV.raw (Value.int IntKind.i64 (↑l7 : Int))),
                        some (SV.loc 0 1), some (SV.raw (Value.slice b2 l3 c4)),
                        some (SV.raw (Value.int IntKind.i64 (↑l3 : Int))), some (SV.raw (Value.int IntKind.i64 a5)),
                        some (SV.raw (Value.int IntKind.i64 (IntKind.wrap IntKind.i64 ((↑l3 : Int) - a5)))),
                        some (SV.raw (Value.bool (decide ((↑l7 : Int) > IntKind.wrap IntKind.i64 ((↑l3 : Int) - a5))))),
                        some
                          (SV.raw
                            (Value.bool
                              (bif false then true else decide ((↑l7 : Int) > IntKind.wrap IntKind.i64 ((↑l3 : Int) - a5))))),
                        some (SV.agg [SV.raw (Value.int IntKind.i64 a1), SV.raw (Value.slice b2 l3 c4)]),
                        some (SV.slc 1 0 1 1), none, none, none, none, none, none, none, none,
                        none, none, none, none, none, none, none, none, none, none, none, none, none, none, none, none, none,
                        none, none, none, none, none, none],
                    bx :=
                      [{ elem := 24,
                          row := Row.lst [SV.raw (Value.int IntKind.i64 a1), SV.raw (Value.slice b2 l3 c4)],
                          total := 2, own := true : Box },
                        { elem := 24,
                          row := Row.lst [SV.raw (Value.int IntKind.i64 a1), SV.raw (Value.slice b2 l3 c4)],
                          total := 2, own := true : Box }],
                    E := E : St })
  have hz := h0.2.1
  have hd := h1.2.1
  have ex : ∀ {ms : List (Int × List Int)} {e : Int}, progF a1 zs a5 ds = (ms, e) → (∀ (b' : Option Addr) (l' c' : Nat) (E' : Mem), Mem.le E E' → FL E' b' l' c' ms → K (.tup [L b' l' c', I e]) E') := fun he b' l' c' E' hE hF => h b' l' c' _ _ E' hE he hF
  unfold progF at ex
  rw [hz, hd] at ex
  refine ⟨Mem.le_refl _, condC (fun g => ?_) (fun g => ?_)⟩
  · have g : ¬ validF a1 l3 := by simpa using g
    exact ⟨Mem.le_refl _, ex (if_pos (.inl g)) none 0 0 E (Mem.le_refl _) (FL.nil _)⟩
  have g : validF a1 l3 := by simpa using g
  have gl := g
  unfold validF at gl
  refine condC (fun g1 => ?_) (fun g1 => ?_)
  · exact ⟨Mem.le_refl _, ex (if_pos (.inr (by simpa using g1))) none 0 0 E (Mem.le_refl _) (FL.nil _)⟩
  have g1 : 0 ≤ a5 := by simpa using g1
  rw [if_neg (by simp only [not_or, Decidable.not_not]; exact ⟨g, by omega⟩)] at ex
  refine condC (fun g2 => ?_) (fun g2 => ?_)
  · exact ⟨Mem.le_refl _, ex (if_pos (.inl (by simpa using g2))) none 0 0 E (Mem.le_refl _) (FL.nil _)⟩
  have g2 : a5 ≤ l3 := by simpa using g2
  rw [wrap_i64 (x := (l3 : Int) - a5) (by omega)]
  refine condC (fun g3 => ?_) (fun g3 => ?_)
  · exact ⟨Mem.le_refl _, ex (if_pos (.inr (by simpa using g3))) none 0 0 E (Mem.le_refl _) (FL.nil _)⟩
  have g3 : (l7 : Int) ≤ l3 - a5 := by simpa using g3
  rw [if_neg (by omega)] at ex
  obtain ⟨a, rfl⟩ : ∃ a : Nat, a5 = a := ⟨a5.toNat, by omega⟩
  refine Lp_re [some 0, some 1] (lp15 (s := a1) (a := a) (b := b2) (l := l3) (c := c4) (i := 0) (cap := 1) (tot := 2) (rs := [(a1, b2, l3, c4)]) (zs := zs) h1 ⟨by omega, by omega, by omega⟩ hz (fun b c E' hE hF => ex (by rw [Int.toNat_natCast]) b _ c E' hE hF) (Nat.zero_le _) ⟨by omega, by omega⟩ (Mem.le_refl _) ?_) ⟨⟨by simp, by simp, fun j h => absurd h (Nat.not_lt_zero _)⟩, rfl, (by repeat' first | exact True.intro | refine And.intro (Or.inl rfl) ?_), (by repeat' first | exact True.intro | exact rfl | exact Or.inl rfl | fail | refine And.intro ?_ ?_), (show List.Nodup [0, 1] from by decide), Mem.le_refl _⟩
  exact (FLr.nil E).snoc (r := (a1, b2, l3, c4)) (m := (a1, zs)) rfl h0
noncomputable def FD : Cx := { P := Try.prog, inl := fun f => List.contains [] f, tab := tab29, isB := fun _ => false, tabB := fun _ _ _ _ _ => False, opt := { unroll := 0, carry := [6, 7] }, muts := mutsD }
theorem okFD : CxOK FD := CxOK.four tab29_ok (by kernel_rfl) (okInl (by kernel_rfl)) (fun _ _ _ _ _ h => h.elim)

def sh17' (m : Nat) (k : Int) (b : Option Addr) (l c i cap tot : Nat) (rs : List FRow) (E : Mem) : St := ⟨[none, some (I k), some (.loc 0 0), none, none, none, some (.slc 1 0 (i + 1) cap), some (I (i : Nat))] ++ List.replicate 40 none, [⟨24, .lst [I (m : Nat), L b l c], 2, true⟩, ⟨24, .vals (rs.flatMap rowV), tot, true⟩], E⟩
theorem rnd17 {m a : Nat} {k : Int} {b : Option Addr} {l c i cap tot : Nat} {rs : List FRow} {E0 : Mem} {K : SV → Mem → Prop} {zs : List Int} (hk : k * (m : Int) = a) (hl : 1 ≤ l ∧ l ≤ 16384 ∧ a + m ≤ l) (hz : zs.length = l) (hi : i ≤ m) (hc : i + 1 ≤ cap ∧ cap * 2 ≤ tot) (hE : Mem.le E0 E) (hr : FLr E rs (mems m gE a zs (i + 1)))
    (hK : ∀ (b : Option Addr) (c : Nat) (E' : Mem), Mem.le E0 E' → FL E' b (m + 1) c (mems m gE a zs (m + 1)) → K (.tup [L b (m + 1) c, I 0]) E')
    (ih : ∀ (cap tot : Nat) (rs : List FRow) (E' : Mem), i < m → i + 1 + 1 ≤ cap ∧ cap * 2 ≤ tot → Mem.le E0 E' → FLr E' rs (mems m gE a zs (i + 1 + 1)) → Lp FD 8 Try.f17 [1, 1, 1, 0, 1, 0] 0 (pubK E0 K) (sh17' m k b l c (i + 1) cap tot rs E')) :
    Rnd FD 8 Try.f17 [1, 1, 1, 0, 1, 0] 0 (pubK E0 K) (sh17' m k b l c i cap tot rs E) := by
  refine same (by kernel_rfl) (?_ : 
      bif decide ((↑i : Int) < (↑m : Int)) then
        req ((0 : Int) ≤ (↑i : Int) ∧ (↑i : Int) < (↑(i + 1) : Int))
          (∃ (n : Int),
            ∃ (base : Option Addr),
              ∃ (len : Nat),
                ∃ (cap_1 : Nat),
                  LoadV FD.P 24 (List.flatMap rowV rs) (0 + Int.toNat (↑i : Int) * 2)
                      (SV.agg [SV.raw (Value.int IntKind.i64 n), SV.raw (Value.slice base len cap_1)]) ∧
                    IntKind.u8 = IntKind.u8 ∧
                      ∃ (zs : List Int),
                        Bs E base len cap_1 zs ∧
                          len ≤ 100000 ∧
                            ((0 : Int) ≤ IntKind.wrap IntKind.i64 (IntKind.wrap IntKind.i64 (k * (↑m : Int)) + (↑i : Int)) ∧
                                IntKind.wrap IntKind.i64 (IntKind.wrap IntKind.i64 (k * (↑m : Int)) + (↑i : Int)) <
                                  (↑len : Int)) ∧
                              ((0 : Int) ≤ (255 : Int) ∧ (255 : Int) ≤ (255 : Int)) ∧
                                ∀ (b' : Option Addr) (l' c' : Nat) (ys : List Int) (E' : Mem),
                                  Mem.le E E' →
                                    Hyp
                                        (List.set zs
                                            (Int.toNat
                                              (IntKind.wrap IntKind.i64
                                                (IntKind.wrap IntKind.i64 (k * (↑m : Int)) + (↑i : Int))))
                                            (255 : Int) =
                                          ys) →
                                      Bs E' b' l' c' ys →
                                        Mem.le E E' ∧
                                          (i + 1) * 2 ≤
                                              List.length (Row.cells (Row.vals (List.flatMap rowV rs))) ∧
                                            cap * 2 ≤ tot ∧
                                              i + 1 ≤ cap ∧
                                                req ((i + 1 + 1) * 32 ≤ 140737488355328)
                                                  (∀ (cap' tot' : Nat),
                                                    i + 1 + 1 ≤ cap' →
                                                      cap' * 2 ≤ tot' →
                                                        Lp FD 8 Try.f17
                                                          [1, 1, 1, 0, 1, 0]
                                                          0 (pubK E0 K)
                                                          {
                                                            fr :=
                                                              [none, some (SV.raw (Value.int IntKind.i64 k)),
                                                                some (SV.loc 0 0), none, none, none,
                                                                some
                                                                  (SV.slc 3 0 (i + 1 + 1)
                                                                    cap'),
                                                                some
                                                                  (SV.raw
                                                                    (Value.int IntKind.i64
                                                                      (IntKind.wrap IntKind.i64 ((↑i : Int) + (1 : Int))))),
                                                                none, none, none, none, none, none, none, none, none, none,
                                                                none, none, none, none, none, none, none, none, none, none,
                                                                none, none, none, none, none, none, none, none, none, none,
                                                                none, none, none, none, none, none, none, none, none, none],
                                                            bx :=
                                                              [{ elem := 24,
                                                                  row :=
                                                                    Row.lst
                                                                      [SV.raw (Value.int IntKind.i64 (↑m : Int)),
                                                                        SV.raw (Value.slice b l c)],
                                                                  total := 2, own := true : Box },
                                                                { elem := 24, row := Row.lst [], total := 0,
                                                                  own := false : Box },
                                                                { elem := 24,
                                                                  row :=
                                                                    Row.lst
                                                                      [SV.raw (Value.int IntKind.i64 n),
                                                                        SV.raw (Value.slice b' l' c')],
                                                                  total := 2, own := true : Box },
                                                                { elem := 24,
                                                                  row :=
                                                                    Row.vals
                                                                      (List.take ((i + 1) * 2)
                                                                          (List.flatMap rowV rs) ++
                                                                        [Value.int IntKind.i64 n, Value.slice b' l' c']),
                                                                  total := tot', own := true : Box }],
                                                            E := E' : St }))
      else
        ∀ (base : Option Addr) (E' : Mem),
          Mem.le E E' →
            WinE E' base (List.flatMap rowV rs) →
              Mem.le E0 E' ∧
                K
                  (SV.tup
                    [SV.raw (Value.slice (Option.map (fun (x : Addr) => Addr.add x 0) base) (i + 1) cap),
                      SV.raw (Value.int IntKind.i64 (0 : Int))])
                  E')
  have hrl : rs.length = i + 1 := by rw [hr.1, mems_len]
  obtain ⟨r, er⟩ : ∃ r, rs[i]? = some r := ⟨_, List.getElem?_eq_getElem (by omega)⟩
  have em : (mems m gE a zs (i + 1))[i]? = some ((m : Int), stp gE a zs i) := by simp [mems]
  obtain ⟨q1, hB⟩ := hr.2 i r _ er em
  have hzl : (stp gE a zs i).length = l := by rw [stp_len, hz]
  have hbl := hB.2.1
  rw [hzl] at hbl
  refine condC (fun g => ?_) (fun g => ?_)
  · have g : i < m := by simpa using g
    have eai : IntKind.wrap .i64 (IntKind.wrap .i64 (k * (m : Int)) + (i : Int)) = ((a + i : Nat) : Int) := by rw [hk, wrap_i64 (x := (a : Int)) (by omega), wrap_i64 (by omega)]; simp
    have ei1 : IntKind.wrap .i64 ((i : Int) + 1) = ((i + 1 : Nat) : Int) := by rw [wrap_i64 (by omega)]; simp
    rw [eai, ei1]
    refine req_intro (by omega) ⟨r.1, r.2.1, r.2.2.1, r.2.2.2, ?_, rfl, stp gE a zs i, hB, by omega, by omega, by omega, ?_⟩
    · show loadW Try.prog 24 _ _ = _
      rw [show 0 + Int.toNat (i : Int) * 2 = i * 2 by omega]
      exact loadW_row er
    intro b' l' c' ys E' hE' hys hB'
    have hB' : Bs E' b' l' c' ys := hB'
    have hys : ys = stp gE a zs (i + 1) := by rw [← (show _ = ys from hys), Int.toNat_natCast]; rfl
    refine ⟨hE', by show _ ≤ (List.map SV.raw _).length; rw [List.length_map, rows_len, hrl]; exact Nat.le_refl _, hc.2, hc.1, req_intro (by omega) (fun cap' tot' c1 c2 => ?_)⟩
    have e : List.take ((i + 1) * 2) (rs.flatMap rowV) ++ [Value.int IntKind.i64 r.1, Value.slice b' l' c'] = (rs ++ [(r.1, b', l', c')]).flatMap rowV := by
      rw [rows_snoc, List.take_of_length_le (by rw [rows_len]; omega)]; rfl
    rw [e]
    refine Lp_re [some 0, some 3] (ih cap' tot' _ E' g ⟨c1, c2⟩ (Mem.le_trans hE hE') ?_) ⟨⟨by simp, by simp, fun j h => absurd h (Nat.not_lt_zero _)⟩, rfl, (by repeat' first | exact True.intro | refine And.intro (Or.inl rfl) ?_), (by repeat' first | exact True.intro | exact rfl | exact Or.inl rfl | fail | refine And.intro ?_ ?_), (show List.Nodup [0, 3] from by decide), Mem.le_refl _⟩
    rw [mems_succ _ _ _ _ (i + 1)]
    exact (hr.mono hE').snoc q1 (by rw [← hys]; exact hB')
  · have g : i = m := by simp at g; omega
    subst g
    intro base E' hE' hW
    exact ⟨Mem.le_trans hE hE', hK _ _ E' (Mem.le_trans hE hE') (FL.win hW rfl (hr.mono hE') (by simp [mems_len]) hc.1)⟩
theorem lp17 {m a : Nat} {k : Int} {b : Option Addr} {l c i cap tot : Nat} {rs : List FRow} {E0 : Mem} {K : SV → Mem → Prop} {zs : List Int} (hk : k * (m : Int) = a) (hl : 1 ≤ l ∧ l ≤ 16384 ∧ a + m ≤ l) (hz : zs.length = l)
    (hK : ∀ (b : Option Addr) (c : Nat) (E' : Mem), Mem.le E0 E' → FL E' b (m + 1) c (mems m gE a zs (m + 1)) → K (.tup [L b (m + 1) c, I 0]) E') {E : Mem} (hi : i ≤ m) (hc : i + 1 ≤ cap ∧ cap * 2 ≤ tot) (hE : Mem.le E0 E) (hr : FLr E rs (mems m gE a zs (i + 1))) :
    Lp FD 8 Try.f17 [1, 1, 1, 0, 1, 0] 0 (pubK E0 K) (sh17' m k b l c i cap tot rs E) :=
  Lp_ind okFD (fun x : {x : Nat × Nat × Nat × List FRow × Mem // x.1 ≤ m ∧ (x.1 + 1 ≤ x.2.1 ∧ x.2.1 * 2 ≤ x.2.2.1) ∧ Mem.le E0 x.2.2.2.2 ∧ FLr x.2.2.2.2 x.2.2.2.1 (mems m gE a zs (x.1 + 1))} => sh17' m k b l c x.1.1 x.1.2.1 x.1.2.2.1 x.1.2.2.2.1 x.1.2.2.2.2) (fun x => m - x.1.1)
    (fun x ih => rnd17 hk hl hz x.2.1 x.2.2.1 x.2.2.2.1 x.2.2.2.2 hK fun cap tot rs E' g h1 h2 h3 => ih ⟨(x.1.1 + 1, cap, tot, rs, E'), by show x.1.1 + 1 ≤ m; omega, h1, h2, h3⟩ (by show m - (_ + 1) < m - _; omega)) ⟨(i, cap, tot, rs, E), hi, hc, hE, hr⟩
theorem s17 {a1 : Int} {b2 : Option Addr} {l3 : Nat} {c4 : Nat} {a5 : Int} {zs : List Int} (h0 : Bs E b2 l3 c4 zs) (h : ∀ (b' : Option Addr) (l' c' : Nat) (ms : List (Int × List Int)) (e : Int) (E' : Mem), Mem.le E E' → Hyp (erasF a1 zs a5 = (ms, e)) → FL E' b' l' c' ms → K (.tup [L b' l' c', I e]) E') :
    Ent FD 8 Try.f17 [.agg [I a1, L b2 l3 c4], I a5] E K := by
  refine same (by kernel_rfl) (?_ : 
      Mem.le E E ∧
        bif !decide (validF a1 l3) then
          Mem.le E E ∧ K (SV.tup [SV.raw (Value.slice none 0 0), SV.raw (Value.int IntKind.i64 (1 : Int))]) E
        else
          bif bif false then true else decide (a5 < (0 : Int)) then
            Mem.le E E ∧
              K (SV.tup [SV.raw (Value.slice none 0 0), SV.raw (Value.int IntKind.i64 (1 : Int))]) E
          else
            (a1 = (0 : Int) → False) ∧
              bif bif false then true else decide (a5 ≥ IntKind.wrap IntKind.i64 (Int.tdiv (↑l3 : Int) a1)) then
                Mem.le E E ∧
                  K (SV.tup [SV.raw (Value.slice none 0 0), SV.raw (Value.int IntKind.i64 (1 : Int))]) E
              else
                Lp FD 8 Try.f17 [1, 1, 1, 0, 1, 0] 0
                  (pubK E K)
                  {
                    fr :=
                      [some (SV.agg [SV.raw (Value.int IntKind.i64 a1), SV.raw (Value.slice b2 l3 c4)]),
                        some (SV.raw (Value.int IntKind.i64 a5)), some (SV.loc 0 0), none,
                        some (SV.raw (Value.slice none 0 0)), some (SV.raw (Value.int IntKind.i64 (0 : Int))),
                        some (SV.slc 1 0 1 1),
                        some (SV.raw (Value.int IntKind.i64 (0 : Int))),
                        some (SV.agg [SV.raw (Value.int IntKind.i64 a1), SV.raw (Value.slice b2 l3 c4)]),
                        some (SV.raw (Value.bool (decide (validF a1 l3)))), some (SV.raw (Value.bool !decide (validF a1 l3))),
                        some (SV.raw (Value.bool false)), some (SV.raw (Value.int IntKind.i64 a5)),
                        some (SV.raw (Value.bool (decide (a5 < (0 : Int))))),
                        some (SV.raw (Value.bool (bif false then true else decide (a5 < (0 : Int))))),
                        some (SV.raw (Value.bool false)), some (SV.raw (Value.int IntKind.i64 a5)),
                        some (SV.loc 0 1), some (SV.raw (Value.slice b2 l3 c4)),
                        some (SV.raw (Value.int IntKind.i64 (↑l3 : Int))), some (SV.loc 0 0),
                        some (SV.raw (Value.int IntKind.i64 a1)),
                        some (SV.raw (Value.int IntKind.i64 (IntKind.wrap IntKind.i64 (Int.tdiv (↑l3 : Int) a1)))),
                        some (SV.raw (Value.bool (decide (a5 ≥ IntKind.wrap IntKind.i64 (Int.tdiv (↑l3 : Int) a1))))),
                        some
                          (SV.raw
                            (Value.bool
                              (bif false then true else decide (a5 ≥ IntKind.wrap IntKind.i64 (Int.tdiv (↑l3 : Int) a1))))),
                        some (SV.agg [SV.raw (Value.int IntKind.i64 a1), SV.raw (Value.slice b2 l3 c4)]),
                        some (SV.slc 1 0 1 1), none, none, none, none, none, none, none, none,
                        none, none, none, none, none, none, none, none, none, none, none, none, none],
                    bx :=
                      [{ elem := 24,
                          row := Row.lst [SV.raw (Value.int IntKind.i64 a1), SV.raw (Value.slice b2 l3 c4)],
                          total := 2, own := true : Box },
                        { elem := 24,
                          row := Row.lst [SV.raw (Value.int IntKind.i64 a1), SV.raw (Value.slice b2 l3 c4)],
                          total := 2, own := true : Box }],
                    E := E : St })
  have hz := h0.2.1
  have ex : ∀ {ms : List (Int × List Int)} {e : Int}, erasF a1 zs a5 = (ms, e) → (∀ (b' : Option Addr) (l' c' : Nat) (E' : Mem), Mem.le E E' → FL E' b' l' c' ms → K (.tup [L b' l' c', I e]) E') := fun he b' l' c' E' hE hF => h b' l' c' _ _ E' hE he hF
  unfold erasF at ex
  rw [hz] at ex
  have bad : ¬ validF a1 l3 ∨ a5 < 0 ∨ a5 ≥ (l3 : Int) / a1 → Mem.le E E ∧ K (.tup [L none 0 0, I 1]) E := fun hb => ⟨Mem.le_refl _, ex (if_pos hb) none 0 0 E (Mem.le_refl _) (FL.nil _)⟩
  refine ⟨Mem.le_refl _, condC (fun g => bad (.inl (by simpa using g))) (fun g => ?_)⟩
  have hv : validF a1 l3 := by simpa using g
  obtain ⟨g1, g2, g3, g4, g5⟩ := hv
  have hv : validF a1 l3 := ⟨g1, g2, g3, g4, g5⟩
  refine condC (fun g => bad (.inr (.inl (by simpa using g)))) (fun g6 => ?_)
  have g6 : 0 ≤ a5 := by simpa using g6
  have hdv : Int.tdiv (l3 : Int) a1 = (l3 : Int) / a1 := Int.tdiv_eq_ediv_of_nonneg (by omega)
  have hd1 : (l3 : Int) / a1 ≤ l3 := Int.ediv_le_self _ (by omega)
  have hd0 : 0 ≤ (l3 : Int) / a1 := Int.ediv_nonneg (by omega) (by omega)
  refine ⟨by omega, ?_⟩
  rw [hdv, wrap_i64 (x := (l3 : Int) / a1) (by omega)]
  refine condC (fun g => bad (.inr (.inr (by simpa using g)))) (fun g7 => ?_)
  have g7 : a5 < (l3 : Int) / a1 := by simpa using g7
  rw [if_neg (fun q => q.elim (fun q => q hv) (fun q => by omega))] at ex
  have h8 : (a5 + 1) * a1 ≤ l3 := by
    have := Int.mul_le_mul_of_nonneg_right (show a5 + 1 ≤ (l3 : Int) / a1 by omega) (show 0 ≤ a1 by omega)
    have h2 := Int.ediv_mul_le (l3 : Int) (show a1 ≠ 0 by omega)
    omega
  have h9 : 0 ≤ a5 * a1 := Int.mul_nonneg g6 (by omega)
  rw [Int.add_mul, Int.one_mul] at h8
  obtain ⟨a, ha⟩ : ∃ a : Nat, a5 * a1 = a := ⟨(a5 * a1).toNat, by omega⟩
  obtain ⟨m, rfl⟩ : ∃ m : Nat, a1 = m := ⟨a1.toNat, by omega⟩
  rw [ha] at ex h8
  refine Lp_re [some 0, some 1] (lp17 (m := m) (a := a) (k := a5) (b := b2) (l := l3) (c := c4) (i := 0) (cap := 1) (tot := 2) (rs := [((m : Int), b2, l3, c4)]) (zs := zs) ha ⟨by omega, by omega, by omega⟩ hz (fun b c E' hE hF => ex (by rw [Int.toNat_natCast, Int.toNat_natCast]) b _ c E' hE hF) (Nat.zero_le _) ⟨by omega, by omega⟩ (Mem.le_refl _) ?_) ⟨⟨by simp, by simp, fun j h => absurd h (Nat.not_lt_zero _)⟩, rfl, (by repeat' first | exact True.intro | refine And.intro (Or.inl rfl) ?_), (by repeat' first | exact True.intro | exact rfl | exact Or.inl rfl | fail | refine And.intro ?_ ?_), (show List.Nodup [0, 1] from by decide), Mem.le_refl _⟩
  exact (FLr.nil E).snoc (r := ((m : Int), b2, l3, c4)) (m := ((m : Int), zs)) rfl h0

end Go.Proofs.Ythgdbpnddnbbdaa.FlashOwn
