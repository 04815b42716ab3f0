/- The flash package: what its functions answer. -/
import Derived.Test.YthgdbpnddnbbdaaFlash6
namespace Go.Proofs.Ythgdbpnddnbbdaa.FlashOwn
open Go Go.Sx
set_option maxRecDepth 100000
set_option maxHeartbeats 4000000
set_option linter.unusedVariables false
set_option linter.unusedSimpArgs false
variable {E : Mem} {K : SV → Mem → Prop}

def newF (s n : Int) : (Int × List Int) × Int := if s < 1 ∨ s > 1024 ∨ n < 1 ∨ n > 16384 / s then ((0, []), 1) else ((s, List.replicate (s * n).toNat 255), 0)
def tabR : CallT := fun f args bx E K => f = 25 ∧ ∃ n : Nat, args = [.slc 1 0 1 1, I n] ∧ bx = [⟨24, .lst [I 0, L none 0 0], 2, true⟩, ⟨5, .lst [.raw (.int .u8 255)], 1, true⟩] ∧ (1 ≤ n ∧ n ≤ 16384) ∧ ∀ (tot : Nat) (zs : List Int), n ≤ zs.length → zs.take n = List.replicate n 255 → K (.slc 2 0 n n) (bx ++ [⟨5, .vals (vB zs), tot, true⟩]) E
theorem tabR_ok (f : FuncId) (args : List SV) (bx : List Box) (E : Mem) (K : KT) (h : tabR f args bx E K) : CallSem Try.prog f args bx E K := by
  obtain ⟨rfl, n, rfl, rfl, h1, h2⟩ := h
  exact EntB.sem okF6 Try.func25 ⟨by kernel_rfl, by kernel_rfl⟩ (s25 h1 h2)
noncomputable def F8 : Cx := { P := Try.prog, inl := fun f => List.contains [] f, tab := fun _ _ _ _ => False, isB := fun f => f == 25, tabB := tabR, opt := { unroll := 0, carry := [] }, muts := mutsD }
theorem okF8 : CxOK F8 := CxOK.four (fun _ _ _ _ h => h.elim) (by kernel_rfl) (okInl (by kernel_rfl)) tabR_ok
theorem s11 {a1 : Int} {a2 : Int} (h : ∀ (s' : Int) (b' : Option Addr) (l' c' : Nat) (ys : List Int) (e : Int) (E' : Mem), Mem.le E E' → Hyp (newF a1 a2 = ((s', ys), e)) → Bs E' b' l' c' ys → K (.tup [.agg [I s', L b' l' c'], I e]) E') :
    Ent F8 8 Try.f11 [I a1, I a2] E K := by
  refine same (by kernel_rfl) (?_ : 
      bif decide (a1 < (1 : Int)) then
        Mem.le E E ∧
          K
            (SV.tup
              [SV.agg [SV.raw (Value.int IntKind.i64 (0 : Int)), SV.raw (Value.slice none 0 0)],
                SV.raw (Value.int IntKind.i64 (1 : Int))])
            E
      else
        bif bif false then true else decide (a1 > (1024 : Int)) then
          Mem.le E E ∧
            K
              (SV.tup
                [SV.agg [SV.raw (Value.int IntKind.i64 (0 : Int)), SV.raw (Value.slice none 0 0)],
                  SV.raw (Value.int IntKind.i64 (1 : Int))])
              E
        else
          bif bif false then true else decide (a2 < (1 : Int)) then
            Mem.le E E ∧
              K
                (SV.tup
                  [SV.agg [SV.raw (Value.int IntKind.i64 (0 : Int)), SV.raw (Value.slice none 0 0)],
                    SV.raw (Value.int IntKind.i64 (1 : Int))])
                E
          else
            (a1 = (0 : Int) → False) ∧
              bif bif false then true else decide (a2 > IntKind.wrap IntKind.i64 (Int.tdiv (16384 : Int) a1)) then
                Mem.le E E ∧
                  K
                    (SV.tup
                      [SV.agg [SV.raw (Value.int IntKind.i64 (0 : Int)), SV.raw (Value.slice none 0 0)],
                        SV.raw (Value.int IntKind.i64 (1 : Int))])
                    E
              else
                25 = 25 ∧
                  ∃ (n : Nat),
                    [SV.slc 1 0 1 1,
                          SV.raw (Value.int IntKind.i64 (IntKind.wrap IntKind.i64 (a1 * a2)))] =
                        [SV.slc 1 0 1 1, SV.raw (Value.int IntKind.i64 (↑n : Int))] ∧
                      [{ elem := 24,
                              row :=
                                Row.lst
                                  [SV.raw (Value.int IntKind.i64 (0 : Int)), SV.raw (Value.slice none 0 0)],
                              total := 2, own := true : Box },
                            { elem := 5, row := Row.lst [SV.raw (Value.int IntKind.u8 (255 : Int))],
                              total := 1, own := true : Box }] =
                          [{ elem := 24,
                              row :=
                                Row.lst
                                  [SV.raw (Value.int IntKind.i64 (0 : Int)), SV.raw (Value.slice none 0 0)],
                              total := 2, own := true : Box },
                            { elem := 5, row := Row.lst [SV.raw (Value.int IntKind.u8 (255 : Int))],
                              total := 1, own := true : Box }] ∧
                        (1 ≤ n ∧ n ≤ 16384) ∧
                          ∀ (tot : Nat) (zs : List Int),
                            n ≤ List.length zs →
                              List.take n zs = List.replicate n (255 : Int) →
                                ∀ (base : Option Addr) (E' : Mem),
                                  Mem.le E E' →
                                    WinE E' base (vB zs) →
                                      Mem.le E E' ∧
                                        K
                                          (SV.tup
                                            [SV.agg
                                                [SV.raw (Value.int IntKind.i64 a1),
                                                  SV.raw
                                                    (Value.slice (Option.map (fun (x : Addr) => Addr.add x 0) base) n
                                                      n)],
                                              SV.raw (Value.int IntKind.i64 (0 : Int))])
                                          E')
  have ex : ∀ {s' : Int} {ys : List Int} {e : Int}, newF a1 a2 = ((s', ys), e) → (∀ (b' : Option Addr) (l' c' : Nat) (E' : Mem), Mem.le E E' → Bs E' b' l' c' ys → K (.tup [.agg [I s', L b' l' c'], I e]) E') := fun he b' l' c' E' hE hB => h _ b' l' c' _ _ E' hE he hB
  unfold newF at ex
  have bad : (a1 < 1 ∨ a1 > 1024 ∨ a2 < 1 ∨ a2 > 16384 / a1) → Mem.le E E ∧ K (.tup [.agg [I 0, L none 0 0], I 1]) E := fun hb => ⟨Mem.le_refl _, ex (if_pos hb) none 0 0 E (Mem.le_refl _) (Bs.nil _)⟩
  refine condC (fun g => bad (.inl (by simpa using g))) (fun g1 => ?_)
  refine condC (fun g => bad (.inr (.inl (by simpa using g)))) (fun g2 => ?_)
  refine condC (fun g => bad (.inr (.inr (.inl (by simpa using g))))) (fun g3 => ?_)
  have g1 : 1 ≤ a1 := by simpa using g1
  have g2 : a1 ≤ 1024 := by simpa using g2
  have g3 : 1 ≤ a2 := by simpa using g3
  have hdv : Int.tdiv 16384 a1 = 16384 / a1 := Int.tdiv_eq_ediv_of_nonneg (by omega)
  have hd1 : 16384 / a1 ≤ 16384 := Int.ediv_le_self _ (by omega)
  have hd0 : 0 ≤ 16384 / a1 := Int.ediv_nonneg (by omega) (by omega)
  rw [hdv, wrap_i64 (x := 16384 / a1) (by omega)]
  refine ⟨by omega, condC (fun g => bad (.inr (.inr (.inr (by simpa using g))))) (fun g4 => ?_)⟩
  have g4 : a2 ≤ 16384 / a1 := by simpa using g4
  rw [if_neg (by omega)] at ex
  have h8 : a1 * a2 ≤ 16384 := by
    have := Int.mul_le_mul_of_nonneg_right g4 (show 0 ≤ a1 by omega)
    have h2 := Int.ediv_mul_le 16384 (show a1 ≠ 0 by omega)
    rw [Int.mul_comm a1 a2]; omega
  have h9 : 1 ≤ a1 * a2 := by
    have := Int.mul_le_mul_of_nonneg_right g1 (show 0 ≤ a2 by omega)
    omega
  obtain ⟨n, hn⟩ : ∃ n : Nat, a1 * a2 = n := ⟨(a1 * a2).toNat, by omega⟩
  rw [hn] at ex h8 h9
  rw [hn, wrap_i64 (x := (n : Int)) (by omega)]
  refine ⟨rfl, n, rfl, rfl, ⟨by omega, by omega⟩, fun tot zs hz ht base E' hE hW => ⟨hE, ex rfl _ n n E' hE ?_⟩⟩
  have := hW.2 0 n n n (by simp only [List.length_map]; omega)
  rw [List.drop_zero, ← List.map_take, ht] at this
  rw [Int.toNat_natCast]
  exact ⟨.inr this, by simp, Nat.le_refl _, fun z hz => by have := List.eq_of_mem_replicate hz; omega, fun e => by
    cases base with
    | none => have := hW.1 rfl; rw [List.map_eq_nil_iff] at this; subst this; simp at hz; omega
    | some a => cases e⟩
noncomputable def F9 : Cx := { P := Try.prog, inl := fun f => List.contains [] f, tab := fun _ _ _ _ => False, isB := fun _ => false, tabB := fun _ _ _ _ _ => False, opt := { unroll := 0, carry := [7] }, muts := mutsD }
theorem okF9 : CxOK F9 := CxOK.four (fun _ _ _ _ h => h.elim) (by kernel_rfl) (okInl (by kernel_rfl)) (fun _ _ _ _ _ h => h.elim)

def sh12a (a1 a2 : Int) (i : Nat) (E : Mem) : St := ⟨[some (I a1), some (I a2), none, none, some (.loc 0 0), some (I 0), some (.loc 1 0), some (I (i : Nat))] ++ List.replicate 32 none, [⟨24, .lst [I 0, L none 0 0], 2, true⟩, ⟨24, .lst [I a1, L none 0 0], 2, true⟩], E⟩
def sh12 (a1 a2 : Int) (i cap tot : Nat) (E : Mem) : St := ⟨[some (I a1), some (I a2), none, none, some (.loc 0 0), some (I 0), some (.loc 1 0), some (I (i : Nat))] ++ List.replicate 32 none, [⟨24, .lst [I 0, L none 0 0], 2, true⟩, ⟨24, .lst [I a1, .slc 2 0 i cap], 2, true⟩, ⟨5, .vals (vB (List.replicate i 255)), tot, true⟩], E⟩
theorem rep_byte (n : Nat) : ∀ z ∈ List.replicate n (255 : Int), 0 ≤ z ∧ z ≤ 255 := fun z hz => by have := List.eq_of_mem_replicate hz; omega
theorem rnd12 {K : SV → Mem → Prop} {a1 a2 : Int} {i cap tot n : Nat} {E0 : Mem} (hn : a1 * a2 = n) (h8 : n ≤ 16384) (hi : i ≤ n) (hc : i ≤ cap ∧ cap * 1 ≤ tot) (hE0 : Mem.le E0 E)
    (hK : ∀ (b : Option Addr) (c : Nat) (E' : Mem), Mem.le E0 E' → Bs E' b n c (List.replicate n 255) → K (.tup [.agg [I a1, L b n c], I 0]) E')
    (ih : ∀ cap' tot' : Nat, i < n → i + 1 ≤ cap' ∧ cap' * 1 ≤ tot' → Lp F9 8 Try.f12 [1, 1, 1, 0, 1, 0] 0 (pubK E0 K) (sh12 a1 a2 (i + 1) cap' tot' E)) : Rnd F9 8 Try.f12 [1, 1, 1, 0, 1, 0] 0 (pubK E0 K) (sh12 a1 a2 i cap tot E) := by
  refine same (by kernel_rfl) (?_ : 
      bif decide ((↑i : Int) < IntKind.wrap IntKind.i64 (a1 * a2)) then
        i * 1 ≤ List.length (Row.cells (Row.vals (vB (List.replicate i (255 : Int))))) ∧
          cap * 1 ≤ tot ∧
            i ≤ cap ∧
              req ((i + 1) * 1 ≤ 140737488355328)
                (∀ (cap' tot' : Nat),
                  i + 1 ≤ cap' →
                    cap' * 1 ≤ tot' →
                      Lp F9 8 Try.f12 [1, 1, 1, 0, 1, 0] 0
                        (pubK E0 K)
                        {
                          fr :=
                            [some (SV.raw (Value.int IntKind.i64 a1)), some (SV.raw (Value.int IntKind.i64 a2)), none, none,
                              some (SV.loc 0 0), some (SV.raw (Value.int IntKind.i64 (0 : Int))),
                              some (SV.loc 1 0),
                              some (SV.raw (Value.int IntKind.i64 (IntKind.wrap IntKind.i64 ((↑i : Int) + (1 : Int))))), none,
                              none, none, none, none, none, none, none, none, none, none, none, none, none, none, none, none,
                              none, none, none, none, none, none, none, none, none, none, none, none, none, none, none],
                          bx :=
                            [{ elem := 24,
                                row :=
                                  Row.lst
                                    [SV.raw (Value.int IntKind.i64 (0 : Int)), SV.raw (Value.slice none 0 0)],
                                total := 2, own := true : Box },
                              { elem := 24,
                                row :=
                                  Row.lst
                                    [SV.raw (Value.int IntKind.i64 a1), SV.slc 4 0 (i + 1) cap'],
                                total := 2, own := true : Box },
                              { elem := 5, row := Row.lst [], total := 0, own := false : Box },
                              { elem := 5, row := Row.lst [SV.raw (Value.int IntKind.u8 (255 : Int))],
                                total := 1, own := true : Box },
                              { elem := 5,
                                row :=
                                  Row.vals
                                    (List.take (i * 1) (vB (List.replicate i (255 : Int))) ++
                                      [Value.int IntKind.u8 (255 : Int)]),
                                total := tot', own := true : Box }],
                          E := E : St })
      else
        ∀ (base : Option Addr) (E' : Mem),
          Mem.le E E' →
            WinE E' base (vB (List.replicate i (255 : Int))) →
              Mem.le E0 E' ∧
                K
                  (SV.tup
                    [SV.agg
                        [SV.raw (Value.int IntKind.i64 a1),
                          SV.raw (Value.slice (Option.map (fun (x : Addr) => Addr.add x 0) base) i cap)],
                      SV.raw (Value.int IntKind.i64 (0 : Int))])
                  E')
  rw [hn, wrap_i64 (x := (n : Int)) (by omega), wrap_i64 (x := (i : Int) + 1) (by omega)]
  refine condC (fun g => ?_) (fun g => ?_)
  · have g : i < n := by simpa using g
    refine ⟨by simp [Row.cells], hc.2, hc.1, req_intro (by omega) (fun cap' tot' c1 c2 => ?_)⟩
    have e : List.take (i * 1) (vB (List.replicate i 255)) ++ [Value.int IntKind.u8 255] = vB (List.replicate (i + 1) 255) := by
      rw [List.take_of_length_le (by simp), List.replicate_succ', vB, vB, List.map_append]; rfl
    rw [e, show (i : Int) + 1 = ((i + 1 : Nat) : Int) by simp]
    exact Lp_re [some 0, some 1, some 4] (ih cap' tot' g ⟨c1, c2⟩) ⟨⟨by simp, by simp, fun j h => absurd h (Nat.not_lt_zero _)⟩, rfl, (by repeat' first | exact True.intro | refine And.intro (Or.inl rfl) ?_), (by repeat' first | exact True.intro | exact rfl | exact Or.inl rfl | fail | refine And.intro ?_ ?_), (show List.Nodup [0, 1, 4] from by decide), Mem.le_refl _⟩
  · have g : i = n := by simp at g; omega
    subst g
    intro base E' hE hW
    exact ⟨Mem.le_trans hE0 hE, hK _ _ E' (Mem.le_trans hE0 hE) (Bs.win hW rfl (by simp) hc.1 (rep_byte i))⟩
theorem lp12 {K : SV → Mem → Prop} {a1 a2 : Int} {i cap tot n : Nat} {E0 : Mem} (hn : a1 * a2 = n) (h8 : n ≤ 16384) (hi : i ≤ n) (hc : i ≤ cap ∧ cap * 1 ≤ tot) (hE0 : Mem.le E0 E)
    (hK : ∀ (b : Option Addr) (c : Nat) (E' : Mem), Mem.le E0 E' → Bs E' b n c (List.replicate n 255) → K (.tup [.agg [I a1, L b n c], I 0]) E') : Lp F9 8 Try.f12 [1, 1, 1, 0, 1, 0] 0 (pubK E0 K) (sh12 a1 a2 i cap tot E) :=
  Lp_ind okF9 (fun x : {x : Nat × Nat × Nat // x.1 ≤ n ∧ x.1 ≤ x.2.1 ∧ x.2.1 * 1 ≤ x.2.2} => sh12 a1 a2 x.1.1 x.1.2.1 x.1.2.2 E) (fun x => n - x.1.1)
    (fun x ih => rnd12 hn h8 x.2.1 x.2.2 hE0 hK fun cap' tot' g hc => ih ⟨(x.1.1 + 1, cap', tot'), by omega, hc.1, hc.2⟩ (by show n - (_ + 1) < n - _; omega)) ⟨(i, cap, tot), hi, hc.1, hc.2⟩
theorem rnd12a {K : SV → Mem → Prop} {a1 a2 : Int} {E0 : Mem} {n : Nat} (hn : a1 * a2 = n) (h8 : n ≤ 16384) (h9 : 1 ≤ n) (hE0 : Mem.le E0 E)
    (hK : ∀ (b : Option Addr) (c : Nat) (E' : Mem), Mem.le E0 E' → Bs E' b n c (List.replicate n 255) → K (.tup [.agg [I a1, L b n c], I 0]) E') : Rnd F9 8 Try.f12 [1, 1, 1, 0, 1, 0] 0 (pubK E0 K) (sh12a a1 a2 0 E) := by
  refine same (by kernel_rfl) (?_ : 
      bif decide ((0 : Int) < IntKind.wrap IntKind.i64 (a1 * a2)) then
        ∀ (cap' tot' : Nat),
          1 ≤ cap' →
            cap' * 1 ≤ tot' →
              Lp F9 8 Try.f12 [1, 1, 1, 0, 1, 0] 0 (pubK E0 K)
                {
                  fr :=
                    [some (SV.raw (Value.int IntKind.i64 a1)), some (SV.raw (Value.int IntKind.i64 a2)), none, none,
                      some (SV.loc 0 0), some (SV.raw (Value.int IntKind.i64 (0 : Int))),
                      some (SV.loc 1 0), some (SV.raw (Value.int IntKind.i64 (1 : Int))), none, none, none,
                      none, none, none, none, none, none, none, none, none, none, none, none, none, none, none, none, none,
                      none, none, none, none, none, none, none, none, none, none, none, none],
                  bx :=
                    [{ elem := 24,
                        row :=
                          Row.lst [SV.raw (Value.int IntKind.i64 (0 : Int)), SV.raw (Value.slice none 0 0)],
                        total := 2, own := true : Box },
                      { elem := 24,
                        row := Row.lst [SV.raw (Value.int IntKind.i64 a1), SV.slc 3 0 1 cap'],
                        total := 2, own := true : Box },
                      { elem := 5, row := Row.lst [SV.raw (Value.int IntKind.u8 (255 : Int))], total := 1,
                        own := true : Box },
                      { elem := 5, row := Row.lst [SV.raw (Value.int IntKind.u8 (255 : Int))], total := tot',
                        own := true : Box }],
                  E := E : St }
      else
        Mem.le E0 E ∧
          K
            (SV.tup
              [SV.agg [SV.raw (Value.int IntKind.i64 a1), SV.raw (Value.slice none 0 0)],
                SV.raw (Value.int IntKind.i64 (0 : Int))])
            E)
  rw [hn, wrap_i64 (x := (n : Int)) (by omega)]
  refine condC (fun g => fun cap' tot' c1 c2 => ?_) (fun g => absurd g (by simp; omega))
  exact Lp_re [some 0, some 1, some 3] (lp12 (i := 1) hn h8 h9 ⟨c1, c2⟩ hE0 hK) ⟨⟨by simp, by simp, fun j h => absurd h (Nat.not_lt_zero _)⟩, rfl, (by repeat' first | exact True.intro | refine And.intro (Or.inl rfl) ?_), (by repeat' first | exact True.intro | exact rfl | exact Or.inl rfl | fail | refine And.intro ?_ ?_), (show List.Nodup [0, 1, 3] from by decide), Mem.le_refl _⟩
theorem s12 {a1 : Int} {a2 : Int} (h : ∀ (s' : Int) (b' : Option Addr) (l' c' : Nat) (ys : List Int) (e : Int) (E' : Mem), Mem.le E E' → Hyp (newF a1 a2 = ((s', ys), e)) → Bs E' b' l' c' ys → K (.tup [.agg [I s', L b' l' c'], I e]) E') :
    Ent F9 8 Try.f12 [I a1, I a2] E K := by
  refine same (by kernel_rfl) (?_ : 
      bif decide (a1 < (1 : Int)) then
        Mem.le E E ∧
          K
            (SV.tup
              [SV.agg [SV.raw (Value.int IntKind.i64 (0 : Int)), SV.raw (Value.slice none 0 0)],
                SV.raw (Value.int IntKind.i64 (1 : Int))])
            E
      else
        bif bif false then true else decide (a1 > (1024 : Int)) then
          Mem.le E E ∧
            K
              (SV.tup
                [SV.agg [SV.raw (Value.int IntKind.i64 (0 : Int)), SV.raw (Value.slice none 0 0)],
                  SV.raw (Value.int IntKind.i64 (1 : Int))])
              E
        else
          bif bif false then true else decide (a2 < (1 : Int)) then
            Mem.le E E ∧
              K
                (SV.tup
                  [SV.agg [SV.raw (Value.int IntKind.i64 (0 : Int)), SV.raw (Value.slice none 0 0)],
                    SV.raw (Value.int IntKind.i64 (1 : Int))])
                E
          else
            (a1 = (0 : Int) → False) ∧
              bif bif false then true else decide (a2 > IntKind.wrap IntKind.i64 (Int.tdiv (16384 : Int) a1)) then
                Mem.le E E ∧
                  K
                    (SV.tup
                      [SV.agg [SV.raw (Value.int IntKind.i64 (0 : Int)), SV.raw (Value.slice none 0 0)],
                        SV.raw (Value.int IntKind.i64 (1 : Int))])
                    E
              else
                Lp F9 8 Try.f12 [1, 1, 1, 0, 1, 0] 0
                  (pubK E K)
                  {
                    fr :=
                      [some (SV.raw (Value.int IntKind.i64 a1)), some (SV.raw (Value.int IntKind.i64 a2)), none, none,
                        some (SV.loc 0 0), some (SV.raw (Value.int IntKind.i64 (0 : Int))),
                        some (SV.loc 1 0), some (SV.raw (Value.int IntKind.i64 (0 : Int))),
                        some (SV.raw (Value.int IntKind.i64 a1)), some (SV.raw (Value.bool (decide (a1 < (1 : Int))))),
                        some (SV.raw (Value.bool false)), some (SV.raw (Value.int IntKind.i64 a1)),
                        some (SV.raw (Value.bool (decide (a1 > (1024 : Int))))),
                        some (SV.raw (Value.bool (bif false then true else decide (a1 > (1024 : Int))))),
                        some (SV.raw (Value.bool false)), some (SV.raw (Value.int IntKind.i64 a2)),
                        some (SV.raw (Value.bool (decide (a2 < (1 : Int))))),
                        some (SV.raw (Value.bool (bif false then true else decide (a2 < (1 : Int))))),
                        some (SV.raw (Value.bool false)), some (SV.raw (Value.int IntKind.i64 a2)),
                        some (SV.raw (Value.int IntKind.i64 a1)),
                        some (SV.raw (Value.int IntKind.i64 (IntKind.wrap IntKind.i64 (Int.tdiv (16384 : Int) a1)))),
                        some (SV.raw (Value.bool (decide (a2 > IntKind.wrap IntKind.i64 (Int.tdiv (16384 : Int) a1))))),
                        some
                          (SV.raw
                            (Value.bool
                              (bif false then true else decide (a2 > IntKind.wrap IntKind.i64 (Int.tdiv (16384 : Int) a1))))),
                        none, some (SV.raw (Value.int IntKind.i64 a1)),
                        some (SV.agg [SV.raw (Value.int IntKind.i64 a1), SV.raw (Value.slice none 0 0)]),
                        none, none, none, none, none, none, none, none, none, none, none, none, none],
                    bx :=
                      [{ elem := 24,
                          row :=
                            Row.lst [SV.raw (Value.int IntKind.i64 (0 : Int)), SV.raw (Value.slice none 0 0)],
                          total := 2, own := true : Box },
                        { elem := 24,
                          row := Row.lst [SV.raw (Value.int IntKind.i64 a1), SV.raw (Value.slice none 0 0)],
                          total := 2, own := true : Box }],
                    E := E : St })
  have ex : ∀ {s' : Int} {ys : List Int} {e : Int}, newF a1 a2 = ((s', ys), e) → (∀ (b' : Option Addr) (l' c' : Nat) (E' : Mem), Mem.le E E' → Bs E' b' l' c' ys → K (.tup [.agg [I s', L b' l' c'], I e]) E') := fun he b' l' c' E' hE hB => h _ b' l' c' _ _ E' hE he hB
  unfold newF at ex
  have bad : (a1 < 1 ∨ a1 > 1024 ∨ a2 < 1 ∨ a2 > 16384 / a1) → Mem.le E E ∧ K (.tup [.agg [I 0, L none 0 0], I 1]) E := fun hb => ⟨Mem.le_refl _, ex (if_pos hb) none 0 0 E (Mem.le_refl _) (Bs.nil _)⟩
  refine condC (fun g => bad (.inl (by simpa using g))) (fun g1 => ?_)
  refine condC (fun g => bad (.inr (.inl (by simpa using g)))) (fun g2 => ?_)
  refine condC (fun g => bad (.inr (.inr (.inl (by simpa using g))))) (fun g3 => ?_)
  have g1 : 1 ≤ a1 := by simpa using g1
  have g2 : a1 ≤ 1024 := by simpa using g2
  have g3 : 1 ≤ a2 := by simpa using g3
  have hdv : Int.tdiv 16384 a1 = 16384 / a1 := Int.tdiv_eq_ediv_of_nonneg (by omega)
  have hd1 : 16384 / a1 ≤ 16384 := Int.ediv_le_self _ (by omega)
  have hd0 : 0 ≤ 16384 / a1 := Int.ediv_nonneg (by omega) (by omega)
  rw [hdv, wrap_i64 (x := 16384 / a1) (by omega)]
  refine ⟨by omega, condC (fun g => bad (.inr (.inr (.inr (by simpa using g))))) (fun g4 => ?_)⟩
  have g4 : a2 ≤ 16384 / a1 := by simpa using g4
  rw [if_neg (by omega)] at ex
  have h8 : a1 * a2 ≤ 16384 := by
    have := Int.mul_le_mul_of_nonneg_right g4 (show 0 ≤ a1 by omega)
    have h2 := Int.ediv_mul_le 16384 (show a1 ≠ 0 by omega)
    rw [Int.mul_comm a1 a2]; omega
  have h9 : 1 ≤ a1 * a2 := by
    have := Int.mul_le_mul_of_nonneg_right g1 (show 0 ≤ a2 by omega)
    omega
  obtain ⟨n, hn⟩ : ∃ n : Nat, a1 * a2 = n := ⟨(a1 * a2).toNat, by omega⟩
  rw [hn] at ex
  refine Lp_re [some 0, some 1] (S := _) (T := sh12a a1 a2 0 E) ?_ ⟨⟨by simp, by simp, fun j h => absurd h (Nat.not_lt_zero _)⟩, rfl, (by repeat' first | exact True.intro | refine And.intro (Or.inl rfl) ?_), (by repeat' first | exact True.intro | exact rfl | exact Or.inl rfl | fail | refine And.intro ?_ ?_), (show List.Nodup [0, 1] from by decide), Mem.le_refl _⟩
  exact Lp_ind (ι := Unit) okF9 (fun _ => sh12a a1 a2 0 E) (fun _ => 0) (fun _ _ => rnd12a hn (by omega) (by omega) (Mem.le_refl _) fun b c E' hE hB => ex (by rw [Int.toNat_natCast]) b n c E' hE hB) ()

end Go.Proofs.Ythgdbpnddnbbdaa.FlashOwn
