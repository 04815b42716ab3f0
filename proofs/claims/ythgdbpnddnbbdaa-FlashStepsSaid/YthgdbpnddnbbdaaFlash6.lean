/- The flash package: what its functions answer. -/
import Derived.Test.YthgdbpnddnbbdaaFlash5
namespace Go.Proofs.Ythgdbpnddnbbdaa.FlashOwn
open Go Go.Sx
set_option maxRecDepth 100000
set_option maxHeartbeats 4000000
set_option linter.unusedVariables false
set_option linter.unusedSimpArgs false
variable {E : Mem} {K : SV → Mem → Prop}

theorem wu64 {x : Int} (h : 0 ≤ x ∧ x ≤ 100000000) : IntKind.wrap .u64 x = x := by
  rw [show IntKind.wrap .u64 x = x % 18446744073709551616 from rfl]; omega
theorem and32 {n : Int} (h : 0 ≤ n ∧ n ≤ 16384) : IntKind.wrap .u64 (((BitVec.ofInt (IntKind.bits .u64) n &&& BitVec.ofInt (IntKind.bits .u64) 4294967295).toNat : Nat) : Int) = n := by
  obtain ⟨m, rfl⟩ : ∃ m : Nat, n = m := ⟨n.toNat, by omega⟩
  rw [show IntKind.bits .u64 = 64 from rfl, BitVec.toNat_and, show BitVec.ofInt 64 (m : Int) = BitVec.ofNat 64 m from BitVec.ofInt_natCast _ _, show BitVec.ofInt 64 4294967295 = BitVec.ofNat 64 (2 ^ 32 - 1) from rfl,
    BitVec.toNat_ofNat, BitVec.toNat_ofNat, Nat.mod_eq_of_lt (by omega), Nat.mod_eq_of_lt (a := 2 ^ 32 - 1) (by decide), Nat.and_two_pow_sub_one_eq_mod, Nat.mod_eq_of_lt (by omega), wu64 (by omega)]
theorem fd32 {n : Int} (h : 0 ≤ n ∧ n ≤ 16384) : Int.fdiv n 4294967296 = 0 := by
  rw [Int.fdiv_eq_ediv_of_nonneg _ (by omega)]; omega
def tabZ : CallT := fun f args bx E K => f = 32 ∧ ∃ n : Nat, args = [I n] ∧ n ≤ 281474976710656 ∧ ∀ zs : List Int, n ≤ zs.length → K (.slc bx.length 0 n zs.length) (bx ++ [⟨5, .vals (vB zs), zs.length, true⟩]) E
theorem tabZ_ok (f : FuncId) (args : List SV) (bx : List Box) (E : Mem) (K : KT) (h : tabZ f args bx E K) : CallSem Try.prog f args bx E K := by
  obtain ⟨rfl, n, rfl, h1, h2⟩ := h
  exact makeNoZero_sem Try.func32 (by kernel_rfl) (by kernel_rfl) (by kernel_rfl) (ps := #[3]) (t := 22) (e := 5) (by kernel_rfl) (by kernel_rfl) h1 h2
noncomputable def F7 : Cx := { P := Try.prog, inl := fun f => List.contains [36] f, tab := fun _ _ _ _ => False, isB := fun _ => false, tabB := fun _ _ _ _ _ => False, opt := { unroll := 0, carry := [] }, muts := mutsD }
theorem okF7 : CxOK F7 := CxOK.four (fun _ _ _ _ h => h.elim) (by kernel_rfl) (okInl (by kernel_rfl)) (fun _ _ _ _ _ h => h.elim)
theorem s31 {a1 : Int} {a2 : Int} (h0 : (a1 = 1 ∧ 0 ≤ a2 ∧ a2 ≤ 16384)) (h : K (.tup [.raw (.int .u64 0), .raw (.int .u64 a2)]) E) :
    Ent F7 8 Try.f31 [.raw (.int .u64 a1), .raw (.int .u64 a2)] E K := by
  refine same (by kernel_rfl) (?_ : 
      Mem.le E E ∧
        Mem.le E E ∧
          K
            (SV.tup
              [SV.raw
                  (Value.int IntKind.u64
                    (IntKind.wrap IntKind.u64
                      (IntKind.wrap IntKind.u64
                          (IntKind.wrap IntKind.u64 (Int.fdiv a1 (4294967296 : Int) * Int.fdiv a2 (4294967296 : Int)) +
                            Int.fdiv
                              (IntKind.wrap IntKind.u64
                                (IntKind.wrap IntKind.u64
                                    (Int.fdiv a1 (4294967296 : Int) *
                                      IntKind.wrap IntKind.u64
                                        (↑(BitVec.toNat
                                              (BitVec.ofInt (IntKind.bits IntKind.u64) a2 &&&
                                                BitVec.ofInt (IntKind.bits IntKind.u64) (4294967295 : Int))) :
                                          Int)) +
                                  Int.fdiv
                                    (IntKind.wrap IntKind.u64
                                      (IntKind.wrap IntKind.u64
                                          (↑(BitVec.toNat
                                                (BitVec.ofInt (IntKind.bits IntKind.u64) a1 &&&
                                                  BitVec.ofInt (IntKind.bits IntKind.u64) (4294967295 : Int))) :
                                            Int) *
                                        IntKind.wrap IntKind.u64
                                          (↑(BitVec.toNat
                                                (BitVec.ofInt (IntKind.bits IntKind.u64) a2 &&&
                                                  BitVec.ofInt (IntKind.bits IntKind.u64) (4294967295 : Int))) :
                                            Int)))
                                    (4294967296 : Int)))
                              (4294967296 : Int)) +
                        Int.fdiv
                          (IntKind.wrap IntKind.u64
                            (IntKind.wrap IntKind.u64
                                (↑(BitVec.toNat
                                      (BitVec.ofInt (IntKind.bits IntKind.u64)
                                          (IntKind.wrap IntKind.u64
                                            (IntKind.wrap IntKind.u64
                                                (Int.fdiv a1
                                                    ((2 : Int) ^ min (Int.toNat (32 : Int)) (IntKind.bits IntKind.u64)) *
                                                  IntKind.wrap IntKind.u64
                                                    (↑(BitVec.toNat
                                                          (BitVec.ofInt (IntKind.bits IntKind.u64) a2 &&&
                                                            BitVec.ofInt (IntKind.bits IntKind.u64) (4294967295 : Int))) :
                                                      Int)) +
                                              Int.fdiv
                                                (IntKind.wrap IntKind.u64
                                                  (IntKind.wrap IntKind.u64
                                                      (↑(BitVec.toNat
                                                            (BitVec.ofInt (IntKind.bits IntKind.u64) a1 &&&
                                                              BitVec.ofInt (IntKind.bits IntKind.u64) (4294967295 : Int))) :
                                                        Int) *
                                                    IntKind.wrap IntKind.u64
                                                      (↑(BitVec.toNat
                                                            (BitVec.ofInt (IntKind.bits IntKind.u64) a2 &&&
                                                              BitVec.ofInt (IntKind.bits IntKind.u64) (4294967295 : Int))) :
                                                        Int)))
                                                ((2 : Int) ^ min (Int.toNat (32 : Int)) (IntKind.bits IntKind.u64)))) &&&
                                        BitVec.ofInt (IntKind.bits IntKind.u64) (4294967295 : Int))) :
                                  Int) +
                              IntKind.wrap IntKind.u64
                                (IntKind.wrap IntKind.u64
                                    (↑(BitVec.toNat
                                          (BitVec.ofInt (IntKind.bits IntKind.u64) a1 &&&
                                            BitVec.ofInt (IntKind.bits IntKind.u64) (4294967295 : Int))) :
                                      Int) *
                                  Int.fdiv a2 (4294967296 : Int))))
                          (4294967296 : Int)))),
                SV.raw (Value.int IntKind.u64 (IntKind.wrap IntKind.u64 (a1 * a2)))])
            E)
  obtain ⟨rfl, h0⟩ := h0
  rw [show min (Int.toNat 32) (IntKind.bits .u64) = 32 from rfl, show (2 : Int) ^ 32 = 4294967296 from rfl, show Int.fdiv 1 4294967296 = 0 from rfl, fd32 h0, and32 h0, and32 (n := 1) (by omega)]
  rw [show (0 : Int) * 0 = 0 from rfl, Int.zero_mul, Int.one_mul, Int.mul_zero, wu64 (x := a2) (by omega), wu64 (x := 0) (by omega), Int.zero_add, fd32 h0, Int.add_zero, wu64 (x := 0) (by omega), and32 (n := 0) (by omega), Int.add_zero, wu64 (x := 0) (by omega), show Int.fdiv 0 4294967296 = 0 from rfl, Int.add_zero, wu64 (x := 0) (by omega)]
  exact ⟨Mem.le_refl _, Mem.le_refl _, h⟩
noncomputable def tab31 : FuncId → List SV → Mem → (SV → Mem → Prop) → Prop := fun f args E K => match f with
  | 31 => d2 args fun x0 x1 => dN .u64 x0 fun a1 => dN .u64 x1 fun a2 => (a1 = 1 ∧ 0 ≤ a2 ∧ a2 ≤ 16384) ∧ (K (.tup [.raw (.int .u64 0), .raw (.int .u64 a2)]) E)
  | _ => False
theorem tab31_ok : TabOK Try.prog tab31 := by
  intro f args E K h
  unfold tab31 at h
  split at h
  · replace h := d2_elim h
    obtain ⟨x0, x1, rfl, h⟩ := h
    replace h := dN_elim h
    obtain ⟨a1, rfl, h⟩ := h
    replace h := dN_elim h
    obtain ⟨a2, rfl, h⟩ := h
    obtain ⟨g0, h⟩ := h
    exact TabSem.congr (valL_cons rfl (valL_cons rfl rfl)) (Ent.sem okF7 Try.func31 ⟨by kernel_rfl, by kernel_rfl⟩ rfl (s31 g0 h))
  · exact h.elim
noncomputable def F6 : Cx := { P := Try.prog, inl := fun f => List.contains [] f, tab := tab31, isB := fun f => f == 32, tabB := tabZ, opt := { unroll := 0, carry := [7, 8, 9, 10], cuts := [17] }, muts := mutsD }
theorem okF6 : CxOK F6 := CxOK.four tab31_ok (by kernel_rfl) (okInl (by kernel_rfl)) tabZ_ok

def sh17 (n ch tot : Nat) (zs : List Int) (E : Mem) : St := ⟨[some (.slc 1 0 1 1), none, none, none, none, none, none, some (I (n : Nat)), some (I (ch : Nat)), some (.slc 2 0 n n)] ++ List.replicate 67 none, [⟨24, .lst [I 0, L none 0 0], 2, true⟩, ⟨5, .lst [.raw (.int .u8 255)], 1, true⟩] ++ [⟨5, .vals (vB zs), tot, true⟩], E⟩
def sh18 (n ch bp tot : Nat) (zs : List Int) (E : Mem) : St := ⟨[none, none, none, none, none, none, none, some (I (n : Nat)), some (I (ch : Nat)), some (.slc 2 0 n n), some (I (bp : Nat))] ++ List.replicate 66 none, [⟨24, .lst [I 0, L none 0 0], 2, true⟩, ⟨5, .lst [.raw (.int .u8 255)], 1, true⟩] ++ [⟨5, .vals (vB zs), tot, true⟩], E⟩
theorem ent25 {n : Nat} {K : KT} (hn : 1 ≤ n ∧ n ≤ 16384) (h : ∀ (ch tot : Nat) (zs : List Int), 1 ≤ ch → n ≤ zs.length → Ct F6 8 Try.f25 [1, 1, 1, 1, 1, 1, 1, 1, 1, 1] 2 K (sh17 n ch tot zs E)) : EntB F6 8 Try.f25 [.slc 1 0 1 1, I n] [⟨24, .lst [I 0, L none 0 0], 2, true⟩, ⟨5, .lst [.raw (.int .u8 255)], 1, true⟩] E K := by
  refine same (by kernel_rfl) (?_ : 
      bif (↑n : Int) == (0 : Int) then
        K (SV.slc 2 0 0 0)
          [{ elem := 24,
              row := Row.lst [SV.raw (Value.int IntKind.i64 (0 : Int)), SV.raw (Value.slice none 0 0)],
              total := 2, own := true : Box },
            { elem := 5, row := Row.lst [SV.raw (Value.int IntKind.u8 (255 : Int))], total := 1, own := true :
              Box },
            { elem := 5, row := Row.lst [], total := 0, own := true : Box }]
          E
      else
        IntKind.u64 = IntKind.u64 ∧
          IntKind.u64 = IntKind.u64 ∧
            ((1 : Int) = (1 : Int) ∧
                (0 : Int) ≤ IntKind.wrap IntKind.u64 (↑n : Int) ∧ IntKind.wrap IntKind.u64 (↑n : Int) ≤ (16384 : Int)) ∧
              Mem.le E E ∧
                bif bif false then true else decide (IntKind.wrap IntKind.u64 (↑n : Int) > (9223372036854775807 : Int)) then
                  False
                else
                  bif decide (IntKind.wrap IntKind.i64 (IntKind.wrap IntKind.u64 (↑n : Int)) > (8192 : Int)) then
                    ((1 : Int) = (0 : Int) → False) ∧
                      32 = 32 ∧
                        ∃ (n_1 : Nat),
                          [SV.raw (Value.int IntKind.i64 (IntKind.wrap IntKind.i64 (IntKind.wrap IntKind.u64 (↑n : Int))))] =
                              [SV.raw (Value.int IntKind.i64 (↑n_1 : Int))] ∧
                            n_1 ≤ 281474976710656 ∧
                              ∀ (zs : List Int),
                                n_1 ≤ List.length zs →
                                  Mem.le E E ∧
                                    req
                                      ((0 : Int) ≤ IntKind.wrap IntKind.i64 (IntKind.wrap IntKind.u64 (↑n : Int)) ∧
                                        IntKind.wrap IntKind.i64 (IntKind.wrap IntKind.u64 (↑n : Int)) ≤
                                          (↑(List.length zs) : Int))
                                      (req
                                        ((0 : Int) ≤ IntKind.wrap IntKind.i64 (IntKind.wrap IntKind.u64 (↑n : Int)) ∧
                                          IntKind.wrap IntKind.i64 (IntKind.wrap IntKind.u64 (↑n : Int)) ≤
                                            (↑(toN (some (IntKind.wrap IntKind.i64 (IntKind.wrap IntKind.u64 (↑n : Int))))
                                                  (List.length zs)) :
                                              Int))
                                        (Ct F6 8 Try.f25
                                          [1, 1, 1, 1, 1, 1, 1,
                                            1, 1, 1]
                                          2 K
                                          {
                                            fr :=
                                              [some (SV.slc 1 0 1 1),
                                                some (SV.raw (Value.int IntKind.i64 (↑n : Int))), none, none,
                                                some (SV.raw (Value.slice none 0 0)),
                                                some (SV.raw (Value.int IntKind.u64 (0 : Int))),
                                                some (SV.raw (Value.int IntKind.u64 (IntKind.wrap IntKind.u64 (↑n : Int)))),
                                                some
                                                  (SV.raw
                                                    (Value.int IntKind.i64
                                                      (IntKind.wrap IntKind.i64 (IntKind.wrap IntKind.u64 (↑n : Int))))),
                                                some (SV.raw (Value.int IntKind.i64 (8192 : Int))),
                                                some
                                                  (SV.slc 2
                                                    (if
                                                        toN
                                                            (some
                                                              (IntKind.wrap IntKind.i64
                                                                (IntKind.wrap IntKind.u64 (↑n : Int))))
                                                            (List.length zs) =
                                                          0 then
                                                      0
                                                    else 0)
                                                    (toN
                                                        (some
                                                          (IntKind.wrap IntKind.i64 (IntKind.wrap IntKind.u64 (↑n : Int))))
                                                        n_1 -
                                                      0)
                                                    (toN
                                                        (some
                                                          (IntKind.wrap IntKind.i64 (IntKind.wrap IntKind.u64 (↑n : Int))))
                                                        (List.length zs) -
                                                      0)),
                                                none, none, some (SV.raw (Value.int IntKind.i64 (↑n : Int))),
                                                some (SV.raw (Value.bool ((↑n : Int) == (0 : Int)))), none,
                                                some (SV.raw (Value.int IntKind.i64 (↑n : Int))),
                                                some (SV.raw (Value.bool false)), none,
                                                some
                                                  (SV.tup
                                                    [SV.raw (Value.int IntKind.u64 (0 : Int)),
                                                      SV.raw (Value.int IntKind.u64 (IntKind.wrap IntKind.u64 (↑n : Int)))]),
                                                some (SV.slc 1 0 1 1),
                                                some (SV.raw (Value.int IntKind.i64 (1 : Int))),
                                                some (SV.raw (Value.int IntKind.u64 (1 : Int))),
                                                some (SV.raw (Value.int IntKind.i64 (↑n : Int))),
                                                some (SV.raw (Value.int IntKind.u64 (IntKind.wrap IntKind.u64 (↑n : Int)))),
                                                some
                                                  (SV.tup
                                                    [SV.raw (Value.int IntKind.u64 (0 : Int)),
                                                      SV.raw (Value.int IntKind.u64 (IntKind.wrap IntKind.u64 (↑n : Int)))]),
                                                some (SV.raw (Value.int IntKind.u64 (0 : Int))),
                                                some (SV.raw (Value.int IntKind.u64 (IntKind.wrap IntKind.u64 (↑n : Int)))),
                                                some (SV.raw (Value.int IntKind.u64 (0 : Int))),
                                                some (SV.raw (Value.bool false)), some (SV.raw (Value.bool false)),
                                                some (SV.raw (Value.int IntKind.u64 (IntKind.wrap IntKind.u64 (↑n : Int)))),
                                                some
                                                  (SV.raw
                                                    (Value.bool
                                                      (decide
                                                        (IntKind.wrap IntKind.u64 (↑n : Int) >
                                                          (9223372036854775807 : Int))))),
                                                some
                                                  (SV.raw
                                                    (Value.bool
                                                      (bif false then true
                                                      else
                                                        decide
                                                          (IntKind.wrap IntKind.u64 (↑n : Int) >
                                                            (9223372036854775807 : Int))))),
                                                none,
                                                some (SV.raw (Value.int IntKind.u64 (IntKind.wrap IntKind.u64 (↑n : Int)))),
                                                some
                                                  (SV.raw
                                                    (Value.int IntKind.i64
                                                      (IntKind.wrap IntKind.i64 (IntKind.wrap IntKind.u64 (↑n : Int))))),
                                                some (SV.slc 1 0 1 1),
                                                some (SV.raw (Value.int IntKind.i64 (1 : Int))),
                                                some (SV.raw (Value.bool false)), none,
                                                some
                                                  (SV.raw
                                                    (Value.int IntKind.i64
                                                      (IntKind.wrap IntKind.i64 (IntKind.wrap IntKind.u64 (↑n : Int))))),
                                                some
                                                  (SV.raw
                                                    (Value.int IntKind.i64
                                                      (IntKind.wrap IntKind.i64 (IntKind.wrap IntKind.u64 (↑n : Int))))),
                                                some
                                                  (SV.raw
                                                    (Value.bool
                                                      (decide
                                                        (IntKind.wrap IntKind.i64 (IntKind.wrap IntKind.u64 (↑n : Int)) >
                                                          (8192 : Int))))),
                                                some (SV.slc 1 0 1 1),
                                                some (SV.raw (Value.int IntKind.i64 (1 : Int))),
                                                some (SV.raw (Value.int IntKind.i64 (8192 : Int))),
                                                some (SV.slc 1 0 1 1),
                                                some (SV.raw (Value.int IntKind.i64 (1 : Int))),
                                                some (SV.raw (Value.int IntKind.i64 (8192 : Int))),
                                                some (SV.raw (Value.int IntKind.i64 (8192 : Int))),
                                                some (SV.raw (Value.bool false)), none, none,
                                                some
                                                  (SV.raw
                                                    (Value.int IntKind.i64
                                                      (IntKind.wrap IntKind.i64 (IntKind.wrap IntKind.u64 (↑n : Int))))),
                                                some (SV.slc 2 0 n_1 (List.length zs)),
                                                some
                                                  (SV.raw
                                                    (Value.int IntKind.i64
                                                      (IntKind.wrap IntKind.i64 (IntKind.wrap IntKind.u64 (↑n : Int))))),
                                                some
                                                  (SV.raw
                                                    (Value.int IntKind.i64
                                                      (IntKind.wrap IntKind.i64 (IntKind.wrap IntKind.u64 (↑n : Int))))),
                                                some
                                                  (SV.slc 2
                                                    (if
                                                        toN
                                                            (some
                                                              (IntKind.wrap IntKind.i64
                                                                (IntKind.wrap IntKind.u64 (↑n : Int))))
                                                            (List.length zs) =
                                                          0 then
                                                      0
                                                    else 0)
                                                    (toN
                                                        (some
                                                          (IntKind.wrap IntKind.i64 (IntKind.wrap IntKind.u64 (↑n : Int))))
                                                        n_1 -
                                                      0)
                                                    (toN
                                                        (some
                                                          (IntKind.wrap IntKind.i64 (IntKind.wrap IntKind.u64 (↑n : Int))))
                                                        (List.length zs) -
                                                      0)),
                                                none, none, none, none, none, none, none, none, none, none, none, none, none,
                                                none, none, none, none, none, none],
                                            bx :=
                                              [{ elem := 24,
                                                  row :=
                                                    Row.lst
                                                      [SV.raw (Value.int IntKind.i64 (0 : Int)),
                                                        SV.raw (Value.slice none 0 0)],
                                                  total := 2, own := true : Box },
                                                { elem := 5,
                                                  row := Row.lst [SV.raw (Value.int IntKind.u8 (255 : Int))],
                                                  total := 1, own := true : Box },
                                                { elem := 5, row := Row.vals (vB zs), total := List.length zs,
                                                  own := true : Box }],
                                            E := E : St }))
                  else
                    32 = 32 ∧
                      ∃ (n_1 : Nat),
                        [SV.raw (Value.int IntKind.i64 (IntKind.wrap IntKind.i64 (IntKind.wrap IntKind.u64 (↑n : Int))))] =
                            [SV.raw (Value.int IntKind.i64 (↑n_1 : Int))] ∧
                          n_1 ≤ 281474976710656 ∧
                            ∀ (zs : List Int),
                              n_1 ≤ List.length zs →
                                Mem.le E E ∧
                                  req
                                    ((0 : Int) ≤ IntKind.wrap IntKind.i64 (IntKind.wrap IntKind.u64 (↑n : Int)) ∧
                                      IntKind.wrap IntKind.i64 (IntKind.wrap IntKind.u64 (↑n : Int)) ≤
                                        (↑(List.length zs) : Int))
                                    (req
                                      ((0 : Int) ≤ IntKind.wrap IntKind.i64 (IntKind.wrap IntKind.u64 (↑n : Int)) ∧
                                        IntKind.wrap IntKind.i64 (IntKind.wrap IntKind.u64 (↑n : Int)) ≤
                                          (↑(toN (some (IntKind.wrap IntKind.i64 (IntKind.wrap IntKind.u64 (↑n : Int))))
                                                (List.length zs)) :
                                            Int))
                                      (Ct F6 8 Try.f25
                                        [1, 1, 1, 1, 1, 1, 1,
                                          1, 1, 1]
                                        2 K
                                        {
                                          fr :=
                                            [some (SV.slc 1 0 1 1),
                                              some (SV.raw (Value.int IntKind.i64 (↑n : Int))), none, none,
                                              some (SV.raw (Value.slice none 0 0)),
                                              some (SV.raw (Value.int IntKind.u64 (0 : Int))),
                                              some (SV.raw (Value.int IntKind.u64 (IntKind.wrap IntKind.u64 (↑n : Int)))),
                                              some
                                                (SV.raw
                                                  (Value.int IntKind.i64
                                                    (IntKind.wrap IntKind.i64 (IntKind.wrap IntKind.u64 (↑n : Int))))),
                                              some
                                                (SV.raw
                                                  (Value.int IntKind.i64
                                                    (IntKind.wrap IntKind.i64 (IntKind.wrap IntKind.u64 (↑n : Int))))),
                                              some
                                                (SV.slc 2
                                                  (if
                                                      toN
                                                          (some
                                                            (IntKind.wrap IntKind.i64 (IntKind.wrap IntKind.u64 (↑n : Int))))
                                                          (List.length zs) =
                                                        0 then
                                                    0
                                                  else 0)
                                                  (toN (some (IntKind.wrap IntKind.i64 (IntKind.wrap IntKind.u64 (↑n : Int))))
                                                      n_1 -
                                                    0)
                                                  (toN (some (IntKind.wrap IntKind.i64 (IntKind.wrap IntKind.u64 (↑n : Int))))
                                                      (List.length zs) -
                                                    0)),
                                              none, none, some (SV.raw (Value.int IntKind.i64 (↑n : Int))),
                                              some (SV.raw (Value.bool ((↑n : Int) == (0 : Int)))), none,
                                              some (SV.raw (Value.int IntKind.i64 (↑n : Int))),
                                              some (SV.raw (Value.bool false)), none,
                                              some
                                                (SV.tup
                                                  [SV.raw (Value.int IntKind.u64 (0 : Int)),
                                                    SV.raw (Value.int IntKind.u64 (IntKind.wrap IntKind.u64 (↑n : Int)))]),
                                              some (SV.slc 1 0 1 1),
                                              some (SV.raw (Value.int IntKind.i64 (1 : Int))),
                                              some (SV.raw (Value.int IntKind.u64 (1 : Int))),
                                              some (SV.raw (Value.int IntKind.i64 (↑n : Int))),
                                              some (SV.raw (Value.int IntKind.u64 (IntKind.wrap IntKind.u64 (↑n : Int)))),
                                              some
                                                (SV.tup
                                                  [SV.raw (Value.int IntKind.u64 (0 : Int)),
                                                    SV.raw (Value.int IntKind.u64 (IntKind.wrap IntKind.u64 (↑n : Int)))]),
                                              some (SV.raw (Value.int IntKind.u64 (0 : Int))),
                                              some (SV.raw (Value.int IntKind.u64 (IntKind.wrap IntKind.u64 (↑n : Int)))),
                                              some (SV.raw (Value.int IntKind.u64 (0 : Int))),
                                              some (SV.raw (Value.bool false)), some (SV.raw (Value.bool false)),
                                              some (SV.raw (Value.int IntKind.u64 (IntKind.wrap IntKind.u64 (↑n : Int)))),
                                              some
                                                (SV.raw
                                                  (Value.bool
                                                    (decide
                                                      (IntKind.wrap IntKind.u64 (↑n : Int) > (9223372036854775807 : Int))))),
                                              some
                                                (SV.raw
                                                  (Value.bool
                                                    (bif false then true
                                                    else
                                                      decide
                                                        (IntKind.wrap IntKind.u64 (↑n : Int) >
                                                          (9223372036854775807 : Int))))),
                                              none,
                                              some (SV.raw (Value.int IntKind.u64 (IntKind.wrap IntKind.u64 (↑n : Int)))),
                                              some
                                                (SV.raw
                                                  (Value.int IntKind.i64
                                                    (IntKind.wrap IntKind.i64 (IntKind.wrap IntKind.u64 (↑n : Int))))),
                                              some (SV.slc 1 0 1 1),
                                              some (SV.raw (Value.int IntKind.i64 (1 : Int))),
                                              some (SV.raw (Value.bool false)), none,
                                              some
                                                (SV.raw
                                                  (Value.int IntKind.i64
                                                    (IntKind.wrap IntKind.i64 (IntKind.wrap IntKind.u64 (↑n : Int))))),
                                              some
                                                (SV.raw
                                                  (Value.int IntKind.i64
                                                    (IntKind.wrap IntKind.i64 (IntKind.wrap IntKind.u64 (↑n : Int))))),
                                              some
                                                (SV.raw
                                                  (Value.bool
                                                    (decide
                                                      (IntKind.wrap IntKind.i64 (IntKind.wrap IntKind.u64 (↑n : Int)) >
                                                        (8192 : Int))))),
                                              none, none, none, none, none, none, none, none, none, none,
                                              some
                                                (SV.raw
                                                  (Value.int IntKind.i64
                                                    (IntKind.wrap IntKind.i64 (IntKind.wrap IntKind.u64 (↑n : Int))))),
                                              some (SV.slc 2 0 n_1 (List.length zs)),
                                              some
                                                (SV.raw
                                                  (Value.int IntKind.i64
                                                    (IntKind.wrap IntKind.i64 (IntKind.wrap IntKind.u64 (↑n : Int))))),
                                              some
                                                (SV.raw
                                                  (Value.int IntKind.i64
                                                    (IntKind.wrap IntKind.i64 (IntKind.wrap IntKind.u64 (↑n : Int))))),
                                              some
                                                (SV.slc 2
                                                  (if
                                                      toN
                                                          (some
                                                            (IntKind.wrap IntKind.i64 (IntKind.wrap IntKind.u64 (↑n : Int))))
                                                          (List.length zs) =
                                                        0 then
                                                    0
                                                  else 0)
                                                  (toN (some (IntKind.wrap IntKind.i64 (IntKind.wrap IntKind.u64 (↑n : Int))))
                                                      n_1 -
                                                    0)
                                                  (toN (some (IntKind.wrap IntKind.i64 (IntKind.wrap IntKind.u64 (↑n : Int))))
                                                      (List.length zs) -
                                                    0)),
                                              none, none, none, none, none, none, none, none, none, none, none, none, none,
                                              none, none, none, none, none, none],
                                          bx :=
                                            [{ elem := 24,
                                                row :=
                                                  Row.lst
                                                    [SV.raw (Value.int IntKind.i64 (0 : Int)),
                                                      SV.raw (Value.slice none 0 0)],
                                                total := 2, own := true : Box },
                                              { elem := 5, row := Row.lst [SV.raw (Value.int IntKind.u8 (255 : Int))],
                                                total := 1, own := true : Box },
                                              { elem := 5, row := Row.vals (vB zs), total := List.length zs,
                                                own := true : Box }],
                                          E := E : St })))
  have e1 : IntKind.wrap .u64 (n : Int) = n := wu64 (by omega)
  have e2 : IntKind.wrap .i64 (n : Int) = n := wrap_i64 (by omega)
  have e3 : ∀ d, toN (some (n : Int)) d = n := fun d => by simp [toN]
  simp only [e1, e2, e3, ite_self, Nat.sub_zero]
  refine condC (fun g => absurd g (by simp; omega)) (fun _ => ⟨trivial, trivial, ⟨trivial, by omega, by omega⟩, Mem.le_refl _, condC (fun g => absurd g (by simp; omega)) (fun _ => condC (fun g => ?_) (fun g => ?_))⟩)
  · refine ⟨by omega, trivial, n, rfl, by omega, fun zs hz => ⟨Mem.le_refl _, req_intro (by omega) (req_intro (by omega) ?_)⟩⟩
    exact Ct_re [some 0, some 1, some 2] (h 8192 _ zs (by omega) hz) ⟨⟨by simp, by simp, fun j h => (by have e : j = 0 ∨ j = 1 := (by omega); rcases e with rfl | rfl <;> rfl)⟩, rfl, (by repeat' first | exact True.intro | refine And.intro (Or.inl rfl) ?_), (by repeat' first | exact True.intro | exact rfl | exact Or.inl rfl | fail | refine And.intro ?_ ?_), (show List.Nodup [0, 1, 2] from by decide), Mem.le_refl _⟩
  · refine ⟨trivial, n, rfl, by omega, fun zs hz => ⟨Mem.le_refl _, req_intro (by omega) (req_intro (by omega) ?_)⟩⟩
    exact Ct_re [some 0, some 1, some 2] (h n _ zs (by omega) hz) ⟨⟨by simp, by simp, fun j h => (by have e : j = 0 ∨ j = 1 := (by omega); rcases e with rfl | rfl <;> rfl)⟩, rfl, (by repeat' first | exact True.intro | refine And.intro (Or.inl rfl) ?_), (by repeat' first | exact True.intro | exact rfl | exact Or.inl rfl | fail | refine And.intro ?_ ?_), (show List.Nodup [0, 1, 2] from by decide), Mem.le_refl _⟩
theorem rep_step {zs : List Int} {bp q n : Nat} (h : zs.take bp = List.replicate bp 255) (hb : bp < n) (hn : n ≤ zs.length) (hq : q ≤ bp) :
    (zs.take bp ++ (zs.take q).take (min q (n - bp)) ++ zs.drop (bp + min q (n - bp))).take (bp + min q (n - bp)) = List.replicate (bp + min q (n - bp)) 255 ∧ n ≤ (zs.take bp ++ (zs.take q).take (min q (n - bp)) ++ zs.drop (bp + min q (n - bp))).length := by
  have h1 : (zs.take q).take (min q (n - bp)) = List.replicate (min q (n - bp)) 255 := by
    have : zs.take (min q (n - bp)) = (zs.take bp).take (min q (n - bp)) := by rw [List.take_take, Nat.min_eq_left (a := min q (n - bp)) (b := bp) (by omega)]
    rw [List.take_take, Nat.min_eq_left (a := min q (n - bp)) (b := q) (by omega), this, h, List.take_replicate, Nat.min_eq_left (a := min q (n - bp)) (b := bp) (by omega)]
  rw [h1, h]
  refine ⟨?_, ?_⟩
  · rw [List.take_append_of_le_length (by simp), List.take_of_length_le (by simp), List.replicate_append_replicate]
  · simp; omega
theorem pc17 {k ch tot : Nat} {zs : List Int} {K : KT} (hz : k + 1 ≤ zs.length) (h : Lp F6 8 Try.f25 [1, 1, 1, 1, 1, 1, 1, 1, 1, 1, 1, 0, 0] 2 K (sh18 (k + 1) ch 1 tot (255 :: zs.drop 1) E)) : Pc F6 8 Try.f25 [1, 1, 1, 1, 1, 1, 1, 1, 1, 1] 2 K (sh17 (k + 1) ch tot zs E) := by
  refine same (by kernel_rfl) (?_ : 
      0 + (k + 1) * 1 ≤ List.length (vB zs) ∧
        Lp F6 8 Try.f25
          [1, 1, 1, 1, 1, 1, 1, 1, 1, 1,
            1, 0, 0]
          2 K
          {
            fr :=
              [some (SV.slc 1 0 1 1), none, none, none, none, none, none,
                some (SV.raw (Value.int IntKind.i64 (↑(k + 1) : Int))),
                some (SV.raw (Value.int IntKind.i64 (↑ch : Int))),
                some (SV.slc 2 0 (k + 1) (k + 1)),
                some (SV.raw (Value.int IntKind.i64 (↑1 : Int))), none, none, none, none, none, none, none, none,
                none, none, none, none, none, none, none, none, none, none, none, none, none, none, none, none, none, none,
                none, none, none, none, none, none, none, none, none, none, none, none, none, none, none, none, none, none,
                none, none, none, some (SV.slc 2 0 (k + 1) (k + 1)),
                some (SV.slc 1 0 1 1),
                some (SV.raw (Value.int IntKind.i64 (↑1 : Int))), none, none, none, none, none, none, none, none,
                none, none, none, none, none, none, none, none],
            bx :=
              [{ elem := 24,
                  row := Row.lst [SV.raw (Value.int IntKind.i64 (0 : Int)), SV.raw (Value.slice none 0 0)],
                  total := 2, own := true : Box },
                { elem := 5, row := Row.lst [SV.raw (Value.int IntKind.u8 (255 : Int))], total := 1,
                  own := true : Box },
                { elem := 5,
                  row :=
                    Row.vals (Value.int IntKind.u8 (255 : Int) :: (List.drop 1 (vB zs))),
                  total := tot, own := true : Box }],
            E := E : St })
  refine ⟨by simp; omega, ?_⟩
  have e : Value.int IntKind.u8 255 :: (List.drop 1 (vB zs)) = vB (255 :: zs.drop 1) := by simp
  rw [e]
  exact Lp_re [some 0, some 1, some 2] h ⟨⟨by simp, by simp, fun j h => (by have e : j = 0 ∨ j = 1 := (by omega); rcases e with rfl | rfl <;> rfl)⟩, rfl, (by repeat' first | exact True.intro | refine And.intro (Or.inl rfl) ?_), (by repeat' first | exact True.intro | exact rfl | exact Or.inl rfl | fail | refine And.intro ?_ ?_), (show List.Nodup [0, 1, 2] from by decide), Mem.le_refl _⟩
theorem rnd18 {n ch bp tot : Nat} {zs : List Int} {K : KT} (hn : 1 ≤ n ∧ n ≤ 16384) (hc : 1 ≤ ch) (hb : 1 ≤ bp ∧ bp ≤ n) (hz : n ≤ zs.length) (hr : zs.take bp = List.replicate bp 255)
    (h : ∀ zs : List Int, n ≤ zs.length → zs.take n = List.replicate n 255 → K (.slc 2 0 n n) ([⟨24, .lst [I 0, L none 0 0], 2, true⟩, ⟨5, .lst [.raw (.int .u8 255)], 1, true⟩] ++ [⟨5, .vals (vB zs), tot, true⟩]) E)
    (ih : ∀ (bp' : Nat) (zs : List Int), bp < bp' → bp' ≤ n → n ≤ zs.length → zs.take bp' = List.replicate bp' 255 → Lp F6 8 Try.f25 [1, 1, 1, 1, 1, 1, 1, 1, 1, 1, 1, 0, 0] 2 K (sh18 n ch bp' tot zs E)) :
    Rnd F6 8 Try.f25 [1, 1, 1, 1, 1, 1, 1, 1, 1, 1, 1, 0, 0] 2 K (sh18 n ch bp tot zs E) := by
  refine same (by kernel_rfl) (?_ : 
      bif decide ((↑bp : Int) < (↑n : Int)) then
        req ((0 : Int) ≤ (↑bp : Int) ∧ (↑bp : Int) ≤ (↑(toN none n) : Int))
          (req
            (((0 : Int) ≤ if (↑ch : Int) < (↑bp : Int) then (↑ch : Int) else (↑bp : Int)) ∧
              (if (↑ch : Int) < (↑bp : Int) then (↑ch : Int) else (↑bp : Int)) ≤ (↑(toN none n) : Int))
            ((if toN none n = 0 then 0 else 0) +
                  (toN (some (if (↑ch : Int) < (↑bp : Int) then (↑ch : Int) else (↑bp : Int))) n - 0) * 1 ≤
                List.length (vB zs) ∧
              (∀ (x : Value), List.Mem x (vB zs) → Value.oneCell' x = true) ∧
                (if toN none n = toN (some (↑bp : Int)) 0 then 0
                      else 0 + toN (some (↑bp : Int)) 0 * 1) +
                      (toN none n - toN (some (↑bp : Int)) 0) * 1 ≤
                    List.length (vB zs) ∧
                  Lp F6 8 Try.f25
                    [1, 1, 1, 1, 1, 1, 1, 1, 1,
                      1, 1, 0, 0]
                    2 K
                    {
                      fr :=
                        [none, none, none, none, none, none, none, some (SV.raw (Value.int IntKind.i64 (↑n : Int))),
                          some (SV.raw (Value.int IntKind.i64 (↑ch : Int))), some (SV.slc 2 0 n n),
                          some
                            (SV.raw
                              (Value.int IntKind.i64
                                (IntKind.wrap IntKind.i64
                                  ((↑bp : Int) +
                                    (↑(min
                                          (toN (some (if (↑ch : Int) < (↑bp : Int) then (↑ch : Int) else (↑bp : Int))) n -
                                            0)
                                          (toN none n - toN (some (↑bp : Int)) 0)) :
                                      Int))))),
                          none, none, none, none, none, none, none, none, none, none, none, none, none, none, none, none,
                          none, none, none, none, none, none, none, none, none, none, none, none, none, none, none, none,
                          none, none, none, none, none, none, none, none, none, none, none, none, none, none, none, none,
                          none, none, none, none, none, none, none, none, none, none, none, none, none, none, none, none,
                          none, none],
                      bx :=
                        [{ elem := 24,
                            row :=
                              Row.lst
                                [SV.raw (Value.int IntKind.i64 (0 : Int)), SV.raw (Value.slice none 0 0)],
                            total := 2, own := true : Box },
                          { elem := 5, row := Row.lst [SV.raw (Value.int IntKind.u8 (255 : Int))], total := 1,
                            own := true : Box },
                          { elem := 5,
                            row :=
                              Row.vals
                                (layV (vB zs)
                                  (if toN none n = toN (some (↑bp : Int)) 0 then 0
                                  else 0 + toN (some (↑bp : Int)) 0 * 1)
                                  (List.take
                                    (min
                                        (toN (some (if (↑ch : Int) < (↑bp : Int) then (↑ch : Int) else (↑bp : Int))) n -
                                          0)
                                        (toN none n - toN (some (↑bp : Int)) 0) *
                                      1)
                                    (List.take
                                      ((toN (some (if (↑ch : Int) < (↑bp : Int) then (↑ch : Int) else (↑bp : Int))) n -
                                          0) *
                                        1)
                                      (List.drop (if toN none n = 0 then 0 else 0) (vB zs))))),
                            total := tot, own := true : Box }],
                      E := E : St }))
      else
        K (SV.slc 2 0 n n)
          [{ elem := 24,
              row := Row.lst [SV.raw (Value.int IntKind.i64 (0 : Int)), SV.raw (Value.slice none 0 0)],
              total := 2, own := true : Box },
            { elem := 5, row := Row.lst [SV.raw (Value.int IntKind.u8 (255 : Int))], total := 1, own := true :
              Box },
            { elem := 5, row := Row.vals (vB zs), total := tot, own := true : Box }]
          E)
  refine condC (fun g => ?_) (fun g => ?_)
  · have g : bp < n := by simpa using g
    obtain ⟨q, hq⟩ : ∃ q, q = min bp ch := ⟨_, rfl⟩
    have eq : (if (ch : Int) < (bp : Int) then (ch : Int) else (bp : Int)) = (q : Int) := by split <;> omega
    have e2 : ∀ d, toN (some (q : Int)) d = q := fun d => by simp [toN]
    have e3 : ∀ d, toN (some (bp : Int)) d = bp := fun d => by simp [toN]
    have e4 : ∀ d, toN none d = d := fun d => rfl
    have e5 : IntKind.wrap .i64 ((bp : Int) + ((min q (n - bp) : Nat) : Int)) = ((bp + min q (n - bp) : Nat) : Int) := by rw [wrap_i64 (by omega)]; simp
    rw [eq]
    simp only [e2, e3, e4, ite_self, Nat.sub_zero]
    rw [if_neg (show ¬ n = bp by omega)]
    refine req_intro (by omega) (req_intro (by omega) ⟨by simp; omega, vB_one zs, by simp; omega, ?_⟩)
    obtain ⟨s1, s2⟩ := rep_step hr g hz (show q ≤ bp by omega)
    have e6 : layV (vB zs) (0 + bp * 1) (List.take (min q (n - bp) * 1) (List.take (q * 1) (List.drop 0 (vB zs)))) = vB (zs.take bp ++ (zs.take q).take (min q (n - bp)) ++ zs.drop (bp + min q (n - bp))) := by
      unfold layV vB
      rw [Nat.zero_add, Nat.mul_one, Nat.mul_one, Nat.mul_one, List.drop_zero]
      simp only [← List.map_take, ← List.map_drop, ← List.map_append, List.length_map]
      rw [show ((zs.take q).take (min q (n - bp))).length = min q (n - bp) by simp; omega]
    rw [e5, e6]
    exact Lp_re [some 0, some 1, some 2] (ih _ _ (by omega) (by omega) s2 s1) ⟨⟨by simp, by simp, fun j h => (by have e : j = 0 ∨ j = 1 := (by omega); rcases e with rfl | rfl <;> rfl)⟩, rfl, (by repeat' first | exact True.intro | refine And.intro (Or.inl rfl) ?_), (by repeat' first | exact True.intro | exact rfl | exact Or.inl rfl | fail | refine And.intro ?_ ?_), (show List.Nodup [0, 1, 2] from by decide), Mem.le_refl _⟩
  · have g : bp = n := by simp at g; omega
    subst g
    exact h zs hz hr
theorem lp18 {n ch bp tot : Nat} {zs : List Int} {K : KT} (hn : 1 ≤ n ∧ n ≤ 16384) (hc : 1 ≤ ch) (hb : 1 ≤ bp ∧ bp ≤ n) (hz : n ≤ zs.length) (hr : zs.take bp = List.replicate bp 255)
    (h : ∀ zs : List Int, n ≤ zs.length → zs.take n = List.replicate n 255 → K (.slc 2 0 n n) ([⟨24, .lst [I 0, L none 0 0], 2, true⟩, ⟨5, .lst [.raw (.int .u8 255)], 1, true⟩] ++ [⟨5, .vals (vB zs), tot, true⟩]) E) :
    Lp F6 8 Try.f25 [1, 1, 1, 1, 1, 1, 1, 1, 1, 1, 1, 0, 0] 2 K (sh18 n ch bp tot zs E) :=
  Lp_ind okF6 (fun x : {x : Nat × List Int // 1 ≤ x.1 ∧ x.1 ≤ n ∧ n ≤ x.2.length ∧ x.2.take x.1 = List.replicate x.1 255} => sh18 n ch x.1.1 tot x.1.2 E) (fun x => n - x.1.1)
    (fun x ih => rnd18 hn hc ⟨x.2.1, x.2.2.1⟩ x.2.2.2.1 x.2.2.2.2 h fun bp' zs g1 g2 g3 g4 => ih ⟨(bp', zs), by have := x.2.1; exact ⟨by omega, g2, g3, g4⟩⟩ (by show n - bp' < n - x.1.1; omega)) ⟨(bp, zs), hb.1, hb.2, hz, hr⟩
theorem s25 {n : Nat} {K : KT} (hn : 1 ≤ n ∧ n ≤ 16384) (h : ∀ (tot : Nat) (zs : List Int), n ≤ zs.length → zs.take n = List.replicate n 255 → K (.slc 2 0 n n) ([⟨24, .lst [I 0, L none 0 0], 2, true⟩, ⟨5, .lst [.raw (.int .u8 255)], 1, true⟩] ++ [⟨5, .vals (vB zs), tot, true⟩]) E) : EntB F6 8 Try.f25 [.slc 1 0 1 1, I n] [⟨24, .lst [I 0, L none 0 0], 2, true⟩, ⟨5, .lst [.raw (.int .u8 255)], 1, true⟩] E K := by
  obtain ⟨k, rfl⟩ : ∃ k, n = k + 1 := ⟨n - 1, by omega⟩
  exact ent25 hn fun ch tot zs hc hz => Ct_intro okF6 (pc17 hz (lp18 hn hc ⟨by omega, by omega⟩ (by simp; omega) (by simp) (h tot)))

end Go.Proofs.Ythgdbpnddnbbdaa.FlashOwn
