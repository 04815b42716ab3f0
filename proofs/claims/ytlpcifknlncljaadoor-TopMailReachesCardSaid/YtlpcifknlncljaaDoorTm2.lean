/- What functions of the program compute; plain lemmas on it. Conditions: none. -/
import Derived.Test.YtlpcifknlncljaaDoorProg
import Derived.Test.YtlpcifknlncljaaDoorSyDD
import Derived.Test.YtlpcifknlncljaaDoorRows
import Derived.OpenShut
import Derived.Lay
import Derived.LaidMore
import Derived.MakeChecks
namespace Go.Proofs.YtlpcifknlncljaaDoor.TopOwn
open Go Go.Sx
set_option maxRecDepth 100000
set_option maxHeartbeats 4000000
set_option linter.unusedVariables false
set_option linter.unusedSimpArgs false
variable {E : Mem} {K : SV → Mem → Prop}
theorem condC {c : Bool} {p q : Prop} (h1 : c = true → p) (h0 : c = false → q) : bif c then p else q := by cases c; exact h0 rfl; exact h1 rfl
def gcells : List Value := [.int .i64 30, .int .u64 13787848793156543929, .int .i64 27, .int .u64 10723151780598845931, .int .i64 31, .int .u64 1]
def GR (E : Mem) : Prop := E (.slice (some ⟨0, 0, none⟩) 0 0) gcells
theorem GR.mono {E E' : Mem} (h : GR E) (k : Mem.le E E') : GR E' := k _ _ h
theorem wu64 (x : Int) : 0 ≤ IntKind.wrap .u64 x ∧ IntKind.wrap .u64 x < 18446744073709551616 := by
  have : IntKind.wrap .u64 x = x % 18446744073709551616 := rfl
  rw [this]; omega
noncomputable def A1 : Cx := { P := Tryd.prog, inl := fun f => List.contains [] f, tab := fun _ _ _ _ => False, isB := fun _ => false, tabB := fun _ _ _ _ _ => False, opt := { unroll := 4, carry := [] }, muts := mutsD }
theorem okA1 : CxOK A1 := CxOK.four (fun _ _ _ _ h => h.elim) (by kernel_rfl) (okInl (by kernel_rfl)) (fun _ _ _ _ _ h => h.elim)
theorem q77 {a1 : Int} (h0 : GR E) (h : ∀ n : Int, 0 ≤ n → n < 18446744073709551616 → K (.raw (.int .u64 n)) E) :
    Ent A1 8 Tryd.f77 [.raw (.int .u64 a1)] E K := by
  refine same (by kernel_rfl) (?_ : ∃ (n : Int), ∃ (n_1 : Int), ∃ (n_2 : Int), ∃ (n_3 : Int), ∃ (n_4 : Int), ∃ (n_5 : Int), LoadE A1.P E 143 (Value.slice (some { block := 0, off := 0 : Addr }) 0 0) 0 (SV.agg [I n, SV.raw (Value.int IntKind.u64 n_1), I n_2, SV.raw (Value.int IntKind.u64 n_3), I n_4, SV.raw (Value.int IntKind.u64 n_5)]) ∧ req ((0 : Int) ≤ n) (req ((0 : Int) ≤ n_2) (req ((0 : Int) ≤ n_4) (Mem.le E E ∧ K (SV.raw (Value.int IntKind.u64 (IntKind.wrap IntKind.u64 (IntKind.wrap IntKind.u64 (↑(BitVec.toNat (BitVec.ofInt (IntKind.bits IntKind.u64) (IntKind.wrap IntKind.u64 (IntKind.wrap IntKind.u64 (↑(BitVec.toNat (BitVec.ofInt (IntKind.bits IntKind.u64) (IntKind.wrap IntKind.u64 (IntKind.wrap IntKind.u64 (↑(BitVec.toNat (BitVec.ofInt (IntKind.bits IntKind.u64) (IntKind.wrap IntKind.u64 (a1 + (11400714819323198485 : Int))) ^^^ BitVec.ofInt (IntKind.bits IntKind.u64) (Int.fdiv (IntKind.wrap IntKind.u64 (a1 + (11400714819323198485 : Int))) ((2 : Int) ^ min (Int.toNat n) (IntKind.bits IntKind.u64))))) : Int) * n_1)) ^^^ BitVec.ofInt (IntKind.bits IntKind.u64) (Int.fdiv (IntKind.wrap IntKind.u64 (IntKind.wrap IntKind.u64 (↑(BitVec.toNat (BitVec.ofInt (IntKind.bits IntKind.u64) (IntKind.wrap IntKind.u64 (a1 + (11400714819323198485 : Int))) ^^^ BitVec.ofInt (IntKind.bits IntKind.u64) (Int.fdiv (IntKind.wrap IntKind.u64 (a1 + (11400714819323198485 : Int))) ((2 : Int) ^ min (Int.toNat n) (IntKind.bits IntKind.u64))))) : Int) * n_1)) ((2 : Int) ^ min (Int.toNat n_2) (IntKind.bits IntKind.u64))))) : Int) * n_3)) ^^^ BitVec.ofInt (IntKind.bits IntKind.u64) (Int.fdiv (IntKind.wrap IntKind.u64 (IntKind.wrap IntKind.u64 (↑(BitVec.toNat (BitVec.ofInt (IntKind.bits IntKind.u64) (IntKind.wrap IntKind.u64 (IntKind.wrap IntKind.u64 (↑(BitVec.toNat (BitVec.ofInt (IntKind.bits IntKind.u64) (IntKind.wrap IntKind.u64 (a1 + (11400714819323198485 : Int))) ^^^ BitVec.ofInt (IntKind.bits IntKind.u64) (Int.fdiv (IntKind.wrap IntKind.u64 (a1 + (11400714819323198485 : Int))) ((2 : Int) ^ min (Int.toNat n) (IntKind.bits IntKind.u64))))) : Int) * n_1)) ^^^ BitVec.ofInt (IntKind.bits IntKind.u64) (Int.fdiv (IntKind.wrap IntKind.u64 (IntKind.wrap IntKind.u64 (↑(BitVec.toNat (BitVec.ofInt (IntKind.bits IntKind.u64) (IntKind.wrap IntKind.u64 (a1 + (11400714819323198485 : Int))) ^^^ BitVec.ofInt (IntKind.bits IntKind.u64) (Int.fdiv (IntKind.wrap IntKind.u64 (a1 + (11400714819323198485 : Int))) ((2 : Int) ^ min (Int.toNat n) (IntKind.bits IntKind.u64))))) : Int) * n_1)) ((2 : Int) ^ min (Int.toNat n_2) (IntKind.bits IntKind.u64))))) : Int) * n_3)) ((2 : Int) ^ min (Int.toNat n_4) (IntKind.bits IntKind.u64))))) : Int) * n_5)))) E))))
  refine ⟨30, 13787848793156543929, 27, 10723151780598845931, 31, 1, ⟨gcells, h0, by kernel_rfl⟩, req_intro (by decide) (req_intro (by decide) (req_intro (by decide) ⟨Mem.le_refl _, h _ (wu64 _).1 (wu64 _).2⟩))⟩
noncomputable def tabA2 : FuncId → List SV → Mem → (SV → Mem → Prop) → Prop := fun f args E K => match f with
  | 77 => d1 args fun x0 => dN .u64 x0 fun a1 => GR E ∧ (∀ n : Int, 0 ≤ n → n < 18446744073709551616 → K (.raw (.int .u64 n)) E)
  | _ => False
theorem tabA2_ok : TabOK Tryd.prog tabA2 := by
  intro f args E K h
  unfold tabA2 at h
  split at h
  · replace h := d1_elim h
    obtain ⟨x0, rfl, h⟩ := h
    replace h := dN_elim h
    obtain ⟨a1, rfl, h⟩ := h
    obtain ⟨g0, h⟩ := h
    exact TabSem.congr (valL_cons rfl rfl) (Ent.sem okA1 Tryd.func77 ⟨by kernel_rfl, by kernel_rfl⟩ rfl (q77 g0 h))
  · exact h.elim
noncomputable def A2 : Cx := { P := Tryd.prog, inl := fun f => List.contains [72] f, tab := tabA2, isB := fun _ => false, tabB := fun _ _ _ _ _ => False, opt := { unroll := 0, carry := [] }, muts := mutsD }
theorem okA2 : CxOK A2 := CxOK.four tabA2_ok (by kernel_rfl) (okInl (by kernel_rfl)) (fun _ _ _ _ _ h => h.elim)
noncomputable def A3 : Cx := { P := Tryd.prog, inl := fun f => List.contains [] f, tab := tabA2, isB := fun _ => false, tabB := fun _ _ _ _ _ => False, opt := { unroll := 0, carry := [] }, muts := mutsD }
theorem okA3 : CxOK A3 := CxOK.four tabA2_ok (by kernel_rfl) (okInl (by kernel_rfl)) (fun _ _ _ _ _ h => h.elim)
abbrev fr68 (a : Int) : List (Option SV) := [some (.raw (.int .u64 a)), none, some (.loc 0 0), none, some (.raw (.int .u64 a)), some (.clo 76 [] [.loc 1 0]), none, none]
noncomputable abbrev ops76 : Array Oper := match sub (bodyOf Tryd.f76) [1, 0, 0, 0, 0] with | .region _ ops _ => ops | _ => #[]
theorem p68 {a : Int} {c : Rc} {K : SV → Mem → Prop} (h0 : GR E) (h : ∀ n : Int, 0 ≤ n → n < 4294967296 → K (I n) E) : Pf A3 A2 8 8 Tryd.f68 [1, 0, 1, 0] 0 (pubK E K) ⟨fr68 a, [⟨3, .lst [I 0], 1, true⟩, ⟨118, .lst [.raw (.int .u64 a)], 1, true⟩], E⟩ (sub (bodyOf Tryd.f76) [0]) ops76 9 Tryd.f76.ntmps [.raw (.func (.yield c.l) #[] #[]), .loc 1 0] c := by
  refine same (by kernel_rfl) (?_ : IntKind.u64 = IntKind.u64 ∧ GR E ∧ ∀ (n : Int), (0 : Int) ≤ n → n < (18446744073709551616 : Int) → Mem.le E E ∧ (c.l = c.l ∧ 9 < 12) ∧ Mem.le E E ∧ K (I (IntKind.wrap IntKind.i64 (Int.fdiv n (4294967296 : Int)))) E)
  refine ⟨rfl, h0, fun n a b => ⟨Mem.le_refl _, ⟨rfl, by decide⟩, Mem.le_refl _, ?_⟩⟩
  rw [Int.fdiv_eq_ediv_of_nonneg _ (by decide), wrap_i64 (by omega)]
  exact h _ (by omega) (by omega)
theorem q68 {a1 : Int} (h0 : GR E) (h : ∀ n : Int, 0 ≤ n → n < 4294967296 → K (I n) E) :
    Ent A2 8 Tryd.f68 [.raw (.int .u64 a1)] E K := by
  refine same (by kernel_rfl) (?_ : Mem.le E E ∧ Ct A2 8 Tryd.f68 [1, 0, 1, 0] 0 (pubK E K) { fr := [some (SV.raw (Value.int IntKind.u64 a1)), none, some (SV.loc 0 0), none, some (SV.raw (Value.int IntKind.u64 a1)), some (SV.clo 76 [] [SV.loc 1 0]), none, none], bx := [(⟨3, Row.lst [I (0 : Int)], 1, true⟩ : Box), ⟨118, Row.lst [SV.raw (Value.int IntKind.u64 a1)], 1, true⟩], E := E : St })
  refine ⟨Mem.le_refl _, Ct_first okA2 okA3 (gf := 76) (gfn := Tryd.f76) (first := []) (caps := [.loc 1 0]) (by kernel_rfl) (by kernel_rfl) Tryd.func76 ⟨by kernel_rfl, by kernel_rfl⟩ (A := sub (bodyOf Tryd.f76) [0]) (x := .skip) (y := sub (bodyOf Tryd.f76) [1, 0, 0, 1]) (id := 1) (k := 0) (t := 9) (ops := ops76) (by kernel_rfl) (by kernel_rfl) (by kernel_rfl) (by decide) (fun c => p68 h0 h)⟩
noncomputable def tabA4 : FuncId → List SV → Mem → (SV → Mem → Prop) → Prop := fun f args E K => match f with
  | 68 => d1 args fun x0 => dN .u64 x0 fun a1 => GR E ∧ (∀ n : Int, 0 ≤ n → n < 4294967296 → K (I n) E)
  | _ => False
theorem tabA4_ok : TabOK Tryd.prog tabA4 := by
  intro f args E K h
  unfold tabA4 at h
  split at h
  · replace h := d1_elim h
    obtain ⟨x0, rfl, h⟩ := h
    replace h := dN_elim h
    obtain ⟨a1, rfl, h⟩ := h
    obtain ⟨g0, h⟩ := h
    exact TabSem.congr (valL_cons rfl rfl) (Ent.sem okA2 Tryd.func68 ⟨by kernel_rfl, by kernel_rfl⟩ rfl (q68 g0 h))
  · exact h.elim
noncomputable def A4 : Cx := { P := Tryd.prog, inl := fun f => List.contains [] f, tab := tabA4, isB := fun _ => false, tabB := fun _ _ _ _ _ => False, opt := { unroll := 0, carry := [] }, muts := mutsD }
theorem okA4 : CxOK A4 := CxOK.four tabA4_ok (by kernel_rfl) (okInl (by kernel_rfl)) (fun _ _ _ _ _ h => h.elim)
theorem q64 {a1 : Int} {a2 : Int} (h0 : GR E) (h1 : 1 ≤ a2) (h2 : a2 ≤ 1000000000) (h : ∀ r : Int, 0 ≤ r → r < a2 → K (I r) E) :
    Ent A4 8 Tryd.f64 [.raw (.int .u64 a1), I a2] E K := by
  refine same (by kernel_rfl) (?_ : bif decide (a2 < (1 : Int)) then Mem.le E E ∧ K (I (0 : Int)) E else bif bif false then true else decide (a2 > (1000000000 : Int)) then Mem.le E E ∧ K (I (0 : Int)) E else IntKind.u64 = IntKind.u64 ∧ GR E ∧ ∀ (n : Int), (0 : Int) ≤ n → n < (4294967296 : Int) → Mem.le E E ∧ (a2 = (0 : Int) → False) ∧ Mem.le E E ∧ K (I (Int.tmod n a2)) E)
  refine condC (fun g => absurd g (by simp; omega)) (fun _ => condC (fun g => absurd g (by simp; omega)) (fun _ => ⟨rfl, h0, fun n a b => ⟨Mem.le_refl _, by omega, Mem.le_refl _, ?_⟩⟩))
  rw [Int.tmod_eq_emod_of_nonneg a]
  exact h _ (Int.emod_nonneg _ (by omega)) (Int.emod_lt_of_pos _ (by omega))
noncomputable def B1 : Cx := { P := Tryd.prog, inl := fun f => List.contains [] f, tab := fun _ _ _ _ => False, isB := fun _ => false, tabB := fun _ _ _ _ _ => False, opt := { unroll := 0, carry := [] }, muts := mutsD }
theorem okB1 : CxOK B1 := CxOK.four (fun _ _ _ _ h => h.elim) (by kernel_rfl) (okInl (by kernel_rfl)) (fun _ _ _ _ _ h => h.elim)
noncomputable def B2 : Cx := { P := Tryd.prog, inl := fun f => List.contains [] f, tab := fun _ _ _ _ => False, isB := fun _ => false, tabB := fun _ _ _ _ _ => False, opt := { unroll := 3, carry := [] }, muts := mutsD }
theorem okB2 : CxOK B2 := CxOK.four (fun _ _ _ _ h => h.elim) (by kernel_rfl) (okInl (by kernel_rfl)) (fun _ _ _ _ _ h => h.elim)
abbrev fr73 : List (Option SV) := [some (L none 0 0), some (.clo 71 [] [.loc 0 0]), some (.loc 2 0), none, some (L none 0 0), none, some (.clo 71 [] [.loc 0 0]), none, none, none, none, none, none]
theorem o73 {k a1 a2 a3 a4 a5 : Int} {b6 : Bool} {KK : KT} {cap tot : Nat} (h : ∀ (b : Option Addr) (c : Nat) (E' : Mem), Mem.le E E' → b ≠ none → E' (.slice b 1 c) [.int .i64 k] → KK (L b 1 c) [⟨98, .lst [.mp false 1], 1, true⟩, ⟨4294967297, .lst [I k, .agg [I a1, I a2, I a3, I a4, B b6, I a5]], 2, true⟩] E') : pubB (cloK 2 KK) (.slc 5 0 1 cap) [⟨98, .lst [.mp false 1], 1, true⟩, ⟨4294967297, .lst [I k, .agg [I a1, I a2, I a3, I a4, B b6, I a5]], 2, true⟩, ⟨112, .lst [.slc 5 0 1 cap], 1, true⟩, ⟨4294967297, .lst [.mp false 1, I 1, I 0], 3, true⟩, ⟨3, .lst [I k], 1, true⟩, ⟨3, .lst [I k], tot, true⟩] E := by
  refine same (q := ∀ (base : Option Addr) (E2 : Mem), Mem.le E E2 → WinE E2 base [.int .i64 k] → cloK 2 KK (.raw (slcAs base 0 1 cap)) [⟨98, .lst [.mp false 1], 1, true⟩, ⟨4294967297, .lst [I k, .agg [I a1, I a2, I a3, I a4, B b6, I a5]], 2, true⟩, ⟨112, .lst [.raw (slcAs base 0 1 cap)], 1, true⟩, ⟨4294967297, .lst [.mp false 1, I 1, I 0], 3, true⟩, ⟨3, .lst [I k], 1, true⟩, ⟨3, .lst [I k], tot, false⟩] E2) (by kernel_rfl) ?_
  intro base E2 h1 h2
  have hb : base ≠ none := fun e => by have := h2.1 e; cases this
  exact cloK_intro [some 0, some 1] (h _ _ E2 h1 (by cases base with | none => exact absurd rfl hb | some a => simp) (h2.2 0 1 1 cap (by simp))) ⟨⟨by first | (simp; done) | (simp [St.pub]; done), by first | (simp; done) | (simp [St.pub]; done), fun j h => (by have e : j = 0 ∨ j = 1 := (by omega); rcases e with rfl | rfl <;> rfl)⟩, rfl, (by repeat' first | exact True.intro | refine And.intro (Or.inl rfl) ?_ | refine And.intro (Or.inr ⟨rfl, rfl⟩) ?_), (by repeat' first | exact True.intro | exact rfl | exact Or.inl rfl | fail | refine And.intro ?_ ?_), (show List.Nodup [0, 1] from by decide), Mem.le_refl _⟩
theorem pn73 {k a1 a2 a3 a4 a5 : Int} {b6 : Bool} {KK : KT} {cap tot : Nat} (h : KK (.slc 5 0 1 cap) [⟨98, .lst [.mp false 1], 1, true⟩, ⟨4294967297, .lst [I k, .agg [I a1, I a2, I a3, I a4, B b6, I a5]], 2, true⟩, ⟨112, .lst [.slc 5 0 1 cap], 1, true⟩, ⟨4294967297, .lst [.mp false 1, I 1, I 0], 3, true⟩, ⟨3, .lst [I k], 1, true⟩, ⟨3, .lst [I k], tot, true⟩] E) : Pn B1 8 Tryd.f73 [1, 0, 1, 0] 2 KK ⟨fr73, [⟨98, .lst [.mp false 1], 1, true⟩, ⟨4294967297, .lst [I k, .agg [I a1, I a2, I a3, I a4, B b6, I a5]], 2, true⟩, ⟨112, .lst [.slc 5 0 1 cap], 1, true⟩, ⟨4294967297, .lst [.mp false 1, I 1, I 0], 3, true⟩, ⟨3, .lst [I k], 1, true⟩, ⟨3, .lst [I k], tot, true⟩], E⟩ := by
  refine same (by kernel_rfl) (?_ : KK (SV.slc 5 0 1 cap) [⟨98, Row.lst [SV.mp false 1], 1, true⟩, ⟨4294967297, Row.lst [I k, SV.agg [I a1, I a2, I a3, I a4, B b6, I a5]], 2, true⟩, ⟨112, Row.lst [SV.slc 5 0 1 cap], 1, true⟩, ⟨4294967297, Row.lst [SV.mp false 1, I (1 : Int), I (0 : Int)], 3, true⟩, ⟨3, Row.lst [I k], 1, true⟩, ⟨3, Row.lst [I k], tot, true⟩] E)
  exact h
theorem e71 {k a1 a2 a3 a4 a5 : Int} {b6 : Bool} {KK : KT} {rc : Rc} (hrc : CxOK (YCx B2 B1 8 fr73 (sub (bodyOf Tryd.f73) [1, 0, 1, 0]) rc)) (h : ∀ (b : Option Addr) (c : Nat) (E' : Mem), Mem.le E E' → b ≠ none → E' (.slice b 1 c) [.int .i64 k] → KK (L b 1 c) [⟨98, .lst [.mp false 1], 1, true⟩, ⟨4294967297, .lst [I k, .agg [I a1, I a2, I a3, I a4, B b6, I a5]], 2, true⟩] E') : EntB (YCx B2 B1 8 fr73 (sub (bodyOf Tryd.f73) [1, 0, 1, 0]) rc) 8 Tryd.f71 [.raw (.func (.yield rc.l) #[] #[]), .loc 0 0] [⟨98, .lst [.mp false 1], 1, true⟩, ⟨4294967297, .lst [I k, .agg [I a1, I a2, I a3, I a4, B b6, I a5]], 2, true⟩, ⟨112, .lst [L none 0 0], 1, true⟩] E (fun _ bx E => Cn B1 8 Tryd.f73 [1, 0, 1, 0] 2 (pubB (cloK 2 KK)) ⟨fr73, bx, E⟩) := by
  refine same (by kernel_rfl) (?_ : rc.l = rc.l ∧ ∀ (cap' tot' : Nat), 1 ≤ cap' → cap' * 1 ≤ tot' → Cn B1 8 Tryd.f73 [1, 0, 1, 0] 2 (pubB (cloK 2 KK)) { fr := [some (L none 0 0), some (SV.clo 71 [] [SV.loc 0 0]), some (SV.loc 2 0), none, some (L none 0 0), none, some (SV.clo 71 [] [SV.loc 0 0]), none, none, none, none, none, none], bx := [(⟨98, Row.lst [SV.mp false 1], 1, true⟩ : Box), ⟨4294967297, Row.lst [I k, SV.agg [I a1, I a2, I a3, I a4, B b6, I a5]], 2, true⟩, ⟨112, Row.lst [SV.slc 5 0 1 cap'], 1, true⟩, ⟨4294967297, Row.lst [SV.mp false 1, I (↑1 : Int), I (0 : Int)], 3, true⟩, ⟨3, Row.lst [I k], 1, true⟩, ⟨3, Row.lst [I k], tot', true⟩], E := E : St })
  exact ⟨rfl, fun cap tot c1 c2 => Cn_intro (pn73 (o73 h))⟩
theorem u73 {k a1 a2 a3 a4 a5 : Int} {b6 : Bool} {KK : KT} (h : ∀ (b : Option Addr) (c : Nat) (E' : Mem), Mem.le E E' → b ≠ none → E' (.slice b 1 c) [.int .i64 k] → KK (L b 1 c) [⟨98, .lst [.mp false 1], 1, true⟩, ⟨4294967297, .lst [I k, .agg [I a1, I a2, I a3, I a4, B b6, I a5]], 2, true⟩] E') : EntB B1 8 Tryd.f73 [L none 0 0, .clo 71 [] [.loc 0 0]] [⟨98, .lst [.mp false 1], 1, true⟩, ⟨4294967297, .lst [I k, .agg [I a1, I a2, I a3, I a4, B b6, I a5]], 2, true⟩] E (pubB (cloK 2 KK)) := by
  refine same (by kernel_rfl) (?_ : Ct B1 8 Tryd.f73 [1, 0, 1, 0] 2 (pubB (cloK 2 KK)) { fr := [some (L none 0 0), some (SV.clo 71 [] [SV.loc 0 0]), some (SV.loc 2 0), none, some (L none 0 0), none, some (SV.clo 71 [] [SV.loc 0 0]), none, none, none, none, none, none], bx := [(⟨98, Row.lst [SV.mp false 1], 1, true⟩ : Box), ⟨4294967297, Row.lst [I k, SV.agg [I a1, I a2, I a3, I a4, B b6, I a5]], 2, true⟩, ⟨112, Row.lst [L none 0 0], 1, true⟩], E := E : St })
  exact RfY okB1 okB2 (by kernel_rfl) (by kernel_rfl) Tryd.func71 ⟨by kernel_rfl, by kernel_rfl⟩ (gf := 71) (gfn := Tryd.f71) (first := []) (caps := [.loc 0 0]) (m := 8) (fun rc hrc => e71 hrc h) rfl rfl
theorem set_sameB {bx : List Box} {p : Nat} {b : Box} (h : bx[p]? = some b) : bx.set p b = bx := by
  apply List.ext_getElem?
  intro i
  rw [List.getElem?_set]
  split
  · rename_i e; subst e
    split
    · exact h.symm
    · rename_i q; rw [List.getElem?_eq_none (by omega)] at h; cases h
  · rfl
theorem sem73 {k a1 a2 a3 a4 a5 : Int} {b6 : Bool} {K : KT} {bx : List Box} {p m : Nat} (hp : bx[p]? = some ⟨98, .lst [.mp false m], 1, true⟩) (hm : bx[m]? = some ⟨4294967297, .lst [I k, .agg [I a1, I a2, I a3, I a4, B b6, I a5]], 2, true⟩) (hne : p ≠ m)
    (h : ∀ (b : Option Addr) (c : Nat) (E' : Mem), Mem.le E E' → b ≠ none → E' (.slice b 1 c) [.int .i64 k] → K (L b 1 c) bx E') : CallSem Tryd.prog 73 [L none 0 0, .clo 71 [] [.loc p 0]] bx E K := by
  refine CallSem.hand (σ := [p, m]) (bxs := [⟨98, .lst [.mp false 1], 1, true⟩, ⟨4294967297, .lst [I k, .agg [I a1, I a2, I a3, I a4, B b6, I a5]], 2, true⟩]) ⟨by simp [hne], rfl, fun i b hb => ?_⟩ (args' := [L none 0 0, .clo 71 [] [.loc 0 0]]) ?_ ((EntB.sem okB1 Tryd.func73 ⟨by kernel_rfl, by kernel_rfl⟩ (u73 (KK := fun s bs' E' => K (s.ren [p, m] bx.length) (merge [p, m] bx bs') E') fun b c E' h1 h2 h3 => ?_)).pubB)
  · match i, hb with
    | 0, hb =>
      simp only [List.getElem?_cons_zero, Option.some.injEq] at hb; subst hb
      exact ⟨rfl, p, rfl, by simpa [Box.ren, Row.ren, SV.renL, SV.ren, renF] using hp⟩
    | 1, hb =>
      simp only [List.getElem?_cons_succ, List.getElem?_cons_zero, Option.some.injEq] at hb; subst hb
      exact ⟨rfl, m, rfl, by simpa [Box.ren, Row.ren, SV.renL, SV.ren, renF] using hm⟩
    | j + 2, hb => simp at hb
  · simp only [SV.renL, SV.ren, renF, List.getElem?_cons_zero, List.getElem?_cons_succ]
  · simp only [SV.ren, SV.renL, merge, setAll, List.take, List.drop, List.map, List.length_cons, List.length_nil, Box.ren, Row.ren, renF, List.getElem?_cons_zero, List.getElem?_cons_succ]
    rw [set_sameB hp, set_sameB hm]
    simpa using h b c E' h1 h2 h3
def clo73 : SV → Option Nat
  | .clo 71 [] [.loc p 0] => some p
  | _ => none
def keyBox : Option Box → Option Nat
  | some ⟨98, .lst [.mp false m], 1, true⟩ => some m
  | _ => none
def mapBox : Option Box → Option Int
  | some ⟨4294967297, .lst [.raw (.int .i64 k), .agg [.raw (.int .i64 _), .raw (.int .i64 _), .raw (.int .i64 _), .raw (.int .i64 _), .raw (.bool _), .raw (.int .i64 _)]], 2, true⟩ => some k
  | _ => none
def tab73 : CallT := fun f args bx E K => match f, args with
  | 73, [.raw (.slice none 0 0), s] => match clo73 s with
    | some p => match keyBox bx[p]? with
      | some m => match mapBox bx[m]? with
        | some k => cond (p == m) False (∀ (b : Option Addr) (c : Nat) (E' : Mem), Mem.le E E' → Hyp (b ≠ none) → E' (.slice b 1 c) [.int .i64 k] → K (L b 1 c) bx E')
        | none => False
      | none => False
    | none => False
  | _, _ => False
theorem clo73_some {s : SV} {p : Nat} (h : clo73 s = some p) : s = .clo 71 [] [.loc p 0] := by
  unfold clo73 at h
  split at h
  · cases h; rfl
  · cases h
theorem keyBox_some {b : Option Box} {m : Nat} (h : keyBox b = some m) : b = some ⟨98, .lst [.mp false m], 1, true⟩ := by
  unfold keyBox at h
  split at h
  · cases h; rfl
  · cases h
theorem mapBox_some {b : Option Box} {k : Int} (h : mapBox b = some k) : ∃ (a1 a2 a3 a4 a5 : Int) (b6 : Bool), b = some ⟨4294967297, .lst [I k, .agg [I a1, I a2, I a3, I a4, B b6, I a5]], 2, true⟩ := by
  unfold mapBox at h
  split at h
  · cases h; exact ⟨_, _, _, _, _, _, rfl⟩
  · cases h
theorem tab73_ok (f : FuncId) (args : List SV) (bx : List Box) (E : Mem) (K : KT) (h : tab73 f args bx E K) : CallSem Tryd.prog f args bx E K := by
  unfold tab73 at h
  split at h
  case h_2 => exact h.elim
  rename_i s
  split at h
  case h_2 => exact h.elim
  rename_i p h1
  split at h
  case h_2 => exact h.elim
  rename_i m h2
  split at h
  case h_2 => exact h.elim
  rename_i k h3
  obtain rfl := clo73_some h1
  obtain ⟨a1, a2, a3, a4, a5, b6, h3⟩ := mapBox_some h3
  cases hpm : (p == m) with
  | true => rw [hpm] at h; exact h.elim
  | false =>
    rw [hpm] at h
    exact sem73 (keyBox_some h2) h3 (by simpa using hpm) h
noncomputable def B4 : Cx := { P := Tryd.prog, inl := fun f => List.contains [65, 66, 69, 70, 74, 75, 78, 84, 87, 88] f, tab := fun _ _ _ _ => False, isB := fun f => f == 73, tabB := tab73, opt := { unroll := 4, carry := [] }, muts := mutsD }
theorem okB4 : CxOK B4 := CxOK.four (fun _ _ _ _ h => h.elim) (by kernel_rfl) (okInl (by kernel_rfl)) tab73_ok
theorem u58g {k a1 a2 a3 a4 a5 : Int} {b6 : Bool} {KK : KT} (h : ∀ (cap tot : Nat) (E' : Mem), Mem.le E E' → KK (.slc 3 0 1 cap) [⟨4294967297, .lst [I k, .agg [I a1, I a2, I a3, I a4, B b6, I a5]], 2, true⟩, ⟨98, .lst [.mp false 0], 1, true⟩, ⟨102, .lst [I a1, I a2, I a3, I a4, B b6, I a5], 6, true⟩, ⟨102, .lst [I a1, I a2, I a3, I a4, B b6, I a5], tot, true⟩] E') : EntB B4 8 Tryd.f58 [.mp false 0] [⟨4294967297, .lst [I k, .agg [I a1, I a2, I a3, I a4, B b6, I a5]], 2, true⟩] E KK := by
  refine same (by kernel_rfl) (?_ : ∀ (b : Option Addr) (c : Nat) (E' : Mem), Mem.le E E' → Hyp (b ≠ none) → E' (Value.slice b 1 c) [Value.int IntKind.i64 k] → Mem.le E' E' ∧ Mem.le E' E' ∧ Mem.le E' E' ∧ Mem.le E' E' ∧ Mem.le E' E' ∧ (∃ (cs : List Value), E' (Value.slice b 1 c) cs ∧ (cs = [] → False)) ∧ ∃ (n : Int), LoadE B4.P E' 3 (Value.slice b 1 c) 0 (I n) ∧ bif n == k then ∀ (cap' tot' : Nat), 1 ≤ cap' → cap' * 6 ≤ tot' → KK (SV.slc 3 0 1 cap') [⟨4294967297, Row.lst [I k, SV.agg [I a1, I a2, I a3, I a4, B b6, I a5]], 2, true⟩, ⟨98, Row.lst [SV.mp false 0], 1, true⟩, ⟨102, Row.lst [I a1, I a2, I a3, I a4, B b6, I a5], 6, true⟩, ⟨102, Row.lst [I a1, I a2, I a3, I a4, B b6, I a5], tot', true⟩] E' else ∀ (cap' tot' : Nat), 1 ≤ cap' → cap' * 6 ≤ tot' → KK (SV.slc 3 0 1 cap') [⟨4294967297, Row.lst [I k, SV.agg [I a1, I a2, I a3, I a4, B b6, I a5]], 2, true⟩, ⟨98, Row.lst [SV.mp false 0], 1, true⟩, ⟨102, Row.lst [I (0 : Int), I (0 : Int), I (0 : Int), I (0 : Int), B false, I (0 : Int)], 6, true⟩, ⟨102, Row.lst [I (0 : Int), I (0 : Int), I (0 : Int), I (0 : Int), B false, I (0 : Int)], tot', true⟩] E')
  exact fun b c E' h1 h2 h3 => ⟨Mem.le_refl _, Mem.le_refl _, Mem.le_refl _, Mem.le_refl _, Mem.le_refl _, ⟨_, h3, by simp⟩, k, ⟨_, h3, by kernel_rfl⟩, condC (fun _ cap tot _ _ => h cap tot E' h1) (fun g => absurd g (by simp))⟩
theorem o58 {k a1 a2 a3 a4 a5 : Int} {b6 : Bool} {KK : KT} {cap tot : Nat} (h : ∀ (b : Option Addr) (c : Nat) (E' : Mem), Mem.le E E' → b ≠ none → E' (.slice b 1 c) [.int .i64 a1, .int .i64 a2, .int .i64 a3, .int .i64 a4, .bool b6, .int .i64 a5] → KK (L b 1 c) [⟨4294967297, .lst [I k, .agg [I a1, I a2, I a3, I a4, B b6, I a5]], 2, true⟩] E') : pubB (cloK 1 KK) (.slc 3 0 1 cap) [⟨4294967297, .lst [I k, .agg [I a1, I a2, I a3, I a4, B b6, I a5]], 2, true⟩, ⟨98, .lst [.mp false 0], 1, true⟩, ⟨102, .lst [I a1, I a2, I a3, I a4, B b6, I a5], 6, true⟩, ⟨102, .lst [I a1, I a2, I a3, I a4, B b6, I a5], tot, true⟩] E := by
  refine same (q := ∀ (base : Option Addr) (E2 : Mem), Mem.le E E2 → WinE E2 base [.int .i64 a1, .int .i64 a2, .int .i64 a3, .int .i64 a4, .bool b6, .int .i64 a5] → cloK 1 KK (.raw (slcAs base 0 1 cap)) [⟨4294967297, .lst [I k, .agg [I a1, I a2, I a3, I a4, B b6, I a5]], 2, true⟩, ⟨98, .lst [.mp false 0], 1, true⟩, ⟨102, .lst [I a1, I a2, I a3, I a4, B b6, I a5], 6, true⟩, ⟨102, .lst [I a1, I a2, I a3, I a4, B b6, I a5], tot, false⟩] E2) (by kernel_rfl) ?_
  intro base E2 h1 h2
  have hb : base ≠ none := fun e => by have := h2.1 e; cases this
  exact cloK_intro [some 0] (h _ _ E2 h1 (by cases base with | none => exact absurd rfl hb | some a => simp) (h2.2 0 6 1 cap (by simp))) ⟨⟨by first | (simp; done) | (simp [St.pub]; done), by first | (simp; done) | (simp [St.pub]; done), fun j h => (by have e : j = 0 := (by omega); subst e; rfl)⟩, rfl, (by repeat' first | exact True.intro | refine And.intro (Or.inl rfl) ?_ | refine And.intro (Or.inr ⟨rfl, rfl⟩) ?_), (by repeat' first | exact True.intro | exact rfl | exact Or.inl rfl | fail | refine And.intro ?_ ?_), (show List.Nodup [0] from by decide), Mem.le_refl _⟩
theorem sem58 {k a1 a2 a3 a4 a5 : Int} {b6 : Bool} {K : KT} {bx : List Box} {m : Nat} (hm : bx[m]? = some ⟨4294967297, .lst [I k, .agg [I a1, I a2, I a3, I a4, B b6, I a5]], 2, true⟩)
    (h : ∀ (b : Option Addr) (c : Nat) (E' : Mem), Mem.le E E' → b ≠ none → E' (.slice b 1 c) [.int .i64 a1, .int .i64 a2, .int .i64 a3, .int .i64 a4, .bool b6, .int .i64 a5] → K (L b 1 c) bx E') : CallSem Tryd.prog 58 [.mp false m] bx E K := by
  refine CallSem.hand (σ := [m]) (bxs := [⟨4294967297, .lst [I k, .agg [I a1, I a2, I a3, I a4, B b6, I a5]], 2, true⟩]) ⟨by simp, rfl, fun i b hb => ?_⟩ (args' := [.mp false 0]) ?_ ((EntB.sem okB4 Tryd.func58 ⟨by kernel_rfl, by kernel_rfl⟩ (u58g fun cap tot E1 k1 => o58 (KK := fun s bs' E' => K (s.ren [m] bx.length) (merge [m] bx bs') E') fun b c E' h1 h2 h3 => ?_)).pubB)
  · match i, hb with
    | 0, hb =>
      simp only [List.getElem?_cons_zero, Option.some.injEq] at hb; subst hb
      exact ⟨rfl, m, rfl, by simpa [Box.ren, Row.ren, SV.renL, SV.ren, renF] using hm⟩
    | j + 1, hb => simp at hb
  · simp only [SV.renL, SV.ren, renF, List.getElem?_cons_zero, List.getElem?_cons_succ]
  · simp only [SV.ren, SV.renL, merge, setAll, List.take, List.drop, List.map, List.length_cons, List.length_nil, Box.ren, Row.ren, renF, List.getElem?_cons_zero, List.getElem?_cons_succ]
    rw [set_sameB hm]
    simpa using h b c E' (Mem.le_trans k1 h1) h2 h3
def mpOf : SV → Option Nat
  | .mp false m => some m
  | _ => none
def mapBox6 : Option Box → (Int → Int → Int → Int → Int → Bool → Int → Prop) → Prop
  | some ⟨4294967297, .lst [.raw (.int .i64 k), .agg [.raw (.int .i64 a1), .raw (.int .i64 a2), .raw (.int .i64 a3), .raw (.int .i64 a4), .raw (.bool b6), .raw (.int .i64 a5)]], 2, true⟩, f => f k a1 a2 a3 a4 b6 a5
  | _, _ => False
def tab58 : CallT := fun f args bx E K => match f, args with
  | 58, [s] => match mpOf s with
    | some m => mapBox6 bx[m]? fun k a1 a2 a3 a4 b6 a5 => ∀ (b : Option Addr) (c : Nat) (E' : Mem), Mem.le E E' → Hyp (b ≠ none) → E' (.slice b 1 c) [.int .i64 a1, .int .i64 a2, .int .i64 a3, .int .i64 a4, .bool b6, .int .i64 a5] → K (L b 1 c) bx E'
    | none => False
  | _, _ => False
theorem tab58_ok (f : FuncId) (args : List SV) (bx : List Box) (E : Mem) (K : KT) (h : tab58 f args bx E K) : CallSem Tryd.prog f args bx E K := by
  unfold tab58 at h
  split at h
  case h_2 => exact h.elim
  rename_i s
  split at h
  case h_2 => exact h.elim
  rename_i m h1
  have h1 : s = .mp false m := by
    unfold mpOf at h1
    split at h1
    · cases h1; rfl
    · cases h1
  subst h1
  unfold mapBox6 at h
  split at h
  case h_2 => exact h.elim
  rename_i hm
  exact sem58 hm h
structure Hf (E : Mem) (b : Option Addr) (c : Nat) (xs : List Int) (p : Bool) (k : Int) : Prop where
  ne : b ≠ none
  row : E (.slice b 1 c) (xs.map (Value.int .i64) ++ [.bool p, .int .i64 k])
theorem Hf.mono {E E' : Mem} {b : Option Addr} {c : Nat} {xs : List Int} {p : Bool} {k : Int} (h : Hf E b c xs p k) (q : Mem.le E E') : Hf E' b c xs p k := ⟨h.ne, q _ _ h.row⟩
structure OkW (a b c d e : Int) : Prop where
  k : 1 ≤ a ∧ a ≤ 4
  st : 0 ≤ b ∧ b < 60
  sp : 0 ≤ c ∧ c < 60
  ne : b ≠ c
  no : 0 ≤ d ∧ d ≤ 1000000000
  ch : 0 ≤ e ∧ e ≤ 1000000000
structure NoB (x : Option Addr) (y z : Nat) : Prop where
  b : x = none
  l : y = 0
  c : z = 0
structure HV (E : Mem) (b : Option Addr) (l c : Nat) : Prop where
  out : l = 0 ∨ (l = 1 ∧ ∃ (r : Int) (p : Bool) (k : Int), Hf E b c [5, 513, r, 22] p k ∧ (0 ≤ r ∧ r < 1000000000) ∧ ((p = true ∧ k = 1000005) ∨ (p = false ∧ k = 0)))
noncomputable def C1 : Cx := { P := Tryd.prog, inl := fun f => List.contains [52] f, tab := fun _ _ _ _ => False, isB := fun _ => false, tabB := fun _ _ _ _ _ => False, opt := { unroll := 0, carry := [] }, muts := mutsD }
theorem okC1 : CxOK C1 := CxOK.four (fun _ _ _ _ h => h.elim) (by kernel_rfl) (okInl (by kernel_rfl)) (fun _ _ _ _ _ h => h.elim)
theorem q62 {a1 : Int} {a2 : Int} {a3 : Int} {a4 : Int} {a5 : Int} {a6 : Int} {a7 : Int} {a8 : Int} (h0 : OkW a1 a2 a3 a4 a5) (h : K (B true) E) :
    Ent C1 8 Tryd.f62 [.agg [I a1, I a2, I a3, I a4, I a5, I a6, I a7, I a8]] E K := by
  refine same (by kernel_rfl) (?_ : bif decide (a2 ≥ (0 : Int)) then Mem.le E E ∧ bif bif true then decide (a2 < (60 : Int)) else false then bif decide (a3 ≥ (0 : Int)) then Mem.le E E ∧ bif bif true then bif true then decide (a3 < (60 : Int)) else false else false then bif bif true then a2 != a3 else false then bif bif true then decide ((if a5 < a4 then a5 else a4) ≥ (0 : Int)) else false then bif bif true then decide ((if a5 > a4 then a5 else a4) ≤ (1000000000 : Int)) else false then bif bif true then decide (a1 ≥ (1 : Int)) else false then Mem.le E E ∧ K (B (bif true then decide (a1 ≤ (4 : Int)) else false)) E else Mem.le E E ∧ K (B false) E else Mem.le E E ∧ K (B false) E else Mem.le E E ∧ K (B false) E else Mem.le E E ∧ K (B false) E else Mem.le E E ∧ K (B false) E else Mem.le E E ∧ Mem.le E E ∧ K (B false) E else Mem.le E E ∧ K (B false) E else Mem.le E E ∧ Mem.le E E ∧ K (B false) E)
  obtain ⟨⟨o1, o2⟩, ⟨o3, o4⟩, ⟨o5, o6⟩, o7, ⟨o8, o9⟩, o10, o11⟩ := h0
  have e1 : (bif true then decide (a1 ≤ (4 : Int)) else false) = true := by simp; omega
  have e2 : (if a5 < a4 then a5 else a4) ≥ 0 := by split <;> omega
  have e3 : (if a5 > a4 then a5 else a4) ≤ 1000000000 := by split <;> omega
  rw [e1]
  generalize (if a5 < a4 then a5 else a4) = m1 at e2 ⊢
  generalize (if a5 > a4 then a5 else a4) = m2 at e3 ⊢
  repeat' first
    | exact Mem.le_refl _
    | exact h
    | refine And.intro ?_ ?_
    | refine condC (fun g => ?_) (fun g => absurd g (by first | (simp; done) | (simp; omega)))
    | refine condC (fun g => absurd g (by first | (simp; done) | (simp; omega))) (fun g => ?_)
    | refine condC (fun _ => ?_) (fun _ => ?_)
    | refine alike ?_
noncomputable def tabC2 : FuncId → List SV → Mem → (SV → Mem → Prop) → Prop := fun f args E K => match f with
  | 62 => d1 args fun x0 => dC x0 fun l1 => d8 l1 fun x0_0 x0_1 x0_2 x0_3 x0_4 x0_5 x0_6 x0_7 => dI x0_0 fun a1 => dI x0_1 fun a2 => dI x0_2 fun a3 => dI x0_3 fun a4 => dI x0_4 fun a5 => dI x0_5 fun a6 => dI x0_6 fun a7 => dI x0_7 fun a8 => OkW a1 a2 a3 a4 a5 ∧ (K (B true) E)
  | _ => False
theorem tabC2_ok : TabOK Tryd.prog tabC2 := by
  intro f args E K h
  unfold tabC2 at h
  split at h
  · replace h := d1_elim h
    obtain ⟨x0, rfl, h⟩ := h
    replace h := dC_elim h
    obtain ⟨l1, hl1, h⟩ := h
    replace h := d8_elim h
    obtain ⟨x0_0, x0_1, x0_2, x0_3, x0_4, x0_5, x0_6, x0_7, rfl, h⟩ := h
    replace h := dI_elim h
    obtain ⟨a1, rfl, h⟩ := h
    replace h := dI_elim h
    obtain ⟨a2, rfl, h⟩ := h
    replace h := dI_elim h
    obtain ⟨a3, rfl, h⟩ := h
    replace h := dI_elim h
    obtain ⟨a4, rfl, h⟩ := h
    replace h := dI_elim h
    obtain ⟨a5, rfl, h⟩ := h
    replace h := dI_elim h
    obtain ⟨a6, rfl, h⟩ := h
    replace h := dI_elim h
    obtain ⟨a7, rfl, h⟩ := h
    replace h := dI_elim h
    obtain ⟨a8, rfl, h⟩ := h
    obtain ⟨g0, h⟩ := h
    exact TabSem.congr (valL_cons (asCells_val hl1) rfl) (Ent.sem okC1 Tryd.func62 ⟨by kernel_rfl, by kernel_rfl⟩ rfl (q62 g0 h))
  · exact h.elim
noncomputable def C2 : Cx := { P := Tryd.prog, inl := fun f => List.contains [41, 61, 45, 112] f, tab := tabC2, isB := fun _ => false, tabB := fun _ _ _ _ _ => False, opt := { unroll := 0, carry := [] }, muts := mutsD }
theorem okC2 : CxOK C2 := CxOK.four tabC2_ok (by kernel_rfl) (okInl (by kernel_rfl)) (fun _ _ _ _ _ h => h.elim)
theorem q54 {a1 : Int} {a2 : Int} {a3 : Int} {a4 : Int} {a5 : Int} {a6 : Int} {a7 : Int} {a8 : Int} (h0 : OkW a1 a2 a3 a4 a5) (h : K (B true) E) :
    Ent C2 8 Tryd.f54 [.agg [I a1, I a2, I a3, I a4, I a5, I a6, I a7, I a8]] E K := by
  refine same (by kernel_rfl) (?_ : OkW a1 a2 a3 a4 a5 ∧ Mem.le E E ∧ bif decide (a2 ≥ (0 : Int)) then bif !bif true then decide (a2 < (60 : Int)) else false then Mem.le E E ∧ Mem.le E E ∧ bif a1 != (3 : Int) then Mem.le E E ∧ Mem.le E E ∧ K (B true) E else Mem.le E E ∧ Mem.le E E ∧ K (B true) E else Mem.le E E ∧ Mem.le E E ∧ Mem.le E E ∧ bif a1 != (3 : Int) then Mem.le E E ∧ Mem.le E E ∧ K (B true) E else bif bif false then true else a6 != IntKind.wrap IntKind.i64 ((1000000 : Int) + a2) then Mem.le E E ∧ Mem.le E E ∧ K (B true) E else Sx.Alike (AlikeT.n AlikeT.l (AlikeT.n AlikeT.l (AlikeT.n AlikeT.l AlikeT.l))) (Mem.le E E ∧ Mem.le E E ∧ K (B true) E) else Mem.le E E ∧ Mem.le E E ∧ bif a1 != (3 : Int) then Mem.le E E ∧ Mem.le E E ∧ K (B true) E else Mem.le E E ∧ Mem.le E E ∧ K (B true) E)
  have o := h0
  obtain ⟨⟨o1, o2⟩, ⟨o3, o4⟩, ⟨o5, o6⟩, o7, ⟨o8, o9⟩, o10, o11⟩ := h0
  refine ⟨o, ?_⟩
  repeat' first
    | exact Mem.le_refl _
    | exact h
    | refine And.intro ?_ ?_
    | refine condC (fun g => ?_) (fun g => absurd g (by first | (simp; done) | (simp; omega)))
    | refine condC (fun g => absurd g (by first | (simp; done) | (simp; omega))) (fun g => ?_)
    | refine condC (fun _ => ?_) (fun _ => ?_)
    | refine alike ?_
noncomputable def C3 : Cx := { P := Tryd.prog, inl := fun f => List.contains [55, 63, 67, 52] f, tab := fun _ _ _ _ => False, isB := fun _ => false, tabB := fun _ _ _ _ _ => False, opt := { unroll := 3, carry := [] }, muts := mutsD }
theorem okC3 : CxOK C3 := CxOK.four (fun _ _ _ _ h => h.elim) (by kernel_rfl) (okInl (by kernel_rfl)) (fun _ _ _ _ _ h => h.elim)
theorem q53a {b : Option Addr} {c : Nat} (h : K (B true) E) : Ent C3 8 Tryd.f53 [L b 0 c] E K := by
  refine same (by kernel_rfl) (?_ : Mem.le E E ∧ K (B true) E)
  exact ⟨Mem.le_refl _, h⟩
theorem q53b {b : Option Addr} {c : Nat} {r : Int} {p : Bool} {k : Int} (h1 : Hf E b c [5, 513, r, 22] p k) (h2 : 0 ≤ r ∧ r < 1000000000) (h3 : (p = true ∧ k = 1000005) ∨ (p = false ∧ k = 0)) (h : K (B true) E) : Ent C3 8 Tryd.f53 [L b 1 c] E K := by
  refine same (by kernel_rfl) (?_ : (∃ (cs : List Value), E (Value.slice b 1 c) cs ∧ (cs = [] → False)) ∧ ∃ (n : Int), ∃ (n_1 : Int), ∃ (n_2 : Int), ∃ (n_3 : Int), ∃ (b_1 : Bool), ∃ (n_4 : Int), LoadE C3.P E 102 (Value.slice b 1 c) 0 (SV.agg [I n, I n_1, I n_2, I n_3, B b_1, I n_4]) ∧ bif decide (n ≥ (0 : Int)) then Mem.le E E ∧ Mem.le E E ∧ bif bif true then decide (n ≤ (59 : Int)) else false then bif decide (n_1 ≥ (0 : Int)) then Mem.le E E ∧ bif bif true then bif true then decide (n_1 ≤ (1000000000 : Int)) else false else false then bif decide (n_2 ≥ (0 : Int)) then Mem.le E E ∧ bif bif true then bif true then decide (n_2 ≤ (1000000000 : Int)) else false else false then bif decide (n_3 ≥ (0 : Int)) then Mem.le E E ∧ bif bif true then bif true then decide (n_3 ≤ (1000000000 : Int)) else false else false then bif decide (n_4 ≥ (0 : Int)) then Mem.le E E ∧ bif bif true then bif true then decide (n_4 ≤ (2000000 : Int)) else false else false then bif b_1 then Mem.le E E ∧ Mem.le E E ∧ K (B true) E else Mem.le E E ∧ bif !bif true then bif false then true else n_4 == (0 : Int) else false then Mem.le E E ∧ K (B false) E else Mem.le E E ∧ K (B true) E else Mem.le E E ∧ Mem.le E E ∧ K (B false) E else Mem.le E E ∧ Mem.le E E ∧ Mem.le E E ∧ K (B false) E else Mem.le E E ∧ Mem.le E E ∧ K (B false) E else Mem.le E E ∧ Mem.le E E ∧ Mem.le E E ∧ K (B false) E else Mem.le E E ∧ Mem.le E E ∧ K (B false) E else Mem.le E E ∧ Mem.le E E ∧ Mem.le E E ∧ K (B false) E else Mem.le E E ∧ Mem.le E E ∧ K (B false) E else Mem.le E E ∧ Mem.le E E ∧ Mem.le E E ∧ K (B false) E else Mem.le E E ∧ Mem.le E E ∧ K (B false) E else Mem.le E E ∧ Mem.le E E ∧ Mem.le E E ∧ Mem.le E E ∧ K (B false) E)
  refine ⟨⟨_, h1.row, by simp⟩, 5, 513, r, 22, p, k, ⟨_, h1.row, by kernel_rfl⟩, ?_⟩
  rcases h3 with ⟨rfl, rfl⟩ | ⟨rfl, rfl⟩
  all_goals
    repeat' first
      | exact Mem.le_refl _
      | exact h
      | refine And.intro ?_ ?_
      | refine condC (fun g => ?_) (fun g => absurd g (by first | (simp; done) | (simp; omega)))
      | refine condC (fun g => absurd g (by first | (simp; done) | (simp; omega))) (fun g => ?_)
      | refine condC (fun _ => ?_) (fun _ => ?_)
      | refine alike ?_
theorem q53 {b1 : Option Addr} {l2 : Nat} {c3 : Nat} (h0 : HV E b1 l2 c3) (h : K (B true) E) :
    Ent C3 8 Tryd.f53 [L b1 l2 c3] E K := by
  rcases h0.out with rfl | ⟨rfl, r, p, k, h1, h2, h3⟩
  · exact q53a h
  · exact q53b h1 h2 h3 h
noncomputable def tabH : FuncId → List SV → Mem → (SV → Mem → Prop) → Prop := fun f args E K => match f with
  | 64 => d2 args fun x0 x1 => dN .u64 x0 fun a1 => dI x1 fun a2 => GR E ∧ 1 ≤ a2 ∧ a2 ≤ 1000000000 ∧ (∀ r : Int, 0 ≤ r → r < a2 → K (I r) E)
  | 53 => d1 args fun x0 => dS x0 fun b1 l2 c3 => HV E b1 l2 c3 ∧ (K (B true) E)
  | 54 => d1 args fun x0 => dC x0 fun l1 => d8 l1 fun x0_0 x0_1 x0_2 x0_3 x0_4 x0_5 x0_6 x0_7 => dI x0_0 fun a1 => dI x0_1 fun a2 => dI x0_2 fun a3 => dI x0_3 fun a4 => dI x0_4 fun a5 => dI x0_5 fun a6 => dI x0_6 fun a7 => dI x0_7 fun a8 => OkW a1 a2 a3 a4 a5 ∧ (K (B true) E)
  | _ => False
theorem tabH_ok : TabOK Tryd.prog tabH := by
  intro f args E K h
  unfold tabH at h
  split at h
  · replace h := d2_elim h
    obtain ⟨x0, x1, rfl, h⟩ := h
    replace h := dN_elim h
    obtain ⟨a1, rfl, h⟩ := h
    replace h := dI_elim h
    obtain ⟨a2, rfl, h⟩ := h
    obtain ⟨g0, g1, g2, h⟩ := h
    exact TabSem.congr (valL_cons rfl (valL_cons rfl rfl)) (Ent.sem okA4 Tryd.func64 ⟨by kernel_rfl, by kernel_rfl⟩ rfl (q64 g0 g1 g2 h))
  · replace h := d1_elim h
    obtain ⟨x0, rfl, h⟩ := h
    replace h := dS_elim h
    obtain ⟨b1, l2, c3, rfl, h⟩ := h
    obtain ⟨g0, h⟩ := h
    exact TabSem.congr (valL_cons rfl rfl) (Ent.sem okC3 Tryd.func53 ⟨by kernel_rfl, by kernel_rfl⟩ rfl (q53 g0 h))
  · replace h := d1_elim h
    obtain ⟨x0, rfl, h⟩ := h
    replace h := dC_elim h
    obtain ⟨l1, hl1, h⟩ := h
    replace h := d8_elim h
    obtain ⟨x0_0, x0_1, x0_2, x0_3, x0_4, x0_5, x0_6, x0_7, rfl, h⟩ := h
    replace h := dI_elim h
    obtain ⟨a1, rfl, h⟩ := h
    replace h := dI_elim h
    obtain ⟨a2, rfl, h⟩ := h
    replace h := dI_elim h
    obtain ⟨a3, rfl, h⟩ := h
    replace h := dI_elim h
    obtain ⟨a4, rfl, h⟩ := h
    replace h := dI_elim h
    obtain ⟨a5, rfl, h⟩ := h
    replace h := dI_elim h
    obtain ⟨a6, rfl, h⟩ := h
    replace h := dI_elim h
    obtain ⟨a7, rfl, h⟩ := h
    replace h := dI_elim h
    obtain ⟨a8, rfl, h⟩ := h
    obtain ⟨g0, h⟩ := h
    exact TabSem.congr (valL_cons (asCells_val hl1) rfl) (Ent.sem okC2 Tryd.func54 ⟨by kernel_rfl, by kernel_rfl⟩ rfl (q54 g0 h))
  · exact h.elim
noncomputable def H1 : Cx := { P := Tryd.prog, inl := fun f => List.contains [6, 7, 8, 9, 10, 13, 14, 15, 17, 18, 19, 20, 21, 22, 23, 24, 25, 26, 27, 28, 29, 30, 31, 32, 33, 34, 35, 36, 37, 38, 39, 40, 41, 42, 43, 44, 45, 46, 47, 48, 49, 50, 51, 52, 55, 56, 57, 59, 60, 61, 62, 63, 65, 66, 67, 69, 70, 74, 75, 78, 79, 80, 81, 82, 83, 84, 85, 86, 87, 88, 89, 90, 91, 92, 93, 94, 95, 112] f, tab := tabH, isB := fun f => f == 58, tabB := tab58, opt := { unroll := 3, carry := [] }, muts := (fun o => match o with | .mapUpdate .. => true | o => mutsD o) }
theorem okH1 : CxOK H1 := CxOK.four tabH_ok (by kernel_rfl) (okInl (by kernel_rfl)) tab58_ok
theorem q37a (h0 : GR E) (h : ∀ (r : Int) (b' : Option Addr) (c' : Nat) (E' : Mem), 0 ≤ r → r < 1000000000 → Mem.le E E' → Hf E' b' c' [5, 513, r, 22] false 0 → K (.tup [L b' 1 c', I 0]) E') : Ent H1 10 Tryd.f37 [L none 0 0, I 3, .agg [I 1, I 5, I 3, I 513, I 0, I 0, I 0, I 0], I 10] E K := by
  refine same (by kernel_rfl) (?_ : HV E none 0 0 ∧ Mem.le E E ∧ OkW (1 : Int) (5 : Int) (3 : Int) (513 : Int) (0 : Int) ∧ Mem.le E E ∧ Mem.le E E ∧ Mem.le E E ∧ IntKind.u64 = IntKind.u64 ∧ GR E ∧ (1 : Int) ≤ (1000000000 : Int) ∧ (1000000000 : Int) ≤ (1000000000 : Int) ∧ ∀ (r : Int), (0 : Int) ≤ r → r < (1000000000 : Int) → Mem.le E E ∧ ∀ (b : Option Addr) (c : Nat) (E' : Mem), Mem.le E E' → Hyp (b ≠ none) → E' (Value.slice b 1 c) [Value.int IntKind.i64 (5 : Int), Value.int IntKind.i64 (513 : Int), Value.int IntKind.i64 r, Value.int IntKind.i64 (22 : Int), Value.bool false, Value.int IntKind.i64 (0 : Int)] → Mem.le E E' ∧ K (SV.tup [L b 1 c, I (0 : Int)]) E')
  exact ⟨⟨.inl rfl⟩, Mem.le_refl _, ⟨by decide, by decide, by decide, by decide, by decide, by decide⟩, Mem.le_refl _, Mem.le_refl _, Mem.le_refl _, rfl, h0, by decide, by decide, fun r r1 r2 => ⟨Mem.le_refl _, fun b c E' h1 h2 h3 => ⟨h1, h r b c E' r1 r2 h1 ⟨h2, h3⟩⟩⟩⟩
theorem q37b {b : Option Addr} {c : Nat} {r : Int} (h0 : GR E) (h1 : Hf E b c [5, 513, r, 22] false 0) (h2 : 0 ≤ r) (h3 : r < 1000000000) (h : ∀ (b' : Option Addr) (c' : Nat) (E' : Mem), Mem.le E E' → Hf E' b' c' [5, 513, r, 22] true 1000005 → K (.tup [L b' 1 c', I 0]) E') : Ent H1 10 Tryd.f37 [L b 1 c, I 3, .agg [I 3, I 5, I 3, I 513, I r, I 1000005, I 0, I 0], I 11] E K := by
  refine same (by kernel_rfl) (?_ : HV E b 1 c ∧ Mem.le E E ∧ OkW (3 : Int) (5 : Int) (3 : Int) (513 : Int) r ∧ Mem.le E E ∧ Mem.le E E ∧ Mem.le E E ∧ (∃ (cs : List Value), E (Value.slice b 1 c) cs ∧ (cs = [] → False)) ∧ ∃ (n : Int), ∃ (n_1 : Int), ∃ (n_2 : Int), ∃ (n_3 : Int), ∃ (b_1 : Bool), ∃ (n_4 : Int), LoadE H1.P E 102 (Value.slice b 1 c) 0 (SV.agg [I n, I n_1, I n_2, I n_3, B b_1, I n_4]) ∧ bif (5 : Int) == n then bif bif false then true else n_1 != (513 : Int) then Mem.le E E ∧ K (SV.tup [L none 0 0, I (4 : Int)]) E else bif bif false then true else n_2 != r then Mem.le E E ∧ K (SV.tup [L none 0 0, I (4 : Int)]) E else Sx.Alike (AlikeT.n AlikeT.l AlikeT.l) (bif (5 : Int) == n then ∀ (b : Option Addr) (c : Nat) (E' : Mem), Mem.le E E' → Hyp (b ≠ none) → E' (Value.slice b 1 c) [Value.int IntKind.i64 n, Value.int IntKind.i64 n_1, Value.int IntKind.i64 n_2, Value.int IntKind.i64 n_3, Value.bool true, Value.int IntKind.i64 (1000005 : Int)] → Mem.le E E' ∧ K (SV.tup [L b 1 c, I (0 : Int)]) E' else False) else Mem.le E E ∧ K (SV.tup [L none 0 0, I (4 : Int)]) E)
  refine ⟨⟨.inr ⟨rfl, r, false, 0, h1, ⟨h2, h3⟩, .inr ⟨rfl, rfl⟩⟩⟩, Mem.le_refl _, ⟨by decide, by decide, by decide, by decide, by decide, h2, by omega⟩, Mem.le_refl _, Mem.le_refl _, Mem.le_refl _, ⟨_, h1.row, by simp⟩, 5, 513, r, 22, false, 0, ⟨_, h1.row, by kernel_rfl⟩, ?_⟩
  have nr : ¬ ((bif false then true else (r != r)) = true) := by simp
  exact condC (fun _ => condC (fun g => absurd g (by decide)) (fun _ => condC (fun g => absurd g nr) (fun _ => alike (condC (fun _ b' c' E' k1 k2 k3 => ⟨k1, h b' c' E' k1 ⟨k2, k3⟩⟩) (fun g => absurd g (by decide)))))) (fun g => absurd g (by decide))
theorem q37 {b1 : Option Addr} {l2 : Nat} {c3 : Nat} {a4 : Int} {a5 : Int} {a6 : Int} {a7 : Int} {a8 : Int} {a9 : Int} {a10 : Int} {a11 : Int} {a12 : Int} {a13 : Int} (h0 : GR E) (h : cond (a5 == 1) (NoB b1 l2 c3 ∧ (a4 = 3 ∧ a13 = 10) ∧ (a6 = 5 ∧ a7 = 3 ∧ a8 = 513 ∧ a9 = 0 ∧ a10 = 0 ∧ a11 = 0 ∧ a12 = 0) ∧ ∀ (r : Int) (b' : Option Addr) (c' : Nat) (E' : Mem), 0 ≤ r → r < 1000000000 → Mem.le E E' → Hf E' b' c' [5, 513, r, 22] false 0 → K (.tup [L b' 1 c', I 0]) E') ((l2 = 1 ∧ Hf E b1 c3 [5, 513, a9, 22] false 0 ∧ 0 ≤ a9 ∧ a9 < 1000000000) ∧ (a4 = 3 ∧ a13 = 11) ∧ (a5 = 3 ∧ a6 = 5 ∧ a7 = 3 ∧ a8 = 513 ∧ a10 = 1000005 ∧ a11 = 0 ∧ a12 = 0) ∧ ∀ (b' : Option Addr) (c' : Nat) (E' : Mem), Mem.le E E' → Hf E' b' c' [5, 513, a9, 22] true 1000005 → K (.tup [L b' 1 c', I 0]) E')) :
    Ent H1 10 Tryd.f37 [L b1 l2 c3, I a4, .agg [I a5, I a6, I a7, I a8, I a9, I a10, I a11, I a12], I a13] E K := by
  cases hk : (a5 == 1) with
  | true =>
    rw [hk] at h
    obtain ⟨⟨rfl, rfl, rfl⟩, ⟨rfl, rfl⟩, ⟨rfl, rfl, rfl, rfl, rfl, rfl, rfl⟩, h⟩ := h
    have hk : a5 = 1 := by simpa using hk
    subst hk
    exact q37a h0 h
  | false =>
    rw [hk] at h
    obtain ⟨⟨rfl, h1, h2, h3⟩, ⟨rfl, rfl⟩, ⟨rfl, rfl, rfl, rfl, rfl, rfl, rfl⟩, h⟩ := h
    exact q37b h0 h1 h2 h3 h
structure Wd (E : Mem) (b : Option Addr) (c : Nat) (xs : List Int) : Prop where
  ne : b ≠ none
  row : E (.slice b 1 c) (xs.map (Value.int .i64))
noncomputable def tabF : FuncId → List SV → Mem → (SV → Mem → Prop) → Prop := fun f args E K => match f with
  | 53 => d1 args fun x0 => dS x0 fun b1 l2 c3 => HV E b1 l2 c3 ∧ (K (B true) E)
  | 62 => d1 args fun x0 => dC x0 fun l1 => d8 l1 fun x0_0 x0_1 x0_2 x0_3 x0_4 x0_5 x0_6 x0_7 => dI x0_0 fun a1 => dI x0_1 fun a2 => dI x0_2 fun a3 => dI x0_3 fun a4 => dI x0_4 fun a5 => dI x0_5 fun a6 => dI x0_6 fun a7 => dI x0_7 fun a8 => OkW a1 a2 a3 a4 a5 ∧ (K (B true) E)
  | _ => False
theorem tabF_ok : TabOK Tryd.prog tabF := by
  intro f args E K h
  unfold tabF at h
  split at h
  · replace h := d1_elim h
    obtain ⟨x0, rfl, h⟩ := h
    replace h := dS_elim h
    obtain ⟨b1, l2, c3, rfl, h⟩ := h
    obtain ⟨g0, h⟩ := h
    exact TabSem.congr (valL_cons rfl rfl) (Ent.sem okC3 Tryd.func53 ⟨by kernel_rfl, by kernel_rfl⟩ rfl (q53 g0 h))
  · replace h := d1_elim h
    obtain ⟨x0, rfl, h⟩ := h
    replace h := dC_elim h
    obtain ⟨l1, hl1, h⟩ := h
    replace h := d8_elim h
    obtain ⟨x0_0, x0_1, x0_2, x0_3, x0_4, x0_5, x0_6, x0_7, rfl, h⟩ := h
    replace h := dI_elim h
    obtain ⟨a1, rfl, h⟩ := h
    replace h := dI_elim h
    obtain ⟨a2, rfl, h⟩ := h
    replace h := dI_elim h
    obtain ⟨a3, rfl, h⟩ := h
    replace h := dI_elim h
    obtain ⟨a4, rfl, h⟩ := h
    replace h := dI_elim h
    obtain ⟨a5, rfl, h⟩ := h
    replace h := dI_elim h
    obtain ⟨a6, rfl, h⟩ := h
    replace h := dI_elim h
    obtain ⟨a7, rfl, h⟩ := h
    replace h := dI_elim h
    obtain ⟨a8, rfl, h⟩ := h
    obtain ⟨g0, h⟩ := h
    exact TabSem.congr (valL_cons (asCells_val hl1) rfl) (Ent.sem okC1 Tryd.func62 ⟨by kernel_rfl, by kernel_rfl⟩ rfl (q62 g0 h))
  · exact h.elim
noncomputable def F1 : Cx := { P := Tryd.prog, inl := fun f => List.contains [6, 7, 8, 9, 10, 13, 14, 15, 17, 18, 19, 20, 21, 22, 23, 24, 25, 26, 27, 28, 29, 30, 31, 32, 33, 34, 35, 36, 38, 39, 40, 41, 42, 43, 44, 45, 46, 47, 48, 49, 50, 51, 52, 54, 55, 56, 57, 59, 60, 61, 63, 65, 66, 67, 69, 70, 74, 75, 78, 79, 80, 81, 82, 83, 84, 85, 86, 87, 88, 89, 90, 91, 92, 93, 94, 95, 112] f, tab := tabF, isB := fun _ => false, tabB := fun _ _ _ _ _ => False, opt := { unroll := 3, carry := [] }, muts := (fun o => match o with | .mapUpdate .. => true | o => mutsD o) }
theorem okF1 : CxOK F1 := CxOK.four tabF_ok (by kernel_rfl) (okInl (by kernel_rfl)) (fun _ _ _ _ _ h => h.elim)
theorem q59 {b1 : Option Addr} {l2 : Nat} {c3 : Nat} {a4 : Int} {a5 : Int} {a6 : Bool} {r : Int} {ke : Int} (h0 : l2 = 1) (h1 : Hf E b1 c3 [5, 513, r, 22] a6 ke) (h2 : (0 ≤ r ∧ r < 1000000000)) (h3 : a4 = 3) (h4 : ((a6 = true ∧ ke = 1000005) ∨ (a6 = false ∧ ke = 0))) (h : ∀ (b' : Option Addr) (c' : Nat) (E' : Mem), Mem.le E E' → Wd E' b' c' [a5, 5, 3, 513, r, ke, 0, 0] → K (L b' 1 c') E') :
    Ent F1 10 Tryd.f59 [L b1 l2 c3, I a4, I a5, B a6] E K := by
  subst h0
  subst h3
  refine same (by kernel_rfl) (?_ : HV E b1 1 c3 ∧ Mem.le E E ∧ Mem.le E E ∧ Mem.le E E ∧ (∃ (cs : List Value), E (Value.slice b1 1 c3) cs ∧ (cs = [] → False)) ∧ ∃ (n : Int), ∃ (n_1 : Int), ∃ (n_2 : Int), ∃ (n_3 : Int), ∃ (b : Bool), ∃ (n_4 : Int), LoadE F1.P E 102 (Value.slice b1 1 c3) 0 (SV.agg [I n, I n_1, I n_2, I n_3, B b, I n_4]) ∧ bif b == a6 then ∀ (cap' tot' : Nat), 1 ≤ cap' → cap' * 8 ≤ tot' → ∀ (base : Option Addr) (E' : Mem), Mem.le E E' → WinE E' base [Value.int IntKind.i64 a5, Value.int IntKind.i64 n, Value.int IntKind.i64 (3 : Int), Value.int IntKind.i64 n_1, Value.int IntKind.i64 n_2, Value.int IntKind.i64 n_4, Value.int IntKind.i64 (0 : Int), Value.int IntKind.i64 (0 : Int)] → Mem.le E E' ∧ K (L (Option.map (fun (x : Addr) => Addr.add x 0) base) 1 cap') E' else Mem.le E E ∧ K (L none 0 0) E)
  refine ⟨⟨.inr ⟨rfl, r, a6, ke, h1, h2, h4⟩⟩, Mem.le_refl _, Mem.le_refl _, Mem.le_refl _, ⟨_, h1.row, by simp⟩, 5, 513, r, 22, a6, ke, ⟨_, h1.row, by kernel_rfl⟩, condC (fun _ cap tot c1 c2 base E' k1 w => ⟨k1, ?_⟩) (fun g => absurd g (by simp))⟩
  have hb : base ≠ none := fun e => by have := w.1 e; cases this
  refine h _ _ E' k1 ⟨by cases base with | none => exact absurd rfl hb | some a => simp, w.2 0 8 1 cap (by simp)⟩
theorem q39a {r : Int} (h0 : 0 ≤ r ∧ r < 1000000000) (h : K (.tup [.agg [I 2, I 3, I 513, I 10, I 1], .agg [I 3, I 5, I 3, I 513, I r, I 1000005, I 0, I 0], B true]) E) : Ent F1 10 Tryd.f39 [.agg [I 1, I 3, I 513, I 10, I 1], I 5, .agg [I 2, I 5, I 3, I 513, I r, I 0, I 0, I 0], I 11] E K := by
  refine same (by kernel_rfl) (?_ : Mem.le E E ∧ Mem.le E E ∧ Mem.le E E ∧ OkW (2 : Int) (5 : Int) (3 : Int) (513 : Int) r ∧ Mem.le E E ∧ bif bif false then true else !(true && (true && (true && (true && (r == r && true))))) then Mem.le E E ∧ K (SV.tup [SV.agg [I (1 : Int), I (3 : Int), I (513 : Int), I (10 : Int), I (1 : Int)], SV.agg [I (0 : Int), I (0 : Int), I (0 : Int), I (0 : Int), I (0 : Int), I (0 : Int), I (0 : Int), I (0 : Int)], B false]) E else Sx.Alike (AlikeT.n AlikeT.l AlikeT.l) (Mem.le E E ∧ K (SV.tup [SV.agg [I (2 : Int), I (3 : Int), I (513 : Int), I (10 : Int), I (1 : Int)], SV.agg [I (3 : Int), I (5 : Int), I (3 : Int), I (513 : Int), I r, I (1000005 : Int), I (0 : Int), I (0 : Int)], B true]) E))
  exact ⟨Mem.le_refl _, Mem.le_refl _, Mem.le_refl _, ⟨by decide, by decide, by decide, by decide, by decide, by omega⟩, Mem.le_refl _, condC (fun g => absurd g (by simp)) (fun _ => alike ⟨Mem.le_refl _, h⟩)⟩
theorem q39b (h : K (.tup [.agg [I 3, I 3, I 513, I 10, I 1], .agg [I 0, I 0, I 0, I 0, I 0, I 0, I 0, I 0], B true]) E) : Ent F1 10 Tryd.f39 [.agg [I 2, I 3, I 513, I 10, I 1], I 5, .agg [I 4, I 5, I 3, I 513, I 0, I 1000005, I 2, I 4], I 12] E K := by
  refine same (by kernel_rfl) (?_ : Mem.le E E ∧ Mem.le E E ∧ Mem.le E E ∧ OkW (4 : Int) (5 : Int) (3 : Int) (513 : Int) (0 : Int) ∧ Mem.le E E ∧ Sx.Alike (AlikeT.n AlikeT.l AlikeT.l) (Mem.le E E ∧ K (SV.tup [SV.agg [I (3 : Int), I (3 : Int), I (513 : Int), I (10 : Int), I (1 : Int)], SV.agg [I (0 : Int), I (0 : Int), I (0 : Int), I (0 : Int), I (0 : Int), I (0 : Int), I (0 : Int), I (0 : Int)], B true]) E))
  exact ⟨Mem.le_refl _, Mem.le_refl _, Mem.le_refl _, ⟨by decide, by decide, by decide, by decide, by decide, by decide⟩, Mem.le_refl _, alike ⟨Mem.le_refl _, h⟩⟩
theorem q41a {r : Int} (h0 : 0 ≤ r ∧ r < 1000000000) (h : K (.tup [.agg [I 4, I 5, I 3, I 513, I 0, I 1000005, I 2, I 4], I 0]) E) : Ent F1 10 Tryd.f41 [.agg [I 3, I 5, I 3, I 513, I r, I 1000005, I 0, I 0], .agg [I 2, I 4]] E K := by
  refine same (by kernel_rfl) (?_ : OkW (3 : Int) (5 : Int) (3 : Int) (513 : Int) r ∧ Mem.le E E ∧ Mem.le E E ∧ Mem.le E E ∧ Mem.le E E ∧ Sx.Alike (AlikeT.n AlikeT.l (AlikeT.n AlikeT.l (AlikeT.n AlikeT.l AlikeT.l))) (Mem.le E E ∧ K (SV.tup [SV.agg [I (4 : Int), I (5 : Int), I (3 : Int), I (513 : Int), I (0 : Int), I (1000005 : Int), I (2 : Int), I (4 : Int)], I (0 : Int)]) E))
  exact ⟨⟨by decide, by decide, by decide, by decide, by decide, by omega⟩, Mem.le_refl _, Mem.le_refl _, Mem.le_refl _, Mem.le_refl _, alike ⟨Mem.le_refl _, h⟩⟩
theorem q39 {a1 : Int} {a2 : Int} {a3 : Int} {a4 : Int} {a5 : Int} {a6 : Int} {a7 : Int} {a8 : Int} {a9 : Int} {a10 : Int} {a11 : Int} {a12 : Int} {a13 : Int} {a14 : Int} {a15 : Int} (h : cond (a7 == 2) ((a1 = 1 ∧ a2 = 3 ∧ a3 = 513 ∧ a4 = 10 ∧ a5 = 1 ∧ a6 = 5 ∧ a8 = 5 ∧ a9 = 3 ∧ a10 = 513 ∧ (0 ≤ a11 ∧ a11 < 1000000000) ∧ a12 = 0 ∧ a13 = 0 ∧ a14 = 0 ∧ a15 = 11) ∧ K (.tup [.agg [I 2, I 3, I 513, I 10, I 1], .agg [I 3, I 5, I 3, I 513, I a11, I 1000005, I 0, I 0], B true]) E) ((a1 = 2 ∧ a2 = 3 ∧ a3 = 513 ∧ a4 = 10 ∧ a5 = 1 ∧ a6 = 5 ∧ a8 = 5 ∧ a9 = 3 ∧ a10 = 513 ∧ a7 = 4 ∧ a11 = 0 ∧ a12 = 1000005 ∧ a13 = 2 ∧ a14 = 4 ∧ a15 = 12) ∧ K (.tup [.agg [I 3, I 3, I 513, I 10, I 1], .agg [I 0, I 0, I 0, I 0, I 0, I 0, I 0, I 0], B true]) E)) :
    Ent F1 10 Tryd.f39 [.agg [I a1, I a2, I a3, I a4, I a5], I a6, .agg [I a7, I a8, I a9, I a10, I a11, I a12, I a13, I a14], I a15] E K := by
  cases hk : (a7 == 2) with
  | true =>
    rw [hk] at h
    obtain ⟨⟨rfl, rfl, rfl, rfl, rfl, rfl, rfl, rfl, rfl, hr, rfl, rfl, rfl, rfl⟩, h⟩ := h
    have hk : a7 = 2 := by simpa using hk
    subst hk
    exact q39a hr h
  | false =>
    rw [hk] at h
    obtain ⟨⟨rfl, rfl, rfl, rfl, rfl, rfl, rfl, rfl, rfl, rfl, rfl, rfl, rfl, rfl, rfl⟩, h⟩ := h
    exact q39b h
theorem q41 {a1 : Int} {a2 : Int} {a3 : Int} {a4 : Int} {a5 : Int} {a6 : Int} {a7 : Int} {a8 : Int} {a9 : Int} {a10 : Int} (h0 : (a1 = 3 ∧ a2 = 5 ∧ a3 = 3 ∧ a4 = 513 ∧ a6 = 1000005)) (h1 : (0 ≤ a5 ∧ a5 < 1000000000)) (h2 : (a7 = 0 ∧ a8 = 0 ∧ a9 = 2 ∧ a10 = 4)) (h : K (.tup [.agg [I 4, I 5, I 3, I 513, I 0, I 1000005, I 2, I 4], I 0]) E) :
    Ent F1 10 Tryd.f41 [.agg [I a1, I a2, I a3, I a4, I a5, I a6, I a7, I a8], .agg [I a9, I a10]] E K := by
  obtain ⟨rfl, rfl, rfl, rfl, rfl⟩ := h0
  obtain ⟨rfl, rfl, rfl, rfl⟩ := h2
  exact q41a h1 h
noncomputable def tabG : FuncId → List SV → Mem → (SV → Mem → Prop) → Prop := fun f args E K => match f with
  | 37 => d4 args fun x0 x1 x2 x3 => dS x0 fun b1 l2 c3 => dI x1 fun a4 => dC x2 fun l1 => d8 l1 fun x2_0 x2_1 x2_2 x2_3 x2_4 x2_5 x2_6 x2_7 => dI x2_0 fun a5 => dI x2_1 fun a6 => dI x2_2 fun a7 => dI x2_3 fun a8 => dI x2_4 fun a9 => dI x2_5 fun a10 => dI x2_6 fun a11 => dI x2_7 fun a12 => dI x3 fun a13 => GR E ∧ (cond (a5 == 1) (NoB b1 l2 c3 ∧ (a4 = 3 ∧ a13 = 10) ∧ (a6 = 5 ∧ a7 = 3 ∧ a8 = 513 ∧ a9 = 0 ∧ a10 = 0 ∧ a11 = 0 ∧ a12 = 0) ∧ ∀ (r : Int) (b' : Option Addr) (c' : Nat) (E' : Mem), 0 ≤ r → r < 1000000000 → Mem.le E E' → Hf E' b' c' [5, 513, r, 22] false 0 → K (.tup [L b' 1 c', I 0]) E') ((l2 = 1 ∧ Hf E b1 c3 [5, 513, a9, 22] false 0 ∧ 0 ≤ a9 ∧ a9 < 1000000000) ∧ (a4 = 3 ∧ a13 = 11) ∧ (a5 = 3 ∧ a6 = 5 ∧ a7 = 3 ∧ a8 = 513 ∧ a10 = 1000005 ∧ a11 = 0 ∧ a12 = 0) ∧ ∀ (b' : Option Addr) (c' : Nat) (E' : Mem), Mem.le E E' → Hf E' b' c' [5, 513, a9, 22] true 1000005 → K (.tup [L b' 1 c', I 0]) E'))
  | 59 => d4 args fun x0 x1 x2 x3 => dS x0 fun b1 l2 c3 => dI x1 fun a4 => dI x2 fun a5 => dB x3 fun a6 => ∃ (r : Int) (ke : Int), l2 = 1 ∧ Hf E b1 c3 [5, 513, r, 22] a6 ke ∧ (0 ≤ r ∧ r < 1000000000) ∧ a4 = 3 ∧ ((a6 = true ∧ ke = 1000005) ∨ (a6 = false ∧ ke = 0)) ∧ (∀ (b' : Option Addr) (c' : Nat) (E' : Mem), Mem.le E E' → Wd E' b' c' [a5, 5, 3, 513, r, ke, 0, 0] → K (L b' 1 c') E')
  | 39 => d4 args fun x0 x1 x2 x3 => dC x0 fun l1 => d5 l1 fun x0_0 x0_1 x0_2 x0_3 x0_4 => dI x0_0 fun a1 => dI x0_1 fun a2 => dI x0_2 fun a3 => dI x0_3 fun a4 => dI x0_4 fun a5 => dI x1 fun a6 => dC x2 fun l2 => d8 l2 fun x2_0 x2_1 x2_2 x2_3 x2_4 x2_5 x2_6 x2_7 => dI x2_0 fun a7 => dI x2_1 fun a8 => dI x2_2 fun a9 => dI x2_3 fun a10 => dI x2_4 fun a11 => dI x2_5 fun a12 => dI x2_6 fun a13 => dI x2_7 fun a14 => dI x3 fun a15 => (cond (a7 == 2) ((a1 = 1 ∧ a2 = 3 ∧ a3 = 513 ∧ a4 = 10 ∧ a5 = 1 ∧ a6 = 5 ∧ a8 = 5 ∧ a9 = 3 ∧ a10 = 513 ∧ (0 ≤ a11 ∧ a11 < 1000000000) ∧ a12 = 0 ∧ a13 = 0 ∧ a14 = 0 ∧ a15 = 11) ∧ K (.tup [.agg [I 2, I 3, I 513, I 10, I 1], .agg [I 3, I 5, I 3, I 513, I a11, I 1000005, I 0, I 0], B true]) E) ((a1 = 2 ∧ a2 = 3 ∧ a3 = 513 ∧ a4 = 10 ∧ a5 = 1 ∧ a6 = 5 ∧ a8 = 5 ∧ a9 = 3 ∧ a10 = 513 ∧ a7 = 4 ∧ a11 = 0 ∧ a12 = 1000005 ∧ a13 = 2 ∧ a14 = 4 ∧ a15 = 12) ∧ K (.tup [.agg [I 3, I 3, I 513, I 10, I 1], .agg [I 0, I 0, I 0, I 0, I 0, I 0, I 0, I 0], B true]) E))
  | 41 => d2 args fun x0 x1 => dC x0 fun l1 => d8 l1 fun x0_0 x0_1 x0_2 x0_3 x0_4 x0_5 x0_6 x0_7 => dI x0_0 fun a1 => dI x0_1 fun a2 => dI x0_2 fun a3 => dI x0_3 fun a4 => dI x0_4 fun a5 => dI x0_5 fun a6 => dI x0_6 fun a7 => dI x0_7 fun a8 => dC x1 fun l2 => d2 l2 fun x1_0 x1_1 => dI x1_0 fun a9 => dI x1_1 fun a10 => (a1 = 3 ∧ a2 = 5 ∧ a3 = 3 ∧ a4 = 513 ∧ a6 = 1000005) ∧ (0 ≤ a5 ∧ a5 < 1000000000) ∧ (a7 = 0 ∧ a8 = 0 ∧ a9 = 2 ∧ a10 = 4) ∧ (K (.tup [.agg [I 4, I 5, I 3, I 513, I 0, I 1000005, I 2, I 4], I 0]) E)
  | _ => False
theorem tabG_ok : TabOK Tryd.prog tabG := by
  intro f args E K h
  unfold tabG at h
  split at h
  · replace h := d4_elim h
    obtain ⟨x0, x1, x2, x3, rfl, h⟩ := h
    replace h := dS_elim h
    obtain ⟨b1, l2, c3, rfl, h⟩ := h
    replace h := dI_elim h
    obtain ⟨a4, rfl, h⟩ := h
    replace h := dC_elim h
    obtain ⟨l1, hl1, h⟩ := h
    replace h := d8_elim h
    obtain ⟨x2_0, x2_1, x2_2, x2_3, x2_4, x2_5, x2_6, x2_7, rfl, h⟩ := h
    replace h := dI_elim h
    obtain ⟨a5, rfl, h⟩ := h
    replace h := dI_elim h
    obtain ⟨a6, rfl, h⟩ := h
    replace h := dI_elim h
    obtain ⟨a7, rfl, h⟩ := h
    replace h := dI_elim h
    obtain ⟨a8, rfl, h⟩ := h
    replace h := dI_elim h
    obtain ⟨a9, rfl, h⟩ := h
    replace h := dI_elim h
    obtain ⟨a10, rfl, h⟩ := h
    replace h := dI_elim h
    obtain ⟨a11, rfl, h⟩ := h
    replace h := dI_elim h
    obtain ⟨a12, rfl, h⟩ := h
    replace h := dI_elim h
    obtain ⟨a13, rfl, h⟩ := h
    obtain ⟨g0, h⟩ := h
    exact TabSem.congr (valL_cons rfl (valL_cons rfl (valL_cons (asCells_val hl1) (valL_cons rfl rfl)))) (Ent.sem okH1 Tryd.func37 ⟨by kernel_rfl, by kernel_rfl⟩ rfl (q37 g0 h))
  · replace h := d4_elim h
    obtain ⟨x0, x1, x2, x3, rfl, h⟩ := h
    replace h := dS_elim h
    obtain ⟨b1, l2, c3, rfl, h⟩ := h
    replace h := dI_elim h
    obtain ⟨a4, rfl, h⟩ := h
    replace h := dI_elim h
    obtain ⟨a5, rfl, h⟩ := h
    replace h := dB_elim h
    obtain ⟨a6, rfl, h⟩ := h
    obtain ⟨r, ke, g0, g1, g2, g3, g4, h⟩ := h
    exact TabSem.congr (valL_cons rfl (valL_cons rfl (valL_cons rfl (valL_cons rfl rfl)))) (Ent.sem okF1 Tryd.func59 ⟨by kernel_rfl, by kernel_rfl⟩ rfl (q59 g0 g1 g2 g3 g4 h))
  · replace h := d4_elim h
    obtain ⟨x0, x1, x2, x3, rfl, h⟩ := h
    replace h := dC_elim h
    obtain ⟨l1, hl1, h⟩ := h
    replace h := d5_elim h
    obtain ⟨x0_0, x0_1, x0_2, x0_3, x0_4, rfl, h⟩ := h
    replace h := dI_elim h
    obtain ⟨a1, rfl, h⟩ := h
    replace h := dI_elim h
    obtain ⟨a2, rfl, h⟩ := h
    replace h := dI_elim h
    obtain ⟨a3, rfl, h⟩ := h
    replace h := dI_elim h
    obtain ⟨a4, rfl, h⟩ := h
    replace h := dI_elim h
    obtain ⟨a5, rfl, h⟩ := h
    replace h := dI_elim h
    obtain ⟨a6, rfl, h⟩ := h
    replace h := dC_elim h
    obtain ⟨l2, hl2, h⟩ := h
    replace h := d8_elim h
    obtain ⟨x2_0, x2_1, x2_2, x2_3, x2_4, x2_5, x2_6, x2_7, rfl, h⟩ := h
    replace h := dI_elim h
    obtain ⟨a7, rfl, h⟩ := h
    replace h := dI_elim h
    obtain ⟨a8, rfl, h⟩ := h
    replace h := dI_elim h
    obtain ⟨a9, rfl, h⟩ := h
    replace h := dI_elim h
    obtain ⟨a10, rfl, h⟩ := h
    replace h := dI_elim h
    obtain ⟨a11, rfl, h⟩ := h
    replace h := dI_elim h
    obtain ⟨a12, rfl, h⟩ := h
    replace h := dI_elim h
    obtain ⟨a13, rfl, h⟩ := h
    replace h := dI_elim h
    obtain ⟨a14, rfl, h⟩ := h
    replace h := dI_elim h
    obtain ⟨a15, rfl, h⟩ := h
    exact TabSem.congr (valL_cons (asCells_val hl1) (valL_cons rfl (valL_cons (asCells_val hl2) (valL_cons rfl rfl)))) (Ent.sem okF1 Tryd.func39 ⟨by kernel_rfl, by kernel_rfl⟩ rfl (q39 h))
  · replace h := d2_elim h
    obtain ⟨x0, x1, rfl, h⟩ := h
    replace h := dC_elim h
    obtain ⟨l1, hl1, h⟩ := h
    replace h := d8_elim h
    obtain ⟨x0_0, x0_1, x0_2, x0_3, x0_4, x0_5, x0_6, x0_7, rfl, h⟩ := h
    replace h := dI_elim h
    obtain ⟨a1, rfl, h⟩ := h
    replace h := dI_elim h
    obtain ⟨a2, rfl, h⟩ := h
    replace h := dI_elim h
    obtain ⟨a3, rfl, h⟩ := h
    replace h := dI_elim h
    obtain ⟨a4, rfl, h⟩ := h
    replace h := dI_elim h
    obtain ⟨a5, rfl, h⟩ := h
    replace h := dI_elim h
    obtain ⟨a6, rfl, h⟩ := h
    replace h := dI_elim h
    obtain ⟨a7, rfl, h⟩ := h
    replace h := dI_elim h
    obtain ⟨a8, rfl, h⟩ := h
    replace h := dC_elim h
    obtain ⟨l2, hl2, h⟩ := h
    replace h := d2_elim h
    obtain ⟨x1_0, x1_1, rfl, h⟩ := h
    replace h := dI_elim h
    obtain ⟨a9, rfl, h⟩ := h
    replace h := dI_elim h
    obtain ⟨a10, rfl, h⟩ := h
    obtain ⟨g0, g1, g2, h⟩ := h
    exact TabSem.congr (valL_cons (asCells_val hl1) (valL_cons (asCells_val hl2) rfl)) (Ent.sem okF1 Tryd.func41 ⟨by kernel_rfl, by kernel_rfl⟩ rfl (q41 g0 g1 g2 h))
  · exact h.elim
noncomputable def G1 : Cx := { P := Tryd.prog, inl := fun f => List.contains [6, 7, 8, 9, 10, 13, 14, 15, 17, 18, 19, 20, 21, 22, 23, 24, 25, 26, 27, 28, 29, 30, 31, 32, 33, 34, 35, 36, 38, 40, 42, 43, 44, 45, 46, 47, 48, 49, 50, 51, 52, 54, 55, 56, 57, 60, 61, 63, 65, 66, 67, 69, 70, 74, 75, 78, 79, 80, 81, 82, 83, 84, 85, 86, 87, 88, 89, 90, 91, 92, 93, 94, 95, 112] f, tab := tabG, isB := fun _ => false, tabB := fun _ _ _ _ _ => False, opt := { unroll := 3, carry := [] }, muts := (fun o => match o with | .mapUpdate .. => true | o => mutsD o) }
theorem okG1 : CxOK G1 := CxOK.four tabG_ok (by kernel_rfl) (okInl (by kernel_rfl)) (fun _ _ _ _ _ h => h.elim)
theorem q5  (h0 : GR E) (h : ∀ E' : Mem, Mem.le E E' → K (B true) E') :
    Ent G1 12 Tryd.f5 [] E K := by
  refine same (by kernel_rfl) (?_ : Mem.le E E ∧ Mem.le E E ∧ Sx.Alike (AlikeT.n AlikeT.l AlikeT.l) (Mem.le E E ∧ GR E ∧ NoB none 0 0 ∧ ((3 : Int) = (3 : Int) ∧ (10 : Int) = (10 : Int)) ∧ ((5 : Int) = (5 : Int) ∧ (3 : Int) = (3 : Int) ∧ (513 : Int) = (513 : Int) ∧ Sx.Alike (AlikeT.n AlikeT.l (AlikeT.n AlikeT.l (AlikeT.n AlikeT.l AlikeT.l))) ((0 : Int) = (0 : Int))) ∧ ∀ (r : Int) (b' : Option Addr) (c' : Nat) (E' : Mem), (0 : Int) ≤ r → r < (1000000000 : Int) → Mem.le E E' → Hf E' b' c' [(5 : Int), (513 : Int), r, (22 : Int)] false (0 : Int) → Mem.le E E' ∧ ∃ (r : Int), ∃ (ke : Int), 1 = 1 ∧ Hf E' b' c' [(5 : Int), (513 : Int), r, (22 : Int)] false ke ∧ ((0 : Int) ≤ r ∧ r < (1000000000 : Int)) ∧ (3 : Int) = (3 : Int) ∧ (false = true ∧ ke = (1000005 : Int) ∨ false = false ∧ ke = (0 : Int)) ∧ ∀ (b'_1 : Option Addr) (c'_1 : Nat) (E'_1 : Mem), Mem.le E' E'_1 → Wd E'_1 b'_1 c'_1 [(2 : Int), (5 : Int), (3 : Int), (513 : Int), r, ke, (0 : Int), (0 : Int)] → Mem.le E' E'_1 ∧ Mem.le E' E'_1 ∧ (∃ (cs : List Value), E'_1 (Value.slice b'_1 1 c'_1) cs ∧ (cs = [] → False)) ∧ ∃ (n : Int), ∃ (n_1 : Int), ∃ (n_2 : Int), ∃ (n_3 : Int), ∃ (n_4 : Int), ∃ (n_5 : Int), ∃ (n_6 : Int), ∃ (n_7 : Int), LoadE G1.P E'_1 54 (Value.slice b'_1 1 c'_1) 0 (SV.agg [I n, I n_1, I n_2, I n_3, I n_4, I n_5, I n_6, I n_7]) ∧ bif n == (2 : Int) then ((1 : Int) = (1 : Int) ∧ (3 : Int) = (3 : Int) ∧ (513 : Int) = (513 : Int) ∧ (10 : Int) = (10 : Int) ∧ (1 : Int) = (1 : Int) ∧ (5 : Int) = (5 : Int) ∧ n_1 = (5 : Int) ∧ n_2 = (3 : Int) ∧ n_3 = (513 : Int) ∧ ((0 : Int) ≤ n_4 ∧ n_4 < (1000000000 : Int)) ∧ n_5 = (0 : Int) ∧ n_6 = (0 : Int) ∧ n_7 = (0 : Int) ∧ (11 : Int) = (11 : Int)) ∧ Mem.le E'_1 E'_1 ∧ GR E'_1 ∧ (1 = 1 ∧ Hf E'_1 b' c' [(5 : Int), (513 : Int), n_4, (22 : Int)] false (0 : Int) ∧ (0 : Int) ≤ n_4 ∧ n_4 < (1000000000 : Int)) ∧ ((3 : Int) = (3 : Int) ∧ (11 : Int) = (11 : Int)) ∧ ((3 : Int) = (3 : Int) ∧ (5 : Int) = (5 : Int) ∧ (3 : Int) = (3 : Int) ∧ (513 : Int) = (513 : Int) ∧ (1000005 : Int) = (1000005 : Int) ∧ Sx.Alike (AlikeT.n AlikeT.l AlikeT.l) ((0 : Int) = (0 : Int))) ∧ ∀ (b' : Option Addr) (c' : Nat) (E' : Mem), Mem.le E'_1 E' → Hf E' b' c' [(5 : Int), (513 : Int), n_4, (22 : Int)] true (1000005 : Int) → Mem.le E'_1 E' ∧ ((2000 : Int) = (0 : Int) → False) ∧ Mem.le E' E' ∧ Mem.le E' E' ∧ ∃ (r : Int), ∃ (ke : Int), 1 = 1 ∧ Hf E' b' c' [(5 : Int), (513 : Int), r, (22 : Int)] true ke ∧ ((0 : Int) ≤ r ∧ r < (1000000000 : Int)) ∧ (3 : Int) = (3 : Int) ∧ (true = true ∧ ke = (1000005 : Int) ∨ true = false ∧ ke = (0 : Int)) ∧ ∀ (b' : Option Addr) (c' : Nat) (E'_2 : Mem), Mem.le E' E'_2 → Wd E'_2 b' c' [(3 : Int), (5 : Int), (3 : Int), (513 : Int), r, ke, (0 : Int), (0 : Int)] → Mem.le E' E'_2 ∧ Mem.le E' E'_2 ∧ (∃ (cs : List Value), E'_2 (Value.slice b' (1 : Nat) c') cs ∧ (cs = [] → False)) ∧ ∃ (n : Int), ∃ (n_8 : Int), ∃ (n_9 : Int), ∃ (n_10 : Int), ∃ (n_11 : Int), ∃ (n_12 : Int), ∃ (n_13 : Int), ∃ (n_14 : Int), LoadE G1.P E'_2 (54 : Nat) (Value.slice b' (1 : Nat) c') (0 : Nat) (SV.agg [I n, I n_8, I n_9, I n_10, I n_11, I n_12, I n_13, I n_14]) ∧ (n = (3 : Int) ∧ n_8 = (5 : Int) ∧ n_9 = (3 : Int) ∧ n_10 = (513 : Int) ∧ n_12 = (1000005 : Int)) ∧ ((0 : Int) ≤ n_11 ∧ n_11 < (1000000000 : Int)) ∧ (n_13 = (0 : Int) ∧ n_14 = (0 : Int) ∧ (2 : Int) = (2 : Int) ∧ (4 : Int) = (4 : Int)) ∧ Mem.le E'_2 E'_2 ∧ ∀ (cap' tot' : Nat), (1 : Nat) ≤ cap' → cap' * (8 : Nat) ≤ tot' → Mem.le E' E'_2 ∧ ((2 : Int) = (2 : Int) ∧ (3 : Int) = (3 : Int) ∧ (513 : Int) = (513 : Int) ∧ (10 : Int) = (10 : Int) ∧ (1 : Int) = (1 : Int) ∧ (5 : Int) = (5 : Int) ∧ (5 : Int) = (5 : Int) ∧ (3 : Int) = (3 : Int) ∧ (513 : Int) = (513 : Int) ∧ (4 : Int) = (4 : Int) ∧ (0 : Int) = (0 : Int) ∧ (1000005 : Int) = (1000005 : Int) ∧ (2 : Int) = (2 : Int) ∧ (4 : Int) = (4 : Int) ∧ (12 : Int) = (12 : Int)) ∧ Mem.le E'_2 E'_2 ∧ Sx.Alike (AlikeT.n AlikeT.l AlikeT.l) (Mem.le E E'_2 ∧ K (B true) E'_2) else ((1 : Int) = (2 : Int) ∧ (3 : Int) = (3 : Int) ∧ (513 : Int) = (513 : Int) ∧ (10 : Int) = (10 : Int) ∧ (1 : Int) = (1 : Int) ∧ (5 : Int) = (5 : Int) ∧ n_1 = (5 : Int) ∧ n_2 = (3 : Int) ∧ n_3 = (513 : Int) ∧ n = (4 : Int) ∧ n_4 = (0 : Int) ∧ n_5 = (1000005 : Int) ∧ n_6 = (2 : Int) ∧ n_7 = (4 : Int) ∧ (11 : Int) = (12 : Int)) ∧ Mem.le E'_1 E'_1 ∧ GR E'_1 ∧ (1 = 1 ∧ Hf E'_1 b' c' [(5 : Int), (513 : Int), (0 : Int), (22 : Int)] false (0 : Int) ∧ (0 : Int) ≤ (0 : Int) ∧ (0 : Int) < (1000000000 : Int)) ∧ ((3 : Int) = (3 : Int) ∧ (11 : Int) = (11 : Int)) ∧ ((0 : Int) = (3 : Int) ∧ (0 : Int) = (5 : Int) ∧ (0 : Int) = (3 : Int) ∧ (0 : Int) = (513 : Int) ∧ (0 : Int) = (1000005 : Int) ∧ Sx.Alike (AlikeT.n AlikeT.l AlikeT.l) ((0 : Int) = (0 : Int))) ∧ ∀ (b' : Option Addr) (c' : Nat) (E' : Mem), Mem.le E'_1 E' → Hf E' b' c' [(5 : Int), (513 : Int), (0 : Int), (22 : Int)] true (1000005 : Int) → Mem.le E'_1 E' ∧ ((2000 : Int) = (0 : Int) → False) ∧ Mem.le E' E' ∧ Mem.le E' E' ∧ ∃ (r : Int), ∃ (ke : Int), 1 = 1 ∧ Hf E' b' c' [(5 : Int), (513 : Int), r, (22 : Int)] true ke ∧ ((0 : Int) ≤ r ∧ r < (1000000000 : Int)) ∧ (3 : Int) = (3 : Int) ∧ (true = true ∧ ke = (1000005 : Int) ∨ true = false ∧ ke = (0 : Int)) ∧ ∀ (b' : Option Addr) (c' : Nat) (E'_2 : Mem), Mem.le E' E'_2 → Wd E'_2 b' c' [(3 : Int), (5 : Int), (3 : Int), (513 : Int), r, ke, (0 : Int), (0 : Int)] → Mem.le E' E'_2 ∧ Mem.le E' E'_2 ∧ (∃ (cs : List Value), E'_2 (Value.slice b' (1 : Nat) c') cs ∧ (cs = [] → False)) ∧ ∃ (n : Int), ∃ (n_8 : Int), ∃ (n_9 : Int), ∃ (n_10 : Int), ∃ (n_11 : Int), ∃ (n_12 : Int), ∃ (n_13 : Int), ∃ (n_14 : Int), LoadE G1.P E'_2 (54 : Nat) (Value.slice b' (1 : Nat) c') (0 : Nat) (SV.agg [I n, I n_8, I n_9, I n_10, I n_11, I n_12, I n_13, I n_14]) ∧ (n = (3 : Int) ∧ n_8 = (5 : Int) ∧ n_9 = (3 : Int) ∧ n_10 = (513 : Int) ∧ n_12 = (1000005 : Int)) ∧ ((0 : Int) ≤ n_11 ∧ n_11 < (1000000000 : Int)) ∧ (n_13 = (0 : Int) ∧ n_14 = (0 : Int) ∧ (2 : Int) = (2 : Int) ∧ (4 : Int) = (4 : Int)) ∧ Mem.le E'_2 E'_2 ∧ ∀ (cap' tot' : Nat), (1 : Nat) ≤ cap' → cap' * (8 : Nat) ≤ tot' → Mem.le E' E'_2 ∧ ((3 : Int) = (2 : Int) ∧ (3 : Int) = (3 : Int) ∧ (513 : Int) = (513 : Int) ∧ (10 : Int) = (10 : Int) ∧ (1 : Int) = (1 : Int) ∧ (5 : Int) = (5 : Int) ∧ (5 : Int) = (5 : Int) ∧ (3 : Int) = (3 : Int) ∧ (513 : Int) = (513 : Int) ∧ (4 : Int) = (4 : Int) ∧ (0 : Int) = (0 : Int) ∧ (1000005 : Int) = (1000005 : Int) ∧ (2 : Int) = (2 : Int) ∧ (4 : Int) = (4 : Int) ∧ (12 : Int) = (12 : Int)) ∧ Mem.le E'_2 E'_2 ∧ Sx.Alike (AlikeT.n AlikeT.l AlikeT.l) (Mem.le E E'_2 ∧ K (B true) E'_2)))
  refine ⟨Mem.le_refl _, Mem.le_refl _, alike ⟨Mem.le_refl _, h0, ⟨rfl, rfl, rfl⟩, ⟨rfl, rfl⟩, ⟨rfl, rfl, rfl, alike rfl⟩, fun r b c E1 r1 r2 k1 H1 => ⟨k1, r, 0, rfl, H1, ⟨r1, r2⟩, rfl, .inr ⟨rfl, rfl⟩, fun b2 c2 E2 k2 W2 => ?_⟩⟩⟩
  refine ⟨k2, k2, ⟨_, W2.row, by simp⟩, 2, 5, 3, 513, r, 0, 0, 0, ⟨_, W2.row, by kernel_rfl⟩, condC (fun _ => ?_) (fun g => absurd g (by decide))⟩
  refine ⟨⟨rfl, rfl, rfl, rfl, rfl, rfl, rfl, rfl, rfl, ⟨r1, r2⟩, rfl, rfl, rfl, rfl⟩, Mem.le_refl _, h0.mono (Mem.le_trans k1 k2), ⟨rfl, H1.mono k2, r1, r2⟩, ⟨rfl, rfl⟩, ⟨rfl, rfl, rfl, rfl, rfl, alike rfl⟩, fun b3 c3 E3 k3 H3 => ?_⟩
  refine ⟨k3, fun u => absurd u (by decide), Mem.le_refl _, Mem.le_refl _, r, 1000005, rfl, H3, ⟨r1, r2⟩, rfl, .inl ⟨rfl, rfl⟩, fun b4 c4 E4 k4 W4 => ?_⟩
  have kk := Mem.le_trans k1 (Mem.le_trans k2 (Mem.le_trans k3 k4))
  exact ⟨k4, k4, ⟨_, W4.row, by simp⟩, 3, 5, 3, 513, r, 1000005, 0, 0, ⟨_, W4.row, by kernel_rfl⟩, ⟨rfl, rfl, rfl, rfl, rfl⟩, ⟨r1, r2⟩, ⟨rfl, rfl, rfl, rfl⟩, Mem.le_refl _, fun cap tot c1 c2 => ⟨k4, ⟨rfl, rfl, rfl, rfl, rfl, rfl, rfl, rfl, rfl, rfl, rfl, rfl, rfl, rfl, rfl⟩, Mem.le_refl _, alike ⟨kk, h E4 kk⟩⟩⟩
structure RtE (a e : Int) : Prop where
  lo : 2000 * e ≤ a
  hi : a < 2000 * e + 2000
  ok : 0 ≤ a ∧ a ≤ 1000000000
theorem RtE.div {a e : Int} (h : RtE a e) : Int.tdiv a 2000 = e ∧ 0 ≤ e ∧ e ≤ 500000 := by
  obtain ⟨h1, h2, h3, h4⟩ := h
  rw [Int.tdiv_eq_ediv_of_nonneg h3]
  omega
noncomputable def D1 : Cx := { P := Tryd.prog, inl := fun f => List.contains [18, 44] f, tab := fun _ _ _ _ => False, isB := fun _ => false, tabB := fun _ _ _ _ _ => False, opt := { unroll := 3, carry := [] }, muts := mutsD }
theorem okD1 : CxOK D1 := CxOK.four (fun _ _ _ _ h => h.elim) (by kernel_rfl) (okInl (by kernel_rfl)) (fun _ _ _ _ _ h => h.elim)
theorem q6 {a1 : Int} {e : Int} (h0 : RtE a1 e) (h : K (.agg [I e, I (e + 2)]) E) :
    Ent D1 10 Tryd.f6 [I a1] E K := by
  refine same (by kernel_rfl) (?_ : bif decide (a1 < (0 : Int)) then Mem.le E E ∧ Mem.le E E ∧ K (SV.agg [I (0 : Int), I (0 : Int)]) E else bif decide ((1000000000 : Int) < a1) then Mem.le E E ∧ Mem.le E E ∧ K (SV.agg [I (0 : Int), I (0 : Int)]) E else ((2000 : Int) = (0 : Int) → False) ∧ Mem.le E E ∧ Mem.le E E ∧ K (SV.agg [I (IntKind.wrap IntKind.i64 (Int.tdiv a1 (2000 : Int))), I (IntKind.wrap IntKind.i64 (IntKind.wrap IntKind.i64 (Int.tdiv a1 (2000 : Int)) + (2 : Int)))]) E)
  obtain ⟨d1, d2, d3⟩ := h0.div
  obtain ⟨o1, o2⟩ := h0.ok
  have w1 : IntKind.wrap .i64 e = e := wrap_i64 (by omega)
  have w2 : IntKind.wrap .i64 (e + 2) = e + 2 := wrap_i64 (by omega)
  rw [d1, w1, w2]
  exact condC (fun g => absurd g (by simp; omega)) (fun _ => condC (fun g => absurd g (by simp; omega)) (fun _ => ⟨fun u => absurd u (by decide), Mem.le_refl _, Mem.le_refl _, h⟩))
end Go.Proofs.YtlpcifknlncljaaDoor.TopOwn
namespace Go.Proofs.YtlpcifknlncljaaDoor.TopOwn
open Go Go.Sx Go.Proofs.YtlpcifknlncljaaDoor Go.RowKit Go.ChangeShapes Go.WideShapes
set_option maxRecDepth 100000
set_option maxHeartbeats 4000000
set_option linter.unusedVariables false
set_option linter.unusedSimpArgs false
variable {E : Mem} {K : SV → Mem → Prop}
def lst : List (String × DataW Unit) := [("slotmesh/random.steps", Rows.laid_slotmesh_random_steps)]
theorem flds142 : ∃ fs : Array Field, Tryd.prog.underlying 142 = some (.struct fs) ∧ fs.toList.map (fun f => (f.type, f.offset)) = [(3, 0), (118, 1)] :=
  ⟨match Tryd.prog.underlying 142 with | some (.struct fs) => fs | _ => #[], by kernel_rfl, by kernel_rfl⟩
theorem pair142 {W : World} {fuel : Nat} {cs : List Value} {p : List MemPlace} {a b : Int} (h : DataW.trod (fun _ => ()) Tryd.prog W 0 (fun _ => true) false fuel 142 cs = some (.agg [.lit (.int .i64 a), .lit (.int .u64 b)], p)) : cs = [.int .i64 a, .int .u64 b] := by
  obtain ⟨fs, hf, hm⟩ := flds142
  obtain ⟨xs, n, _, ex, hl, hn, hel⟩ := DataW.trod_struct hf h
  have c142 : Tryd.prog.cellsOf 142 = 2 := by kernel_rfl
  have c3 : Tryd.prog.cellsOf 3 = 1 := by kernel_rfl
  have c118 : Tryd.prog.cellsOf 118 = 1 := by kernel_rfl
  have u3 : Tryd.prog.underlying 3 = some (.int .i64) := by kernel_rfl
  have u118 : Tryd.prog.underlying 118 = some (.int .u64) := by kernel_rfl
  obtain ⟨l⟩ := fs
  simp only at hm hn
  match l, hm with
  | [f0, f1], hm =>
    simp only [List.map_cons, List.map_nil, List.cons.injEq, Prod.mk.injEq, and_true] at hm
    obtain ⟨⟨t0, o0⟩, t1, o1⟩ := hm
    have h0 := hel 0 f0 rfl
    have h1 := hel 1 f1 rfl
    rw [t0, o0, c3] at h0
    rw [t1, o1, c118] at h1
    match xs, hn with
    | [x0, x1], _ =>
      obtain ⟨z0, e0, g0, _⟩ := DataW.trod_int u3 (show _ = some x0 from h0)
      obtain ⟨z1, e1, g1, _⟩ := DataW.trod_int u118 (show _ = some x1 from h1)
      rw [g0, g1] at ex
      simp at ex
      rw [c142] at hl
      match cs, hl with
      | [y0, y1], _ =>
        simp at e0 e1
        rw [e0, e1, ex.1.1, ex.1.2]
theorem GR_of {W : World} (h : laidMetH Tryd.prog lst W) : RowAt W (.slice (some ⟨0, 0, none⟩) 0 0) gcells := by
  rw [MakeChecks.laidMetH_plain _ _ _ (by kernel_rfl)] at h
  obtain ⟨ps, ⟨g, t, cs, fuel, p, q, hg, ht, hv, hd, _, _⟩, _, _⟩ := h
  obtain rfl := Option.some.inj ((show Tryd.prog.globalNamed "slotmesh/random.steps" = some 0 by kernel_rfl).symm.trans hg)
  obtain rfl := Option.some.inj ((show (Tryd.prog.globals[0]?).map (·.type) = some 143 by kernel_rfl).symm.trans ht)
  obtain ⟨xs, m, _, ex, hc, hl, hel⟩ := DataW.trod_array (show Tryd.prog.underlying 143 = some (.array 3 142) by kernel_rfl) hd
  rw [show Tryd.prog.cellsOf 143 = 6 by kernel_rfl] at hc
  rw [show Tryd.prog.cellsOf 142 = 2 by kernel_rfl] at hel
  refine Or.inr ⟨⟨0, 0, none⟩, 0, 0, rfl, rfl, fun i x hx => ?_⟩
  show W.cell? ⟨0, 0 + i, none⟩ = some x
  rw [Nat.zero_add, World.var?_cell hg hv i]
  suffices e : cs.toList = gcells by
    rw [← e] at hx
    simpa using hx
  match xs, hl with
  | [x0, x1, x2], _ =>
    have h0 := hel 0 (by decide)
    have h1 := hel 1 (by decide)
    have h2 := hel 2 (by decide)
    simp only [Rows.laid_slotmesh_random_steps, List.map_cons, List.map_nil, Prod.mk.injEq, DataW.agg.injEq, List.cons.injEq, and_true] at ex
    obtain ⟨⟨e0, e1, e2⟩, _⟩ := ex
    obtain ⟨x0, p0⟩ := x0
    obtain ⟨x1, p1⟩ := x1
    obtain ⟨x2, p2⟩ := x2
    simp only at e0 e1 e2
    subst e0 e1 e2
    have g0 := pair142 h0
    have g1 := pair142 h1
    have g2 := pair142 h2
    generalize cs.toList = l at hc g0 g1 g2
    match l, hc with
    | [y0, y1, y2, y3, y4, y5], _ =>
      simp at g0 g1 g2
      rw [g0.1, g0.2, g1.1, g1.2, g2.1, g2.2]
      rfl
structure Dn where
  t : Int
  nx : Int
  sq : Int
  un : Int
def Dw : RowR Dn := fun _ x r => r = [.int .i64 x.t, .int .i64 x.nx, .int .i64 x.sq, .int .i64 x.un]
theorem okDw : RowOK 4 Dw := ⟨fun _ h => h, fun h => by rw [h]; rfl, fun h v hv => by rw [h] at hv; simp at hv; rcases hv with rfl | rfl | rfl | rfl <;> rfl, by decide⟩
structure DOk (x : Dn) : Prop where
  t : 0 ≤ x.t ∧ x.t < 60
  sq : 0 ≤ x.sq ∧ x.sq ≤ 1000000000
structure DV (x : Dn) : Prop where
  nx : 0 ≤ x.nx ∧ x.nx < 60
  un : 0 ≤ x.un ∧ x.un ≤ 1000000000
structure Up (l : List Dn) : Prop where
  up : l.Pairwise fun a b => a.t < b.t
  ok : ∀ x ∈ l, DOk x
theorem Dw.load {E : Mem} {b : Option Addr} {l c i : Nat} {xs : List Dn} {x : Dn} (h : SL Dw E b l c xs) (hx : xs[i]? = some x) : LoadE Tryd.prog E 72 (.slice b l c) (i * 4) (.agg [I x.t, I x.nx, I x.sq, I x.un]) := by
  obtain ⟨r, h1, h2⟩ := h.loadE okDw (P := Tryd.prog) (T := 72) (by kernel_rfl) (by kernel_rfl) hx
  rw [show r = _ from h1] at h2
  exact h2
def lastT (xs : List Dn) (i : Nat) : Int := if i = 0 then -1 else ((xs[i - 1]?).map Dn.t).getD (-1)
theorem lastT_lt {xs : List Dn} {i : Nat} {x : Dn} (h : Up xs) (hx : xs[i]? = some x) : lastT xs i < x.t := by
  have ho := (h.ok x (List.mem_of_getElem? hx)).t
  unfold lastT
  split
  · omega
  · have hi := (List.getElem?_eq_some_iff.1 hx).1
    have h1 := List.getElem?_eq_getElem (l := xs) (i := i - 1) (by omega)
    rw [h1]
    have := List.pairwise_iff_getElem.1 h.up (i - 1) i (by omega) hi (by omega)
    rw [(List.getElem?_eq_some_iff.1 hx).2] at this
    simpa using this
theorem lastT_succ {xs : List Dn} {i : Nat} {x : Dn} (hx : xs[i]? = some x) : lastT xs (i + 1) = x.t := by
  unfold lastT
  rw [if_neg (by omega), Nat.add_sub_cancel, hx]
  rfl
noncomputable def M0 : Cx := { P := Tryd.prog, inl := fun f => List.contains [31] f, tab := fun _ _ _ _ => False, isB := fun _ => false, tabB := fun _ _ _ _ _ => False, opt := { unroll := 0, carry := [3, 8] }, muts := mutsD }
theorem okM0 : CxOK M0 := CxOK.four (fun _ _ _ _ h => h.elim) (by kernel_rfl) (okInl (by kernel_rfl)) (fun _ _ _ _ _ h => h.elim)
def sh32 (b : Option Addr) (l c : Nat) (a : Int) (i : Nat) (E : Mem) : St := ⟨[none, none, none, some (I a), none, none, some (L b l c), some (I (l : Nat)), some (I (i : Nat))] ++ List.replicate 26 none, [], E⟩
theorem r32 {b : Option Addr} {l c i : Nat} {xs : List Dn} {E0 : Mem} (hx : SL Dw E b l c xs) (hu : Up xs) (hl : l ≤ 1000) (hi : i ≤ l) (hE : Mem.le E0 E) (h : K (B true) E) (ih : i < l → Lp M0 8 Tryd.f32 [1, 1, 0, 1, 0] 0 (pubK E0 K) (sh32 b l c (lastT xs (i + 1)) (i + 1) E)) : Rnd M0 8 Tryd.f32 [1, 1, 0, 1, 0] 0 (pubK E0 K) (sh32 b l c (lastT xs i) i E) := by
  refine same (by kernel_rfl) (?_ : bif decide ((↑i : Int) < (↑l : Int)) then req ((0 : Int) ≤ (↑i : Int) ∧ (↑i : Int) < (↑l : Int)) ((∃ (cs : List Value), E (Value.slice b l c) cs ∧ (cs = [] → False)) ∧ ∃ (n : Int), ∃ (n_1 : Int), ∃ (n_2 : Int), ∃ (n_3 : Int), LoadE M0.P E 72 (Value.slice b l c) (Int.toNat (↑i : Int) * 4) (SV.agg [I n, I n_1, I n_2, I n_3]) ∧ bif decide (n ≥ (0 : Int)) then Mem.le E E ∧ bif !bif true then decide (n < (60 : Int)) else false then Mem.le E0 E ∧ K (B false) E else bif bif false then true else decide (n ≤ lastT xs i) then Mem.le E0 E ∧ K (B false) E else bif bif false then true else decide (n_2 < (0 : Int)) then Mem.le E0 E ∧ K (B false) E else bif bif false then true else decide (n_2 > (1000000000 : Int)) then Mem.le E0 E ∧ K (B false) E else Lp M0 8 Tryd.f32 [1, 1, 0, 1, 0] 0 (pubK E0 K) { fr := [none, none, none, some (I n), none, none, some (L b l c), some (I (↑l : Int)), some (I (IntKind.wrap IntKind.i64 ((↑i : Int) + (1 : Int)))), none, none, none, none, none, none, none, none, none, none, none, none, none, none, none, none, none, none, none, none, none, none, none, none, none, none], bx := [(⟨72, Row.lst [I n, I n_1, I n_2, I n_3], 4, true⟩ : Box)], E := E : St } else Mem.le E E ∧ Mem.le E0 E ∧ K (B false) E) else Mem.le E0 E ∧ K (B true) E)
  refine condC (fun g => ?_) (fun g => ⟨hE, h⟩)
  have g : i < l := by simp at g; omega
  have hn := hx.len
  have hq := List.getElem?_eq_getElem (l := xs) (i := i) (by omega)
  have hlt := lastT_lt hu hq
  rw [lastT_succ hq] at ih
  have ho := hu.ok _ (List.getElem_mem (by omega : i < xs.length))
  have hL := Dw.load hx hq
  generalize xs[i] = x at hL hlt ih ho
  obtain ⟨⟨o1, o2⟩, o3, o4⟩ := ho
  refine req_intro ⟨by omega, by omega⟩ ⟨hx.ne okDw g, x.t, x.nx, x.sq, x.un, hL, ?_⟩
  rw [wrap_i64 (x := (i : Int) + 1) (by omega)]
  have ih := ih g
  repeat' first
    | exact Mem.le_refl _
    | assumption
    | exact h
    | exact Lp_re [] (ih) ⟨⟨by first | (simp; done) | (simp [St.pub]; done), by first | (simp; done) | (simp [St.pub]; done), fun j h => absurd h (Nat.not_lt_zero _)⟩, rfl, (by repeat' first | exact True.intro | refine And.intro (Or.inl rfl) ?_ | refine And.intro (Or.inr ⟨rfl, rfl⟩) ?_), (by repeat' first | exact True.intro | exact rfl | exact Or.inl rfl | fail | refine And.intro ?_ ?_), (show List.Nodup [] from by decide), Mem.le_refl _⟩
    | refine And.intro ?_ ?_
    | refine condC (fun g => ?_) (fun g => absurd g (by first | (simp; done) | (simp; omega)))
    | refine condC (fun g => absurd g (by first | (simp; done) | (simp; omega))) (fun g => ?_)
    | refine condC (fun _ => ?_) (fun _ => ?_)
    | refine alike ?_
theorem lp32 {b : Option Addr} {l c i : Nat} {xs : List Dn} {E0 : Mem} (hx : SL Dw E b l c xs) (hu : Up xs) (hl : l ≤ 1000) (hi : i ≤ l) (hE : Mem.le E0 E) (h : K (B true) E) : Lp M0 8 Tryd.f32 [1, 1, 0, 1, 0] 0 (pubK E0 K) (sh32 b l c (lastT xs i) i E) :=
  Lp_ind okM0 (fun q : {i : Nat // i ≤ l} => sh32 b l c (lastT xs q.1) q.1 E) (fun q => l - q.1) (fun q ih => r32 hx hu hl q.2 hE h fun g => ih ⟨q.1 + 1, g⟩ (by show l - (_ + 1) < l - _; omega)) ⟨i, hi⟩
theorem m32 {b1 : Option Addr} {l2 : Nat} {c3 : Nat} {xs : List Dn} (h0 : SL Dw E b1 l2 c3 xs) (h1 : Up xs) (h2 : l2 ≤ 1000) (h : K (B true) E) :
    Ent M0 8 Tryd.f32 [L b1 l2 c3] E K := by
  refine same (by kernel_rfl) (?_ : Lp M0 8 Tryd.f32 [1, 1, 0, 1, 0] 0 (pubK E K) { fr := [some (L b1 l2 c3), none, none, some (I (-1 : Int)), none, none, some (L b1 l2 c3), some (I (↑l2 : Int)), some (I (0 : Int)), none, none, none, none, none, none, none, none, none, none, none, none, none, none, none, none, none, none, none, none, none, none, none, none, none, none], bx := [], E := E : St })
  exact Lp_re [] (lp32 h0 h1 h2 (i := 0) (Nat.zero_le _) (Mem.le_refl _) h) ⟨⟨by first | (simp; done) | (simp [St.pub]; done), by first | (simp; done) | (simp [St.pub]; done), fun j h => absurd h (Nat.not_lt_zero _)⟩, rfl, (by repeat' first | exact True.intro | refine And.intro (Or.inl rfl) ?_ | refine And.intro (Or.inr ⟨rfl, rfl⟩) ?_), (by repeat' first | exact True.intro | exact rfl | exact Or.inl rfl | fail | refine And.intro ?_ ?_), (show List.Nodup [] from by decide), Mem.le_refl _⟩
noncomputable def M1 : Cx := { P := Tryd.prog, inl := fun f => List.contains [31, 49, 29, 43] f, tab := fun _ _ _ _ => False, isB := fun _ => false, tabB := fun _ _ _ _ _ => False, opt := { unroll := 0, carry := [8] }, muts := mutsD }
theorem okM1 : CxOK M1 := CxOK.four (fun _ _ _ _ h => h.elim) (by kernel_rfl) (okInl (by kernel_rfl)) (fun _ _ _ _ _ h => h.elim)
def sh42_49 (b : Option Addr) (l c : Nat) (i : Nat) (E : Mem) : St := ⟨[some (L b l c), some (.clo 49 [] []), none, none, none, none, some (L b l c), some (I (l : Nat)), some (I (i : Nat))] ++ List.replicate 10 none, [], E⟩
theorem r42_49 {b : Option Addr} {l c i : Nat} {xs : List Dn} {E0 : Mem} (hx : SL Dw E b l c xs) (hv : ∀ x ∈ xs, DV x) (hl : l ≤ 1000) (hi : i ≤ l) (hE : Mem.le E0 E) (h : K (I (-1)) E) (ih : i < l → Lp M1 8 Tryd.f42 [1, 0, 1, 0] 0 (pubK E0 K) (sh42_49 b l c (i + 1) E)) : Rnd M1 8 Tryd.f42 [1, 0, 1, 0] 0 (pubK E0 K) (sh42_49 b l c i E) := by
  refine same (by kernel_rfl) (?_ : bif decide ((↑i : Int) < (↑l : Int)) then req ((0 : Int) ≤ (↑i : Int) ∧ (↑i : Int) < (↑l : Int)) ((∃ (cs : List Value), E (Value.slice b l c) cs ∧ (cs = [] → False)) ∧ ∃ (n : Int), ∃ (n_1 : Int), ∃ (n_2 : Int), ∃ (n_3 : Int), LoadE M1.P E 72 (Value.slice b l c) (Int.toNat (↑i : Int) * 4) (SV.agg [I n, I n_1, I n_2, I n_3]) ∧ bif decide (n_1 ≥ (0 : Int)) then Mem.le E E ∧ bif !bif true then decide (n_1 < (60 : Int)) else false then Mem.le E E ∧ Mem.le E0 E ∧ K (I (↑i : Int)) E else bif bif false then true else decide (n_3 < (0 : Int)) then Mem.le E E ∧ Mem.le E0 E ∧ K (I (↑i : Int)) E else Mem.le E E ∧ bif bif false then true else decide (n_3 > (1000000000 : Int)) then Mem.le E0 E ∧ K (I (↑i : Int)) E else Lp M1 8 Tryd.f42 [1, 0, 1, 0] 0 (pubK E0 K) { fr := [some (L b l c), some (SV.clo 49 [] []), none, none, none, none, some (L b l c), some (I (↑l : Int)), some (I (IntKind.wrap IntKind.i64 ((↑i : Int) + (1 : Int)))), none, none, none, none, none, none, none, none, none, none], bx := [(⟨72, Row.lst [I n, I n_1, I n_2, I n_3], 4, true⟩ : Box)], E := E : St } else Mem.le E E ∧ Mem.le E E ∧ Mem.le E0 E ∧ K (I (↑i : Int)) E) else Mem.le E0 E ∧ K (I (-1 : Int)) E)
  have hn := hx.len
  refine condC (fun g => ?_) (fun g => ⟨hE, h⟩)
  have g : i < l := by simp at g; omega
  have hq := List.getElem?_eq_getElem (l := xs) (i := i) (by omega)
  have hL := Dw.load hx hq
  have hm := List.getElem_mem (by omega : i < xs.length)
  generalize xs[i] = x at hL hq hm
  have ih := ih g
  refine req_intro ⟨by omega, by omega⟩ ⟨hx.ne okDw g, x.t, x.nx, x.sq, x.un, hL, ?_⟩
  rw [wrap_i64 (x := (i : Int) + 1) (by omega)]
  obtain ⟨⟨o1, o2⟩, o3, o4⟩ := hv x hm
  repeat' first
    | exact Mem.le_refl _
    | assumption
    | exact h
    | exact Lp_re [] (ih) ⟨⟨by first | (simp; done) | (simp [St.pub]; done), by first | (simp; done) | (simp [St.pub]; done), fun j h => absurd h (Nat.not_lt_zero _)⟩, rfl, (by repeat' first | exact True.intro | refine And.intro (Or.inl rfl) ?_ | refine And.intro (Or.inr ⟨rfl, rfl⟩) ?_), (by repeat' first | exact True.intro | exact rfl | exact Or.inl rfl | fail | refine And.intro ?_ ?_), (show List.Nodup [] from by decide), Mem.le_refl _⟩
    | refine And.intro ?_ ?_
    | refine condC (fun g => ?_) (fun g => absurd g (by first | (simp; done) | (simp; omega)))
    | refine condC (fun g => absurd g (by first | (simp; done) | (simp; omega))) (fun g => ?_)
    | refine condC (fun _ => ?_) (fun _ => ?_)
    | refine alike ?_
theorem lp42_49 {b : Option Addr} {l c i : Nat} {xs : List Dn} {E0 : Mem} (hx : SL Dw E b l c xs) (hv : ∀ x ∈ xs, DV x) (hl : l ≤ 1000) (hi : i ≤ l) (hE : Mem.le E0 E) (h : K (I (-1)) E) : Lp M1 8 Tryd.f42 [1, 0, 1, 0] 0 (pubK E0 K) (sh42_49 b l c i E) :=
  Lp_ind okM1 (fun q : {i : Nat // i ≤ l} => sh42_49 b l c q.1 E) (fun q => l - q.1) (fun q ih => r42_49 hx hv hl q.2 hE h fun g => ih ⟨q.1 + 1, g⟩ (by show l - (_ + 1) < l - _; omega)) ⟨i, hi⟩
theorem e42_49 {b : Option Addr} {l c : Nat} {xs : List Dn} (hx : SL Dw E b l c xs) (hv : ∀ x ∈ xs, DV x) (hl : l ≤ 1000) (h : K (I (-1)) E) : Ent M1 8 Tryd.f42 [L b l c, .clo 49 [] []] E K := by
  refine same (by kernel_rfl) (?_ : Lp M1 8 Tryd.f42 [1, 0, 1, 0] 0 (pubK E K) { fr := [some (L b l c), some (SV.clo 49 [] []), none, none, none, none, some (L b l c), some (I (↑l : Int)), some (I (0 : Int)), none, none, none, none, none, none, none, none, none, none], bx := [], E := E : St })
  exact Lp_re [] (lp42_49 (i := 0) hx hv hl (Nat.zero_le _) (Mem.le_refl _) h) ⟨⟨by first | (simp; done) | (simp [St.pub]; done), by first | (simp; done) | (simp [St.pub]; done), fun j h => absurd h (Nat.not_lt_zero _)⟩, rfl, (by repeat' first | exact True.intro | refine And.intro (Or.inl rfl) ?_ | refine And.intro (Or.inr ⟨rfl, rfl⟩) ?_), (by repeat' first | exact True.intro | exact rfl | exact Or.inl rfl | fail | refine And.intro ?_ ?_), (show List.Nodup [] from by decide), Mem.le_refl _⟩
def sh42_29 (b : Option Addr) (l c : Nat) (v w : Int) (i : Nat) (E : Mem) : St := ⟨[some (L b l c), some (.clo 29 [] [.loc 0 0]), none, none, none, none, some (L b l c), some (I (l : Nat)), some (I (i : Nat))] ++ List.replicate 10 none, [⟨3, .lst [I v], 1, true⟩, ⟨3, .lst [I w], 1, true⟩], E⟩
theorem r42_29 {v w : Int} {KK : KT} {b : Option Addr} {l c i : Nat} {xs : List Dn} (hx : SL Dw E b l c xs) (hv : ∀ x ∈ xs, x.t ≠ v) (hl : l ≤ 1000) (hi : i ≤ l) (h : KK (I (-1)) [⟨3, .lst [I v], 1, true⟩, ⟨3, .lst [I w], 1, true⟩] E) (ih : i < l → Lp M1 8 Tryd.f42 [1, 0, 1, 0] 2 KK (sh42_29 b l c v w (i + 1) E)) : Rnd M1 8 Tryd.f42 [1, 0, 1, 0] 2 KK (sh42_29 b l c v w i E) := by
  refine same (by kernel_rfl) (?_ : bif decide ((↑i : Int) < (↑l : Int)) then req ((0 : Int) ≤ (↑i : Int) ∧ (↑i : Int) < (↑l : Int)) ((∃ (cs : List Value), E (Value.slice b l c) cs ∧ (cs = [] → False)) ∧ ∃ (n : Int), ∃ (n_1 : Int), ∃ (n_2 : Int), ∃ (n_3 : Int), LoadE M1.P E 72 (Value.slice b l c) (Int.toNat (↑i : Int) * 4) (SV.agg [I n, I n_1, I n_2, I n_3]) ∧ bif n == v then KK (I (↑i : Int)) [⟨3, Row.lst [I v], 1, true⟩, ⟨3, Row.lst [I w], 1, true⟩, ⟨72, Row.lst [I n, I n_1, I n_2, I n_3], 4, true⟩] E else Lp M1 8 Tryd.f42 [1, 0, 1, 0] 2 KK { fr := [some (L b l c), some (SV.clo 29 [] [SV.loc 0 0]), none, none, none, none, some (L b l c), some (I (↑l : Int)), some (I (IntKind.wrap IntKind.i64 ((↑i : Int) + (1 : Int)))), none, none, none, none, none, none, none, none, none, none], bx := [(⟨3, Row.lst [I v], 1, true⟩ : Box), ⟨3, Row.lst [I w], 1, true⟩, ⟨72, Row.lst [I n, I n_1, I n_2, I n_3], 4, true⟩], E := E : St }) else KK (I (-1 : Int)) [⟨3, Row.lst [I v], 1, true⟩, ⟨3, Row.lst [I w], 1, true⟩] E)
  have hn := hx.len
  refine condC (fun g => ?_) (fun g => h)
  have g : i < l := by simp at g; omega
  have hq := List.getElem?_eq_getElem (l := xs) (i := i) (by omega)
  have hL := Dw.load hx hq
  have hm := List.getElem_mem (by omega : i < xs.length)
  generalize xs[i] = x at hL hq hm
  have ih := ih g
  refine req_intro ⟨by omega, by omega⟩ ⟨hx.ne okDw g, x.t, x.nx, x.sq, x.un, hL, ?_⟩
  rw [wrap_i64 (x := (i : Int) + 1) (by omega)]
  exact condC (fun q => absurd (by simpa using q) (hv x hm)) (fun _ => Lp_re [some 0, some 1] (ih) ⟨⟨by first | (simp; done) | (simp [St.pub]; done), by first | (simp; done) | (simp [St.pub]; done), fun j h => (by have e : j = 0 ∨ j = 1 := (by omega); rcases e with rfl | rfl <;> rfl)⟩, rfl, (by repeat' first | exact True.intro | refine And.intro (Or.inl rfl) ?_ | refine And.intro (Or.inr ⟨rfl, rfl⟩) ?_), (by repeat' first | exact True.intro | exact rfl | exact Or.inl rfl | fail | refine And.intro ?_ ?_), (show List.Nodup [0, 1] from by decide), Mem.le_refl _⟩)
theorem lp42_29 {v w : Int} {KK : KT} {b : Option Addr} {l c i : Nat} {xs : List Dn} (hx : SL Dw E b l c xs) (hv : ∀ x ∈ xs, x.t ≠ v) (hl : l ≤ 1000) (hi : i ≤ l) (h : KK (I (-1)) [⟨3, .lst [I v], 1, true⟩, ⟨3, .lst [I w], 1, true⟩] E) : Lp M1 8 Tryd.f42 [1, 0, 1, 0] 2 KK (sh42_29 b l c v w i E) :=
  Lp_ind okM1 (fun q : {i : Nat // i ≤ l} => sh42_29 b l c v w q.1 E) (fun q => l - q.1) (fun q ih => r42_29 hx hv hl q.2 h fun g => ih ⟨q.1 + 1, g⟩ (by show l - (_ + 1) < l - _; omega)) ⟨i, hi⟩
theorem e42_29 {v w : Int} {KK : KT} {b : Option Addr} {l c : Nat} {xs : List Dn} (hx : SL Dw E b l c xs) (hv : ∀ x ∈ xs, x.t ≠ v) (hl : l ≤ 1000) (h : KK (I (-1)) [⟨3, .lst [I v], 1, true⟩, ⟨3, .lst [I w], 1, true⟩] E) : EntB M1 8 Tryd.f42 [L b l c, .clo 29 [] [.loc 0 0]] [⟨3, .lst [I v], 1, true⟩, ⟨3, .lst [I w], 1, true⟩] E KK := by
  refine same (by kernel_rfl) (?_ : Lp M1 8 Tryd.f42 [1, 0, 1, 0] 2 KK { fr := [some (L b l c), some (SV.clo 29 [] [SV.loc 0 0]), none, none, none, none, some (L b l c), some (I (↑l : Int)), some (I (0 : Int)), none, none, none, none, none, none, none, none, none, none], bx := [(⟨3, Row.lst [I v], 1, true⟩ : Box), ⟨3, Row.lst [I w], 1, true⟩], E := E : St })
  exact Lp_re [some 0, some 1] (lp42_29 (i := 0) hx hv hl (Nat.zero_le _) h) ⟨⟨by first | (simp; done) | (simp [St.pub]; done), by first | (simp; done) | (simp [St.pub]; done), fun j h => (by have e : j = 0 ∨ j = 1 := (by omega); rcases e with rfl | rfl <;> rfl)⟩, rfl, (by repeat' first | exact True.intro | refine And.intro (Or.inl rfl) ?_ | refine And.intro (Or.inr ⟨rfl, rfl⟩) ?_), (by repeat' first | exact True.intro | exact rfl | exact Or.inl rfl | fail | refine And.intro ?_ ?_), (show List.Nodup [0, 1] from by decide), Mem.le_refl _⟩
def sh42_43 (b : Option Addr) (l c : Nat) (v : Int) (i : Nat) (E : Mem) : St := ⟨[some (L b l c), some (.clo 43 [] [.loc 0 0]), none, none, none, none, some (L b l c), some (I (l : Nat)), some (I (i : Nat))] ++ List.replicate 10 none, [⟨3, .lst [I v], 1, true⟩], E⟩
theorem r42_43 {v : Int} {KK : KT} {b : Option Addr} {l c i : Nat} {xs : List Dn} (hx : SL Dw E b l c xs) (hv : ∃ (j : Nat) (x : Dn), i ≤ j ∧ xs[j]? = some x ∧ x.t = v) (hl : l ≤ 1000) (hi : i ≤ l) (h : ∀ (j : Nat) (x : Dn) (B : Box), xs[j]? = some x → x.t = v → KK (I (j : Nat)) [⟨3, .lst [I v], 1, true⟩, B] E) (ih : i < l → (∃ (j : Nat) (x : Dn), i + 1 ≤ j ∧ xs[j]? = some x ∧ x.t = v) → Lp M1 8 Tryd.f42 [1, 0, 1, 0] 1 KK (sh42_43 b l c v (i + 1) E)) : Rnd M1 8 Tryd.f42 [1, 0, 1, 0] 1 KK (sh42_43 b l c v i E) := by
  refine same (by kernel_rfl) (?_ : bif decide ((↑i : Int) < (↑l : Int)) then req ((0 : Int) ≤ (↑i : Int) ∧ (↑i : Int) < (↑l : Int)) ((∃ (cs : List Value), E (Value.slice b l c) cs ∧ (cs = [] → False)) ∧ ∃ (n : Int), ∃ (n_1 : Int), ∃ (n_2 : Int), ∃ (n_3 : Int), LoadE M1.P E 72 (Value.slice b l c) (Int.toNat (↑i : Int) * 4) (SV.agg [I n, I n_1, I n_2, I n_3]) ∧ bif n == v then KK (I (↑i : Int)) [⟨3, Row.lst [I v], 1, true⟩, ⟨72, Row.lst [I n, I n_1, I n_2, I n_3], 4, true⟩] E else Lp M1 8 Tryd.f42 [1, 0, 1, 0] 1 KK { fr := [some (L b l c), some (SV.clo 43 [] [SV.loc 0 0]), none, none, none, none, some (L b l c), some (I (↑l : Int)), some (I (IntKind.wrap IntKind.i64 ((↑i : Int) + (1 : Int)))), none, none, none, none, none, none, none, none, none, none], bx := [(⟨3, Row.lst [I v], 1, true⟩ : Box), ⟨72, Row.lst [I n, I n_1, I n_2, I n_3], 4, true⟩], E := E : St }) else KK (I (-1 : Int)) [⟨3, Row.lst [I v], 1, true⟩] E)
  have hn := hx.len
  refine condC (fun g => ?_) (fun g => absurd hv (fun ⟨j, x, h1, h2, h3⟩ => by have := (List.getElem?_eq_some_iff.1 h2).1; simp at g; omega))
  have g : i < l := by simp at g; omega
  have hq := List.getElem?_eq_getElem (l := xs) (i := i) (by omega)
  have hL := Dw.load hx hq
  have hm := List.getElem_mem (by omega : i < xs.length)
  generalize xs[i] = x at hL hq hm
  have ih := ih g
  refine req_intro ⟨by omega, by omega⟩ ⟨hx.ne okDw g, x.t, x.nx, x.sq, x.un, hL, ?_⟩
  rw [wrap_i64 (x := (i : Int) + 1) (by omega)]
  refine condC (fun q => h i x _ hq (by simpa using q)) (fun q => ?_)
  have q : x.t ≠ v := by simpa using q
  have ih := ih (by
    obtain ⟨j, y, h1, h2, h3⟩ := hv
    refine ⟨j, y, ?_, h2, h3⟩
    rcases Nat.lt_or_eq_of_le h1 with h1 | h1
    · exact h1
    · subst h1
      rw [hq] at h2
      cases h2
      exact absurd h3 q)
  exact Lp_re [some 0] (ih) ⟨⟨by first | (simp; done) | (simp [St.pub]; done), by first | (simp; done) | (simp [St.pub]; done), fun j h => (by have e : j = 0 := (by omega); subst e; rfl)⟩, rfl, (by repeat' first | exact True.intro | refine And.intro (Or.inl rfl) ?_ | refine And.intro (Or.inr ⟨rfl, rfl⟩) ?_), (by repeat' first | exact True.intro | exact rfl | exact Or.inl rfl | fail | refine And.intro ?_ ?_), (show List.Nodup [0] from by decide), Mem.le_refl _⟩
theorem lp42_43 {v : Int} {KK : KT} {b : Option Addr} {l c i : Nat} {xs : List Dn} (hx : SL Dw E b l c xs) (hv : ∃ (j : Nat) (x : Dn), i ≤ j ∧ xs[j]? = some x ∧ x.t = v) (hl : l ≤ 1000) (hi : i ≤ l) (h : ∀ (j : Nat) (x : Dn) (B : Box), xs[j]? = some x → x.t = v → KK (I (j : Nat)) [⟨3, .lst [I v], 1, true⟩, B] E) : Lp M1 8 Tryd.f42 [1, 0, 1, 0] 1 KK (sh42_43 b l c v i E) :=
  Lp_ind okM1 (fun q : {i : Nat // i ≤ l ∧ ∃ (j : Nat) (x : Dn), i ≤ j ∧ xs[j]? = some x ∧ x.t = v} => sh42_43 b l c v q.1 E) (fun q => l - q.1) (fun q ih => r42_43 hx q.2.2 hl q.2.1 h fun g n => ih ⟨q.1 + 1, g, n⟩ (by show l - (_ + 1) < l - _; omega)) ⟨i, hi, hv⟩
theorem e42_43 {v : Int} {KK : KT} {b : Option Addr} {l c : Nat} {xs : List Dn} (hx : SL Dw E b l c xs) (hv : ∃ (j : Nat) (x : Dn), xs[j]? = some x ∧ x.t = v) (hl : l ≤ 1000) (h : ∀ (j : Nat) (x : Dn) (B : Box), xs[j]? = some x → x.t = v → KK (I (j : Nat)) [⟨3, .lst [I v], 1, true⟩, B] E) : EntB M1 8 Tryd.f42 [L b l c, .clo 43 [] [.loc 0 0]] [⟨3, .lst [I v], 1, true⟩] E KK := by
  refine same (by kernel_rfl) (?_ : Lp M1 8 Tryd.f42 [1, 0, 1, 0] 1 KK { fr := [some (L b l c), some (SV.clo 43 [] [SV.loc 0 0]), none, none, none, none, some (L b l c), some (I (↑l : Int)), some (I (0 : Int)), none, none, none, none, none, none, none, none, none, none], bx := [(⟨3, Row.lst [I v], 1, true⟩ : Box)], E := E : St })
  exact Lp_re [some 0] (lp42_43 (i := 0) hx (let ⟨j, x, h1, h2⟩ := hv; ⟨j, x, Nat.zero_le _, h1, h2⟩) hl (Nat.zero_le _) h) ⟨⟨by first | (simp; done) | (simp [St.pub]; done), by first | (simp; done) | (simp [St.pub]; done), fun j h => (by have e : j = 0 := (by omega); subst e; rfl)⟩, rfl, (by repeat' first | exact True.intro | refine And.intro (Or.inl rfl) ?_ | refine And.intro (Or.inr ⟨rfl, rfl⟩) ?_), (by repeat' first | exact True.intro | exact rfl | exact Or.inl rfl | fail | refine And.intro ?_ ?_), (show List.Nodup [0] from by decide), Mem.le_refl _⟩
theorem tab_clo {P : Program} {f g : FuncId} {b : Option Addr} {l c : Nat} {bx : List Box} {KK : KT} (h : CallSemO none P f [L b l c, .clo g [] []] [] E (pubK E fun s E' => KK s bx E')) : CallSem P f [L b l c, .clo g [] []] bx E KK := by
  have h2 : CallSemO none P f [L b l c, .raw (.func (.func g) #[] #[])] [] E (pubK E fun s E' => KK s bx E') := h
  intro w0 mu ρ w vs hR hd
  exact (TabSem.intro rfl h2).call w0 mu ρ w vs hR hd
def tab42 : CallT := fun f args bx E K => f = 42 ∧ ((∃ (b : Option Addr) (l c : Nat) (xs : List Dn), args = [L b l c, .clo 49 [] []] ∧ SL Dw E b l c xs ∧ (∀ x ∈ xs, DV x) ∧ l ≤ 1000 ∧ K (I (-1)) bx E) ∨ (∃ (b : Option Addr) (l c : Nat) (xs : List Dn) (v w : Int), (args = [L b l c, .clo 29 [] [.loc 0 0]] ∧ bx = [⟨3, .lst [I v], 1, true⟩, ⟨3, .lst [I w], 1, true⟩]) ∧ SL Dw E b l c xs ∧ (∀ x ∈ xs, x.t ≠ v) ∧ l ≤ 1000 ∧ K (I (-1)) bx E) ∨ (∃ (b : Option Addr) (l c : Nat) (xs : List Dn) (v : Int), (args = [L b l c, .clo 43 [] [.loc 0 0]] ∧ bx = [⟨3, .lst [I v], 1, true⟩]) ∧ SL Dw E b l c xs ∧ (∃ (j : Nat) (x : Dn), xs[j]? = some x ∧ x.t = v) ∧ l ≤ 1000 ∧ ∀ (j : Nat) (x : Dn), xs[j]? = some x → Hyp (x.t = v) → K (I (j : Nat)) bx E))
theorem tab42_ok (f : FuncId) (args : List SV) (bx : List Box) (E : Mem) (K : KT) (h : tab42 f args bx E K) : CallSem Tryd.prog f args bx E K := by
  obtain ⟨rfl, ⟨b, l, c, xs, rfl, h1, h2, h3, h4⟩ | ⟨b, l, c, xs, v, w, ⟨rfl, rfl⟩, h1, h2, h3, h4⟩ | ⟨b, l, c, xs, v, ⟨rfl, rfl⟩, h1, h2, h3, h4⟩⟩ := h
  · exact tab_clo (EntB.semO (n := 8) okM1 Tryd.func42 ⟨by kernel_rfl, by kernel_rfl⟩ (by have h5 := e42_49 (K := fun s E' => K s bx E') h1 h2 h3 h4; unfold Ent at h5; unfold EntB; exact h5))
  · exact EntB.sem (n := 8) okM1 Tryd.func42 ⟨by kernel_rfl, by kernel_rfl⟩ (e42_29 h1 h2 h3 h4)
  · refine CallSem.clo (EntB.sem (n := 8) okM1 Tryd.func42 ⟨by kernel_rfl, by kernel_rfl⟩ (e42_43 h1 h2 h3 fun j x B g1 g2 => ?_))
    exact cloK_intro (n0 := 1) [some 0] (h4 j x g1 g2) ⟨⟨by first | (simp; done) | (simp [St.pub]; done), by first | (simp; done) | (simp [St.pub]; done), fun j h => (by have e : j = 0 := (by omega); subst e; rfl)⟩, rfl, (by repeat' first | exact True.intro | refine And.intro (Or.inl rfl) ?_ | refine And.intro (Or.inr ⟨rfl, rfl⟩) ?_), (by repeat' first | exact True.intro | exact rfl | exact Or.inl rfl | fail | refine And.intro ?_ ?_), (show List.Nodup [0] from by decide), Mem.le_refl _⟩
noncomputable def M2 : Cx := { P := Tryd.prog, inl := fun f => List.contains [] f, tab := fun _ _ _ _ => False, isB := fun f => f == 42, tabB := tab42, opt := { unroll := 0, carry := [] }, muts := mutsD }
theorem okM2 : CxOK M2 := CxOK.four (fun _ _ _ _ h => h.elim) (by kernel_rfl) (okInl (by kernel_rfl)) tab42_ok
theorem e33a {b : Option Addr} {l c : Nat} {xs : List Dn} (hx : SL Dw E b l c xs) (hv : ∀ x ∈ xs, DV x) (hl : l ≤ 1000) (h : K (B false) E) : Ent M2 8 Tryd.f33 [L b l c, .clo 49 [] []] E K := by
  refine same (by kernel_rfl) (?_ : 42 = 42 ∧ ((∃ (b_1 : Option Addr), ∃ (l_1 : Nat), ∃ (c_1 : Nat), ∃ (xs : List Dn), [L b l c, SV.clo 49 [] []] = [L b_1 l_1 c_1, SV.clo 49 [] []] ∧ SL Dw E b_1 l_1 c_1 xs ∧ (∀ (x : Dn), List.Mem x xs → DV x) ∧ l_1 ≤ 1000 ∧ Mem.le E E ∧ K (B false) E) ∨ (∃ (b_1 : Option Addr), ∃ (l_1 : Nat), ∃ (c_1 : Nat), ∃ (xs : List Dn), ∃ (v : Int), ∃ (w : Int), ([L b l c, SV.clo 49 [] []] = [L b_1 l_1 c_1, SV.clo 29 [] [SV.loc 0 0]] ∧ [] = [(⟨3, Row.lst [I v], 1, true⟩ : Box), ⟨3, Row.lst [I w], 1, true⟩]) ∧ SL Dw E b_1 l_1 c_1 xs ∧ (∀ (x : Dn), List.Mem x xs → x.t = v → False) ∧ l_1 ≤ 1000 ∧ Mem.le E E ∧ K (B false) E) ∨ ∃ (b_1 : Option Addr), ∃ (l_1 : Nat), ∃ (c_1 : Nat), ∃ (xs : List Dn), ∃ (v : Int), ([L b l c, SV.clo 49 [] []] = [L b_1 l_1 c_1, SV.clo 43 [] [SV.loc 0 0]] ∧ [] = [(⟨3, Row.lst [I v], 1, true⟩ : Box)]) ∧ SL Dw E b_1 l_1 c_1 xs ∧ (∃ (j : Nat), ∃ (x : Dn), xs[j]? = some x ∧ x.t = v) ∧ l_1 ≤ 1000 ∧ ∀ (j : Nat) (x : Dn), xs[j]? = some x → Hyp (x.t = v) → Mem.le E E ∧ K (B true) E))
  exact ⟨rfl, .inl ⟨b, l, c, xs, rfl, hx, hv, hl, Mem.le_refl _, h⟩⟩
theorem e33b {v w : Int} {KK : KT} {b : Option Addr} {l c : Nat} {xs : List Dn} (hx : SL Dw E b l c xs) (hv : ∀ x ∈ xs, x.t ≠ v) (hl : l ≤ 1000) (h : KK (B false) [⟨3, .lst [I v], 1, true⟩, ⟨3, .lst [I w], 1, true⟩] E) : EntB M2 8 Tryd.f33 [L b l c, .clo 29 [] [.loc 0 0]] [⟨3, .lst [I v], 1, true⟩, ⟨3, .lst [I w], 1, true⟩] E KK := by
  refine same (by kernel_rfl) (?_ : 42 = 42 ∧ ((∃ (b_1 : Option Addr), ∃ (l_1 : Nat), ∃ (c_1 : Nat), ∃ (xs : List Dn), [L b l c, SV.clo 29 [] [SV.loc 0 0]] = [L b_1 l_1 c_1, SV.clo 49 [] []] ∧ SL Dw E b_1 l_1 c_1 xs ∧ (∀ (x : Dn), List.Mem x xs → DV x) ∧ l_1 ≤ 1000 ∧ KK (B false) [⟨3, Row.lst [I v], 1, true⟩, ⟨3, Row.lst [I w], 1, true⟩] E) ∨ (∃ (b_1 : Option Addr), ∃ (l_1 : Nat), ∃ (c_1 : Nat), ∃ (xs : List Dn), ∃ (v_1 : Int), ∃ (w_1 : Int), ([L b l c, SV.clo 29 [] [SV.loc 0 0]] = [L b_1 l_1 c_1, SV.clo 29 [] [SV.loc 0 0]] ∧ [(⟨3, Row.lst [I v], 1, true⟩ : Box), ⟨3, Row.lst [I w], 1, true⟩] = [(⟨3, Row.lst [I v_1], 1, true⟩ : Box), ⟨3, Row.lst [I w_1], 1, true⟩]) ∧ SL Dw E b_1 l_1 c_1 xs ∧ (∀ (x : Dn), List.Mem x xs → x.t = v_1 → False) ∧ l_1 ≤ 1000 ∧ KK (B false) [⟨3, Row.lst [I v], 1, true⟩, ⟨3, Row.lst [I w], 1, true⟩] E) ∨ ∃ (b_1 : Option Addr), ∃ (l_1 : Nat), ∃ (c_1 : Nat), ∃ (xs : List Dn), ∃ (v_1 : Int), ([L b l c, SV.clo 29 [] [SV.loc 0 0]] = [L b_1 l_1 c_1, SV.clo 43 [] [SV.loc 0 0]] ∧ [(⟨3, Row.lst [I v], 1, true⟩ : Box), ⟨3, Row.lst [I w], 1, true⟩] = [(⟨3, Row.lst [I v_1], 1, true⟩ : Box)]) ∧ SL Dw E b_1 l_1 c_1 xs ∧ (∃ (j : Nat), ∃ (x : Dn), xs[j]? = some x ∧ x.t = v_1) ∧ l_1 ≤ 1000 ∧ ∀ (j : Nat) (x : Dn), xs[j]? = some x → Hyp (x.t = v_1) → KK (B true) [⟨3, Row.lst [I v], 1, true⟩, ⟨3, Row.lst [I w], 1, true⟩] E))
  exact ⟨rfl, .inr (.inl ⟨b, l, c, xs, v, w, ⟨rfl, rfl⟩, hx, hv, hl, h⟩)⟩
def tab33 : CallT := fun f args bx E K => f = 33 ∧ ((∃ (b : Option Addr) (l c : Nat) (xs : List Dn), args = [L b l c, .clo 49 [] []] ∧ SL Dw E b l c xs ∧ (∀ x ∈ xs, DV x) ∧ l ≤ 1000 ∧ K (B false) bx E) ∨ (∃ (b : Option Addr) (l c : Nat) (xs : List Dn) (v w : Int), (args = [L b l c, .clo 29 [] [.loc 0 0]] ∧ bx = [⟨3, .lst [I v], 1, true⟩, ⟨3, .lst [I w], 1, true⟩]) ∧ SL Dw E b l c xs ∧ (∀ x ∈ xs, x.t ≠ v) ∧ l ≤ 1000 ∧ K (B false) bx E))
theorem tab33_ok (f : FuncId) (args : List SV) (bx : List Box) (E : Mem) (K : KT) (h : tab33 f args bx E K) : CallSem Tryd.prog f args bx E K := by
  obtain ⟨rfl, ⟨b, l, c, xs, rfl, h1, h2, h3, h4⟩ | ⟨b, l, c, xs, v, w, ⟨rfl, rfl⟩, h1, h2, h3, h4⟩⟩ := h
  · exact tab_clo (EntB.semO (n := 8) okM2 Tryd.func33 ⟨by kernel_rfl, by kernel_rfl⟩ (by have h5 := e33a (K := fun s E' => K s bx E') h1 h2 h3 h4; unfold Ent at h5; unfold EntB; exact h5))
  · exact EntB.sem (n := 8) okM2 Tryd.func33 ⟨by kernel_rfl, by kernel_rfl⟩ (e33b h1 h2 h3 h4)
noncomputable def tabM3 : FuncId → List SV → Mem → (SV → Mem → Prop) → Prop := fun f args E K => match f with
  | 32 => d1 args fun x0 => dS x0 fun b1 l2 c3 => ∃ (xs : List Dn), SL Dw E b1 l2 c3 xs ∧ Up xs ∧ l2 ≤ 1000 ∧ (K (B true) E)
  | _ => False
theorem tabM3_ok : TabOK Tryd.prog tabM3 := by
  intro f args E K h
  unfold tabM3 at h
  split at h
  · replace h := d1_elim h
    obtain ⟨x0, rfl, h⟩ := h
    replace h := dS_elim h
    obtain ⟨b1, l2, c3, rfl, h⟩ := h
    obtain ⟨xs, g0, g1, g2, h⟩ := h
    exact TabSem.congr (valL_cons rfl rfl) (Ent.sem okM0 Tryd.func32 ⟨by kernel_rfl, by kernel_rfl⟩ rfl (m32 g0 g1 g2 h))
  · exact h.elim
noncomputable def M3 : Cx := { P := Tryd.prog, inl := fun f => List.contains [] f, tab := tabM3, isB := fun f => f == 33, tabB := tab33, opt := { unroll := 0, carry := [] }, muts := mutsD }
theorem okM3 : CxOK M3 := CxOK.four tabM3_ok (by kernel_rfl) (okInl (by kernel_rfl)) tab33_ok
theorem m30 {b1 : Option Addr} {l2 : Nat} {c3 : Nat} {xs : List Dn} (h0 : SL Dw E b1 l2 c3 xs) (h1 : Up xs) (h2 : (∀ x ∈ xs, DV x)) (h3 : l2 ≤ 1000) (h : K (B true) E) :
    Ent M3 8 Tryd.f30 [L b1 l2 c3] E K := by
  refine same (by kernel_rfl) (?_ : ∃ (xs : List Dn), SL Dw E b1 l2 c3 xs ∧ Up xs ∧ l2 ≤ 1000 ∧ Mem.le E E ∧ 33 = 33 ∧ ((∃ (b : Option Addr), ∃ (l : Nat), ∃ (c : Nat), ∃ (xs : List Dn), [L b1 l2 c3, SV.clo 49 [] []] = [L b l c, SV.clo 49 [] []] ∧ SL Dw E b l c xs ∧ (∀ (x : Dn), List.Mem x xs → DV x) ∧ l ≤ 1000 ∧ Mem.le E E ∧ K (B true) E) ∨ ∃ (b : Option Addr), ∃ (l : Nat), ∃ (c : Nat), ∃ (xs : List Dn), ∃ (v : Int), ∃ (w : Int), ([L b1 l2 c3, SV.clo 49 [] []] = [L b l c, SV.clo 29 [] [SV.loc 0 0]] ∧ [] = [(⟨3, Row.lst [I v], 1, true⟩ : Box), ⟨3, Row.lst [I w], 1, true⟩]) ∧ SL Dw E b l c xs ∧ (∀ (x : Dn), List.Mem x xs → x.t = v → False) ∧ l ≤ 1000 ∧ Mem.le E E ∧ K (B true) E))
  exact ⟨xs, h0, h1, h3, Mem.le_refl _, rfl, .inl ⟨_, _, _, xs, rfl, h0, h2, h3, Mem.le_refl _, h⟩⟩
noncomputable def tabM4 : FuncId → List SV → Mem → (SV → Mem → Prop) → Prop := fun f args E K => match f with
  | 30 => d1 args fun x0 => dS x0 fun b1 l2 c3 => ∃ (xs : List Dn), SL Dw E b1 l2 c3 xs ∧ Up xs ∧ (∀ x ∈ xs, DV x) ∧ l2 ≤ 1000 ∧ (K (B true) E)
  | _ => False
theorem tabM4_ok : TabOK Tryd.prog tabM4 := by
  intro f args E K h
  unfold tabM4 at h
  split at h
  · replace h := d1_elim h
    obtain ⟨x0, rfl, h⟩ := h
    replace h := dS_elim h
    obtain ⟨b1, l2, c3, rfl, h⟩ := h
    obtain ⟨xs, g0, g1, g2, g3, h⟩ := h
    exact TabSem.congr (valL_cons rfl rfl) (Ent.sem okM3 Tryd.func30 ⟨by kernel_rfl, by kernel_rfl⟩ rfl (m30 g0 g1 g2 g3 h))
  · exact h.elim
noncomputable def M4 : Cx := { P := Tryd.prog, inl := fun f => List.contains [] f, tab := tabM4, isB := fun f => f == 42, tabB := tab42, opt := { unroll := 0, carry := [] }, muts := mutsD }
theorem okM4 : CxOK M4 := CxOK.four tabM4_ok (by kernel_rfl) (okInl (by kernel_rfl)) tab42_ok
theorem Dw.cell {E : Mem} {b : Option Addr} {l c i j : Nat} {xs : List Dn} {x : Dn} {n : Int} (h : SL Dw E b l c xs) (hx : xs[i]? = some x) (hj : j < 4) (hn : [Value.int .i64 x.t, .int .i64 x.nx, .int .i64 x.sq, .int .i64 x.un][j]? = some (.int .i64 n)) : LoadE Tryd.prog E 3 (.slice b l c) (i * 4 + j) (I n) := by
  obtain ⟨r, v, h1, h2, h3⟩ := h.loadC okDw (P := Tryd.prog) (T := 3) (d := .int .i64) (by kernel_rfl) rfl hx hj
  rw [show r = _ from h1, hn] at h2
  cases h2
  exact h3
theorem m16 {b1 : Option Addr} {l2 : Nat} {c3 : Nat} {a4 : Int} {xs : List Dn} (h0 : SL Dw E b1 l2 c3 xs) (h1 : Up xs) (h2 : (∀ x ∈ xs, DV x)) (h3 : l2 ≤ 1000) (h4 : (∃ (j : Nat) (x : Dn), xs[j]? = some x ∧ x.t = a4)) (h : ∀ x : Dn, x ∈ xs → Hyp (x.t = a4) → K (.tup [I x.nx, B true]) E) :
    Ent M4 8 Tryd.f16 [L b1 l2 c3, I a4] E K := by
  refine same (by kernel_rfl) (?_ : 42 = 42 ∧ ((∃ (b : Option Addr), ∃ (l : Nat), ∃ (c : Nat), ∃ (xs : List Dn), [L b1 l2 c3, SV.clo 43 [] [SV.loc 0 0]] = [L b l c, SV.clo 49 [] []] ∧ SL Dw E b l c xs ∧ (∀ (x : Dn), List.Mem x xs → DV x) ∧ l ≤ 1000 ∧ Mem.le E E ∧ K (SV.tup [I (0 : Int), B false]) E) ∨ (∃ (b : Option Addr), ∃ (l : Nat), ∃ (c : Nat), ∃ (xs : List Dn), ∃ (v : Int), ∃ (w : Int), ([L b1 l2 c3, SV.clo 43 [] [SV.loc 0 0]] = [L b l c, SV.clo 29 [] [SV.loc 0 0]] ∧ [(⟨3, Row.lst [I a4], 1, true⟩ : Box)] = [(⟨3, Row.lst [I v], 1, true⟩ : Box), ⟨3, Row.lst [I w], 1, true⟩]) ∧ SL Dw E b l c xs ∧ (∀ (x : Dn), List.Mem x xs → x.t = v → False) ∧ l ≤ 1000 ∧ Mem.le E E ∧ K (SV.tup [I (0 : Int), B false]) E) ∨ ∃ (b : Option Addr), ∃ (l : Nat), ∃ (c : Nat), ∃ (xs : List Dn), ∃ (v : Int), ([L b1 l2 c3, SV.clo 43 [] [SV.loc 0 0]] = [L b l c, SV.clo 43 [] [SV.loc 0 0]] ∧ [(⟨3, Row.lst [I a4], 1, true⟩ : Box)] = [(⟨3, Row.lst [I v], 1, true⟩ : Box)]) ∧ SL Dw E b l c xs ∧ (∃ (j : Nat), ∃ (x : Dn), xs[j]? = some x ∧ x.t = v) ∧ l ≤ 1000 ∧ ∀ (j : Nat) (x : Dn), xs[j]? = some x → Hyp (x.t = v) → ∃ (xs : List Dn), SL Dw E b1 l2 c3 xs ∧ Up xs ∧ (∀ (x : Dn), List.Mem x xs → DV x) ∧ l2 ≤ 1000 ∧ Mem.le E E ∧ req ((0 : Int) ≤ (↑j : Int) ∧ (↑j : Int) < (↑l2 : Int)) ((∃ (cs : List Value), E (Value.slice b1 l2 c3) cs ∧ (cs = [] → False)) ∧ ∃ (n : Int), LoadE M4.P E 3 (Value.slice b1 l2 c3) (Int.toNat (↑j : Int) * 4 + 1) (I n) ∧ Mem.le E E ∧ K (SV.tup [I n, B true]) E)))
  have hn := h0.len
  refine ⟨rfl, .inr (.inr ⟨b1, l2, c3, xs, a4, ⟨rfl, rfl⟩, h0, h4, h3, fun j x g1 g2 => ⟨xs, h0, h1, h2, h3, Mem.le_refl _, ?_⟩⟩)⟩
  have hj := (List.getElem?_eq_some_iff.1 g1).1
  exact req_intro ⟨by omega, by omega⟩ ⟨h0.ne okDw (i := j) (by omega), x.nx, Dw.cell h0 g1 (by decide) rfl, Mem.le_refl _, h x (List.mem_of_getElem? g1) g2⟩
noncomputable def M5 : Cx := { P := Tryd.prog, inl := fun f => List.contains [35] f, tab := tabM4, isB := fun _ => false, tabB := fun _ _ _ _ _ => False, opt := { unroll := 0, carry := [12] }, muts := mutsD }
theorem okM5 : CxOK M5 := CxOK.four tabM4_ok (by kernel_rfl) (okInl (by kernel_rfl)) (fun _ _ _ _ _ h => h.elim)
def tellD (x : Dn) : Dn := ⟨x.t, 0, x.sq, 0⟩
def sh12 (l cap tot : Nat) (vs : List Value) (i : Nat) (E : Mem) : St := ⟨[none, none, none, some (.slc 0 0 l cap), none, none, none, none, none, none, some (.slc 0 0 l cap), some (I (l : Nat)), some (I (i : Nat))] ++ List.replicate 12 none, [⟨72, .vals vs, tot, true⟩], E⟩
def vD (x : Dn) : List Value := [.int .i64 x.t, .int .i64 x.nx, .int .i64 x.sq, .int .i64 x.un]
def pre12 (xs : List Dn) (i : Nat) : List Value := ((xs.take i).map fun x => vD (tellD x)).flatten
def post12 (xs : List Dn) (i : Nat) : List Value := ((xs.drop i).map vD).flatten
theorem flatD (f : Dn → Dn) : ∀ xs : List Dn, ((xs.map fun x => vD (f x)).flatten).length = xs.length * 4
  | [] => rfl
  | x :: xs => by rw [List.map_cons, List.flatten_cons, List.length_append, flatD f xs, List.length_cons]; show 4 + _ = _; omega
theorem lay1 {P R : List Value} {x z : Value} {k : Nat} (h : P.length = k) : layV (P ++ (x :: R)) k [z] = P ++ (z :: R) := by
  subst h
  unfold layV
  rw [List.take_left', List.append_assoc, List.drop_append]
  · simp
  · rfl
theorem lay2 {A B : List Value} {a b c d z z' : Value} {k : Nat} (h : A.length = k) : layV (layV (A ++ ([a, b, c, d] ++ B)) (k + 1) [z]) (k + 3) [z'] = A ++ ([a, z, c, z'] ++ B) := by
  have h1 := lay1 (P := A ++ [a]) (R := c :: d :: B) (x := b) (z := z) (k := k + 1) (by simp [h])
  have h2 := lay1 (P := A ++ [a, z, c]) (R := B) (x := d) (z := z') (k := k + 3) (by simp [h])
  simp only [List.append_assoc, List.cons_append, List.nil_append] at h1 h2 ⊢
  rw [h1, h2]
theorem Dw.rows {rs : List (List Value)} {xs : List Dn} (h : SLr Dw E rs xs) : rs = xs.map vD := by
  apply List.ext_getElem
  · simp [h.1]
  · intro i h1 h2
    rw [List.getElem_map]
    exact h.2 i _ _ (List.getElem?_eq_getElem h1) (List.getElem?_eq_getElem (by simpa using h2))
theorem Dw.mk (xs : List Dn) : SLr Dw E (xs.map vD) xs := ⟨by simp, fun i r x h1 h2 => by
  rw [List.getElem?_map, h2] at h1
  cases h1
  rfl⟩
theorem r12 {l cap tot i : Nat} {vs : List Value} {xs : List Dn} {E0 : Mem} (hx : xs.length = l) (hl : l ≤ 1000) (hc : l ≤ cap) (hi : i ≤ l) (hE : Mem.le E0 E) (h : ∀ (b' : Option Addr) (c' : Nat) (E' : Mem), Mem.le E E' → SL Dw E' b' l c' (xs.map tellD) → K (L b' l c') E')
    (ih : i < l → Lp M5 8 Tryd.f12 [1, 1, 1, 0, 1, 0] 0 (pubK E0 K) (sh12 l cap tot (pre12 xs (i + 1) ++ post12 xs (i + 1)) (i + 1) E)) : Rnd M5 8 Tryd.f12 [1, 1, 1, 0, 1, 0] 0 (pubK E0 K) (sh12 l cap tot (pre12 xs i ++ post12 xs i) i E) := by
  refine same (by kernel_rfl) (?_ : bif decide ((↑i : Int) < (↑l : Int)) then req ((0 : Int) ≤ (↑i : Int) ∧ (↑i : Int) < (↑l : Int)) (0 + Int.toNat (↑i : Int) * 4 + 1 + 1 ≤ List.length (pre12 xs i ++ post12 xs i) ∧ req ((0 : Int) ≤ (↑i : Int) ∧ (↑i : Int) < (↑l : Int)) (0 + Int.toNat (↑i : Int) * 4 + 3 + 1 ≤ List.length (layV (pre12 xs i ++ post12 xs i) (0 + Int.toNat (↑i : Int) * 4 + 1) [Value.int IntKind.i64 (0 : Int)]) ∧ Lp M5 8 Tryd.f12 [1, 1, 1, 0, 1, 0] 0 (pubK E0 K) { fr := [none, none, none, some (SV.slc 0 0 l cap), none, none, none, none, none, none, some (SV.slc 0 0 l cap), some (I (↑l : Int)), some (I (IntKind.wrap IntKind.i64 ((↑i : Int) + (1 : Int)))), none, none, none, none, none, none, none, none, none, none, none, none], bx := [(⟨72, Row.vals (layV (layV (pre12 xs i ++ post12 xs i) (0 + Int.toNat (↑i : Int) * 4 + 1) [Value.int IntKind.i64 (0 : Int)]) (0 + Int.toNat (↑i : Int) * 4 + 3) [Value.int IntKind.i64 (0 : Int)]), tot, true⟩ : Box)], E := E : St })) else ∀ (base : Option Addr) (E' : Mem), Mem.le E E' → WinE E' base (pre12 xs i ++ post12 xs i) → Mem.le E0 E' ∧ K (L (Option.map (fun (x : Addr) => Addr.add x 0) base) l cap) E')
  refine condC (fun g => ?_) (fun g => fun base E' k w => ?_)
  · have g : i < l := by simp at g; omega
    have hq := List.drop_eq_getElem_cons (show i < xs.length by omega)
    have h1 : pre12 xs (i + 1) = pre12 xs i ++ vD (tellD xs[i]) := by
      unfold pre12
      rw [take_get' (List.getElem?_eq_getElem (show i < xs.length by omega)), List.map_append, List.flatten_append]
      simp
    have h2 : post12 xs i = vD xs[i] ++ post12 xs (i + 1) := by
      unfold post12
      rw [hq]; rfl
    have h3 : (pre12 xs i).length = i * 4 := by
      unfold pre12
      rw [flatD, List.length_take, Nat.min_eq_left (by omega)]
    have ih := ih g
    rw [h1, List.append_assoc] at ih
    rw [h2]
    generalize xs[i] = x at ih ⊢
    rw [wrap_i64 (x := (i : Int) + 1) (by omega)]
    have e0 : Int.toNat (i : Int) * 4 = i * 4 := rfl
    rw [e0, Nat.zero_add]
    refine req_intro ⟨by omega, by omega⟩ ⟨by simp [vD, h3]; omega, req_intro ⟨by omega, by omega⟩ ⟨by simp [layV, vD, h3]; omega, ?_⟩⟩
    rw [show vD x = [.int .i64 x.t, .int .i64 x.nx, .int .i64 x.sq, .int .i64 x.un] from rfl, lay2 h3]
    exact Lp_re [some 0] (ih) ⟨⟨by first | (simp; done) | (simp [St.pub]; done), by first | (simp; done) | (simp [St.pub]; done), fun j h => absurd h (Nat.not_lt_zero _)⟩, rfl, (by repeat' first | exact True.intro | refine And.intro (Or.inl rfl) ?_ | refine And.intro (Or.inr ⟨rfl, rfl⟩) ?_), (by repeat' first | exact True.intro | exact rfl | exact Or.inl rfl | fail | refine And.intro ?_ ?_), (show List.Nodup [0] from by decide), Mem.le_refl _⟩
  · have g : i = l := by simp at g; omega
    subst g
    have h1 : pre12 xs i ++ post12 xs i = ((xs.map tellD).map vD).flatten := by
      unfold pre12 post12
      rw [List.take_of_length_le (by omega), List.drop_eq_nil_of_le (by omega)]
      simp [Function.comp_def]
    exact ⟨Mem.le_trans hE k, h _ _ _ k (SL.win okDw w h1 (Dw.mk _) (by simp [hx]) hc)⟩
theorem lp12 {l cap tot i : Nat} {xs : List Dn} {E0 : Mem} (hx : xs.length = l) (hl : l ≤ 1000) (hc : l ≤ cap) (hi : i ≤ l) (hE : Mem.le E0 E) (h : ∀ (b' : Option Addr) (c' : Nat) (E' : Mem), Mem.le E E' → SL Dw E' b' l c' (xs.map tellD) → K (L b' l c') E') : Lp M5 8 Tryd.f12 [1, 1, 1, 0, 1, 0] 0 (pubK E0 K) (sh12 l cap tot (pre12 xs i ++ post12 xs i) i E) :=
  Lp_ind okM5 (fun q : {i : Nat // i ≤ l} => sh12 l cap tot (pre12 xs q.1 ++ post12 xs q.1) q.1 E) (fun q => l - q.1) (fun q ih => r12 (vs := []) hx hl hc q.2 hE h fun g => ih ⟨q.1 + 1, g⟩ (by show l - (_ + 1) < l - _; omega)) ⟨i, hi⟩
theorem m12 {b1 : Option Addr} {l2 : Nat} {c3 : Nat} {xs : List Dn} (h0 : SL Dw E b1 l2 c3 xs) (h1 : Up xs) (h2 : (∀ x ∈ xs, DV x)) (h3 : l2 ≤ 1000) (h : ∀ (b' : Option Addr) (c' : Nat) (E' : Mem), Mem.le E E' → SL Dw E' b' l2 c' (xs.map tellD) → K (L b' l2 c') E') :
    Ent M5 8 Tryd.f12 [L b1 l2 c3] E K := by
  refine same (by kernel_rfl) (?_ : ∃ (xs : List Dn), SL Dw E b1 l2 c3 xs ∧ Up xs ∧ (∀ (x : Dn), List.Mem x xs → DV x) ∧ l2 ≤ 1000 ∧ Mem.le E E ∧ bif Option.isNone b1 then Mem.le E E ∧ Lp M5 8 Tryd.f12 [1, 1, 1, 0, 1, 0] 0 (pubK E K) { fr := [some (L b1 l2 c3), none, some (L none 0 0), some (L none 0 0), none, some (L b1 l2 c3), some (B true), some (B false), some (L b1 l2 c3), some (L none 0 0), some (L none 0 0), some (I (0 : Int)), some (I (0 : Int)), none, none, none, none, none, none, none, none, none, none, none, none], bx := [], E := E : St } else ∃ (cs : List Value), (cs = [] ∨ E (Value.slice b1 l2 c3) cs) ∧ l2 * 4 ≤ List.length cs ∧ (∀ (x : Value), List.Mem x cs → Value.oneCell' x = true) ∧ 0 ≤ 0 ∧ 0 ≤ 0 ∧ 0 ≤ 0 ∧ req ((0 + l2) * 32 ≤ 140737488355328) (∀ (cap' tot' : Nat), 0 + l2 ≤ cap' → cap' * 4 ≤ tot' → Mem.le E E ∧ Lp M5 8 Tryd.f12 [1, 1, 1, 0, 1, 0] 0 (pubK E K) { fr := [some (L b1 l2 c3), none, some (L none 0 0), some (SV.slc 1 0 (0 + l2) cap'), none, some (L b1 l2 c3), some (B true), some (B false), some (L b1 l2 c3), some (SV.slc 1 0 (0 + l2) cap'), some (SV.slc 1 0 (0 + l2) cap'), some (I (↑(0 + l2) : Int)), some (I (0 : Int)), none, none, none, none, none, none, none, none, none, none, none, none], bx := [(⟨72, Row.lst [], 0, false⟩ : Box), ⟨72, Row.vals ([] ++ List.take (l2 * 4) cs), tot', true⟩], E := E : St }))
  have hn := h0.len
  have L0 : ∀ {cap tot : Nat}, l2 ≤ cap → Lp M5 8 Tryd.f12 [1, 1, 1, 0, 1, 0] 0 (pubK E K) (sh12 l2 cap tot (pre12 xs 0 ++ post12 xs 0) 0 E) := fun hc => lp12 hn h3 hc (Nat.zero_le _) (Mem.le_refl _) h
  refine ⟨xs, h0, h1, h2, h3, Mem.le_refl _, condC (fun g => ⟨Mem.le_refl _, ?_⟩) (fun g => ?_)⟩
  · have hb : b1 = none := by simpa using g
    subst hb
    have hxs := h0.none
    subst hxs
    have hz : l2 = 0 := by simpa using hn.symm
    subst hz
    exact Lp_re [none] (L0 (cap := 0) (tot := 0) (Nat.le_refl _)) ⟨⟨by first | (simp; done) | (simp [St.pub]; done), by first | (simp; done) | (simp [St.pub]; done), fun j h => absurd h (Nat.not_lt_zero _)⟩, rfl, (by repeat' first | exact True.intro | refine And.intro (Or.inl rfl) ?_ | refine And.intro (Or.inr ⟨rfl, rfl⟩) ?_), (by repeat' first | exact True.intro | exact rfl | exact Or.inl rfl | fail | refine And.intro ?_ ?_), (show List.Nodup [] from by decide), Mem.le_refl _⟩
  · obtain ⟨rs, q1, q2, q3, q4, q5⟩ := h0.src okDw
    have e := Dw.rows q1
    subst e
    refine ⟨_, q2, q3, q4, Nat.le_refl _, Nat.le_refl _, Nat.le_refl _, req_intro (by omega) fun cap' tot' c1 c2 => ⟨Mem.le_refl _, ?_⟩⟩
    have L1 := L0 (cap := cap') (tot := tot') (by omega)
    rw [show pre12 xs 0 ++ post12 xs 0 = [] ++ List.take (l2 * 4) (List.map vD xs).flatten by
      rw [List.take_of_length_le (by have := q1.flat okDw; omega)]
      simp [pre12, post12]] at L1
    rw [Nat.zero_add] at c1 ⊢
    exact Lp_re [some 1] (L1) ⟨⟨by first | (simp; done) | (simp [St.pub]; done), by first | (simp; done) | (simp [St.pub]; done), fun j h => absurd h (Nat.not_lt_zero _)⟩, rfl, (by repeat' first | exact True.intro | refine And.intro (Or.inl rfl) ?_ | refine And.intro (Or.inr ⟨rfl, rfl⟩) ?_), (by repeat' first | exact True.intro | exact rfl | exact Or.inl rfl | fail | refine And.intro ?_ ?_), (show List.Nodup [1] from by decide), Mem.le_refl _⟩
theorem Lr_one {C : Cx} (hC : CxOK C) {n : Nat} {fn : Func} {q p : List Nat} {n0 : Nat} {K : KT} {S : St} (h : Rr C n fn q p n0 K S) : Lr C n fn q p n0 K S :=
  Lr_ind hC (fun _ : Unit => S) (fun _ => 0) (fun _ _ => h) ()
def takeT (t : Int) (rs : List Dn) : List Dn := rs.takeWhile fun y => decide (y.t < t)
def dropT (t : Int) (rs : List Dn) : List Dn := rs.dropWhile fun y => decide (y.t < t)
structure OutV (os : List Dn) (n cap tot : Nat) (vs : List Value) : Prop where
  hn : os.length = n
  hl : n * 4 ≤ vs.length
  hv : vs.take (n * 4) = (os.map vD).flatten
  hc : n ≤ cap
  ht : cap * 4 ≤ tot
theorem OutV.snoc {os : List Dn} {n cap tot : Nat} {vs : List Value} (h : OutV os n cap tot vs) (y : Dn) {cap' tot' : Nat} (h1 : n + 1 ≤ cap') (h2 : cap' * 4 ≤ tot') : OutV (os ++ [y]) (n + 1) cap' tot' (vs.take (n * 4) ++ [.int .i64 y.t, .int .i64 y.nx, .int .i64 y.sq, .int .i64 y.un]) := by
  have e : (vs.take (n * 4)).length = n * 4 := by rw [List.length_take]; exact Nat.min_eq_left h.hl
  refine ⟨by simp [h.hn], by simp [e]; omega, ?_, h1, h2⟩
  rw [List.take_of_length_le (by simp [e]; omega), h.hv, List.map_append, List.flatten_append]
  simp [vD]
theorem Dw.tail {E E' : Mem} {b b' : Option Addr} {l c : Nat} {y : Dn} {ys : List Dn} (h : SL Dw E b l c (y :: ys)) (he : Mem.le E E')
    (hF : ∀ cs, E (.slice b l c) cs → E' (.slice b' (l - 1) (c - 1)) (List.take ((l - 1) * 4) (List.drop 4 cs))) (hN : b'.isNone = b.isNone) : SL Dw E' b' (l - 1) (c - 1) ys := by
  have hl := h.len
  have := h.sub okDw (lo := 1) (hi := l) he hF hN (by rw [← hl]; simp) (Nat.le_refl _)
  rw [List.drop_succ_cons, List.drop_zero, List.take_of_length_le (by rw [← hl]; simp)] at this
  exact this
noncomputable def tabN0 : FuncId → List SV → Mem → (SV → Mem → Prop) → Prop := fun f args E K => match f with
  | 30 => d1 args fun x0 => dS x0 fun b1 l2 c3 => ∃ (xs : List Dn), SL Dw E b1 l2 c3 xs ∧ Up xs ∧ (∀ x ∈ xs, DV x) ∧ l2 ≤ 1000 ∧ (K (B true) E)
  | 32 => d1 args fun x0 => dS x0 fun b1 l2 c3 => ∃ (xs : List Dn), SL Dw E b1 l2 c3 xs ∧ Up xs ∧ l2 ≤ 1000 ∧ (K (B true) E)
  | _ => False
theorem tabN0_ok : TabOK Tryd.prog tabN0 := by
  intro f args E K h
  unfold tabN0 at h
  split at h
  · replace h := d1_elim h
    obtain ⟨x0, rfl, h⟩ := h
    replace h := dS_elim h
    obtain ⟨b1, l2, c3, rfl, h⟩ := h
    obtain ⟨xs, g0, g1, g2, g3, h⟩ := h
    exact TabSem.congr (valL_cons rfl rfl) (Ent.sem okM3 Tryd.func30 ⟨by kernel_rfl, by kernel_rfl⟩ rfl (m30 g0 g1 g2 g3 h))
  · replace h := d1_elim h
    obtain ⟨x0, rfl, h⟩ := h
    replace h := dS_elim h
    obtain ⟨b1, l2, c3, rfl, h⟩ := h
    obtain ⟨xs, g0, g1, g2, h⟩ := h
    exact TabSem.congr (valL_cons rfl rfl) (Ent.sem okM0 Tryd.func32 ⟨by kernel_rfl, by kernel_rfl⟩ rfl (m32 g0 g1 g2 h))
  · exact h.elim
noncomputable def N0 : Cx := { P := Tryd.prog, inl := fun f => List.contains [31, 34] f, tab := tabN0, isB := fun f => f == 33, tabB := tab33, opt := { unroll := 0, carry := [] }, muts := mutsD }
theorem okN0 : CxOK N0 := CxOK.four tabN0_ok (by kernel_rfl) (okInl (by kernel_rfl)) tab33_ok
def fr11 : List (Option SV) := [none, none, none, none, none, none, some (.loc 0 0), none, none, some (.loc 1 0), none, none, none, some (.loc 2 0), some (.loc 3 0), none, none, none, none, none, none, none, none, none, none, none, none, none, none, none, none, none, none, none, none, none, none, none, none, none, none, none, none, none, none, none, none, none, none, none, none, none, none, none, none, none, some (.clo 50 [] [.loc 4 0, .loc 5 0, .loc 6 0])] ++ List.replicate 65 none
def fr11A : List (Option SV) := [none, none, none, none, none, none, some (.loc 0 0), none, none, some (.loc 1 0), none, none, none, some (.loc 2 0), some (.loc 3 0), some (.loc 10 0), none, none, none, none, none, none, none, none, none, none, none, none, none, none, none, none, none, none, none, none, none, none, none, none, none, none, none, none, none, none, none, none, none, none, none, none, none, none, none, none, some (.clo 50 [] [.loc 4 0, .loc 5 0, .loc 6 0])] ++ List.replicate 65 none
def sA1 (ch fr sq : Int) (bb : Option Addr) (bl bc : Nat) (ow dd : Dn) (x : Dn) (rb : Option Addr) (rl rc n cap tot : Nat) (vs : List Value) (E : Mem) : St := ⟨fr11A, [⟨3, .lst [I ch], 1, true⟩, ⟨3, .lst [I fr], 1, true⟩, ⟨39, .lst [.slc 11 0 n cap], 1, true⟩, ⟨39, .lst [L rb rl rc], 1, true⟩, ⟨3, .lst [I ch], 1, true⟩, ⟨3, .lst [I sq], 1, true⟩, ⟨39, .lst [L bb bl bc], 1, true⟩, ⟨72, .lst [I ow.t, I ow.nx, I ow.sq, I ow.un], 4, true⟩, ⟨72, .lst [], 0, false⟩, ⟨72, .lst [I dd.t, I dd.nx, I dd.sq, I dd.un], 4, true⟩, ⟨72, .lst [I x.t, I x.nx, I x.sq, I x.un], 4, true⟩, ⟨72, .vals vs, tot, true⟩], E⟩
theorem rA1 {ch fr sq : Int} {bb : Option Addr} {bl bc : Nat} {ow dd : Dn} {x : Dn} {rb : Option Addr} {rl rc n cap tot : Nat} {vs : List Value} {KK : KT} {rs os : List Dn} (R : SL Dw E rb rl rc rs) (O : OutV os n cap tot vs) (hs : rl + n ≤ 900) (hne : ∀ y ∈ rs, y.t ≠ x.t) (hfr : 0 ≤ fr ∧ fr ≤ 1000)
    (ih : ∀ y ys, rs = y :: ys → y.t < x.t → ∀ (b' : Option Addr) (c' cap' tot' : Nat) (vs' : List Value) (E' : Mem), Mem.le E E' → SL Dw E' b' (rl - 1) c' ys → OutV (os ++ [y]) (n + 1) cap' tot' vs' → Lr N0 8 Tryd.f11 [1, 0, 1, 1, 1, 1, 1, 0, 1, 0] [0, 0, 0] 10 KK (sA1 ch fr sq bb bl bc ow dd x b' (rl - 1) c' (n + 1) cap' tot' vs' E'))
    (hQ : (rs = [] ∨ ∃ y ys, rs = y :: ys ∧ ¬ y.t < x.t) → ∀ (B1 B2 : Box) (cap' tot' : Nat), n + 1 ≤ cap' → cap' * 4 ≤ tot' → KK (B true) [⟨3, .lst [I ch], 1, true⟩, ⟨3, .lst [I fr], 1, true⟩, ⟨39, .lst [.slc 13 0 (n + 1) cap'], 1, true⟩, ⟨39, .lst [L rb rl rc], 1, true⟩, ⟨3, .lst [I ch], 1, true⟩, ⟨3, .lst [I sq], 1, true⟩, ⟨39, .lst [L bb bl bc], 1, true⟩, ⟨72, .lst [I ow.t, I ow.nx, I ow.sq, I ow.un], 4, true⟩, ⟨72, .lst [], 0, false⟩, ⟨72, .lst [I dd.t, I dd.nx, I dd.sq, I dd.un], 4, true⟩, B1, ⟨72, .lst [], 0, false⟩, B2, ⟨72, .vals (List.take (n * 4) vs ++ [.int .i64 x.t, .int .i64 ch, .int .i64 x.sq, .int .i64 (fr + 3)]), tot', true⟩] E) : Rr N0 8 Tryd.f11 [1, 0, 1, 1, 1, 1, 1, 0, 1, 0] [0, 0, 0] 10 KK (sA1 ch fr sq bb bl bc ow dd x rb rl rc n cap tot vs E) := by
  refine same (by kernel_rfl) (?_ : bif decide ((↑rl : Int) > (0 : Int)) then req ((0 : Int) ≤ (0 : Int) ∧ (0 : Int) < (↑rl : Int)) ((∃ (cs : List Value), E (Value.slice rb rl rc) cs ∧ (cs = [] → False)) ∧ ∃ (n_1 : Int), LoadE N0.P E 3 (Value.slice rb rl rc) 0 (I n_1) ∧ bif bif true then decide (n_1 < x.t) else false then req ((0 : Int) ≤ (0 : Int) ∧ (0 : Int) < (↑rl : Int)) ((∃ (cs : List Value), E (Value.slice rb rl rc) cs ∧ (cs = [] → False)) ∧ ∃ (n_2 : Int), ∃ (n_3 : Int), ∃ (n_4 : Int), ∃ (n_5 : Int), LoadE N0.P E 72 (Value.slice rb rl rc) 0 (SV.agg [I n_2, I n_3, I n_4, I n_5]) ∧ ((n * 4 ≤ List.length (Row.cells (Row.vals vs)) ∧ cap * 4 ≤ tot ∧ n ≤ cap ∧ req ((n + 1) * 32 ≤ 140737488355328) (∀ (cap' tot' : Nat), n + 1 ≤ cap' → cap' * 4 ≤ tot' → Sx.Alike (AlikeT.n AlikeT.l AlikeT.l) (req (rl ≤ rc) (req ((0 : Int) ≤ (1 : Int) ∧ (1 : Int) ≤ (↑(toN none rl) : Int)) (∀ (base' : Option Addr) (E' : Mem), Mem.le E E' → (∀ (cs : List Value), E (Value.slice rb rl rc) cs → E' (Value.slice base' (toN none rl - 1) (toN none rc - 1)) (List.take ((toN none rl - 1) * 4) (List.drop 4 cs))) → Option.isNone base' = Option.isNone rb → Lr N0 8 Tryd.f11 [1, 0, 1, 1, 1, 1, 1, 0, 1, 0] [0, 0, 0] 10 KK { fr := [none, none, none, none, none, none, some (SV.loc 0 0), none, none, some (SV.loc 1 0), none, none, none, some (SV.loc 2 0), some (SV.loc 3 0), some (SV.loc 10 0), none, none, none, none, none, none, none, none, none, none, none, none, none, none, none, none, none, none, none, none, none, none, none, none, none, none, none, none, none, none, none, none, none, none, none, none, none, none, none, none, some (SV.clo 50 [] [SV.loc 4 0, SV.loc 5 0, SV.loc 6 0]), none, none, none, none, none, none, none, none, none, none, none, none, none, none, none, none, none, none, none, none, none, none, none, none, none, none, none, none, none, none, none, none, none, none, none, none, none, none, none, none, none, none, none, none, none, none, none, none, none, none, none, none, none, none, none, none, none, none, none, none, none, none, none, none, none], bx := [(⟨3, Row.lst [I ch], 1, true⟩ : Box), ⟨3, Row.lst [I fr], 1, true⟩, ⟨39, Row.lst [SV.slc 13 0 (n + 1) cap'], 1, true⟩, ⟨39, Row.lst [L base' (toN none rl - 1) (toN none rc - 1)], 1, true⟩, ⟨3, Row.lst [I ch], 1, true⟩, ⟨3, Row.lst [I sq], 1, true⟩, ⟨39, Row.lst [L bb bl bc], 1, true⟩, ⟨72, Row.lst [I ow.t, I ow.nx, I ow.sq, I ow.un], 4, true⟩, ⟨72, Row.lst [], 0, false⟩, ⟨72, Row.lst [I dd.t, I dd.nx, I dd.sq, I dd.un], 4, true⟩, ⟨72, Row.lst [I x.t, I x.nx, I x.sq, I x.un], 4, true⟩, ⟨72, Row.lst [], 0, false⟩, ⟨72, Row.lst [I n_2, I n_3, I n_4, I n_5], 4, true⟩, ⟨72, Row.vals (List.take (n * 4) vs ++ [Value.int IntKind.i64 n_2, Value.int IntKind.i64 n_3, Value.int IntKind.i64 n_4, Value.int IntKind.i64 n_5]), tot', true⟩], E := E' : St }))))) ∧ req (rl ≤ rc) (req ((0 : Int) ≤ (1 : Int) ∧ (1 : Int) ≤ (↑(toN none rl) : Int)) (∀ (base' : Option Addr) (E' : Mem), Mem.le E E' → (∀ (cs : List Value), E (Value.slice rb rl rc) cs → E' (Value.slice base' (toN none rl - 1) (toN none rc - 1)) (List.take ((toN none rl - 1) * 4) (List.drop 4 cs))) → Option.isNone base' = Option.isNone rb → n * 4 ≤ List.length (Row.cells (Row.vals vs)) ∧ cap * 4 ≤ tot ∧ n ≤ cap ∧ req ((n + 1) * 32 ≤ 140737488355328) (∀ (cap' tot' : Nat), n + 1 ≤ cap' → cap' * 4 ≤ tot' → Lr N0 8 Tryd.f11 [1, 0, 1, 1, 1, 1, 1, 0, 1, 0] [0, 0, 0] 10 KK { fr := [none, none, none, none, none, none, some (SV.loc 0 0), none, none, some (SV.loc 1 0), none, none, none, some (SV.loc 2 0), some (SV.loc 3 0), some (SV.loc 10 0), none, none, none, none, none, none, none, none, none, none, none, none, none, none, none, none, none, none, none, none, none, none, none, none, none, none, none, none, none, none, none, none, none, none, none, none, none, none, none, none, some (SV.clo 50 [] [SV.loc 4 0, SV.loc 5 0, SV.loc 6 0]), none, none, none, none, none, none, none, none, none, none, none, none, none, none, none, none, none, none, none, none, none, none, none, none, none, none, none, none, none, none, none, none, none, none, none, none, none, none, none, none, none, none, none, none, none, none, none, none, none, none, none, none, none, none, none, none, none, none, none, none, none, none, none, none, none], bx := [(⟨3, Row.lst [I ch], 1, true⟩ : Box), ⟨3, Row.lst [I fr], 1, true⟩, ⟨39, Row.lst [SV.slc 13 0 (n + 1) cap'], 1, true⟩, ⟨39, Row.lst [L base' (toN none rl - 1) (toN none rc - 1)], 1, true⟩, ⟨3, Row.lst [I ch], 1, true⟩, ⟨3, Row.lst [I sq], 1, true⟩, ⟨39, Row.lst [L bb bl bc], 1, true⟩, ⟨72, Row.lst [I ow.t, I ow.nx, I ow.sq, I ow.un], 4, true⟩, ⟨72, Row.lst [], 0, false⟩, ⟨72, Row.lst [I dd.t, I dd.nx, I dd.sq, I dd.un], 4, true⟩, ⟨72, Row.lst [I x.t, I x.nx, I x.sq, I x.un], 4, true⟩, ⟨72, Row.lst [], 0, false⟩, ⟨72, Row.lst [I n_2, I n_3, I n_4, I n_5], 4, true⟩, ⟨72, Row.vals (List.take (n * 4) vs ++ [Value.int IntKind.i64 n_2, Value.int IntKind.i64 n_3, Value.int IntKind.i64 n_4, Value.int IntKind.i64 n_5]), tot', true⟩], E := E' : St })))) ∧ req (rl ≤ rc) (req ((0 : Int) ≤ (1 : Int) ∧ (1 : Int) ≤ (↑(toN none rl) : Int)) (∀ (base' : Option Addr) (E' : Mem), Mem.le E E' → (∀ (cs : List Value), E (Value.slice rb rl rc) cs → E' (Value.slice base' (toN none rl - 1) (toN none rc - 1)) (List.take ((toN none rl - 1) * 4) (List.drop 4 cs))) → Option.isNone base' = Option.isNone rb → n * 4 ≤ List.length (Row.cells (Row.vals vs)) ∧ cap * 4 ≤ tot ∧ n ≤ cap ∧ req ((n + 1) * 32 ≤ 140737488355328) (∀ (cap' tot' : Nat), n + 1 ≤ cap' → cap' * 4 ≤ tot' → Lr N0 8 Tryd.f11 [1, 0, 1, 1, 1, 1, 1, 0, 1, 0] [0, 0, 0] 10 KK { fr := [none, none, none, none, none, none, some (SV.loc 0 0), none, none, some (SV.loc 1 0), none, none, none, some (SV.loc 2 0), some (SV.loc 3 0), some (SV.loc 10 0), none, none, none, none, none, none, none, none, none, none, none, none, none, none, none, none, none, none, none, none, none, none, none, none, none, none, none, none, none, none, none, none, none, none, none, none, none, none, none, none, some (SV.clo 50 [] [SV.loc 4 0, SV.loc 5 0, SV.loc 6 0]), none, none, none, none, none, none, none, none, none, none, none, none, none, none, none, none, none, none, none, none, none, none, none, none, none, none, none, none, none, none, none, none, none, none, none, none, none, none, none, none, none, none, none, none, none, none, none, none, none, none, none, none, none, none, none, none, none, none, none, none, none, none, none, none, none], bx := [(⟨3, Row.lst [I ch], 1, true⟩ : Box), ⟨3, Row.lst [I fr], 1, true⟩, ⟨39, Row.lst [SV.slc 13 0 (n + 1) cap'], 1, true⟩, ⟨39, Row.lst [L base' (toN none rl - 1) (toN none rc - 1)], 1, true⟩, ⟨3, Row.lst [I ch], 1, true⟩, ⟨3, Row.lst [I sq], 1, true⟩, ⟨39, Row.lst [L bb bl bc], 1, true⟩, ⟨72, Row.lst [I ow.t, I ow.nx, I ow.sq, I ow.un], 4, true⟩, ⟨72, Row.lst [], 0, false⟩, ⟨72, Row.lst [I dd.t, I dd.nx, I dd.sq, I dd.un], 4, true⟩, ⟨72, Row.lst [I x.t, I x.nx, I x.sq, I x.un], 4, true⟩, ⟨72, Row.lst [], 0, false⟩, ⟨72, Row.lst [I n_2, I n_3, I n_4, I n_5], 4, true⟩, ⟨72, Row.vals (List.take (n * 4) vs ++ [Value.int IntKind.i64 n_2, Value.int IntKind.i64 n_3, Value.int IntKind.i64 n_4, Value.int IntKind.i64 n_5]), tot', true⟩], E := E' : St })))) else Sx.Alike (AlikeT.n AlikeT.l AlikeT.l) (bif decide ((↑rl : Int) > (0 : Int)) then req ((0 : Int) ≤ (0 : Int) ∧ (0 : Int) < (↑rl : Int)) ((∃ (cs : List Value), E (Value.slice rb rl rc) cs ∧ (cs = [] → False)) ∧ ∃ (n_2 : Int), LoadE N0.P E 3 (Value.slice rb rl rc) 0 (I n_2) ∧ bif bif true then n_2 == x.t else false then req ((0 : Int) ≤ (0 : Int) ∧ (0 : Int) < (↑rl : Int)) ((∃ (cs : List Value), E (Value.slice rb rl rc) cs ∧ (cs = [] → False)) ∧ ∃ (n_3 : Int), ∃ (n_4 : Int), ∃ (n_5 : Int), ∃ (n_6 : Int), LoadE N0.P E 72 (Value.slice rb rl rc) 0 (SV.agg [I n_3, I n_4, I n_5, I n_6]) ∧ req (rl ≤ rc) (req ((0 : Int) ≤ (1 : Int) ∧ (1 : Int) ≤ (↑(toN none rl) : Int)) (∀ (base' : Option Addr) (E' : Mem), Mem.le E E' → (∀ (cs : List Value), E (Value.slice rb rl rc) cs → E' (Value.slice base' (toN none rl - 1) (toN none rc - 1)) (List.take ((toN none rl - 1) * 4) (List.drop 4 cs))) → Option.isNone base' = Option.isNone rb → bif n_4 != ch then bif bif true then decide (n_5 ≥ x.sq) else false then n * 4 ≤ List.length (Row.cells (Row.vals vs)) ∧ cap * 4 ≤ tot ∧ n ≤ cap ∧ req ((n + 1) * 32 ≤ 140737488355328) (∀ (cap' tot' : Nat), n + 1 ≤ cap' → cap' * 4 ≤ tot' → KK (B true) [⟨3, Row.lst [I ch], 1, true⟩, ⟨3, Row.lst [I fr], 1, true⟩, ⟨39, Row.lst [SV.slc 14 0 (n + 1) cap'], 1, true⟩, ⟨39, Row.lst [L base' (toN none rl - 1) (toN none rc - 1)], 1, true⟩, ⟨3, Row.lst [I ch], 1, true⟩, ⟨3, Row.lst [I sq], 1, true⟩, ⟨39, Row.lst [L bb bl bc], 1, true⟩, ⟨72, Row.lst [I ow.t, I ow.nx, I ow.sq, I ow.un], 4, true⟩, ⟨72, Row.lst [], 0, false⟩, ⟨72, Row.lst [I dd.t, I dd.nx, I dd.sq, I dd.un], 4, true⟩, ⟨72, Row.lst [I x.t, I ch, I x.sq, I (IntKind.wrap IntKind.i64 (fr + (3 : Int)))], 4, true⟩, ⟨72, Row.lst [], 0, false⟩, ⟨72, Row.lst [I n_3, I n_4, I n_5, I n_6], 4, true⟩, ⟨72, Row.lst [I n_3, I n_4, I n_5, I n_6], 4, true⟩, ⟨72, Row.vals (List.take (n * 4) vs ++ [Value.int IntKind.i64 n_3, Value.int IntKind.i64 n_4, Value.int IntKind.i64 n_5, Value.int IntKind.i64 n_6]), tot', true⟩] E') else n * 4 ≤ List.length (Row.cells (Row.vals vs)) ∧ cap * 4 ≤ tot ∧ n ≤ cap ∧ req ((n + 1) * 32 ≤ 140737488355328) (∀ (cap' tot' : Nat), n + 1 ≤ cap' → cap' * 4 ≤ tot' → KK (B true) [⟨3, Row.lst [I ch], 1, true⟩, ⟨3, Row.lst [I fr], 1, true⟩, ⟨39, Row.lst [SV.slc 14 0 (n + 1) cap'], 1, true⟩, ⟨39, Row.lst [L base' (toN none rl - 1) (toN none rc - 1)], 1, true⟩, ⟨3, Row.lst [I ch], 1, true⟩, ⟨3, Row.lst [I sq], 1, true⟩, ⟨39, Row.lst [L bb bl bc], 1, true⟩, ⟨72, Row.lst [I ow.t, I ow.nx, I ow.sq, I ow.un], 4, true⟩, ⟨72, Row.lst [], 0, false⟩, ⟨72, Row.lst [I dd.t, I dd.nx, I dd.sq, I dd.un], 4, true⟩, ⟨72, Row.lst [I x.t, I ch, I x.sq, I (IntKind.wrap IntKind.i64 (fr + (3 : Int)))], 4, true⟩, ⟨72, Row.lst [], 0, false⟩, ⟨72, Row.lst [I n_3, I n_4, I n_5, I n_6], 4, true⟩, ⟨72, Row.lst [I x.t, I ch, I x.sq, I (IntKind.wrap IntKind.i64 (fr + (3 : Int)))], 4, true⟩, ⟨72, Row.vals (List.take (n * 4) vs ++ [Value.int IntKind.i64 x.t, Value.int IntKind.i64 ch, Value.int IntKind.i64 x.sq, Value.int IntKind.i64 (IntKind.wrap IntKind.i64 (fr + (3 : Int)))]), tot', true⟩] E') else n * 4 ≤ List.length (Row.cells (Row.vals vs)) ∧ cap * 4 ≤ tot ∧ n ≤ cap ∧ req ((n + 1) * 32 ≤ 140737488355328) (∀ (cap' tot' : Nat), n + 1 ≤ cap' → cap' * 4 ≤ tot' → KK (B true) [⟨3, Row.lst [I ch], 1, true⟩, ⟨3, Row.lst [I fr], 1, true⟩, ⟨39, Row.lst [SV.slc 14 0 (n + 1) cap'], 1, true⟩, ⟨39, Row.lst [L base' (toN none rl - 1) (toN none rc - 1)], 1, true⟩, ⟨3, Row.lst [I ch], 1, true⟩, ⟨3, Row.lst [I sq], 1, true⟩, ⟨39, Row.lst [L bb bl bc], 1, true⟩, ⟨72, Row.lst [I ow.t, I ow.nx, I ow.sq, I ow.un], 4, true⟩, ⟨72, Row.lst [], 0, false⟩, ⟨72, Row.lst [I dd.t, I dd.nx, I dd.sq, I dd.un], 4, true⟩, ⟨72, Row.lst [I x.t, I ch, I x.sq, I (IntKind.wrap IntKind.i64 (fr + (3 : Int)))], 4, true⟩, ⟨72, Row.lst [], 0, false⟩, ⟨72, Row.lst [I n_3, I n_4, I n_5, I n_6], 4, true⟩, ⟨72, Row.lst [I x.t, I ch, I x.sq, I (IntKind.wrap IntKind.i64 (fr + (3 : Int)))], 4, true⟩, ⟨72, Row.vals (List.take (n * 4) vs ++ [Value.int IntKind.i64 x.t, Value.int IntKind.i64 ch, Value.int IntKind.i64 x.sq, Value.int IntKind.i64 (IntKind.wrap IntKind.i64 (fr + (3 : Int)))]), tot', true⟩] E')))) else n * 4 ≤ List.length (Row.cells (Row.vals vs)) ∧ cap * 4 ≤ tot ∧ n ≤ cap ∧ req ((n + 1) * 32 ≤ 140737488355328) (∀ (cap' tot' : Nat), n + 1 ≤ cap' → cap' * 4 ≤ tot' → KK (B true) [⟨3, Row.lst [I ch], 1, true⟩, ⟨3, Row.lst [I fr], 1, true⟩, ⟨39, Row.lst [SV.slc 13 0 (n + 1) cap'], 1, true⟩, ⟨39, Row.lst [L rb rl rc], 1, true⟩, ⟨3, Row.lst [I ch], 1, true⟩, ⟨3, Row.lst [I sq], 1, true⟩, ⟨39, Row.lst [L bb bl bc], 1, true⟩, ⟨72, Row.lst [I ow.t, I ow.nx, I ow.sq, I ow.un], 4, true⟩, ⟨72, Row.lst [], 0, false⟩, ⟨72, Row.lst [I dd.t, I dd.nx, I dd.sq, I dd.un], 4, true⟩, ⟨72, Row.lst [I x.t, I ch, I x.sq, I (IntKind.wrap IntKind.i64 (fr + (3 : Int)))], 4, true⟩, ⟨72, Row.lst [], 0, false⟩, ⟨72, Row.lst [I x.t, I ch, I x.sq, I (IntKind.wrap IntKind.i64 (fr + (3 : Int)))], 4, true⟩, ⟨72, Row.vals (List.take (n * 4) vs ++ [Value.int IntKind.i64 x.t, Value.int IntKind.i64 ch, Value.int IntKind.i64 x.sq, Value.int IntKind.i64 (IntKind.wrap IntKind.i64 (fr + (3 : Int)))]), tot', true⟩] E)) else n * 4 ≤ List.length (Row.cells (Row.vals vs)) ∧ cap * 4 ≤ tot ∧ n ≤ cap ∧ req ((n + 1) * 32 ≤ 140737488355328) (∀ (cap' tot' : Nat), n + 1 ≤ cap' → cap' * 4 ≤ tot' → KK (B true) [⟨3, Row.lst [I ch], 1, true⟩, ⟨3, Row.lst [I fr], 1, true⟩, ⟨39, Row.lst [SV.slc 13 0 (n + 1) cap'], 1, true⟩, ⟨39, Row.lst [L rb rl rc], 1, true⟩, ⟨3, Row.lst [I ch], 1, true⟩, ⟨3, Row.lst [I sq], 1, true⟩, ⟨39, Row.lst [L bb bl bc], 1, true⟩, ⟨72, Row.lst [I ow.t, I ow.nx, I ow.sq, I ow.un], 4, true⟩, ⟨72, Row.lst [], 0, false⟩, ⟨72, Row.lst [I dd.t, I dd.nx, I dd.sq, I dd.un], 4, true⟩, ⟨72, Row.lst [I x.t, I ch, I x.sq, I (IntKind.wrap IntKind.i64 (fr + (3 : Int)))], 4, true⟩, ⟨72, Row.lst [], 0, false⟩, ⟨72, Row.lst [I x.t, I ch, I x.sq, I (IntKind.wrap IntKind.i64 (fr + (3 : Int)))], 4, true⟩, ⟨72, Row.vals (List.take (n * 4) vs ++ [Value.int IntKind.i64 x.t, Value.int IntKind.i64 ch, Value.int IntKind.i64 x.sq, Value.int IntKind.i64 (IntKind.wrap IntKind.i64 (fr + (3 : Int)))]), tot', true⟩] E))) else Sx.Alike (AlikeT.n AlikeT.l AlikeT.l) (bif decide ((↑rl : Int) > (0 : Int)) then req ((0 : Int) ≤ (0 : Int) ∧ (0 : Int) < (↑rl : Int)) ((∃ (cs : List Value), E (Value.slice rb rl rc) cs ∧ (cs = [] → False)) ∧ ∃ (n_1 : Int), LoadE N0.P E 3 (Value.slice rb rl rc) 0 (I n_1) ∧ bif bif true then n_1 == x.t else false then req ((0 : Int) ≤ (0 : Int) ∧ (0 : Int) < (↑rl : Int)) ((∃ (cs : List Value), E (Value.slice rb rl rc) cs ∧ (cs = [] → False)) ∧ ∃ (n_2 : Int), ∃ (n_3 : Int), ∃ (n_4 : Int), ∃ (n_5 : Int), LoadE N0.P E 72 (Value.slice rb rl rc) 0 (SV.agg [I n_2, I n_3, I n_4, I n_5]) ∧ req (rl ≤ rc) (req ((0 : Int) ≤ (1 : Int) ∧ (1 : Int) ≤ (↑(toN none rl) : Int)) (∀ (base' : Option Addr) (E' : Mem), Mem.le E E' → (∀ (cs : List Value), E (Value.slice rb rl rc) cs → E' (Value.slice base' (toN none rl - 1) (toN none rc - 1)) (List.take ((toN none rl - 1) * 4) (List.drop 4 cs))) → Option.isNone base' = Option.isNone rb → bif n_3 != ch then bif bif true then decide (n_4 ≥ x.sq) else false then n * 4 ≤ List.length (Row.cells (Row.vals vs)) ∧ cap * 4 ≤ tot ∧ n ≤ cap ∧ req ((n + 1) * 32 ≤ 140737488355328) (∀ (cap' tot' : Nat), n + 1 ≤ cap' → cap' * 4 ≤ tot' → KK (B true) [⟨3, Row.lst [I ch], 1, true⟩, ⟨3, Row.lst [I fr], 1, true⟩, ⟨39, Row.lst [SV.slc 14 0 (n + 1) cap'], 1, true⟩, ⟨39, Row.lst [L base' (toN none rl - 1) (toN none rc - 1)], 1, true⟩, ⟨3, Row.lst [I ch], 1, true⟩, ⟨3, Row.lst [I sq], 1, true⟩, ⟨39, Row.lst [L bb bl bc], 1, true⟩, ⟨72, Row.lst [I ow.t, I ow.nx, I ow.sq, I ow.un], 4, true⟩, ⟨72, Row.lst [], 0, false⟩, ⟨72, Row.lst [I dd.t, I dd.nx, I dd.sq, I dd.un], 4, true⟩, ⟨72, Row.lst [I x.t, I ch, I x.sq, I (IntKind.wrap IntKind.i64 (fr + (3 : Int)))], 4, true⟩, ⟨72, Row.lst [], 0, false⟩, ⟨72, Row.lst [I n_2, I n_3, I n_4, I n_5], 4, true⟩, ⟨72, Row.lst [I n_2, I n_3, I n_4, I n_5], 4, true⟩, ⟨72, Row.vals (List.take (n * 4) vs ++ [Value.int IntKind.i64 n_2, Value.int IntKind.i64 n_3, Value.int IntKind.i64 n_4, Value.int IntKind.i64 n_5]), tot', true⟩] E') else n * 4 ≤ List.length (Row.cells (Row.vals vs)) ∧ cap * 4 ≤ tot ∧ n ≤ cap ∧ req ((n + 1) * 32 ≤ 140737488355328) (∀ (cap' tot' : Nat), n + 1 ≤ cap' → cap' * 4 ≤ tot' → KK (B true) [⟨3, Row.lst [I ch], 1, true⟩, ⟨3, Row.lst [I fr], 1, true⟩, ⟨39, Row.lst [SV.slc 14 0 (n + 1) cap'], 1, true⟩, ⟨39, Row.lst [L base' (toN none rl - 1) (toN none rc - 1)], 1, true⟩, ⟨3, Row.lst [I ch], 1, true⟩, ⟨3, Row.lst [I sq], 1, true⟩, ⟨39, Row.lst [L bb bl bc], 1, true⟩, ⟨72, Row.lst [I ow.t, I ow.nx, I ow.sq, I ow.un], 4, true⟩, ⟨72, Row.lst [], 0, false⟩, ⟨72, Row.lst [I dd.t, I dd.nx, I dd.sq, I dd.un], 4, true⟩, ⟨72, Row.lst [I x.t, I ch, I x.sq, I (IntKind.wrap IntKind.i64 (fr + (3 : Int)))], 4, true⟩, ⟨72, Row.lst [], 0, false⟩, ⟨72, Row.lst [I n_2, I n_3, I n_4, I n_5], 4, true⟩, ⟨72, Row.lst [I x.t, I ch, I x.sq, I (IntKind.wrap IntKind.i64 (fr + (3 : Int)))], 4, true⟩, ⟨72, Row.vals (List.take (n * 4) vs ++ [Value.int IntKind.i64 x.t, Value.int IntKind.i64 ch, Value.int IntKind.i64 x.sq, Value.int IntKind.i64 (IntKind.wrap IntKind.i64 (fr + (3 : Int)))]), tot', true⟩] E') else n * 4 ≤ List.length (Row.cells (Row.vals vs)) ∧ cap * 4 ≤ tot ∧ n ≤ cap ∧ req ((n + 1) * 32 ≤ 140737488355328) (∀ (cap' tot' : Nat), n + 1 ≤ cap' → cap' * 4 ≤ tot' → KK (B true) [⟨3, Row.lst [I ch], 1, true⟩, ⟨3, Row.lst [I fr], 1, true⟩, ⟨39, Row.lst [SV.slc 14 0 (n + 1) cap'], 1, true⟩, ⟨39, Row.lst [L base' (toN none rl - 1) (toN none rc - 1)], 1, true⟩, ⟨3, Row.lst [I ch], 1, true⟩, ⟨3, Row.lst [I sq], 1, true⟩, ⟨39, Row.lst [L bb bl bc], 1, true⟩, ⟨72, Row.lst [I ow.t, I ow.nx, I ow.sq, I ow.un], 4, true⟩, ⟨72, Row.lst [], 0, false⟩, ⟨72, Row.lst [I dd.t, I dd.nx, I dd.sq, I dd.un], 4, true⟩, ⟨72, Row.lst [I x.t, I ch, I x.sq, I (IntKind.wrap IntKind.i64 (fr + (3 : Int)))], 4, true⟩, ⟨72, Row.lst [], 0, false⟩, ⟨72, Row.lst [I n_2, I n_3, I n_4, I n_5], 4, true⟩, ⟨72, Row.lst [I x.t, I ch, I x.sq, I (IntKind.wrap IntKind.i64 (fr + (3 : Int)))], 4, true⟩, ⟨72, Row.vals (List.take (n * 4) vs ++ [Value.int IntKind.i64 x.t, Value.int IntKind.i64 ch, Value.int IntKind.i64 x.sq, Value.int IntKind.i64 (IntKind.wrap IntKind.i64 (fr + (3 : Int)))]), tot', true⟩] E')))) else n * 4 ≤ List.length (Row.cells (Row.vals vs)) ∧ cap * 4 ≤ tot ∧ n ≤ cap ∧ req ((n + 1) * 32 ≤ 140737488355328) (∀ (cap' tot' : Nat), n + 1 ≤ cap' → cap' * 4 ≤ tot' → KK (B true) [⟨3, Row.lst [I ch], 1, true⟩, ⟨3, Row.lst [I fr], 1, true⟩, ⟨39, Row.lst [SV.slc 13 0 (n + 1) cap'], 1, true⟩, ⟨39, Row.lst [L rb rl rc], 1, true⟩, ⟨3, Row.lst [I ch], 1, true⟩, ⟨3, Row.lst [I sq], 1, true⟩, ⟨39, Row.lst [L bb bl bc], 1, true⟩, ⟨72, Row.lst [I ow.t, I ow.nx, I ow.sq, I ow.un], 4, true⟩, ⟨72, Row.lst [], 0, false⟩, ⟨72, Row.lst [I dd.t, I dd.nx, I dd.sq, I dd.un], 4, true⟩, ⟨72, Row.lst [I x.t, I ch, I x.sq, I (IntKind.wrap IntKind.i64 (fr + (3 : Int)))], 4, true⟩, ⟨72, Row.lst [], 0, false⟩, ⟨72, Row.lst [I x.t, I ch, I x.sq, I (IntKind.wrap IntKind.i64 (fr + (3 : Int)))], 4, true⟩, ⟨72, Row.vals (List.take (n * 4) vs ++ [Value.int IntKind.i64 x.t, Value.int IntKind.i64 ch, Value.int IntKind.i64 x.sq, Value.int IntKind.i64 (IntKind.wrap IntKind.i64 (fr + (3 : Int)))]), tot', true⟩] E)) else n * 4 ≤ List.length (Row.cells (Row.vals vs)) ∧ cap * 4 ≤ tot ∧ n ≤ cap ∧ req ((n + 1) * 32 ≤ 140737488355328) (∀ (cap' tot' : Nat), n + 1 ≤ cap' → cap' * 4 ≤ tot' → KK (B true) [⟨3, Row.lst [I ch], 1, true⟩, ⟨3, Row.lst [I fr], 1, true⟩, ⟨39, Row.lst [SV.slc 13 0 (n + 1) cap'], 1, true⟩, ⟨39, Row.lst [L rb rl rc], 1, true⟩, ⟨3, Row.lst [I ch], 1, true⟩, ⟨3, Row.lst [I sq], 1, true⟩, ⟨39, Row.lst [L bb bl bc], 1, true⟩, ⟨72, Row.lst [I ow.t, I ow.nx, I ow.sq, I ow.un], 4, true⟩, ⟨72, Row.lst [], 0, false⟩, ⟨72, Row.lst [I dd.t, I dd.nx, I dd.sq, I dd.un], 4, true⟩, ⟨72, Row.lst [I x.t, I ch, I x.sq, I (IntKind.wrap IntKind.i64 (fr + (3 : Int)))], 4, true⟩, ⟨72, Row.lst [], 0, false⟩, ⟨72, Row.lst [I x.t, I ch, I x.sq, I (IntKind.wrap IntKind.i64 (fr + (3 : Int)))], 4, true⟩, ⟨72, Row.vals (List.take (n * 4) vs ++ [Value.int IntKind.i64 x.t, Value.int IntKind.i64 ch, Value.int IntKind.i64 x.sq, Value.int IntKind.i64 (IntKind.wrap IntKind.i64 (fr + (3 : Int)))]), tot', true⟩] E)))
  have w3 : IntKind.wrap .i64 (fr + 3) = fr + 3 := wrap_i64 (by omega)
  have hl := R.len
  have a1 := O.hl
  have a1 : n * 4 ≤ (Row.cells (Row.vals vs)).length := by show n * 4 ≤ (vs.map SV.raw).length; rw [List.length_map]; exact a1
  have a2 := O.hc
  have a3 := O.ht
  rw [w3]
  cases rs with
  | nil =>
    have hz : rl = 0 := by simpa using hl.symm
    subst hz
    exact condC (fun g => absurd g (by simp)) (fun _ => alike (condC (fun g => absurd g (by simp)) (fun _ => ⟨a1, a3, a2, req_intro (by omega) fun cap' tot' c1 c2 => hQ (.inl rfl) _ _ cap' tot' c1 c2⟩)))
  | cons y ys =>
    have h1 : 0 < rl := by rw [← hl]; simp
    have gp : decide ((rl : Int) > 0) = true := by simp; omega
    have rq : (0 : Int) ≤ 0 ∧ (0 : Int) < (rl : Int) := ⟨by decide, by omega⟩
    have ne := R.ne okDw h1
    have c0 : LoadE Tryd.prog E 3 (.slice rb rl rc) 0 (I y.t) := Dw.cell (i := 0) (j := 0) R rfl (by decide) rfl
    have cw : LoadE Tryd.prog E 72 (.slice rb rl rc) 0 (.agg [I y.t, I y.nx, I y.sq, I y.un]) := Dw.load (i := 0) R rfl
    have rc1 := R.cap
    have t1 : (1 : Int) ≤ ((toN none rl : Nat) : Int) := by show (1 : Int) ≤ (rl : Int); omega
    by_cases q : y.t < x.t
    · have fin : ∀ (base' : Option Addr) (E' : Mem), Mem.le E E' → (∀ cs, E (.slice rb rl rc) cs → E' (.slice base' (rl - 1) (rc - 1)) (List.take ((rl - 1) * 4) (List.drop 4 cs))) → base'.isNone = rb.isNone → ∀ cap' tot' : Nat, n + 1 ≤ cap' → cap' * 4 ≤ tot' → Lr N0 8 Tryd.f11 [1, 0, 1, 1, 1, 1, 1, 0, 1, 0] [0, 0, 0] 10 KK (sA1 ch fr sq bb bl bc ow dd x base' (rl - 1) (rc - 1) (n + 1) cap' tot' (List.take (n * 4) vs ++ [.int .i64 y.t, .int .i64 y.nx, .int .i64 y.sq, .int .i64 y.un]) E') := fun base' E' k1 k2 k3 cap' tot' c1 c2 => ih y ys rfl q base' _ cap' tot' _ E' k1 (Dw.tail R k1 k2 k3) (O.snoc y c1 c2)
      refine condC (fun _ => req_intro rq ⟨ne, y.t, c0, condC (fun _ => req_intro rq ⟨ne, _, _, _, _, cw, ⟨⟨a1, a3, a2, req_intro (by omega) fun cap' tot' c1 c2 => alike (req_intro rc1 (req_intro ⟨by decide, t1⟩ fun base' E' k1 k2 k3 => ?_))⟩, req_intro rc1 (req_intro ⟨by decide, t1⟩ fun base' E' k1 k2 k3 => ⟨a1, a3, a2, req_intro (by omega) fun cap' tot' c1 c2 => ?_⟩)⟩, req_intro rc1 (req_intro ⟨by decide, t1⟩ fun base' E' k1 k2 k3 => ⟨a1, a3, a2, req_intro (by omega) fun cap' tot' c1 c2 => ?_⟩)⟩) (fun g => absurd g (by simp [q]))⟩) (fun g => absurd gp (by rw [g]; decide))
      all_goals exact Lr_re [some 0, some 1, some 2, some 3, some 4, some 5, some 6, some 7, some 8, some 9, some 10, some 13] (fin base' E' k1 k2 k3 cap' tot' c1 c2) ⟨⟨by first | (simp; done) | (simp [St.pub]; done), by first | (simp; done) | (simp [St.pub]; done), fun j h => (by have e : j = 0 ∨ j = 1 ∨ j = 2 ∨ j = 3 ∨ j = 4 ∨ j = 5 ∨ j = 6 ∨ j = 7 ∨ j = 8 ∨ j = 9 := (by omega); rcases e with rfl | rfl | rfl | rfl | rfl | rfl | rfl | rfl | rfl | rfl <;> rfl)⟩, rfl, (by repeat' first | exact True.intro | refine And.intro (Or.inl rfl) ?_ | refine And.intro (Or.inr ⟨rfl, rfl⟩) ?_), (by repeat' first | exact True.intro | exact rfl | exact Or.inl rfl | exact (by decide : 8 < 14) | refine And.intro ?_ ?_), (show List.Nodup [0, 1, 2, 3, 4, 5, 6, 7, 9, 10, 13] from by decide), Mem.le_refl _⟩
    · have nq : ¬ y.t = x.t := hne y (by simp)
      exact condC (fun _ => req_intro rq ⟨ne, y.t, c0, condC (fun g => absurd g (by simp [q])) (fun _ => alike (condC (fun _ => req_intro rq ⟨ne, y.t, c0, condC (fun g => absurd g (by simp [nq])) (fun _ => ⟨a1, a3, a2, req_intro (by omega) fun cap' tot' c1 c2 => hQ (.inr ⟨y, ys, rfl, q⟩) _ _ cap' tot' c1 c2⟩)⟩) (fun g => absurd gp (by rw [g]; decide))))⟩) (fun g => absurd gp (by rw [g]; decide))
def sA0 (ch fr sq : Int) (bb : Option Addr) (bl bc : Nat) (ow dd : Dn) (x : Dn) (rb : Option Addr) (rl rc n cap tot : Nat) (vs : List Value) (E : Mem) : St := ⟨fr11A, [⟨3, .lst [I ch], 1, true⟩, ⟨3, .lst [I fr], 1, true⟩, ⟨39, .lst [.slc 8 0 n cap], 1, true⟩, ⟨39, .lst [L rb rl rc], 1, true⟩, ⟨3, .lst [I ch], 1, true⟩, ⟨3, .lst [I sq], 1, true⟩, ⟨39, .lst [L bb bl bc], 1, true⟩, ⟨72, .lst [I ow.t, I ow.nx, I ow.sq, I ow.un], 4, true⟩, ⟨72, .vals vs, tot, true⟩, ⟨72, .lst [I dd.t, I dd.nx, I dd.sq, I dd.un], 4, true⟩, ⟨72, .lst [I x.t, I x.nx, I x.sq, I x.un], 4, true⟩], E⟩
theorem rA0 {ch fr sq : Int} {bb : Option Addr} {bl bc : Nat} {ow dd : Dn} {x : Dn} {rb : Option Addr} {rl rc n cap tot : Nat} {vs : List Value} {KK : KT} {rs os : List Dn} (R : SL Dw E rb rl rc rs) (O : OutV os n cap tot vs) (hs : rl + n ≤ 900) (hne : ∀ y ∈ rs, y.t ≠ x.t) (hfr : 0 ≤ fr ∧ fr ≤ 1000)
    (ih : ∀ y ys, rs = y :: ys → y.t < x.t → ∀ (b' : Option Addr) (c' cap' tot' : Nat) (vs' : List Value) (E' : Mem), Mem.le E E' → SL Dw E' b' (rl - 1) c' ys → OutV (os ++ [y]) (n + 1) cap' tot' vs' → Lr N0 8 Tryd.f11 [1, 0, 1, 1, 1, 1, 1, 0, 1, 0] [0, 0, 0] 10 KK (sA1 ch fr sq bb bl bc ow dd x b' (rl - 1) c' (n + 1) cap' tot' vs' E'))
    (hQ : (rs = [] ∨ ∃ y ys, rs = y :: ys ∧ ¬ y.t < x.t) → ∀ (B1 B2 : Box) (cap' tot' : Nat), n + 1 ≤ cap' → cap' * 4 ≤ tot' → KK (B true) [⟨3, .lst [I ch], 1, true⟩, ⟨3, .lst [I fr], 1, true⟩, ⟨39, .lst [.slc 12 0 (n + 1) cap'], 1, true⟩, ⟨39, .lst [L rb rl rc], 1, true⟩, ⟨3, .lst [I ch], 1, true⟩, ⟨3, .lst [I sq], 1, true⟩, ⟨39, .lst [L bb bl bc], 1, true⟩, ⟨72, .lst [I ow.t, I ow.nx, I ow.sq, I ow.un], 4, true⟩, ⟨72, .lst [], 0, false⟩, ⟨72, .lst [I dd.t, I dd.nx, I dd.sq, I dd.un], 4, true⟩, B1, B2, ⟨72, .vals (List.take (n * 4) vs ++ [.int .i64 x.t, .int .i64 ch, .int .i64 x.sq, .int .i64 (fr + 3)]), tot', true⟩] E) : Rr N0 8 Tryd.f11 [1, 0, 1, 1, 1, 1, 1, 0, 1, 0] [0, 0, 0] 10 KK (sA0 ch fr sq bb bl bc ow dd x rb rl rc n cap tot vs E) := by
  refine same (by kernel_rfl) (?_ : bif decide ((↑rl : Int) > (0 : Int)) then req ((0 : Int) ≤ (0 : Int) ∧ (0 : Int) < (↑rl : Int)) ((∃ (cs : List Value), E (Value.slice rb rl rc) cs ∧ (cs = [] → False)) ∧ ∃ (n_1 : Int), LoadE N0.P E 3 (Value.slice rb rl rc) 0 (I n_1) ∧ bif bif true then decide (n_1 < x.t) else false then req ((0 : Int) ≤ (0 : Int) ∧ (0 : Int) < (↑rl : Int)) ((∃ (cs : List Value), E (Value.slice rb rl rc) cs ∧ (cs = [] → False)) ∧ ∃ (n_2 : Int), ∃ (n_3 : Int), ∃ (n_4 : Int), ∃ (n_5 : Int), LoadE N0.P E 72 (Value.slice rb rl rc) 0 (SV.agg [I n_2, I n_3, I n_4, I n_5]) ∧ ((n * 4 ≤ List.length (Row.cells (Row.vals vs)) ∧ cap * 4 ≤ tot ∧ n ≤ cap ∧ req ((n + 1) * 32 ≤ 140737488355328) (∀ (cap' tot' : Nat), n + 1 ≤ cap' → cap' * 4 ≤ tot' → Sx.Alike (AlikeT.n AlikeT.l AlikeT.l) (req (rl ≤ rc) (req ((0 : Int) ≤ (1 : Int) ∧ (1 : Int) ≤ (↑(toN none rl) : Int)) (∀ (base' : Option Addr) (E' : Mem), Mem.le E E' → (∀ (cs : List Value), E (Value.slice rb rl rc) cs → E' (Value.slice base' (toN none rl - 1) (toN none rc - 1)) (List.take ((toN none rl - 1) * 4) (List.drop 4 cs))) → Option.isNone base' = Option.isNone rb → Lr N0 8 Tryd.f11 [1, 0, 1, 1, 1, 1, 1, 0, 1, 0] [0, 0, 0] 10 KK { fr := [none, none, none, none, none, none, some (SV.loc 0 0), none, none, some (SV.loc 1 0), none, none, none, some (SV.loc 2 0), some (SV.loc 3 0), some (SV.loc 10 0), none, none, none, none, none, none, none, none, none, none, none, none, none, none, none, none, none, none, none, none, none, none, none, none, none, none, none, none, none, none, none, none, none, none, none, none, none, none, none, none, some (SV.clo 50 [] [SV.loc 4 0, SV.loc 5 0, SV.loc 6 0]), none, none, none, none, none, none, none, none, none, none, none, none, none, none, none, none, none, none, none, none, none, none, none, none, none, none, none, none, none, none, none, none, none, none, none, none, none, none, none, none, none, none, none, none, none, none, none, none, none, none, none, none, none, none, none, none, none, none, none, none, none, none, none, none, none], bx := [(⟨3, Row.lst [I ch], 1, true⟩ : Box), ⟨3, Row.lst [I fr], 1, true⟩, ⟨39, Row.lst [SV.slc 12 0 (n + 1) cap'], 1, true⟩, ⟨39, Row.lst [L base' (toN none rl - 1) (toN none rc - 1)], 1, true⟩, ⟨3, Row.lst [I ch], 1, true⟩, ⟨3, Row.lst [I sq], 1, true⟩, ⟨39, Row.lst [L bb bl bc], 1, true⟩, ⟨72, Row.lst [I ow.t, I ow.nx, I ow.sq, I ow.un], 4, true⟩, ⟨72, Row.lst [], 0, false⟩, ⟨72, Row.lst [I dd.t, I dd.nx, I dd.sq, I dd.un], 4, true⟩, ⟨72, Row.lst [I x.t, I x.nx, I x.sq, I x.un], 4, true⟩, ⟨72, Row.lst [I n_2, I n_3, I n_4, I n_5], 4, true⟩, ⟨72, Row.vals (List.take (n * 4) vs ++ [Value.int IntKind.i64 n_2, Value.int IntKind.i64 n_3, Value.int IntKind.i64 n_4, Value.int IntKind.i64 n_5]), tot', true⟩], E := E' : St }))))) ∧ req (rl ≤ rc) (req ((0 : Int) ≤ (1 : Int) ∧ (1 : Int) ≤ (↑(toN none rl) : Int)) (∀ (base' : Option Addr) (E' : Mem), Mem.le E E' → (∀ (cs : List Value), E (Value.slice rb rl rc) cs → E' (Value.slice base' (toN none rl - 1) (toN none rc - 1)) (List.take ((toN none rl - 1) * 4) (List.drop 4 cs))) → Option.isNone base' = Option.isNone rb → n * 4 ≤ List.length (Row.cells (Row.vals vs)) ∧ cap * 4 ≤ tot ∧ n ≤ cap ∧ req ((n + 1) * 32 ≤ 140737488355328) (∀ (cap' tot' : Nat), n + 1 ≤ cap' → cap' * 4 ≤ tot' → Lr N0 8 Tryd.f11 [1, 0, 1, 1, 1, 1, 1, 0, 1, 0] [0, 0, 0] 10 KK { fr := [none, none, none, none, none, none, some (SV.loc 0 0), none, none, some (SV.loc 1 0), none, none, none, some (SV.loc 2 0), some (SV.loc 3 0), some (SV.loc 10 0), none, none, none, none, none, none, none, none, none, none, none, none, none, none, none, none, none, none, none, none, none, none, none, none, none, none, none, none, none, none, none, none, none, none, none, none, none, none, none, none, some (SV.clo 50 [] [SV.loc 4 0, SV.loc 5 0, SV.loc 6 0]), none, none, none, none, none, none, none, none, none, none, none, none, none, none, none, none, none, none, none, none, none, none, none, none, none, none, none, none, none, none, none, none, none, none, none, none, none, none, none, none, none, none, none, none, none, none, none, none, none, none, none, none, none, none, none, none, none, none, none, none, none, none, none, none, none], bx := [(⟨3, Row.lst [I ch], 1, true⟩ : Box), ⟨3, Row.lst [I fr], 1, true⟩, ⟨39, Row.lst [SV.slc 12 0 (n + 1) cap'], 1, true⟩, ⟨39, Row.lst [L base' (toN none rl - 1) (toN none rc - 1)], 1, true⟩, ⟨3, Row.lst [I ch], 1, true⟩, ⟨3, Row.lst [I sq], 1, true⟩, ⟨39, Row.lst [L bb bl bc], 1, true⟩, ⟨72, Row.lst [I ow.t, I ow.nx, I ow.sq, I ow.un], 4, true⟩, ⟨72, Row.lst [], 0, false⟩, ⟨72, Row.lst [I dd.t, I dd.nx, I dd.sq, I dd.un], 4, true⟩, ⟨72, Row.lst [I x.t, I x.nx, I x.sq, I x.un], 4, true⟩, ⟨72, Row.lst [I n_2, I n_3, I n_4, I n_5], 4, true⟩, ⟨72, Row.vals (List.take (n * 4) vs ++ [Value.int IntKind.i64 n_2, Value.int IntKind.i64 n_3, Value.int IntKind.i64 n_4, Value.int IntKind.i64 n_5]), tot', true⟩], E := E' : St })))) ∧ req (rl ≤ rc) (req ((0 : Int) ≤ (1 : Int) ∧ (1 : Int) ≤ (↑(toN none rl) : Int)) (∀ (base' : Option Addr) (E' : Mem), Mem.le E E' → (∀ (cs : List Value), E (Value.slice rb rl rc) cs → E' (Value.slice base' (toN none rl - 1) (toN none rc - 1)) (List.take ((toN none rl - 1) * 4) (List.drop 4 cs))) → Option.isNone base' = Option.isNone rb → n * 4 ≤ List.length (Row.cells (Row.vals vs)) ∧ cap * 4 ≤ tot ∧ n ≤ cap ∧ req ((n + 1) * 32 ≤ 140737488355328) (∀ (cap' tot' : Nat), n + 1 ≤ cap' → cap' * 4 ≤ tot' → Lr N0 8 Tryd.f11 [1, 0, 1, 1, 1, 1, 1, 0, 1, 0] [0, 0, 0] 10 KK { fr := [none, none, none, none, none, none, some (SV.loc 0 0), none, none, some (SV.loc 1 0), none, none, none, some (SV.loc 2 0), some (SV.loc 3 0), some (SV.loc 10 0), none, none, none, none, none, none, none, none, none, none, none, none, none, none, none, none, none, none, none, none, none, none, none, none, none, none, none, none, none, none, none, none, none, none, none, none, none, none, none, none, some (SV.clo 50 [] [SV.loc 4 0, SV.loc 5 0, SV.loc 6 0]), none, none, none, none, none, none, none, none, none, none, none, none, none, none, none, none, none, none, none, none, none, none, none, none, none, none, none, none, none, none, none, none, none, none, none, none, none, none, none, none, none, none, none, none, none, none, none, none, none, none, none, none, none, none, none, none, none, none, none, none, none, none, none, none, none], bx := [(⟨3, Row.lst [I ch], 1, true⟩ : Box), ⟨3, Row.lst [I fr], 1, true⟩, ⟨39, Row.lst [SV.slc 12 0 (n + 1) cap'], 1, true⟩, ⟨39, Row.lst [L base' (toN none rl - 1) (toN none rc - 1)], 1, true⟩, ⟨3, Row.lst [I ch], 1, true⟩, ⟨3, Row.lst [I sq], 1, true⟩, ⟨39, Row.lst [L bb bl bc], 1, true⟩, ⟨72, Row.lst [I ow.t, I ow.nx, I ow.sq, I ow.un], 4, true⟩, ⟨72, Row.lst [], 0, false⟩, ⟨72, Row.lst [I dd.t, I dd.nx, I dd.sq, I dd.un], 4, true⟩, ⟨72, Row.lst [I x.t, I x.nx, I x.sq, I x.un], 4, true⟩, ⟨72, Row.lst [I n_2, I n_3, I n_4, I n_5], 4, true⟩, ⟨72, Row.vals (List.take (n * 4) vs ++ [Value.int IntKind.i64 n_2, Value.int IntKind.i64 n_3, Value.int IntKind.i64 n_4, Value.int IntKind.i64 n_5]), tot', true⟩], E := E' : St })))) else Sx.Alike (AlikeT.n AlikeT.l AlikeT.l) (bif decide ((↑rl : Int) > (0 : Int)) then req ((0 : Int) ≤ (0 : Int) ∧ (0 : Int) < (↑rl : Int)) ((∃ (cs : List Value), E (Value.slice rb rl rc) cs ∧ (cs = [] → False)) ∧ ∃ (n_2 : Int), LoadE N0.P E 3 (Value.slice rb rl rc) 0 (I n_2) ∧ bif bif true then n_2 == x.t else false then req ((0 : Int) ≤ (0 : Int) ∧ (0 : Int) < (↑rl : Int)) ((∃ (cs : List Value), E (Value.slice rb rl rc) cs ∧ (cs = [] → False)) ∧ ∃ (n_3 : Int), ∃ (n_4 : Int), ∃ (n_5 : Int), ∃ (n_6 : Int), LoadE N0.P E 72 (Value.slice rb rl rc) 0 (SV.agg [I n_3, I n_4, I n_5, I n_6]) ∧ req (rl ≤ rc) (req ((0 : Int) ≤ (1 : Int) ∧ (1 : Int) ≤ (↑(toN none rl) : Int)) (∀ (base' : Option Addr) (E' : Mem), Mem.le E E' → (∀ (cs : List Value), E (Value.slice rb rl rc) cs → E' (Value.slice base' (toN none rl - 1) (toN none rc - 1)) (List.take ((toN none rl - 1) * 4) (List.drop 4 cs))) → Option.isNone base' = Option.isNone rb → bif n_4 != ch then bif bif true then decide (n_5 ≥ x.sq) else false then n * 4 ≤ List.length (Row.cells (Row.vals vs)) ∧ cap * 4 ≤ tot ∧ n ≤ cap ∧ req ((n + 1) * 32 ≤ 140737488355328) (∀ (cap' tot' : Nat), n + 1 ≤ cap' → cap' * 4 ≤ tot' → KK (B true) [⟨3, Row.lst [I ch], 1, true⟩, ⟨3, Row.lst [I fr], 1, true⟩, ⟨39, Row.lst [SV.slc 13 0 (n + 1) cap'], 1, true⟩, ⟨39, Row.lst [L base' (toN none rl - 1) (toN none rc - 1)], 1, true⟩, ⟨3, Row.lst [I ch], 1, true⟩, ⟨3, Row.lst [I sq], 1, true⟩, ⟨39, Row.lst [L bb bl bc], 1, true⟩, ⟨72, Row.lst [I ow.t, I ow.nx, I ow.sq, I ow.un], 4, true⟩, ⟨72, Row.lst [], 0, false⟩, ⟨72, Row.lst [I dd.t, I dd.nx, I dd.sq, I dd.un], 4, true⟩, ⟨72, Row.lst [I x.t, I ch, I x.sq, I (IntKind.wrap IntKind.i64 (fr + (3 : Int)))], 4, true⟩, ⟨72, Row.lst [I n_3, I n_4, I n_5, I n_6], 4, true⟩, ⟨72, Row.lst [I n_3, I n_4, I n_5, I n_6], 4, true⟩, ⟨72, Row.vals (List.take (n * 4) vs ++ [Value.int IntKind.i64 n_3, Value.int IntKind.i64 n_4, Value.int IntKind.i64 n_5, Value.int IntKind.i64 n_6]), tot', true⟩] E') else n * 4 ≤ List.length (Row.cells (Row.vals vs)) ∧ cap * 4 ≤ tot ∧ n ≤ cap ∧ req ((n + 1) * 32 ≤ 140737488355328) (∀ (cap' tot' : Nat), n + 1 ≤ cap' → cap' * 4 ≤ tot' → KK (B true) [⟨3, Row.lst [I ch], 1, true⟩, ⟨3, Row.lst [I fr], 1, true⟩, ⟨39, Row.lst [SV.slc 13 0 (n + 1) cap'], 1, true⟩, ⟨39, Row.lst [L base' (toN none rl - 1) (toN none rc - 1)], 1, true⟩, ⟨3, Row.lst [I ch], 1, true⟩, ⟨3, Row.lst [I sq], 1, true⟩, ⟨39, Row.lst [L bb bl bc], 1, true⟩, ⟨72, Row.lst [I ow.t, I ow.nx, I ow.sq, I ow.un], 4, true⟩, ⟨72, Row.lst [], 0, false⟩, ⟨72, Row.lst [I dd.t, I dd.nx, I dd.sq, I dd.un], 4, true⟩, ⟨72, Row.lst [I x.t, I ch, I x.sq, I (IntKind.wrap IntKind.i64 (fr + (3 : Int)))], 4, true⟩, ⟨72, Row.lst [I n_3, I n_4, I n_5, I n_6], 4, true⟩, ⟨72, Row.lst [I x.t, I ch, I x.sq, I (IntKind.wrap IntKind.i64 (fr + (3 : Int)))], 4, true⟩, ⟨72, Row.vals (List.take (n * 4) vs ++ [Value.int IntKind.i64 x.t, Value.int IntKind.i64 ch, Value.int IntKind.i64 x.sq, Value.int IntKind.i64 (IntKind.wrap IntKind.i64 (fr + (3 : Int)))]), tot', true⟩] E') else n * 4 ≤ List.length (Row.cells (Row.vals vs)) ∧ cap * 4 ≤ tot ∧ n ≤ cap ∧ req ((n + 1) * 32 ≤ 140737488355328) (∀ (cap' tot' : Nat), n + 1 ≤ cap' → cap' * 4 ≤ tot' → KK (B true) [⟨3, Row.lst [I ch], 1, true⟩, ⟨3, Row.lst [I fr], 1, true⟩, ⟨39, Row.lst [SV.slc 13 0 (n + 1) cap'], 1, true⟩, ⟨39, Row.lst [L base' (toN none rl - 1) (toN none rc - 1)], 1, true⟩, ⟨3, Row.lst [I ch], 1, true⟩, ⟨3, Row.lst [I sq], 1, true⟩, ⟨39, Row.lst [L bb bl bc], 1, true⟩, ⟨72, Row.lst [I ow.t, I ow.nx, I ow.sq, I ow.un], 4, true⟩, ⟨72, Row.lst [], 0, false⟩, ⟨72, Row.lst [I dd.t, I dd.nx, I dd.sq, I dd.un], 4, true⟩, ⟨72, Row.lst [I x.t, I ch, I x.sq, I (IntKind.wrap IntKind.i64 (fr + (3 : Int)))], 4, true⟩, ⟨72, Row.lst [I n_3, I n_4, I n_5, I n_6], 4, true⟩, ⟨72, Row.lst [I x.t, I ch, I x.sq, I (IntKind.wrap IntKind.i64 (fr + (3 : Int)))], 4, true⟩, ⟨72, Row.vals (List.take (n * 4) vs ++ [Value.int IntKind.i64 x.t, Value.int IntKind.i64 ch, Value.int IntKind.i64 x.sq, Value.int IntKind.i64 (IntKind.wrap IntKind.i64 (fr + (3 : Int)))]), tot', true⟩] E')))) else n * 4 ≤ List.length (Row.cells (Row.vals vs)) ∧ cap * 4 ≤ tot ∧ n ≤ cap ∧ req ((n + 1) * 32 ≤ 140737488355328) (∀ (cap' tot' : Nat), n + 1 ≤ cap' → cap' * 4 ≤ tot' → KK (B true) [⟨3, Row.lst [I ch], 1, true⟩, ⟨3, Row.lst [I fr], 1, true⟩, ⟨39, Row.lst [SV.slc 12 0 (n + 1) cap'], 1, true⟩, ⟨39, Row.lst [L rb rl rc], 1, true⟩, ⟨3, Row.lst [I ch], 1, true⟩, ⟨3, Row.lst [I sq], 1, true⟩, ⟨39, Row.lst [L bb bl bc], 1, true⟩, ⟨72, Row.lst [I ow.t, I ow.nx, I ow.sq, I ow.un], 4, true⟩, ⟨72, Row.lst [], 0, false⟩, ⟨72, Row.lst [I dd.t, I dd.nx, I dd.sq, I dd.un], 4, true⟩, ⟨72, Row.lst [I x.t, I ch, I x.sq, I (IntKind.wrap IntKind.i64 (fr + (3 : Int)))], 4, true⟩, ⟨72, Row.lst [I x.t, I ch, I x.sq, I (IntKind.wrap IntKind.i64 (fr + (3 : Int)))], 4, true⟩, ⟨72, Row.vals (List.take (n * 4) vs ++ [Value.int IntKind.i64 x.t, Value.int IntKind.i64 ch, Value.int IntKind.i64 x.sq, Value.int IntKind.i64 (IntKind.wrap IntKind.i64 (fr + (3 : Int)))]), tot', true⟩] E)) else n * 4 ≤ List.length (Row.cells (Row.vals vs)) ∧ cap * 4 ≤ tot ∧ n ≤ cap ∧ req ((n + 1) * 32 ≤ 140737488355328) (∀ (cap' tot' : Nat), n + 1 ≤ cap' → cap' * 4 ≤ tot' → KK (B true) [⟨3, Row.lst [I ch], 1, true⟩, ⟨3, Row.lst [I fr], 1, true⟩, ⟨39, Row.lst [SV.slc 12 0 (n + 1) cap'], 1, true⟩, ⟨39, Row.lst [L rb rl rc], 1, true⟩, ⟨3, Row.lst [I ch], 1, true⟩, ⟨3, Row.lst [I sq], 1, true⟩, ⟨39, Row.lst [L bb bl bc], 1, true⟩, ⟨72, Row.lst [I ow.t, I ow.nx, I ow.sq, I ow.un], 4, true⟩, ⟨72, Row.lst [], 0, false⟩, ⟨72, Row.lst [I dd.t, I dd.nx, I dd.sq, I dd.un], 4, true⟩, ⟨72, Row.lst [I x.t, I ch, I x.sq, I (IntKind.wrap IntKind.i64 (fr + (3 : Int)))], 4, true⟩, ⟨72, Row.lst [I x.t, I ch, I x.sq, I (IntKind.wrap IntKind.i64 (fr + (3 : Int)))], 4, true⟩, ⟨72, Row.vals (List.take (n * 4) vs ++ [Value.int IntKind.i64 x.t, Value.int IntKind.i64 ch, Value.int IntKind.i64 x.sq, Value.int IntKind.i64 (IntKind.wrap IntKind.i64 (fr + (3 : Int)))]), tot', true⟩] E))) else Sx.Alike (AlikeT.n AlikeT.l AlikeT.l) (bif decide ((↑rl : Int) > (0 : Int)) then req ((0 : Int) ≤ (0 : Int) ∧ (0 : Int) < (↑rl : Int)) ((∃ (cs : List Value), E (Value.slice rb rl rc) cs ∧ (cs = [] → False)) ∧ ∃ (n_1 : Int), LoadE N0.P E 3 (Value.slice rb rl rc) 0 (I n_1) ∧ bif bif true then n_1 == x.t else false then req ((0 : Int) ≤ (0 : Int) ∧ (0 : Int) < (↑rl : Int)) ((∃ (cs : List Value), E (Value.slice rb rl rc) cs ∧ (cs = [] → False)) ∧ ∃ (n_2 : Int), ∃ (n_3 : Int), ∃ (n_4 : Int), ∃ (n_5 : Int), LoadE N0.P E 72 (Value.slice rb rl rc) 0 (SV.agg [I n_2, I n_3, I n_4, I n_5]) ∧ req (rl ≤ rc) (req ((0 : Int) ≤ (1 : Int) ∧ (1 : Int) ≤ (↑(toN none rl) : Int)) (∀ (base' : Option Addr) (E' : Mem), Mem.le E E' → (∀ (cs : List Value), E (Value.slice rb rl rc) cs → E' (Value.slice base' (toN none rl - 1) (toN none rc - 1)) (List.take ((toN none rl - 1) * 4) (List.drop 4 cs))) → Option.isNone base' = Option.isNone rb → bif n_3 != ch then bif bif true then decide (n_4 ≥ x.sq) else false then n * 4 ≤ List.length (Row.cells (Row.vals vs)) ∧ cap * 4 ≤ tot ∧ n ≤ cap ∧ req ((n + 1) * 32 ≤ 140737488355328) (∀ (cap' tot' : Nat), n + 1 ≤ cap' → cap' * 4 ≤ tot' → KK (B true) [⟨3, Row.lst [I ch], 1, true⟩, ⟨3, Row.lst [I fr], 1, true⟩, ⟨39, Row.lst [SV.slc 13 0 (n + 1) cap'], 1, true⟩, ⟨39, Row.lst [L base' (toN none rl - 1) (toN none rc - 1)], 1, true⟩, ⟨3, Row.lst [I ch], 1, true⟩, ⟨3, Row.lst [I sq], 1, true⟩, ⟨39, Row.lst [L bb bl bc], 1, true⟩, ⟨72, Row.lst [I ow.t, I ow.nx, I ow.sq, I ow.un], 4, true⟩, ⟨72, Row.lst [], 0, false⟩, ⟨72, Row.lst [I dd.t, I dd.nx, I dd.sq, I dd.un], 4, true⟩, ⟨72, Row.lst [I x.t, I ch, I x.sq, I (IntKind.wrap IntKind.i64 (fr + (3 : Int)))], 4, true⟩, ⟨72, Row.lst [I n_2, I n_3, I n_4, I n_5], 4, true⟩, ⟨72, Row.lst [I n_2, I n_3, I n_4, I n_5], 4, true⟩, ⟨72, Row.vals (List.take (n * 4) vs ++ [Value.int IntKind.i64 n_2, Value.int IntKind.i64 n_3, Value.int IntKind.i64 n_4, Value.int IntKind.i64 n_5]), tot', true⟩] E') else n * 4 ≤ List.length (Row.cells (Row.vals vs)) ∧ cap * 4 ≤ tot ∧ n ≤ cap ∧ req ((n + 1) * 32 ≤ 140737488355328) (∀ (cap' tot' : Nat), n + 1 ≤ cap' → cap' * 4 ≤ tot' → KK (B true) [⟨3, Row.lst [I ch], 1, true⟩, ⟨3, Row.lst [I fr], 1, true⟩, ⟨39, Row.lst [SV.slc 13 0 (n + 1) cap'], 1, true⟩, ⟨39, Row.lst [L base' (toN none rl - 1) (toN none rc - 1)], 1, true⟩, ⟨3, Row.lst [I ch], 1, true⟩, ⟨3, Row.lst [I sq], 1, true⟩, ⟨39, Row.lst [L bb bl bc], 1, true⟩, ⟨72, Row.lst [I ow.t, I ow.nx, I ow.sq, I ow.un], 4, true⟩, ⟨72, Row.lst [], 0, false⟩, ⟨72, Row.lst [I dd.t, I dd.nx, I dd.sq, I dd.un], 4, true⟩, ⟨72, Row.lst [I x.t, I ch, I x.sq, I (IntKind.wrap IntKind.i64 (fr + (3 : Int)))], 4, true⟩, ⟨72, Row.lst [I n_2, I n_3, I n_4, I n_5], 4, true⟩, ⟨72, Row.lst [I x.t, I ch, I x.sq, I (IntKind.wrap IntKind.i64 (fr + (3 : Int)))], 4, true⟩, ⟨72, Row.vals (List.take (n * 4) vs ++ [Value.int IntKind.i64 x.t, Value.int IntKind.i64 ch, Value.int IntKind.i64 x.sq, Value.int IntKind.i64 (IntKind.wrap IntKind.i64 (fr + (3 : Int)))]), tot', true⟩] E') else n * 4 ≤ List.length (Row.cells (Row.vals vs)) ∧ cap * 4 ≤ tot ∧ n ≤ cap ∧ req ((n + 1) * 32 ≤ 140737488355328) (∀ (cap' tot' : Nat), n + 1 ≤ cap' → cap' * 4 ≤ tot' → KK (B true) [⟨3, Row.lst [I ch], 1, true⟩, ⟨3, Row.lst [I fr], 1, true⟩, ⟨39, Row.lst [SV.slc 13 0 (n + 1) cap'], 1, true⟩, ⟨39, Row.lst [L base' (toN none rl - 1) (toN none rc - 1)], 1, true⟩, ⟨3, Row.lst [I ch], 1, true⟩, ⟨3, Row.lst [I sq], 1, true⟩, ⟨39, Row.lst [L bb bl bc], 1, true⟩, ⟨72, Row.lst [I ow.t, I ow.nx, I ow.sq, I ow.un], 4, true⟩, ⟨72, Row.lst [], 0, false⟩, ⟨72, Row.lst [I dd.t, I dd.nx, I dd.sq, I dd.un], 4, true⟩, ⟨72, Row.lst [I x.t, I ch, I x.sq, I (IntKind.wrap IntKind.i64 (fr + (3 : Int)))], 4, true⟩, ⟨72, Row.lst [I n_2, I n_3, I n_4, I n_5], 4, true⟩, ⟨72, Row.lst [I x.t, I ch, I x.sq, I (IntKind.wrap IntKind.i64 (fr + (3 : Int)))], 4, true⟩, ⟨72, Row.vals (List.take (n * 4) vs ++ [Value.int IntKind.i64 x.t, Value.int IntKind.i64 ch, Value.int IntKind.i64 x.sq, Value.int IntKind.i64 (IntKind.wrap IntKind.i64 (fr + (3 : Int)))]), tot', true⟩] E')))) else n * 4 ≤ List.length (Row.cells (Row.vals vs)) ∧ cap * 4 ≤ tot ∧ n ≤ cap ∧ req ((n + 1) * 32 ≤ 140737488355328) (∀ (cap' tot' : Nat), n + 1 ≤ cap' → cap' * 4 ≤ tot' → KK (B true) [⟨3, Row.lst [I ch], 1, true⟩, ⟨3, Row.lst [I fr], 1, true⟩, ⟨39, Row.lst [SV.slc 12 0 (n + 1) cap'], 1, true⟩, ⟨39, Row.lst [L rb rl rc], 1, true⟩, ⟨3, Row.lst [I ch], 1, true⟩, ⟨3, Row.lst [I sq], 1, true⟩, ⟨39, Row.lst [L bb bl bc], 1, true⟩, ⟨72, Row.lst [I ow.t, I ow.nx, I ow.sq, I ow.un], 4, true⟩, ⟨72, Row.lst [], 0, false⟩, ⟨72, Row.lst [I dd.t, I dd.nx, I dd.sq, I dd.un], 4, true⟩, ⟨72, Row.lst [I x.t, I ch, I x.sq, I (IntKind.wrap IntKind.i64 (fr + (3 : Int)))], 4, true⟩, ⟨72, Row.lst [I x.t, I ch, I x.sq, I (IntKind.wrap IntKind.i64 (fr + (3 : Int)))], 4, true⟩, ⟨72, Row.vals (List.take (n * 4) vs ++ [Value.int IntKind.i64 x.t, Value.int IntKind.i64 ch, Value.int IntKind.i64 x.sq, Value.int IntKind.i64 (IntKind.wrap IntKind.i64 (fr + (3 : Int)))]), tot', true⟩] E)) else n * 4 ≤ List.length (Row.cells (Row.vals vs)) ∧ cap * 4 ≤ tot ∧ n ≤ cap ∧ req ((n + 1) * 32 ≤ 140737488355328) (∀ (cap' tot' : Nat), n + 1 ≤ cap' → cap' * 4 ≤ tot' → KK (B true) [⟨3, Row.lst [I ch], 1, true⟩, ⟨3, Row.lst [I fr], 1, true⟩, ⟨39, Row.lst [SV.slc 12 0 (n + 1) cap'], 1, true⟩, ⟨39, Row.lst [L rb rl rc], 1, true⟩, ⟨3, Row.lst [I ch], 1, true⟩, ⟨3, Row.lst [I sq], 1, true⟩, ⟨39, Row.lst [L bb bl bc], 1, true⟩, ⟨72, Row.lst [I ow.t, I ow.nx, I ow.sq, I ow.un], 4, true⟩, ⟨72, Row.lst [], 0, false⟩, ⟨72, Row.lst [I dd.t, I dd.nx, I dd.sq, I dd.un], 4, true⟩, ⟨72, Row.lst [I x.t, I ch, I x.sq, I (IntKind.wrap IntKind.i64 (fr + (3 : Int)))], 4, true⟩, ⟨72, Row.lst [I x.t, I ch, I x.sq, I (IntKind.wrap IntKind.i64 (fr + (3 : Int)))], 4, true⟩, ⟨72, Row.vals (List.take (n * 4) vs ++ [Value.int IntKind.i64 x.t, Value.int IntKind.i64 ch, Value.int IntKind.i64 x.sq, Value.int IntKind.i64 (IntKind.wrap IntKind.i64 (fr + (3 : Int)))]), tot', true⟩] E)))
  have w3 : IntKind.wrap .i64 (fr + 3) = fr + 3 := wrap_i64 (by omega)
  have hl := R.len
  have a1 := O.hl
  have a1 : n * 4 ≤ (Row.cells (Row.vals vs)).length := by show n * 4 ≤ (vs.map SV.raw).length; rw [List.length_map]; exact a1
  have a2 := O.hc
  have a3 := O.ht
  rw [w3]
  cases rs with
  | nil =>
    have hz : rl = 0 := by simpa using hl.symm
    subst hz
    exact condC (fun g => absurd g (by simp)) (fun _ => alike (condC (fun g => absurd g (by simp)) (fun _ => ⟨a1, a3, a2, req_intro (by omega) fun cap' tot' c1 c2 => hQ (.inl rfl) _ _ cap' tot' c1 c2⟩)))
  | cons y ys =>
    have h1 : 0 < rl := by rw [← hl]; simp
    have gp : decide ((rl : Int) > 0) = true := by simp; omega
    have rq : (0 : Int) ≤ 0 ∧ (0 : Int) < (rl : Int) := ⟨by decide, by omega⟩
    have ne := R.ne okDw h1
    have c0 : LoadE Tryd.prog E 3 (.slice rb rl rc) 0 (I y.t) := Dw.cell (i := 0) (j := 0) R rfl (by decide) rfl
    have cw : LoadE Tryd.prog E 72 (.slice rb rl rc) 0 (.agg [I y.t, I y.nx, I y.sq, I y.un]) := Dw.load (i := 0) R rfl
    have rc1 := R.cap
    have t1 : (1 : Int) ≤ ((toN none rl : Nat) : Int) := by show (1 : Int) ≤ (rl : Int); omega
    by_cases q : y.t < x.t
    · have fin : ∀ (base' : Option Addr) (E' : Mem), Mem.le E E' → (∀ cs, E (.slice rb rl rc) cs → E' (.slice base' (rl - 1) (rc - 1)) (List.take ((rl - 1) * 4) (List.drop 4 cs))) → base'.isNone = rb.isNone → ∀ cap' tot' : Nat, n + 1 ≤ cap' → cap' * 4 ≤ tot' → Lr N0 8 Tryd.f11 [1, 0, 1, 1, 1, 1, 1, 0, 1, 0] [0, 0, 0] 10 KK (sA1 ch fr sq bb bl bc ow dd x base' (rl - 1) (rc - 1) (n + 1) cap' tot' (List.take (n * 4) vs ++ [.int .i64 y.t, .int .i64 y.nx, .int .i64 y.sq, .int .i64 y.un]) E') := fun base' E' k1 k2 k3 cap' tot' c1 c2 => ih y ys rfl q base' _ cap' tot' _ E' k1 (Dw.tail R k1 k2 k3) (O.snoc y c1 c2)
      refine condC (fun _ => req_intro rq ⟨ne, y.t, c0, condC (fun _ => req_intro rq ⟨ne, _, _, _, _, cw, ⟨⟨a1, a3, a2, req_intro (by omega) fun cap' tot' c1 c2 => alike (req_intro rc1 (req_intro ⟨by decide, t1⟩ fun base' E' k1 k2 k3 => ?_))⟩, req_intro rc1 (req_intro ⟨by decide, t1⟩ fun base' E' k1 k2 k3 => ⟨a1, a3, a2, req_intro (by omega) fun cap' tot' c1 c2 => ?_⟩)⟩, req_intro rc1 (req_intro ⟨by decide, t1⟩ fun base' E' k1 k2 k3 => ⟨a1, a3, a2, req_intro (by omega) fun cap' tot' c1 c2 => ?_⟩)⟩) (fun g => absurd g (by simp [q]))⟩) (fun g => absurd gp (by rw [g]; decide))
      all_goals exact Lr_re [some 0, some 1, some 2, some 3, some 4, some 5, some 6, some 7, some 8, some 9, some 10, some 12] (fin base' E' k1 k2 k3 cap' tot' c1 c2) ⟨⟨by first | (simp; done) | (simp [St.pub]; done), by first | (simp; done) | (simp [St.pub]; done), fun j h => (by have e : j = 0 ∨ j = 1 ∨ j = 2 ∨ j = 3 ∨ j = 4 ∨ j = 5 ∨ j = 6 ∨ j = 7 ∨ j = 8 ∨ j = 9 := (by omega); rcases e with rfl | rfl | rfl | rfl | rfl | rfl | rfl | rfl | rfl | rfl <;> rfl)⟩, rfl, (by repeat' first | exact True.intro | refine And.intro (Or.inl rfl) ?_ | refine And.intro (Or.inr ⟨rfl, rfl⟩) ?_), (by repeat' first | exact True.intro | exact rfl | exact Or.inl rfl | exact (by decide : 8 < 13) | refine And.intro ?_ ?_), (show List.Nodup [0, 1, 2, 3, 4, 5, 6, 7, 9, 10, 12] from by decide), Mem.le_refl _⟩
    · have nq : ¬ y.t = x.t := hne y (by simp)
      exact condC (fun _ => req_intro rq ⟨ne, y.t, c0, condC (fun g => absurd g (by simp [q])) (fun _ => alike (condC (fun _ => req_intro rq ⟨ne, y.t, c0, condC (fun g => absurd g (by simp [nq])) (fun _ => ⟨a1, a3, a2, req_intro (by omega) fun cap' tot' c1 c2 => hQ (.inr ⟨y, ys, rfl, q⟩) _ _ cap' tot' c1 c2⟩)⟩) (fun g => absurd gp (by rw [g]; decide))))⟩) (fun g => absurd gp (by rw [g]; decide))
theorem rnA {ch fr sq : Int} {bb : Option Addr} {bl bc : Nat} {ow dd : Dn} {x : Dn} {rb : Option Addr} {rl rc n cap tot : Nat} {vs : List Value} {KK : KT} (h : Lr N0 8 Tryd.f11 [1, 0, 1, 1, 1, 1, 1, 0, 1, 0] [0, 0, 0] 10 KK (sA0 ch fr sq bb bl bc ow dd x rb rl rc n cap tot vs E)) : RnF N0 8 Tryd.f11 [1, 0, 1, 1, 1, 1, 1, 0, 1, 0] fr11 [.agg [I x.t, I x.nx, I x.sq, I x.un]] [⟨3, .lst [I ch], 1, true⟩, ⟨3, .lst [I fr], 1, true⟩, ⟨39, .lst [.slc 8 0 n cap], 1, true⟩, ⟨39, .lst [L rb rl rc], 1, true⟩, ⟨3, .lst [I ch], 1, true⟩, ⟨3, .lst [I sq], 1, true⟩, ⟨39, .lst [L bb bl bc], 1, true⟩, ⟨72, .lst [I ow.t, I ow.nx, I ow.sq, I ow.un], 4, true⟩, ⟨72, .vals vs, tot, true⟩, ⟨72, .lst [I dd.t, I dd.nx, I dd.sq, I dd.un], 4, true⟩] E KK := by
  refine same (by kernel_rfl) (?_ : Lr N0 8 Tryd.f11 [1, 0, 1, 1, 1, 1, 1, 0, 1, 0] [0, 0, 0] 10 KK { fr := [none, none, none, none, none, none, some (SV.loc 0 0), none, none, some (SV.loc 1 0), none, none, none, some (SV.loc 2 0), some (SV.loc 3 0), some (SV.loc 10 0), none, none, none, none, none, none, none, none, none, none, none, none, none, none, none, none, none, none, none, none, none, none, none, none, none, none, none, none, none, none, none, none, none, none, none, none, none, none, none, none, some (SV.clo 50 [] [SV.loc 4 0, SV.loc 5 0, SV.loc 6 0]), some (SV.agg [I x.t, I x.nx, I x.sq, I x.un]), none, none, none, none, none, none, none, none, none, none, none, none, none, none, none, none, none, none, none, none, none, none, none, none, none, none, none, none, none, none, none, none, none, none, none, none, none, none, none, none, none, none, none, none, none, none, none, none, none, none, none, none, none, none, none, none, none, none, none, none, none, none, none, none], bx := [(⟨3, Row.lst [I ch], 1, true⟩ : Box), ⟨3, Row.lst [I fr], 1, true⟩, ⟨39, Row.lst [SV.slc 8 0 n cap], 1, true⟩, ⟨39, Row.lst [L rb rl rc], 1, true⟩, ⟨3, Row.lst [I ch], 1, true⟩, ⟨3, Row.lst [I sq], 1, true⟩, ⟨39, Row.lst [L bb bl bc], 1, true⟩, ⟨72, Row.lst [I ow.t, I ow.nx, I ow.sq, I ow.un], 4, true⟩, ⟨72, Row.vals vs, tot, true⟩, ⟨72, Row.lst [I dd.t, I dd.nx, I dd.sq, I dd.un], 4, true⟩, ⟨72, Row.lst [I x.t, I x.nx, I x.sq, I x.un], 4, true⟩], E := E : St })
  exact Lr_re [some 0, some 1, some 2, some 3, some 4, some 5, some 6, some 7, some 8, some 9, some 10] h ⟨⟨by first | (simp; done) | (simp [St.pub]; done), by first | (simp; done) | (simp [St.pub]; done), fun j h => (by have e : j = 0 ∨ j = 1 ∨ j = 2 ∨ j = 3 ∨ j = 4 ∨ j = 5 ∨ j = 6 ∨ j = 7 ∨ j = 8 ∨ j = 9 := (by omega); rcases e with rfl | rfl | rfl | rfl | rfl | rfl | rfl | rfl | rfl | rfl <;> rfl)⟩, rfl, (by repeat' first | exact True.intro | refine And.intro (Or.inl rfl) ?_ | refine And.intro (Or.inr ⟨rfl, rfl⟩) ?_), (by repeat' first | exact True.intro | exact rfl | exact Or.inl rfl | fail | refine And.intro ?_ ?_), (show List.Nodup [0, 1, 2, 3, 4, 5, 6, 7, 8, 9, 10] from by decide), Mem.le_refl _⟩
def fr11C : List (Option SV) := [none, none, none, none, none, none, some (.loc 0 0), none, none, some (.loc 1 0), none, none, none, some (.loc 2 0), some (.loc 3 0), some (.loc 9 0), none, none, none, none, none, none, none, none, none, none, none, none, none, none, none, none, none, none, none, none, none, none, none, none, none, none, none, none, none, none, none, none, none, none, none, none, none, none, none, none, some (.clo 50 [] [.loc 4 0, .loc 5 0, .loc 6 0])] ++ List.replicate 65 none
def sC1 (ch fr sq : Int) (bb : Option Addr) (bl bc : Nat) (ow : Dn) (x : Dn) (rb : Option Addr) (rl rc n cap tot : Nat) (vs : List Value) (E : Mem) : St := ⟨fr11C, [⟨3, .lst [I ch], 1, true⟩, ⟨3, .lst [I fr], 1, true⟩, ⟨39, .lst [.slc 10 0 n cap], 1, true⟩, ⟨39, .lst [L rb rl rc], 1, true⟩, ⟨3, .lst [I ch], 1, true⟩, ⟨3, .lst [I sq], 1, true⟩, ⟨39, .lst [L bb bl bc], 1, true⟩, ⟨72, .lst [I ow.t, I ow.nx, I ow.sq, I ow.un], 4, true⟩, ⟨72, .lst [], 0, false⟩, ⟨72, .lst [I x.t, I x.nx, I x.sq, I x.un], 4, true⟩, ⟨72, .vals vs, tot, true⟩], E⟩
theorem rC1 {ch fr sq : Int} {bb : Option Addr} {bl bc : Nat} {ow : Dn} {x : Dn} {rb : Option Addr} {rl rc n cap tot : Nat} {vs : List Value} {KK : KT} {rs os : List Dn} (R : SL Dw E rb rl rc rs) (O : OutV os n cap tot vs) (hs : rl + n ≤ 900) (hne : ∀ y ∈ rs, y.t ≠ x.t) (hfr : 0 ≤ fr ∧ fr ≤ 1000)
    (ih : ∀ y ys, rs = y :: ys → y.t < x.t → ∀ (b' : Option Addr) (c' cap' tot' : Nat) (vs' : List Value) (E' : Mem), Mem.le E E' → SL Dw E' b' (rl - 1) c' ys → OutV (os ++ [y]) (n + 1) cap' tot' vs' → Lr N0 8 Tryd.f11 [1, 0, 1, 1, 1, 1, 1, 0, 1, 0] [0, 0, 0] 9 KK (sC1 ch fr sq bb bl bc ow x b' (rl - 1) c' (n + 1) cap' tot' vs' E'))
    (hQ : (rs = [] ∨ ∃ y ys, rs = y :: ys ∧ ¬ y.t < x.t) → ∀ (B1 B2 : Box) (cap' tot' : Nat), n + 1 ≤ cap' → cap' * 4 ≤ tot' → KK (B true) [⟨3, .lst [I ch], 1, true⟩, ⟨3, .lst [I fr], 1, true⟩, ⟨39, .lst [.slc 12 0 (n + 1) cap'], 1, true⟩, ⟨39, .lst [L rb rl rc], 1, true⟩, ⟨3, .lst [I ch], 1, true⟩, ⟨3, .lst [I sq], 1, true⟩, ⟨39, .lst [L bb bl bc], 1, true⟩, ⟨72, .lst [I ow.t, I ow.nx, I ow.sq, I ow.un], 4, true⟩, ⟨72, .lst [], 0, false⟩, B1, ⟨72, .lst [], 0, false⟩, B2, ⟨72, .vals (List.take (n * 4) vs ++ [.int .i64 x.t, .int .i64 ch, .int .i64 x.sq, .int .i64 (fr + 3)]), tot', true⟩] E) : Rr N0 8 Tryd.f11 [1, 0, 1, 1, 1, 1, 1, 0, 1, 0] [0, 0, 0] 9 KK (sC1 ch fr sq bb bl bc ow x rb rl rc n cap tot vs E) := by
  refine same (by kernel_rfl) (?_ : bif decide ((↑rl : Int) > (0 : Int)) then req ((0 : Int) ≤ (0 : Int) ∧ (0 : Int) < (↑rl : Int)) ((∃ (cs : List Value), E (Value.slice rb rl rc) cs ∧ (cs = [] → False)) ∧ ∃ (n_1 : Int), LoadE N0.P E 3 (Value.slice rb rl rc) 0 (I n_1) ∧ bif bif true then decide (n_1 < x.t) else false then req ((0 : Int) ≤ (0 : Int) ∧ (0 : Int) < (↑rl : Int)) ((∃ (cs : List Value), E (Value.slice rb rl rc) cs ∧ (cs = [] → False)) ∧ ∃ (n_2 : Int), ∃ (n_3 : Int), ∃ (n_4 : Int), ∃ (n_5 : Int), LoadE N0.P E 72 (Value.slice rb rl rc) 0 (SV.agg [I n_2, I n_3, I n_4, I n_5]) ∧ ((n * 4 ≤ List.length (Row.cells (Row.vals vs)) ∧ cap * 4 ≤ tot ∧ n ≤ cap ∧ req ((n + 1) * 32 ≤ 140737488355328) (∀ (cap' tot' : Nat), n + 1 ≤ cap' → cap' * 4 ≤ tot' → Sx.Alike (AlikeT.n AlikeT.l AlikeT.l) (req (rl ≤ rc) (req ((0 : Int) ≤ (1 : Int) ∧ (1 : Int) ≤ (↑(toN none rl) : Int)) (∀ (base' : Option Addr) (E' : Mem), Mem.le E E' → (∀ (cs : List Value), E (Value.slice rb rl rc) cs → E' (Value.slice base' (toN none rl - 1) (toN none rc - 1)) (List.take ((toN none rl - 1) * 4) (List.drop 4 cs))) → Option.isNone base' = Option.isNone rb → Lr N0 8 Tryd.f11 [1, 0, 1, 1, 1, 1, 1, 0, 1, 0] [0, 0, 0] 9 KK { fr := [none, none, none, none, none, none, some (SV.loc 0 0), none, none, some (SV.loc 1 0), none, none, none, some (SV.loc 2 0), some (SV.loc 3 0), some (SV.loc 9 0), none, none, none, none, none, none, none, none, none, none, none, none, none, none, none, none, none, none, none, none, none, none, none, none, none, none, none, none, none, none, none, none, none, none, none, none, none, none, none, none, some (SV.clo 50 [] [SV.loc 4 0, SV.loc 5 0, SV.loc 6 0]), none, none, none, none, none, none, none, none, none, none, none, none, none, none, none, none, none, none, none, none, none, none, none, none, none, none, none, none, none, none, none, none, none, none, none, none, none, none, none, none, none, none, none, none, none, none, none, none, none, none, none, none, none, none, none, none, none, none, none, none, none, none, none, none, none], bx := [(⟨3, Row.lst [I ch], 1, true⟩ : Box), ⟨3, Row.lst [I fr], 1, true⟩, ⟨39, Row.lst [SV.slc 12 0 (n + 1) cap'], 1, true⟩, ⟨39, Row.lst [L base' (toN none rl - 1) (toN none rc - 1)], 1, true⟩, ⟨3, Row.lst [I ch], 1, true⟩, ⟨3, Row.lst [I sq], 1, true⟩, ⟨39, Row.lst [L bb bl bc], 1, true⟩, ⟨72, Row.lst [I ow.t, I ow.nx, I ow.sq, I ow.un], 4, true⟩, ⟨72, Row.lst [], 0, false⟩, ⟨72, Row.lst [I x.t, I x.nx, I x.sq, I x.un], 4, true⟩, ⟨72, Row.lst [], 0, false⟩, ⟨72, Row.lst [I n_2, I n_3, I n_4, I n_5], 4, true⟩, ⟨72, Row.vals (List.take (n * 4) vs ++ [Value.int IntKind.i64 n_2, Value.int IntKind.i64 n_3, Value.int IntKind.i64 n_4, Value.int IntKind.i64 n_5]), tot', true⟩], E := E' : St }))))) ∧ req (rl ≤ rc) (req ((0 : Int) ≤ (1 : Int) ∧ (1 : Int) ≤ (↑(toN none rl) : Int)) (∀ (base' : Option Addr) (E' : Mem), Mem.le E E' → (∀ (cs : List Value), E (Value.slice rb rl rc) cs → E' (Value.slice base' (toN none rl - 1) (toN none rc - 1)) (List.take ((toN none rl - 1) * 4) (List.drop 4 cs))) → Option.isNone base' = Option.isNone rb → n * 4 ≤ List.length (Row.cells (Row.vals vs)) ∧ cap * 4 ≤ tot ∧ n ≤ cap ∧ req ((n + 1) * 32 ≤ 140737488355328) (∀ (cap' tot' : Nat), n + 1 ≤ cap' → cap' * 4 ≤ tot' → Lr N0 8 Tryd.f11 [1, 0, 1, 1, 1, 1, 1, 0, 1, 0] [0, 0, 0] 9 KK { fr := [none, none, none, none, none, none, some (SV.loc 0 0), none, none, some (SV.loc 1 0), none, none, none, some (SV.loc 2 0), some (SV.loc 3 0), some (SV.loc 9 0), none, none, none, none, none, none, none, none, none, none, none, none, none, none, none, none, none, none, none, none, none, none, none, none, none, none, none, none, none, none, none, none, none, none, none, none, none, none, none, none, some (SV.clo 50 [] [SV.loc 4 0, SV.loc 5 0, SV.loc 6 0]), none, none, none, none, none, none, none, none, none, none, none, none, none, none, none, none, none, none, none, none, none, none, none, none, none, none, none, none, none, none, none, none, none, none, none, none, none, none, none, none, none, none, none, none, none, none, none, none, none, none, none, none, none, none, none, none, none, none, none, none, none, none, none, none, none], bx := [(⟨3, Row.lst [I ch], 1, true⟩ : Box), ⟨3, Row.lst [I fr], 1, true⟩, ⟨39, Row.lst [SV.slc 12 0 (n + 1) cap'], 1, true⟩, ⟨39, Row.lst [L base' (toN none rl - 1) (toN none rc - 1)], 1, true⟩, ⟨3, Row.lst [I ch], 1, true⟩, ⟨3, Row.lst [I sq], 1, true⟩, ⟨39, Row.lst [L bb bl bc], 1, true⟩, ⟨72, Row.lst [I ow.t, I ow.nx, I ow.sq, I ow.un], 4, true⟩, ⟨72, Row.lst [], 0, false⟩, ⟨72, Row.lst [I x.t, I x.nx, I x.sq, I x.un], 4, true⟩, ⟨72, Row.lst [], 0, false⟩, ⟨72, Row.lst [I n_2, I n_3, I n_4, I n_5], 4, true⟩, ⟨72, Row.vals (List.take (n * 4) vs ++ [Value.int IntKind.i64 n_2, Value.int IntKind.i64 n_3, Value.int IntKind.i64 n_4, Value.int IntKind.i64 n_5]), tot', true⟩], E := E' : St })))) ∧ req (rl ≤ rc) (req ((0 : Int) ≤ (1 : Int) ∧ (1 : Int) ≤ (↑(toN none rl) : Int)) (∀ (base' : Option Addr) (E' : Mem), Mem.le E E' → (∀ (cs : List Value), E (Value.slice rb rl rc) cs → E' (Value.slice base' (toN none rl - 1) (toN none rc - 1)) (List.take ((toN none rl - 1) * 4) (List.drop 4 cs))) → Option.isNone base' = Option.isNone rb → n * 4 ≤ List.length (Row.cells (Row.vals vs)) ∧ cap * 4 ≤ tot ∧ n ≤ cap ∧ req ((n + 1) * 32 ≤ 140737488355328) (∀ (cap' tot' : Nat), n + 1 ≤ cap' → cap' * 4 ≤ tot' → Lr N0 8 Tryd.f11 [1, 0, 1, 1, 1, 1, 1, 0, 1, 0] [0, 0, 0] 9 KK { fr := [none, none, none, none, none, none, some (SV.loc 0 0), none, none, some (SV.loc 1 0), none, none, none, some (SV.loc 2 0), some (SV.loc 3 0), some (SV.loc 9 0), none, none, none, none, none, none, none, none, none, none, none, none, none, none, none, none, none, none, none, none, none, none, none, none, none, none, none, none, none, none, none, none, none, none, none, none, none, none, none, none, some (SV.clo 50 [] [SV.loc 4 0, SV.loc 5 0, SV.loc 6 0]), none, none, none, none, none, none, none, none, none, none, none, none, none, none, none, none, none, none, none, none, none, none, none, none, none, none, none, none, none, none, none, none, none, none, none, none, none, none, none, none, none, none, none, none, none, none, none, none, none, none, none, none, none, none, none, none, none, none, none, none, none, none, none, none, none], bx := [(⟨3, Row.lst [I ch], 1, true⟩ : Box), ⟨3, Row.lst [I fr], 1, true⟩, ⟨39, Row.lst [SV.slc 12 0 (n + 1) cap'], 1, true⟩, ⟨39, Row.lst [L base' (toN none rl - 1) (toN none rc - 1)], 1, true⟩, ⟨3, Row.lst [I ch], 1, true⟩, ⟨3, Row.lst [I sq], 1, true⟩, ⟨39, Row.lst [L bb bl bc], 1, true⟩, ⟨72, Row.lst [I ow.t, I ow.nx, I ow.sq, I ow.un], 4, true⟩, ⟨72, Row.lst [], 0, false⟩, ⟨72, Row.lst [I x.t, I x.nx, I x.sq, I x.un], 4, true⟩, ⟨72, Row.lst [], 0, false⟩, ⟨72, Row.lst [I n_2, I n_3, I n_4, I n_5], 4, true⟩, ⟨72, Row.vals (List.take (n * 4) vs ++ [Value.int IntKind.i64 n_2, Value.int IntKind.i64 n_3, Value.int IntKind.i64 n_4, Value.int IntKind.i64 n_5]), tot', true⟩], E := E' : St })))) else Sx.Alike (AlikeT.n AlikeT.l AlikeT.l) (bif decide ((↑rl : Int) > (0 : Int)) then req ((0 : Int) ≤ (0 : Int) ∧ (0 : Int) < (↑rl : Int)) ((∃ (cs : List Value), E (Value.slice rb rl rc) cs ∧ (cs = [] → False)) ∧ ∃ (n_2 : Int), LoadE N0.P E 3 (Value.slice rb rl rc) 0 (I n_2) ∧ bif bif true then n_2 == x.t else false then req ((0 : Int) ≤ (0 : Int) ∧ (0 : Int) < (↑rl : Int)) ((∃ (cs : List Value), E (Value.slice rb rl rc) cs ∧ (cs = [] → False)) ∧ ∃ (n_3 : Int), ∃ (n_4 : Int), ∃ (n_5 : Int), ∃ (n_6 : Int), LoadE N0.P E 72 (Value.slice rb rl rc) 0 (SV.agg [I n_3, I n_4, I n_5, I n_6]) ∧ req (rl ≤ rc) (req ((0 : Int) ≤ (1 : Int) ∧ (1 : Int) ≤ (↑(toN none rl) : Int)) (∀ (base' : Option Addr) (E' : Mem), Mem.le E E' → (∀ (cs : List Value), E (Value.slice rb rl rc) cs → E' (Value.slice base' (toN none rl - 1) (toN none rc - 1)) (List.take ((toN none rl - 1) * 4) (List.drop 4 cs))) → Option.isNone base' = Option.isNone rb → bif n_4 != ch then bif bif true then decide (n_5 ≥ x.sq) else false then n * 4 ≤ List.length (Row.cells (Row.vals vs)) ∧ cap * 4 ≤ tot ∧ n ≤ cap ∧ req ((n + 1) * 32 ≤ 140737488355328) (∀ (cap' tot' : Nat), n + 1 ≤ cap' → cap' * 4 ≤ tot' → KK (B true) [⟨3, Row.lst [I ch], 1, true⟩, ⟨3, Row.lst [I fr], 1, true⟩, ⟨39, Row.lst [SV.slc 13 0 (n + 1) cap'], 1, true⟩, ⟨39, Row.lst [L base' (toN none rl - 1) (toN none rc - 1)], 1, true⟩, ⟨3, Row.lst [I ch], 1, true⟩, ⟨3, Row.lst [I sq], 1, true⟩, ⟨39, Row.lst [L bb bl bc], 1, true⟩, ⟨72, Row.lst [I ow.t, I ow.nx, I ow.sq, I ow.un], 4, true⟩, ⟨72, Row.lst [], 0, false⟩, ⟨72, Row.lst [I x.t, I ch, I x.sq, I (IntKind.wrap IntKind.i64 (fr + (3 : Int)))], 4, true⟩, ⟨72, Row.lst [], 0, false⟩, ⟨72, Row.lst [I n_3, I n_4, I n_5, I n_6], 4, true⟩, ⟨72, Row.lst [I n_3, I n_4, I n_5, I n_6], 4, true⟩, ⟨72, Row.vals (List.take (n * 4) vs ++ [Value.int IntKind.i64 n_3, Value.int IntKind.i64 n_4, Value.int IntKind.i64 n_5, Value.int IntKind.i64 n_6]), tot', true⟩] E') else n * 4 ≤ List.length (Row.cells (Row.vals vs)) ∧ cap * 4 ≤ tot ∧ n ≤ cap ∧ req ((n + 1) * 32 ≤ 140737488355328) (∀ (cap' tot' : Nat), n + 1 ≤ cap' → cap' * 4 ≤ tot' → KK (B true) [⟨3, Row.lst [I ch], 1, true⟩, ⟨3, Row.lst [I fr], 1, true⟩, ⟨39, Row.lst [SV.slc 13 0 (n + 1) cap'], 1, true⟩, ⟨39, Row.lst [L base' (toN none rl - 1) (toN none rc - 1)], 1, true⟩, ⟨3, Row.lst [I ch], 1, true⟩, ⟨3, Row.lst [I sq], 1, true⟩, ⟨39, Row.lst [L bb bl bc], 1, true⟩, ⟨72, Row.lst [I ow.t, I ow.nx, I ow.sq, I ow.un], 4, true⟩, ⟨72, Row.lst [], 0, false⟩, ⟨72, Row.lst [I x.t, I ch, I x.sq, I (IntKind.wrap IntKind.i64 (fr + (3 : Int)))], 4, true⟩, ⟨72, Row.lst [], 0, false⟩, ⟨72, Row.lst [I n_3, I n_4, I n_5, I n_6], 4, true⟩, ⟨72, Row.lst [I x.t, I ch, I x.sq, I (IntKind.wrap IntKind.i64 (fr + (3 : Int)))], 4, true⟩, ⟨72, Row.vals (List.take (n * 4) vs ++ [Value.int IntKind.i64 x.t, Value.int IntKind.i64 ch, Value.int IntKind.i64 x.sq, Value.int IntKind.i64 (IntKind.wrap IntKind.i64 (fr + (3 : Int)))]), tot', true⟩] E') else n * 4 ≤ List.length (Row.cells (Row.vals vs)) ∧ cap * 4 ≤ tot ∧ n ≤ cap ∧ req ((n + 1) * 32 ≤ 140737488355328) (∀ (cap' tot' : Nat), n + 1 ≤ cap' → cap' * 4 ≤ tot' → KK (B true) [⟨3, Row.lst [I ch], 1, true⟩, ⟨3, Row.lst [I fr], 1, true⟩, ⟨39, Row.lst [SV.slc 13 0 (n + 1) cap'], 1, true⟩, ⟨39, Row.lst [L base' (toN none rl - 1) (toN none rc - 1)], 1, true⟩, ⟨3, Row.lst [I ch], 1, true⟩, ⟨3, Row.lst [I sq], 1, true⟩, ⟨39, Row.lst [L bb bl bc], 1, true⟩, ⟨72, Row.lst [I ow.t, I ow.nx, I ow.sq, I ow.un], 4, true⟩, ⟨72, Row.lst [], 0, false⟩, ⟨72, Row.lst [I x.t, I ch, I x.sq, I (IntKind.wrap IntKind.i64 (fr + (3 : Int)))], 4, true⟩, ⟨72, Row.lst [], 0, false⟩, ⟨72, Row.lst [I n_3, I n_4, I n_5, I n_6], 4, true⟩, ⟨72, Row.lst [I x.t, I ch, I x.sq, I (IntKind.wrap IntKind.i64 (fr + (3 : Int)))], 4, true⟩, ⟨72, Row.vals (List.take (n * 4) vs ++ [Value.int IntKind.i64 x.t, Value.int IntKind.i64 ch, Value.int IntKind.i64 x.sq, Value.int IntKind.i64 (IntKind.wrap IntKind.i64 (fr + (3 : Int)))]), tot', true⟩] E')))) else n * 4 ≤ List.length (Row.cells (Row.vals vs)) ∧ cap * 4 ≤ tot ∧ n ≤ cap ∧ req ((n + 1) * 32 ≤ 140737488355328) (∀ (cap' tot' : Nat), n + 1 ≤ cap' → cap' * 4 ≤ tot' → KK (B true) [⟨3, Row.lst [I ch], 1, true⟩, ⟨3, Row.lst [I fr], 1, true⟩, ⟨39, Row.lst [SV.slc 12 0 (n + 1) cap'], 1, true⟩, ⟨39, Row.lst [L rb rl rc], 1, true⟩, ⟨3, Row.lst [I ch], 1, true⟩, ⟨3, Row.lst [I sq], 1, true⟩, ⟨39, Row.lst [L bb bl bc], 1, true⟩, ⟨72, Row.lst [I ow.t, I ow.nx, I ow.sq, I ow.un], 4, true⟩, ⟨72, Row.lst [], 0, false⟩, ⟨72, Row.lst [I x.t, I ch, I x.sq, I (IntKind.wrap IntKind.i64 (fr + (3 : Int)))], 4, true⟩, ⟨72, Row.lst [], 0, false⟩, ⟨72, Row.lst [I x.t, I ch, I x.sq, I (IntKind.wrap IntKind.i64 (fr + (3 : Int)))], 4, true⟩, ⟨72, Row.vals (List.take (n * 4) vs ++ [Value.int IntKind.i64 x.t, Value.int IntKind.i64 ch, Value.int IntKind.i64 x.sq, Value.int IntKind.i64 (IntKind.wrap IntKind.i64 (fr + (3 : Int)))]), tot', true⟩] E)) else n * 4 ≤ List.length (Row.cells (Row.vals vs)) ∧ cap * 4 ≤ tot ∧ n ≤ cap ∧ req ((n + 1) * 32 ≤ 140737488355328) (∀ (cap' tot' : Nat), n + 1 ≤ cap' → cap' * 4 ≤ tot' → KK (B true) [⟨3, Row.lst [I ch], 1, true⟩, ⟨3, Row.lst [I fr], 1, true⟩, ⟨39, Row.lst [SV.slc 12 0 (n + 1) cap'], 1, true⟩, ⟨39, Row.lst [L rb rl rc], 1, true⟩, ⟨3, Row.lst [I ch], 1, true⟩, ⟨3, Row.lst [I sq], 1, true⟩, ⟨39, Row.lst [L bb bl bc], 1, true⟩, ⟨72, Row.lst [I ow.t, I ow.nx, I ow.sq, I ow.un], 4, true⟩, ⟨72, Row.lst [], 0, false⟩, ⟨72, Row.lst [I x.t, I ch, I x.sq, I (IntKind.wrap IntKind.i64 (fr + (3 : Int)))], 4, true⟩, ⟨72, Row.lst [], 0, false⟩, ⟨72, Row.lst [I x.t, I ch, I x.sq, I (IntKind.wrap IntKind.i64 (fr + (3 : Int)))], 4, true⟩, ⟨72, Row.vals (List.take (n * 4) vs ++ [Value.int IntKind.i64 x.t, Value.int IntKind.i64 ch, Value.int IntKind.i64 x.sq, Value.int IntKind.i64 (IntKind.wrap IntKind.i64 (fr + (3 : Int)))]), tot', true⟩] E))) else Sx.Alike (AlikeT.n AlikeT.l AlikeT.l) (bif decide ((↑rl : Int) > (0 : Int)) then req ((0 : Int) ≤ (0 : Int) ∧ (0 : Int) < (↑rl : Int)) ((∃ (cs : List Value), E (Value.slice rb rl rc) cs ∧ (cs = [] → False)) ∧ ∃ (n_1 : Int), LoadE N0.P E 3 (Value.slice rb rl rc) 0 (I n_1) ∧ bif bif true then n_1 == x.t else false then req ((0 : Int) ≤ (0 : Int) ∧ (0 : Int) < (↑rl : Int)) ((∃ (cs : List Value), E (Value.slice rb rl rc) cs ∧ (cs = [] → False)) ∧ ∃ (n_2 : Int), ∃ (n_3 : Int), ∃ (n_4 : Int), ∃ (n_5 : Int), LoadE N0.P E 72 (Value.slice rb rl rc) 0 (SV.agg [I n_2, I n_3, I n_4, I n_5]) ∧ req (rl ≤ rc) (req ((0 : Int) ≤ (1 : Int) ∧ (1 : Int) ≤ (↑(toN none rl) : Int)) (∀ (base' : Option Addr) (E' : Mem), Mem.le E E' → (∀ (cs : List Value), E (Value.slice rb rl rc) cs → E' (Value.slice base' (toN none rl - 1) (toN none rc - 1)) (List.take ((toN none rl - 1) * 4) (List.drop 4 cs))) → Option.isNone base' = Option.isNone rb → bif n_3 != ch then bif bif true then decide (n_4 ≥ x.sq) else false then n * 4 ≤ List.length (Row.cells (Row.vals vs)) ∧ cap * 4 ≤ tot ∧ n ≤ cap ∧ req ((n + 1) * 32 ≤ 140737488355328) (∀ (cap' tot' : Nat), n + 1 ≤ cap' → cap' * 4 ≤ tot' → KK (B true) [⟨3, Row.lst [I ch], 1, true⟩, ⟨3, Row.lst [I fr], 1, true⟩, ⟨39, Row.lst [SV.slc 13 0 (n + 1) cap'], 1, true⟩, ⟨39, Row.lst [L base' (toN none rl - 1) (toN none rc - 1)], 1, true⟩, ⟨3, Row.lst [I ch], 1, true⟩, ⟨3, Row.lst [I sq], 1, true⟩, ⟨39, Row.lst [L bb bl bc], 1, true⟩, ⟨72, Row.lst [I ow.t, I ow.nx, I ow.sq, I ow.un], 4, true⟩, ⟨72, Row.lst [], 0, false⟩, ⟨72, Row.lst [I x.t, I ch, I x.sq, I (IntKind.wrap IntKind.i64 (fr + (3 : Int)))], 4, true⟩, ⟨72, Row.lst [], 0, false⟩, ⟨72, Row.lst [I n_2, I n_3, I n_4, I n_5], 4, true⟩, ⟨72, Row.lst [I n_2, I n_3, I n_4, I n_5], 4, true⟩, ⟨72, Row.vals (List.take (n * 4) vs ++ [Value.int IntKind.i64 n_2, Value.int IntKind.i64 n_3, Value.int IntKind.i64 n_4, Value.int IntKind.i64 n_5]), tot', true⟩] E') else n * 4 ≤ List.length (Row.cells (Row.vals vs)) ∧ cap * 4 ≤ tot ∧ n ≤ cap ∧ req ((n + 1) * 32 ≤ 140737488355328) (∀ (cap' tot' : Nat), n + 1 ≤ cap' → cap' * 4 ≤ tot' → KK (B true) [⟨3, Row.lst [I ch], 1, true⟩, ⟨3, Row.lst [I fr], 1, true⟩, ⟨39, Row.lst [SV.slc 13 0 (n + 1) cap'], 1, true⟩, ⟨39, Row.lst [L base' (toN none rl - 1) (toN none rc - 1)], 1, true⟩, ⟨3, Row.lst [I ch], 1, true⟩, ⟨3, Row.lst [I sq], 1, true⟩, ⟨39, Row.lst [L bb bl bc], 1, true⟩, ⟨72, Row.lst [I ow.t, I ow.nx, I ow.sq, I ow.un], 4, true⟩, ⟨72, Row.lst [], 0, false⟩, ⟨72, Row.lst [I x.t, I ch, I x.sq, I (IntKind.wrap IntKind.i64 (fr + (3 : Int)))], 4, true⟩, ⟨72, Row.lst [], 0, false⟩, ⟨72, Row.lst [I n_2, I n_3, I n_4, I n_5], 4, true⟩, ⟨72, Row.lst [I x.t, I ch, I x.sq, I (IntKind.wrap IntKind.i64 (fr + (3 : Int)))], 4, true⟩, ⟨72, Row.vals (List.take (n * 4) vs ++ [Value.int IntKind.i64 x.t, Value.int IntKind.i64 ch, Value.int IntKind.i64 x.sq, Value.int IntKind.i64 (IntKind.wrap IntKind.i64 (fr + (3 : Int)))]), tot', true⟩] E') else n * 4 ≤ List.length (Row.cells (Row.vals vs)) ∧ cap * 4 ≤ tot ∧ n ≤ cap ∧ req ((n + 1) * 32 ≤ 140737488355328) (∀ (cap' tot' : Nat), n + 1 ≤ cap' → cap' * 4 ≤ tot' → KK (B true) [⟨3, Row.lst [I ch], 1, true⟩, ⟨3, Row.lst [I fr], 1, true⟩, ⟨39, Row.lst [SV.slc 13 0 (n + 1) cap'], 1, true⟩, ⟨39, Row.lst [L base' (toN none rl - 1) (toN none rc - 1)], 1, true⟩, ⟨3, Row.lst [I ch], 1, true⟩, ⟨3, Row.lst [I sq], 1, true⟩, ⟨39, Row.lst [L bb bl bc], 1, true⟩, ⟨72, Row.lst [I ow.t, I ow.nx, I ow.sq, I ow.un], 4, true⟩, ⟨72, Row.lst [], 0, false⟩, ⟨72, Row.lst [I x.t, I ch, I x.sq, I (IntKind.wrap IntKind.i64 (fr + (3 : Int)))], 4, true⟩, ⟨72, Row.lst [], 0, false⟩, ⟨72, Row.lst [I n_2, I n_3, I n_4, I n_5], 4, true⟩, ⟨72, Row.lst [I x.t, I ch, I x.sq, I (IntKind.wrap IntKind.i64 (fr + (3 : Int)))], 4, true⟩, ⟨72, Row.vals (List.take (n * 4) vs ++ [Value.int IntKind.i64 x.t, Value.int IntKind.i64 ch, Value.int IntKind.i64 x.sq, Value.int IntKind.i64 (IntKind.wrap IntKind.i64 (fr + (3 : Int)))]), tot', true⟩] E')))) else n * 4 ≤ List.length (Row.cells (Row.vals vs)) ∧ cap * 4 ≤ tot ∧ n ≤ cap ∧ req ((n + 1) * 32 ≤ 140737488355328) (∀ (cap' tot' : Nat), n + 1 ≤ cap' → cap' * 4 ≤ tot' → KK (B true) [⟨3, Row.lst [I ch], 1, true⟩, ⟨3, Row.lst [I fr], 1, true⟩, ⟨39, Row.lst [SV.slc 12 0 (n + 1) cap'], 1, true⟩, ⟨39, Row.lst [L rb rl rc], 1, true⟩, ⟨3, Row.lst [I ch], 1, true⟩, ⟨3, Row.lst [I sq], 1, true⟩, ⟨39, Row.lst [L bb bl bc], 1, true⟩, ⟨72, Row.lst [I ow.t, I ow.nx, I ow.sq, I ow.un], 4, true⟩, ⟨72, Row.lst [], 0, false⟩, ⟨72, Row.lst [I x.t, I ch, I x.sq, I (IntKind.wrap IntKind.i64 (fr + (3 : Int)))], 4, true⟩, ⟨72, Row.lst [], 0, false⟩, ⟨72, Row.lst [I x.t, I ch, I x.sq, I (IntKind.wrap IntKind.i64 (fr + (3 : Int)))], 4, true⟩, ⟨72, Row.vals (List.take (n * 4) vs ++ [Value.int IntKind.i64 x.t, Value.int IntKind.i64 ch, Value.int IntKind.i64 x.sq, Value.int IntKind.i64 (IntKind.wrap IntKind.i64 (fr + (3 : Int)))]), tot', true⟩] E)) else n * 4 ≤ List.length (Row.cells (Row.vals vs)) ∧ cap * 4 ≤ tot ∧ n ≤ cap ∧ req ((n + 1) * 32 ≤ 140737488355328) (∀ (cap' tot' : Nat), n + 1 ≤ cap' → cap' * 4 ≤ tot' → KK (B true) [⟨3, Row.lst [I ch], 1, true⟩, ⟨3, Row.lst [I fr], 1, true⟩, ⟨39, Row.lst [SV.slc 12 0 (n + 1) cap'], 1, true⟩, ⟨39, Row.lst [L rb rl rc], 1, true⟩, ⟨3, Row.lst [I ch], 1, true⟩, ⟨3, Row.lst [I sq], 1, true⟩, ⟨39, Row.lst [L bb bl bc], 1, true⟩, ⟨72, Row.lst [I ow.t, I ow.nx, I ow.sq, I ow.un], 4, true⟩, ⟨72, Row.lst [], 0, false⟩, ⟨72, Row.lst [I x.t, I ch, I x.sq, I (IntKind.wrap IntKind.i64 (fr + (3 : Int)))], 4, true⟩, ⟨72, Row.lst [], 0, false⟩, ⟨72, Row.lst [I x.t, I ch, I x.sq, I (IntKind.wrap IntKind.i64 (fr + (3 : Int)))], 4, true⟩, ⟨72, Row.vals (List.take (n * 4) vs ++ [Value.int IntKind.i64 x.t, Value.int IntKind.i64 ch, Value.int IntKind.i64 x.sq, Value.int IntKind.i64 (IntKind.wrap IntKind.i64 (fr + (3 : Int)))]), tot', true⟩] E)))
  have w3 : IntKind.wrap .i64 (fr + 3) = fr + 3 := wrap_i64 (by omega)
  have hl := R.len
  have a1 := O.hl
  have a1 : n * 4 ≤ (Row.cells (Row.vals vs)).length := by show n * 4 ≤ (vs.map SV.raw).length; rw [List.length_map]; exact a1
  have a2 := O.hc
  have a3 := O.ht
  rw [w3]
  cases rs with
  | nil =>
    have hz : rl = 0 := by simpa using hl.symm
    subst hz
    exact condC (fun g => absurd g (by simp)) (fun _ => alike (condC (fun g => absurd g (by simp)) (fun _ => ⟨a1, a3, a2, req_intro (by omega) fun cap' tot' c1 c2 => hQ (.inl rfl) _ _ cap' tot' c1 c2⟩)))
  | cons y ys =>
    have h1 : 0 < rl := by rw [← hl]; simp
    have gp : decide ((rl : Int) > 0) = true := by simp; omega
    have rq : (0 : Int) ≤ 0 ∧ (0 : Int) < (rl : Int) := ⟨by decide, by omega⟩
    have ne := R.ne okDw h1
    have c0 : LoadE Tryd.prog E 3 (.slice rb rl rc) 0 (I y.t) := Dw.cell (i := 0) (j := 0) R rfl (by decide) rfl
    have cw : LoadE Tryd.prog E 72 (.slice rb rl rc) 0 (.agg [I y.t, I y.nx, I y.sq, I y.un]) := Dw.load (i := 0) R rfl
    have rc1 := R.cap
    have t1 : (1 : Int) ≤ ((toN none rl : Nat) : Int) := by show (1 : Int) ≤ (rl : Int); omega
    by_cases q : y.t < x.t
    · have fin : ∀ (base' : Option Addr) (E' : Mem), Mem.le E E' → (∀ cs, E (.slice rb rl rc) cs → E' (.slice base' (rl - 1) (rc - 1)) (List.take ((rl - 1) * 4) (List.drop 4 cs))) → base'.isNone = rb.isNone → ∀ cap' tot' : Nat, n + 1 ≤ cap' → cap' * 4 ≤ tot' → Lr N0 8 Tryd.f11 [1, 0, 1, 1, 1, 1, 1, 0, 1, 0] [0, 0, 0] 9 KK (sC1 ch fr sq bb bl bc ow x base' (rl - 1) (rc - 1) (n + 1) cap' tot' (List.take (n * 4) vs ++ [.int .i64 y.t, .int .i64 y.nx, .int .i64 y.sq, .int .i64 y.un]) E') := fun base' E' k1 k2 k3 cap' tot' c1 c2 => ih y ys rfl q base' _ cap' tot' _ E' k1 (Dw.tail R k1 k2 k3) (O.snoc y c1 c2)
      refine condC (fun _ => req_intro rq ⟨ne, y.t, c0, condC (fun _ => req_intro rq ⟨ne, _, _, _, _, cw, ⟨⟨a1, a3, a2, req_intro (by omega) fun cap' tot' c1 c2 => alike (req_intro rc1 (req_intro ⟨by decide, t1⟩ fun base' E' k1 k2 k3 => ?_))⟩, req_intro rc1 (req_intro ⟨by decide, t1⟩ fun base' E' k1 k2 k3 => ⟨a1, a3, a2, req_intro (by omega) fun cap' tot' c1 c2 => ?_⟩)⟩, req_intro rc1 (req_intro ⟨by decide, t1⟩ fun base' E' k1 k2 k3 => ⟨a1, a3, a2, req_intro (by omega) fun cap' tot' c1 c2 => ?_⟩)⟩) (fun g => absurd g (by simp [q]))⟩) (fun g => absurd gp (by rw [g]; decide))
      all_goals exact Lr_re [some 0, some 1, some 2, some 3, some 4, some 5, some 6, some 7, some 8, some 9, some 12] (fin base' E' k1 k2 k3 cap' tot' c1 c2) ⟨⟨by first | (simp; done) | (simp [St.pub]; done), by first | (simp; done) | (simp [St.pub]; done), fun j h => (by have e : j = 0 ∨ j = 1 ∨ j = 2 ∨ j = 3 ∨ j = 4 ∨ j = 5 ∨ j = 6 ∨ j = 7 ∨ j = 8 := (by omega); rcases e with rfl | rfl | rfl | rfl | rfl | rfl | rfl | rfl | rfl <;> rfl)⟩, rfl, (by repeat' first | exact True.intro | refine And.intro (Or.inl rfl) ?_ | refine And.intro (Or.inr ⟨rfl, rfl⟩) ?_), (by repeat' first | exact True.intro | exact rfl | exact Or.inl rfl | exact (by decide : 8 < 13) | refine And.intro ?_ ?_), (show List.Nodup [0, 1, 2, 3, 4, 5, 6, 7, 9, 12] from by decide), Mem.le_refl _⟩
    · have nq : ¬ y.t = x.t := hne y (by simp)
      exact condC (fun _ => req_intro rq ⟨ne, y.t, c0, condC (fun g => absurd g (by simp [q])) (fun _ => alike (condC (fun _ => req_intro rq ⟨ne, y.t, c0, condC (fun g => absurd g (by simp [nq])) (fun _ => ⟨a1, a3, a2, req_intro (by omega) fun cap' tot' c1 c2 => hQ (.inr ⟨y, ys, rfl, q⟩) _ _ cap' tot' c1 c2⟩)⟩) (fun g => absurd gp (by rw [g]; decide))))⟩) (fun g => absurd gp (by rw [g]; decide))
def sC0 (ch fr sq : Int) (bb : Option Addr) (bl bc : Nat) (ow : Dn) (x : Dn) (rb : Option Addr) (rl rc n cap tot : Nat) (vs : List Value) (E : Mem) : St := ⟨fr11C, [⟨3, .lst [I ch], 1, true⟩, ⟨3, .lst [I fr], 1, true⟩, ⟨39, .lst [.slc 8 0 n cap], 1, true⟩, ⟨39, .lst [L rb rl rc], 1, true⟩, ⟨3, .lst [I ch], 1, true⟩, ⟨3, .lst [I sq], 1, true⟩, ⟨39, .lst [L bb bl bc], 1, true⟩, ⟨72, .lst [I ow.t, I ow.nx, I ow.sq, I ow.un], 4, true⟩, ⟨72, .vals vs, tot, true⟩, ⟨72, .lst [I x.t, I x.nx, I x.sq, I x.un], 4, true⟩], E⟩
theorem rC0 {ch fr sq : Int} {bb : Option Addr} {bl bc : Nat} {ow : Dn} {x : Dn} {rb : Option Addr} {rl rc n cap tot : Nat} {vs : List Value} {KK : KT} {rs os : List Dn} (R : SL Dw E rb rl rc rs) (O : OutV os n cap tot vs) (hs : rl + n ≤ 900) (hne : ∀ y ∈ rs, y.t ≠ x.t) (hfr : 0 ≤ fr ∧ fr ≤ 1000)
    (ih : ∀ y ys, rs = y :: ys → y.t < x.t → ∀ (b' : Option Addr) (c' cap' tot' : Nat) (vs' : List Value) (E' : Mem), Mem.le E E' → SL Dw E' b' (rl - 1) c' ys → OutV (os ++ [y]) (n + 1) cap' tot' vs' → Lr N0 8 Tryd.f11 [1, 0, 1, 1, 1, 1, 1, 0, 1, 0] [0, 0, 0] 9 KK (sC1 ch fr sq bb bl bc ow x b' (rl - 1) c' (n + 1) cap' tot' vs' E'))
    (hQ : (rs = [] ∨ ∃ y ys, rs = y :: ys ∧ ¬ y.t < x.t) → ∀ (B1 B2 : Box) (cap' tot' : Nat), n + 1 ≤ cap' → cap' * 4 ≤ tot' → KK (B true) [⟨3, .lst [I ch], 1, true⟩, ⟨3, .lst [I fr], 1, true⟩, ⟨39, .lst [.slc 11 0 (n + 1) cap'], 1, true⟩, ⟨39, .lst [L rb rl rc], 1, true⟩, ⟨3, .lst [I ch], 1, true⟩, ⟨3, .lst [I sq], 1, true⟩, ⟨39, .lst [L bb bl bc], 1, true⟩, ⟨72, .lst [I ow.t, I ow.nx, I ow.sq, I ow.un], 4, true⟩, ⟨72, .lst [], 0, false⟩, B1, B2, ⟨72, .vals (List.take (n * 4) vs ++ [.int .i64 x.t, .int .i64 ch, .int .i64 x.sq, .int .i64 (fr + 3)]), tot', true⟩] E) : Rr N0 8 Tryd.f11 [1, 0, 1, 1, 1, 1, 1, 0, 1, 0] [0, 0, 0] 9 KK (sC0 ch fr sq bb bl bc ow x rb rl rc n cap tot vs E) := by
  refine same (by kernel_rfl) (?_ : bif decide ((↑rl : Int) > (0 : Int)) then req ((0 : Int) ≤ (0 : Int) ∧ (0 : Int) < (↑rl : Int)) ((∃ (cs : List Value), E (Value.slice rb rl rc) cs ∧ (cs = [] → False)) ∧ ∃ (n_1 : Int), LoadE N0.P E 3 (Value.slice rb rl rc) 0 (I n_1) ∧ bif bif true then decide (n_1 < x.t) else false then req ((0 : Int) ≤ (0 : Int) ∧ (0 : Int) < (↑rl : Int)) ((∃ (cs : List Value), E (Value.slice rb rl rc) cs ∧ (cs = [] → False)) ∧ ∃ (n_2 : Int), ∃ (n_3 : Int), ∃ (n_4 : Int), ∃ (n_5 : Int), LoadE N0.P E 72 (Value.slice rb rl rc) 0 (SV.agg [I n_2, I n_3, I n_4, I n_5]) ∧ ((n * 4 ≤ List.length (Row.cells (Row.vals vs)) ∧ cap * 4 ≤ tot ∧ n ≤ cap ∧ req ((n + 1) * 32 ≤ 140737488355328) (∀ (cap' tot' : Nat), n + 1 ≤ cap' → cap' * 4 ≤ tot' → Sx.Alike (AlikeT.n AlikeT.l AlikeT.l) (req (rl ≤ rc) (req ((0 : Int) ≤ (1 : Int) ∧ (1 : Int) ≤ (↑(toN none rl) : Int)) (∀ (base' : Option Addr) (E' : Mem), Mem.le E E' → (∀ (cs : List Value), E (Value.slice rb rl rc) cs → E' (Value.slice base' (toN none rl - 1) (toN none rc - 1)) (List.take ((toN none rl - 1) * 4) (List.drop 4 cs))) → Option.isNone base' = Option.isNone rb → Lr N0 8 Tryd.f11 [1, 0, 1, 1, 1, 1, 1, 0, 1, 0] [0, 0, 0] 9 KK { fr := [none, none, none, none, none, none, some (SV.loc 0 0), none, none, some (SV.loc 1 0), none, none, none, some (SV.loc 2 0), some (SV.loc 3 0), some (SV.loc 9 0), none, none, none, none, none, none, none, none, none, none, none, none, none, none, none, none, none, none, none, none, none, none, none, none, none, none, none, none, none, none, none, none, none, none, none, none, none, none, none, none, some (SV.clo 50 [] [SV.loc 4 0, SV.loc 5 0, SV.loc 6 0]), none, none, none, none, none, none, none, none, none, none, none, none, none, none, none, none, none, none, none, none, none, none, none, none, none, none, none, none, none, none, none, none, none, none, none, none, none, none, none, none, none, none, none, none, none, none, none, none, none, none, none, none, none, none, none, none, none, none, none, none, none, none, none, none, none], bx := [(⟨3, Row.lst [I ch], 1, true⟩ : Box), ⟨3, Row.lst [I fr], 1, true⟩, ⟨39, Row.lst [SV.slc 11 0 (n + 1) cap'], 1, true⟩, ⟨39, Row.lst [L base' (toN none rl - 1) (toN none rc - 1)], 1, true⟩, ⟨3, Row.lst [I ch], 1, true⟩, ⟨3, Row.lst [I sq], 1, true⟩, ⟨39, Row.lst [L bb bl bc], 1, true⟩, ⟨72, Row.lst [I ow.t, I ow.nx, I ow.sq, I ow.un], 4, true⟩, ⟨72, Row.lst [], 0, false⟩, ⟨72, Row.lst [I x.t, I x.nx, I x.sq, I x.un], 4, true⟩, ⟨72, Row.lst [I n_2, I n_3, I n_4, I n_5], 4, true⟩, ⟨72, Row.vals (List.take (n * 4) vs ++ [Value.int IntKind.i64 n_2, Value.int IntKind.i64 n_3, Value.int IntKind.i64 n_4, Value.int IntKind.i64 n_5]), tot', true⟩], E := E' : St }))))) ∧ req (rl ≤ rc) (req ((0 : Int) ≤ (1 : Int) ∧ (1 : Int) ≤ (↑(toN none rl) : Int)) (∀ (base' : Option Addr) (E' : Mem), Mem.le E E' → (∀ (cs : List Value), E (Value.slice rb rl rc) cs → E' (Value.slice base' (toN none rl - 1) (toN none rc - 1)) (List.take ((toN none rl - 1) * 4) (List.drop 4 cs))) → Option.isNone base' = Option.isNone rb → n * 4 ≤ List.length (Row.cells (Row.vals vs)) ∧ cap * 4 ≤ tot ∧ n ≤ cap ∧ req ((n + 1) * 32 ≤ 140737488355328) (∀ (cap' tot' : Nat), n + 1 ≤ cap' → cap' * 4 ≤ tot' → Lr N0 8 Tryd.f11 [1, 0, 1, 1, 1, 1, 1, 0, 1, 0] [0, 0, 0] 9 KK { fr := [none, none, none, none, none, none, some (SV.loc 0 0), none, none, some (SV.loc 1 0), none, none, none, some (SV.loc 2 0), some (SV.loc 3 0), some (SV.loc 9 0), none, none, none, none, none, none, none, none, none, none, none, none, none, none, none, none, none, none, none, none, none, none, none, none, none, none, none, none, none, none, none, none, none, none, none, none, none, none, none, none, some (SV.clo 50 [] [SV.loc 4 0, SV.loc 5 0, SV.loc 6 0]), none, none, none, none, none, none, none, none, none, none, none, none, none, none, none, none, none, none, none, none, none, none, none, none, none, none, none, none, none, none, none, none, none, none, none, none, none, none, none, none, none, none, none, none, none, none, none, none, none, none, none, none, none, none, none, none, none, none, none, none, none, none, none, none, none], bx := [(⟨3, Row.lst [I ch], 1, true⟩ : Box), ⟨3, Row.lst [I fr], 1, true⟩, ⟨39, Row.lst [SV.slc 11 0 (n + 1) cap'], 1, true⟩, ⟨39, Row.lst [L base' (toN none rl - 1) (toN none rc - 1)], 1, true⟩, ⟨3, Row.lst [I ch], 1, true⟩, ⟨3, Row.lst [I sq], 1, true⟩, ⟨39, Row.lst [L bb bl bc], 1, true⟩, ⟨72, Row.lst [I ow.t, I ow.nx, I ow.sq, I ow.un], 4, true⟩, ⟨72, Row.lst [], 0, false⟩, ⟨72, Row.lst [I x.t, I x.nx, I x.sq, I x.un], 4, true⟩, ⟨72, Row.lst [I n_2, I n_3, I n_4, I n_5], 4, true⟩, ⟨72, Row.vals (List.take (n * 4) vs ++ [Value.int IntKind.i64 n_2, Value.int IntKind.i64 n_3, Value.int IntKind.i64 n_4, Value.int IntKind.i64 n_5]), tot', true⟩], E := E' : St })))) ∧ req (rl ≤ rc) (req ((0 : Int) ≤ (1 : Int) ∧ (1 : Int) ≤ (↑(toN none rl) : Int)) (∀ (base' : Option Addr) (E' : Mem), Mem.le E E' → (∀ (cs : List Value), E (Value.slice rb rl rc) cs → E' (Value.slice base' (toN none rl - 1) (toN none rc - 1)) (List.take ((toN none rl - 1) * 4) (List.drop 4 cs))) → Option.isNone base' = Option.isNone rb → n * 4 ≤ List.length (Row.cells (Row.vals vs)) ∧ cap * 4 ≤ tot ∧ n ≤ cap ∧ req ((n + 1) * 32 ≤ 140737488355328) (∀ (cap' tot' : Nat), n + 1 ≤ cap' → cap' * 4 ≤ tot' → Lr N0 8 Tryd.f11 [1, 0, 1, 1, 1, 1, 1, 0, 1, 0] [0, 0, 0] 9 KK { fr := [none, none, none, none, none, none, some (SV.loc 0 0), none, none, some (SV.loc 1 0), none, none, none, some (SV.loc 2 0), some (SV.loc 3 0), some (SV.loc 9 0), none, none, none, none, none, none, none, none, none, none, none, none, none, none, none, none, none, none, none, none, none, none, none, none, none, none, none, none, none, none, none, none, none, none, none, none, none, none, none, none, some (SV.clo 50 [] [SV.loc 4 0, SV.loc 5 0, SV.loc 6 0]), none, none, none, none, none, none, none, none, none, none, none, none, none, none, none, none, none, none, none, none, none, none, none, none, none, none, none, none, none, none, none, none, none, none, none, none, none, none, none, none, none, none, none, none, none, none, none, none, none, none, none, none, none, none, none, none, none, none, none, none, none, none, none, none, none], bx := [(⟨3, Row.lst [I ch], 1, true⟩ : Box), ⟨3, Row.lst [I fr], 1, true⟩, ⟨39, Row.lst [SV.slc 11 0 (n + 1) cap'], 1, true⟩, ⟨39, Row.lst [L base' (toN none rl - 1) (toN none rc - 1)], 1, true⟩, ⟨3, Row.lst [I ch], 1, true⟩, ⟨3, Row.lst [I sq], 1, true⟩, ⟨39, Row.lst [L bb bl bc], 1, true⟩, ⟨72, Row.lst [I ow.t, I ow.nx, I ow.sq, I ow.un], 4, true⟩, ⟨72, Row.lst [], 0, false⟩, ⟨72, Row.lst [I x.t, I x.nx, I x.sq, I x.un], 4, true⟩, ⟨72, Row.lst [I n_2, I n_3, I n_4, I n_5], 4, true⟩, ⟨72, Row.vals (List.take (n * 4) vs ++ [Value.int IntKind.i64 n_2, Value.int IntKind.i64 n_3, Value.int IntKind.i64 n_4, Value.int IntKind.i64 n_5]), tot', true⟩], E := E' : St })))) else Sx.Alike (AlikeT.n AlikeT.l AlikeT.l) (bif decide ((↑rl : Int) > (0 : Int)) then req ((0 : Int) ≤ (0 : Int) ∧ (0 : Int) < (↑rl : Int)) ((∃ (cs : List Value), E (Value.slice rb rl rc) cs ∧ (cs = [] → False)) ∧ ∃ (n_2 : Int), LoadE N0.P E 3 (Value.slice rb rl rc) 0 (I n_2) ∧ bif bif true then n_2 == x.t else false then req ((0 : Int) ≤ (0 : Int) ∧ (0 : Int) < (↑rl : Int)) ((∃ (cs : List Value), E (Value.slice rb rl rc) cs ∧ (cs = [] → False)) ∧ ∃ (n_3 : Int), ∃ (n_4 : Int), ∃ (n_5 : Int), ∃ (n_6 : Int), LoadE N0.P E 72 (Value.slice rb rl rc) 0 (SV.agg [I n_3, I n_4, I n_5, I n_6]) ∧ req (rl ≤ rc) (req ((0 : Int) ≤ (1 : Int) ∧ (1 : Int) ≤ (↑(toN none rl) : Int)) (∀ (base' : Option Addr) (E' : Mem), Mem.le E E' → (∀ (cs : List Value), E (Value.slice rb rl rc) cs → E' (Value.slice base' (toN none rl - 1) (toN none rc - 1)) (List.take ((toN none rl - 1) * 4) (List.drop 4 cs))) → Option.isNone base' = Option.isNone rb → bif n_4 != ch then bif bif true then decide (n_5 ≥ x.sq) else false then n * 4 ≤ List.length (Row.cells (Row.vals vs)) ∧ cap * 4 ≤ tot ∧ n ≤ cap ∧ req ((n + 1) * 32 ≤ 140737488355328) (∀ (cap' tot' : Nat), n + 1 ≤ cap' → cap' * 4 ≤ tot' → KK (B true) [⟨3, Row.lst [I ch], 1, true⟩, ⟨3, Row.lst [I fr], 1, true⟩, ⟨39, Row.lst [SV.slc 12 0 (n + 1) cap'], 1, true⟩, ⟨39, Row.lst [L base' (toN none rl - 1) (toN none rc - 1)], 1, true⟩, ⟨3, Row.lst [I ch], 1, true⟩, ⟨3, Row.lst [I sq], 1, true⟩, ⟨39, Row.lst [L bb bl bc], 1, true⟩, ⟨72, Row.lst [I ow.t, I ow.nx, I ow.sq, I ow.un], 4, true⟩, ⟨72, Row.lst [], 0, false⟩, ⟨72, Row.lst [I x.t, I ch, I x.sq, I (IntKind.wrap IntKind.i64 (fr + (3 : Int)))], 4, true⟩, ⟨72, Row.lst [I n_3, I n_4, I n_5, I n_6], 4, true⟩, ⟨72, Row.lst [I n_3, I n_4, I n_5, I n_6], 4, true⟩, ⟨72, Row.vals (List.take (n * 4) vs ++ [Value.int IntKind.i64 n_3, Value.int IntKind.i64 n_4, Value.int IntKind.i64 n_5, Value.int IntKind.i64 n_6]), tot', true⟩] E') else n * 4 ≤ List.length (Row.cells (Row.vals vs)) ∧ cap * 4 ≤ tot ∧ n ≤ cap ∧ req ((n + 1) * 32 ≤ 140737488355328) (∀ (cap' tot' : Nat), n + 1 ≤ cap' → cap' * 4 ≤ tot' → KK (B true) [⟨3, Row.lst [I ch], 1, true⟩, ⟨3, Row.lst [I fr], 1, true⟩, ⟨39, Row.lst [SV.slc 12 0 (n + 1) cap'], 1, true⟩, ⟨39, Row.lst [L base' (toN none rl - 1) (toN none rc - 1)], 1, true⟩, ⟨3, Row.lst [I ch], 1, true⟩, ⟨3, Row.lst [I sq], 1, true⟩, ⟨39, Row.lst [L bb bl bc], 1, true⟩, ⟨72, Row.lst [I ow.t, I ow.nx, I ow.sq, I ow.un], 4, true⟩, ⟨72, Row.lst [], 0, false⟩, ⟨72, Row.lst [I x.t, I ch, I x.sq, I (IntKind.wrap IntKind.i64 (fr + (3 : Int)))], 4, true⟩, ⟨72, Row.lst [I n_3, I n_4, I n_5, I n_6], 4, true⟩, ⟨72, Row.lst [I x.t, I ch, I x.sq, I (IntKind.wrap IntKind.i64 (fr + (3 : Int)))], 4, true⟩, ⟨72, Row.vals (List.take (n * 4) vs ++ [Value.int IntKind.i64 x.t, Value.int IntKind.i64 ch, Value.int IntKind.i64 x.sq, Value.int IntKind.i64 (IntKind.wrap IntKind.i64 (fr + (3 : Int)))]), tot', true⟩] E') else n * 4 ≤ List.length (Row.cells (Row.vals vs)) ∧ cap * 4 ≤ tot ∧ n ≤ cap ∧ req ((n + 1) * 32 ≤ 140737488355328) (∀ (cap' tot' : Nat), n + 1 ≤ cap' → cap' * 4 ≤ tot' → KK (B true) [⟨3, Row.lst [I ch], 1, true⟩, ⟨3, Row.lst [I fr], 1, true⟩, ⟨39, Row.lst [SV.slc 12 0 (n + 1) cap'], 1, true⟩, ⟨39, Row.lst [L base' (toN none rl - 1) (toN none rc - 1)], 1, true⟩, ⟨3, Row.lst [I ch], 1, true⟩, ⟨3, Row.lst [I sq], 1, true⟩, ⟨39, Row.lst [L bb bl bc], 1, true⟩, ⟨72, Row.lst [I ow.t, I ow.nx, I ow.sq, I ow.un], 4, true⟩, ⟨72, Row.lst [], 0, false⟩, ⟨72, Row.lst [I x.t, I ch, I x.sq, I (IntKind.wrap IntKind.i64 (fr + (3 : Int)))], 4, true⟩, ⟨72, Row.lst [I n_3, I n_4, I n_5, I n_6], 4, true⟩, ⟨72, Row.lst [I x.t, I ch, I x.sq, I (IntKind.wrap IntKind.i64 (fr + (3 : Int)))], 4, true⟩, ⟨72, Row.vals (List.take (n * 4) vs ++ [Value.int IntKind.i64 x.t, Value.int IntKind.i64 ch, Value.int IntKind.i64 x.sq, Value.int IntKind.i64 (IntKind.wrap IntKind.i64 (fr + (3 : Int)))]), tot', true⟩] E')))) else n * 4 ≤ List.length (Row.cells (Row.vals vs)) ∧ cap * 4 ≤ tot ∧ n ≤ cap ∧ req ((n + 1) * 32 ≤ 140737488355328) (∀ (cap' tot' : Nat), n + 1 ≤ cap' → cap' * 4 ≤ tot' → KK (B true) [⟨3, Row.lst [I ch], 1, true⟩, ⟨3, Row.lst [I fr], 1, true⟩, ⟨39, Row.lst [SV.slc 11 0 (n + 1) cap'], 1, true⟩, ⟨39, Row.lst [L rb rl rc], 1, true⟩, ⟨3, Row.lst [I ch], 1, true⟩, ⟨3, Row.lst [I sq], 1, true⟩, ⟨39, Row.lst [L bb bl bc], 1, true⟩, ⟨72, Row.lst [I ow.t, I ow.nx, I ow.sq, I ow.un], 4, true⟩, ⟨72, Row.lst [], 0, false⟩, ⟨72, Row.lst [I x.t, I ch, I x.sq, I (IntKind.wrap IntKind.i64 (fr + (3 : Int)))], 4, true⟩, ⟨72, Row.lst [I x.t, I ch, I x.sq, I (IntKind.wrap IntKind.i64 (fr + (3 : Int)))], 4, true⟩, ⟨72, Row.vals (List.take (n * 4) vs ++ [Value.int IntKind.i64 x.t, Value.int IntKind.i64 ch, Value.int IntKind.i64 x.sq, Value.int IntKind.i64 (IntKind.wrap IntKind.i64 (fr + (3 : Int)))]), tot', true⟩] E)) else n * 4 ≤ List.length (Row.cells (Row.vals vs)) ∧ cap * 4 ≤ tot ∧ n ≤ cap ∧ req ((n + 1) * 32 ≤ 140737488355328) (∀ (cap' tot' : Nat), n + 1 ≤ cap' → cap' * 4 ≤ tot' → KK (B true) [⟨3, Row.lst [I ch], 1, true⟩, ⟨3, Row.lst [I fr], 1, true⟩, ⟨39, Row.lst [SV.slc 11 0 (n + 1) cap'], 1, true⟩, ⟨39, Row.lst [L rb rl rc], 1, true⟩, ⟨3, Row.lst [I ch], 1, true⟩, ⟨3, Row.lst [I sq], 1, true⟩, ⟨39, Row.lst [L bb bl bc], 1, true⟩, ⟨72, Row.lst [I ow.t, I ow.nx, I ow.sq, I ow.un], 4, true⟩, ⟨72, Row.lst [], 0, false⟩, ⟨72, Row.lst [I x.t, I ch, I x.sq, I (IntKind.wrap IntKind.i64 (fr + (3 : Int)))], 4, true⟩, ⟨72, Row.lst [I x.t, I ch, I x.sq, I (IntKind.wrap IntKind.i64 (fr + (3 : Int)))], 4, true⟩, ⟨72, Row.vals (List.take (n * 4) vs ++ [Value.int IntKind.i64 x.t, Value.int IntKind.i64 ch, Value.int IntKind.i64 x.sq, Value.int IntKind.i64 (IntKind.wrap IntKind.i64 (fr + (3 : Int)))]), tot', true⟩] E))) else Sx.Alike (AlikeT.n AlikeT.l AlikeT.l) (bif decide ((↑rl : Int) > (0 : Int)) then req ((0 : Int) ≤ (0 : Int) ∧ (0 : Int) < (↑rl : Int)) ((∃ (cs : List Value), E (Value.slice rb rl rc) cs ∧ (cs = [] → False)) ∧ ∃ (n_1 : Int), LoadE N0.P E 3 (Value.slice rb rl rc) 0 (I n_1) ∧ bif bif true then n_1 == x.t else false then req ((0 : Int) ≤ (0 : Int) ∧ (0 : Int) < (↑rl : Int)) ((∃ (cs : List Value), E (Value.slice rb rl rc) cs ∧ (cs = [] → False)) ∧ ∃ (n_2 : Int), ∃ (n_3 : Int), ∃ (n_4 : Int), ∃ (n_5 : Int), LoadE N0.P E 72 (Value.slice rb rl rc) 0 (SV.agg [I n_2, I n_3, I n_4, I n_5]) ∧ req (rl ≤ rc) (req ((0 : Int) ≤ (1 : Int) ∧ (1 : Int) ≤ (↑(toN none rl) : Int)) (∀ (base' : Option Addr) (E' : Mem), Mem.le E E' → (∀ (cs : List Value), E (Value.slice rb rl rc) cs → E' (Value.slice base' (toN none rl - 1) (toN none rc - 1)) (List.take ((toN none rl - 1) * 4) (List.drop 4 cs))) → Option.isNone base' = Option.isNone rb → bif n_3 != ch then bif bif true then decide (n_4 ≥ x.sq) else false then n * 4 ≤ List.length (Row.cells (Row.vals vs)) ∧ cap * 4 ≤ tot ∧ n ≤ cap ∧ req ((n + 1) * 32 ≤ 140737488355328) (∀ (cap' tot' : Nat), n + 1 ≤ cap' → cap' * 4 ≤ tot' → KK (B true) [⟨3, Row.lst [I ch], 1, true⟩, ⟨3, Row.lst [I fr], 1, true⟩, ⟨39, Row.lst [SV.slc 12 0 (n + 1) cap'], 1, true⟩, ⟨39, Row.lst [L base' (toN none rl - 1) (toN none rc - 1)], 1, true⟩, ⟨3, Row.lst [I ch], 1, true⟩, ⟨3, Row.lst [I sq], 1, true⟩, ⟨39, Row.lst [L bb bl bc], 1, true⟩, ⟨72, Row.lst [I ow.t, I ow.nx, I ow.sq, I ow.un], 4, true⟩, ⟨72, Row.lst [], 0, false⟩, ⟨72, Row.lst [I x.t, I ch, I x.sq, I (IntKind.wrap IntKind.i64 (fr + (3 : Int)))], 4, true⟩, ⟨72, Row.lst [I n_2, I n_3, I n_4, I n_5], 4, true⟩, ⟨72, Row.lst [I n_2, I n_3, I n_4, I n_5], 4, true⟩, ⟨72, Row.vals (List.take (n * 4) vs ++ [Value.int IntKind.i64 n_2, Value.int IntKind.i64 n_3, Value.int IntKind.i64 n_4, Value.int IntKind.i64 n_5]), tot', true⟩] E') else n * 4 ≤ List.length (Row.cells (Row.vals vs)) ∧ cap * 4 ≤ tot ∧ n ≤ cap ∧ req ((n + 1) * 32 ≤ 140737488355328) (∀ (cap' tot' : Nat), n + 1 ≤ cap' → cap' * 4 ≤ tot' → KK (B true) [⟨3, Row.lst [I ch], 1, true⟩, ⟨3, Row.lst [I fr], 1, true⟩, ⟨39, Row.lst [SV.slc 12 0 (n + 1) cap'], 1, true⟩, ⟨39, Row.lst [L base' (toN none rl - 1) (toN none rc - 1)], 1, true⟩, ⟨3, Row.lst [I ch], 1, true⟩, ⟨3, Row.lst [I sq], 1, true⟩, ⟨39, Row.lst [L bb bl bc], 1, true⟩, ⟨72, Row.lst [I ow.t, I ow.nx, I ow.sq, I ow.un], 4, true⟩, ⟨72, Row.lst [], 0, false⟩, ⟨72, Row.lst [I x.t, I ch, I x.sq, I (IntKind.wrap IntKind.i64 (fr + (3 : Int)))], 4, true⟩, ⟨72, Row.lst [I n_2, I n_3, I n_4, I n_5], 4, true⟩, ⟨72, Row.lst [I x.t, I ch, I x.sq, I (IntKind.wrap IntKind.i64 (fr + (3 : Int)))], 4, true⟩, ⟨72, Row.vals (List.take (n * 4) vs ++ [Value.int IntKind.i64 x.t, Value.int IntKind.i64 ch, Value.int IntKind.i64 x.sq, Value.int IntKind.i64 (IntKind.wrap IntKind.i64 (fr + (3 : Int)))]), tot', true⟩] E') else n * 4 ≤ List.length (Row.cells (Row.vals vs)) ∧ cap * 4 ≤ tot ∧ n ≤ cap ∧ req ((n + 1) * 32 ≤ 140737488355328) (∀ (cap' tot' : Nat), n + 1 ≤ cap' → cap' * 4 ≤ tot' → KK (B true) [⟨3, Row.lst [I ch], 1, true⟩, ⟨3, Row.lst [I fr], 1, true⟩, ⟨39, Row.lst [SV.slc 12 0 (n + 1) cap'], 1, true⟩, ⟨39, Row.lst [L base' (toN none rl - 1) (toN none rc - 1)], 1, true⟩, ⟨3, Row.lst [I ch], 1, true⟩, ⟨3, Row.lst [I sq], 1, true⟩, ⟨39, Row.lst [L bb bl bc], 1, true⟩, ⟨72, Row.lst [I ow.t, I ow.nx, I ow.sq, I ow.un], 4, true⟩, ⟨72, Row.lst [], 0, false⟩, ⟨72, Row.lst [I x.t, I ch, I x.sq, I (IntKind.wrap IntKind.i64 (fr + (3 : Int)))], 4, true⟩, ⟨72, Row.lst [I n_2, I n_3, I n_4, I n_5], 4, true⟩, ⟨72, Row.lst [I x.t, I ch, I x.sq, I (IntKind.wrap IntKind.i64 (fr + (3 : Int)))], 4, true⟩, ⟨72, Row.vals (List.take (n * 4) vs ++ [Value.int IntKind.i64 x.t, Value.int IntKind.i64 ch, Value.int IntKind.i64 x.sq, Value.int IntKind.i64 (IntKind.wrap IntKind.i64 (fr + (3 : Int)))]), tot', true⟩] E')))) else n * 4 ≤ List.length (Row.cells (Row.vals vs)) ∧ cap * 4 ≤ tot ∧ n ≤ cap ∧ req ((n + 1) * 32 ≤ 140737488355328) (∀ (cap' tot' : Nat), n + 1 ≤ cap' → cap' * 4 ≤ tot' → KK (B true) [⟨3, Row.lst [I ch], 1, true⟩, ⟨3, Row.lst [I fr], 1, true⟩, ⟨39, Row.lst [SV.slc 11 0 (n + 1) cap'], 1, true⟩, ⟨39, Row.lst [L rb rl rc], 1, true⟩, ⟨3, Row.lst [I ch], 1, true⟩, ⟨3, Row.lst [I sq], 1, true⟩, ⟨39, Row.lst [L bb bl bc], 1, true⟩, ⟨72, Row.lst [I ow.t, I ow.nx, I ow.sq, I ow.un], 4, true⟩, ⟨72, Row.lst [], 0, false⟩, ⟨72, Row.lst [I x.t, I ch, I x.sq, I (IntKind.wrap IntKind.i64 (fr + (3 : Int)))], 4, true⟩, ⟨72, Row.lst [I x.t, I ch, I x.sq, I (IntKind.wrap IntKind.i64 (fr + (3 : Int)))], 4, true⟩, ⟨72, Row.vals (List.take (n * 4) vs ++ [Value.int IntKind.i64 x.t, Value.int IntKind.i64 ch, Value.int IntKind.i64 x.sq, Value.int IntKind.i64 (IntKind.wrap IntKind.i64 (fr + (3 : Int)))]), tot', true⟩] E)) else n * 4 ≤ List.length (Row.cells (Row.vals vs)) ∧ cap * 4 ≤ tot ∧ n ≤ cap ∧ req ((n + 1) * 32 ≤ 140737488355328) (∀ (cap' tot' : Nat), n + 1 ≤ cap' → cap' * 4 ≤ tot' → KK (B true) [⟨3, Row.lst [I ch], 1, true⟩, ⟨3, Row.lst [I fr], 1, true⟩, ⟨39, Row.lst [SV.slc 11 0 (n + 1) cap'], 1, true⟩, ⟨39, Row.lst [L rb rl rc], 1, true⟩, ⟨3, Row.lst [I ch], 1, true⟩, ⟨3, Row.lst [I sq], 1, true⟩, ⟨39, Row.lst [L bb bl bc], 1, true⟩, ⟨72, Row.lst [I ow.t, I ow.nx, I ow.sq, I ow.un], 4, true⟩, ⟨72, Row.lst [], 0, false⟩, ⟨72, Row.lst [I x.t, I ch, I x.sq, I (IntKind.wrap IntKind.i64 (fr + (3 : Int)))], 4, true⟩, ⟨72, Row.lst [I x.t, I ch, I x.sq, I (IntKind.wrap IntKind.i64 (fr + (3 : Int)))], 4, true⟩, ⟨72, Row.vals (List.take (n * 4) vs ++ [Value.int IntKind.i64 x.t, Value.int IntKind.i64 ch, Value.int IntKind.i64 x.sq, Value.int IntKind.i64 (IntKind.wrap IntKind.i64 (fr + (3 : Int)))]), tot', true⟩] E)))
  have w3 : IntKind.wrap .i64 (fr + 3) = fr + 3 := wrap_i64 (by omega)
  have hl := R.len
  have a1 := O.hl
  have a1 : n * 4 ≤ (Row.cells (Row.vals vs)).length := by show n * 4 ≤ (vs.map SV.raw).length; rw [List.length_map]; exact a1
  have a2 := O.hc
  have a3 := O.ht
  rw [w3]
  cases rs with
  | nil =>
    have hz : rl = 0 := by simpa using hl.symm
    subst hz
    exact condC (fun g => absurd g (by simp)) (fun _ => alike (condC (fun g => absurd g (by simp)) (fun _ => ⟨a1, a3, a2, req_intro (by omega) fun cap' tot' c1 c2 => hQ (.inl rfl) _ _ cap' tot' c1 c2⟩)))
  | cons y ys =>
    have h1 : 0 < rl := by rw [← hl]; simp
    have gp : decide ((rl : Int) > 0) = true := by simp; omega
    have rq : (0 : Int) ≤ 0 ∧ (0 : Int) < (rl : Int) := ⟨by decide, by omega⟩
    have ne := R.ne okDw h1
    have c0 : LoadE Tryd.prog E 3 (.slice rb rl rc) 0 (I y.t) := Dw.cell (i := 0) (j := 0) R rfl (by decide) rfl
    have cw : LoadE Tryd.prog E 72 (.slice rb rl rc) 0 (.agg [I y.t, I y.nx, I y.sq, I y.un]) := Dw.load (i := 0) R rfl
    have rc1 := R.cap
    have t1 : (1 : Int) ≤ ((toN none rl : Nat) : Int) := by show (1 : Int) ≤ (rl : Int); omega
    by_cases q : y.t < x.t
    · have fin : ∀ (base' : Option Addr) (E' : Mem), Mem.le E E' → (∀ cs, E (.slice rb rl rc) cs → E' (.slice base' (rl - 1) (rc - 1)) (List.take ((rl - 1) * 4) (List.drop 4 cs))) → base'.isNone = rb.isNone → ∀ cap' tot' : Nat, n + 1 ≤ cap' → cap' * 4 ≤ tot' → Lr N0 8 Tryd.f11 [1, 0, 1, 1, 1, 1, 1, 0, 1, 0] [0, 0, 0] 9 KK (sC1 ch fr sq bb bl bc ow x base' (rl - 1) (rc - 1) (n + 1) cap' tot' (List.take (n * 4) vs ++ [.int .i64 y.t, .int .i64 y.nx, .int .i64 y.sq, .int .i64 y.un]) E') := fun base' E' k1 k2 k3 cap' tot' c1 c2 => ih y ys rfl q base' _ cap' tot' _ E' k1 (Dw.tail R k1 k2 k3) (O.snoc y c1 c2)
      refine condC (fun _ => req_intro rq ⟨ne, y.t, c0, condC (fun _ => req_intro rq ⟨ne, _, _, _, _, cw, ⟨⟨a1, a3, a2, req_intro (by omega) fun cap' tot' c1 c2 => alike (req_intro rc1 (req_intro ⟨by decide, t1⟩ fun base' E' k1 k2 k3 => ?_))⟩, req_intro rc1 (req_intro ⟨by decide, t1⟩ fun base' E' k1 k2 k3 => ⟨a1, a3, a2, req_intro (by omega) fun cap' tot' c1 c2 => ?_⟩)⟩, req_intro rc1 (req_intro ⟨by decide, t1⟩ fun base' E' k1 k2 k3 => ⟨a1, a3, a2, req_intro (by omega) fun cap' tot' c1 c2 => ?_⟩)⟩) (fun g => absurd g (by simp [q]))⟩) (fun g => absurd gp (by rw [g]; decide))
      all_goals exact Lr_re [some 0, some 1, some 2, some 3, some 4, some 5, some 6, some 7, some 8, some 9, some 11] (fin base' E' k1 k2 k3 cap' tot' c1 c2) ⟨⟨by first | (simp; done) | (simp [St.pub]; done), by first | (simp; done) | (simp [St.pub]; done), fun j h => (by have e : j = 0 ∨ j = 1 ∨ j = 2 ∨ j = 3 ∨ j = 4 ∨ j = 5 ∨ j = 6 ∨ j = 7 ∨ j = 8 := (by omega); rcases e with rfl | rfl | rfl | rfl | rfl | rfl | rfl | rfl | rfl <;> rfl)⟩, rfl, (by repeat' first | exact True.intro | refine And.intro (Or.inl rfl) ?_ | refine And.intro (Or.inr ⟨rfl, rfl⟩) ?_), (by repeat' first | exact True.intro | exact rfl | exact Or.inl rfl | exact (by decide : 8 < 12) | refine And.intro ?_ ?_), (show List.Nodup [0, 1, 2, 3, 4, 5, 6, 7, 9, 11] from by decide), Mem.le_refl _⟩
    · have nq : ¬ y.t = x.t := hne y (by simp)
      exact condC (fun _ => req_intro rq ⟨ne, y.t, c0, condC (fun g => absurd g (by simp [q])) (fun _ => alike (condC (fun _ => req_intro rq ⟨ne, y.t, c0, condC (fun g => absurd g (by simp [nq])) (fun _ => ⟨a1, a3, a2, req_intro (by omega) fun cap' tot' c1 c2 => hQ (.inr ⟨y, ys, rfl, q⟩) _ _ cap' tot' c1 c2⟩)⟩) (fun g => absurd gp (by rw [g]; decide))))⟩) (fun g => absurd gp (by rw [g]; decide))
theorem rnC {ch fr sq : Int} {bb : Option Addr} {bl bc : Nat} {ow : Dn} {x : Dn} {rb : Option Addr} {rl rc n cap tot : Nat} {vs : List Value} {KK : KT} (h : Lr N0 8 Tryd.f11 [1, 0, 1, 1, 1, 1, 1, 0, 1, 0] [0, 0, 0] 9 KK (sC0 ch fr sq bb bl bc ow x rb rl rc n cap tot vs E)) : RnF N0 8 Tryd.f11 [1, 0, 1, 1, 1, 1, 1, 0, 1, 0] fr11 [.agg [I x.t, I x.nx, I x.sq, I x.un]] [⟨3, .lst [I ch], 1, true⟩, ⟨3, .lst [I fr], 1, true⟩, ⟨39, .lst [.slc 8 0 n cap], 1, true⟩, ⟨39, .lst [L rb rl rc], 1, true⟩, ⟨3, .lst [I ch], 1, true⟩, ⟨3, .lst [I sq], 1, true⟩, ⟨39, .lst [L bb bl bc], 1, true⟩, ⟨72, .lst [I ow.t, I ow.nx, I ow.sq, I ow.un], 4, true⟩, ⟨72, .vals vs, tot, true⟩] E KK := by
  refine same (by kernel_rfl) (?_ : Lr N0 8 Tryd.f11 [1, 0, 1, 1, 1, 1, 1, 0, 1, 0] [0, 0, 0] 9 KK { fr := [none, none, none, none, none, none, some (SV.loc 0 0), none, none, some (SV.loc 1 0), none, none, none, some (SV.loc 2 0), some (SV.loc 3 0), some (SV.loc 9 0), none, none, none, none, none, none, none, none, none, none, none, none, none, none, none, none, none, none, none, none, none, none, none, none, none, none, none, none, none, none, none, none, none, none, none, none, none, none, none, none, some (SV.clo 50 [] [SV.loc 4 0, SV.loc 5 0, SV.loc 6 0]), some (SV.agg [I x.t, I x.nx, I x.sq, I x.un]), none, none, none, none, none, none, none, none, none, none, none, none, none, none, none, none, none, none, none, none, none, none, none, none, none, none, none, none, none, none, none, none, none, none, none, none, none, none, none, none, none, none, none, none, none, none, none, none, none, none, none, none, none, none, none, none, none, none, none, none, none, none, none, none], bx := [(⟨3, Row.lst [I ch], 1, true⟩ : Box), ⟨3, Row.lst [I fr], 1, true⟩, ⟨39, Row.lst [SV.slc 8 0 n cap], 1, true⟩, ⟨39, Row.lst [L rb rl rc], 1, true⟩, ⟨3, Row.lst [I ch], 1, true⟩, ⟨3, Row.lst [I sq], 1, true⟩, ⟨39, Row.lst [L bb bl bc], 1, true⟩, ⟨72, Row.lst [I ow.t, I ow.nx, I ow.sq, I ow.un], 4, true⟩, ⟨72, Row.vals vs, tot, true⟩, ⟨72, Row.lst [I x.t, I x.nx, I x.sq, I x.un], 4, true⟩], E := E : St })
  exact Lr_re [some 0, some 1, some 2, some 3, some 4, some 5, some 6, some 7, some 8, some 9] h ⟨⟨by first | (simp; done) | (simp [St.pub]; done), by first | (simp; done) | (simp [St.pub]; done), fun j h => (by have e : j = 0 ∨ j = 1 ∨ j = 2 ∨ j = 3 ∨ j = 4 ∨ j = 5 ∨ j = 6 ∨ j = 7 ∨ j = 8 := (by omega); rcases e with rfl | rfl | rfl | rfl | rfl | rfl | rfl | rfl | rfl <;> rfl)⟩, rfl, (by repeat' first | exact True.intro | refine And.intro (Or.inl rfl) ?_ | refine And.intro (Or.inr ⟨rfl, rfl⟩) ?_), (by repeat' first | exact True.intro | exact rfl | exact Or.inl rfl | fail | refine And.intro ?_ ?_), (show List.Nodup [0, 1, 2, 3, 4, 5, 6, 7, 8, 9] from by decide), Mem.le_refl _⟩
end Go.Proofs.YtlpcifknlncljaaDoor.TopOwn
