/- The seal package: the laws' evaluation. -/
import Derived.Test.YtnkjoccemfbpcaaSeal1
namespace Go.Proofs.Ytnkjoccemfbpcaa.SealOwn
open Go Go.Sx
set_option maxRecDepth 100000
set_option linter.unusedVariables false
set_option linter.unusedSimpArgs false
variable {E : Mem} {K : SV → Mem → Prop}

theorem tab1_ok : TabOK Try.prog tab1 := by
  intro f args E K h
  unfold tab1 at h
  split at h
  · exact Ent.sem okC0 Try.func10 ⟨by kernel_rfl, by kernel_rfl⟩ rfl (s10 h)
  · exact Ent.sem okC0 Try.func11 ⟨by kernel_rfl, by kernel_rfl⟩ rfl (s11 h)
  · exact Ent.sem okC0 Try.func12 ⟨by kernel_rfl, by kernel_rfl⟩ rfl (s12 h)
  · exact Ent.sem okC0 Try.func13 ⟨by kernel_rfl, by kernel_rfl⟩ rfl (s13 h)
  · exact Ent.sem okC0 Try.func19 ⟨by kernel_rfl, by kernel_rfl⟩ rfl (s19 h)
  · exact Ent.sem okC0 Try.func20 ⟨by kernel_rfl, by kernel_rfl⟩ rfl (s20 h)
  · exact h.elim
theorem okC1 : CxOK C1 := ⟨tab1_ok, by kernel_rfl, okInl (by kernel_rfl)⟩

noncomputable def tabS : FuncId → List SV → Mem → (SV → Mem → Prop) → Prop
  | 27, [.raw (.slice b l c), .raw (.slice b' l' c')], E, K => ∃ zs ys, Ints .u8 E b l c zs ∧ Ints .u8 E b' l' c' ys ∧ K (B (decide (zs.take l = ys.take l'))) E
  | _, _, _, _ => False
theorem tabS_ok : TabOK Try.prog tabS := by
  intro f args E K h
  unfold tabS at h
  split at h
  · obtain ⟨zs, ys, h1, h2, h⟩ := h
    exact Ent.sem okCS Try.func27 ⟨by kernel_rfl, by kernel_rfl⟩ rfl (s27 h1 h2 h)
  · exact h.elim
noncomputable def CF : Cx := { P := Try.prog, inl := fun f => List.contains [] f, tab := tabS, opt := ⟨4, [5]⟩, muts := mutsD }
theorem okCF : CxOK CF := ⟨tabS_ok, by kernel_rfl, okInl (by kernel_rfl)⟩

def eqF (a b c d e a' b' c' d' e' : Int) (x y : List Int) : Bool := decide (x = y) && (a == a' && b == b' && c == c' && d == d' && e == e')

theorem s16 {a b c d e : Int} {s : Option Addr} {l cp : Nat} {a' b' c' d' e' : Int} {s' : Option Addr} {l' cp' : Nat} {zs ys : List Int} (h1 : Ints .u8 E s l cp zs) (h2 : Ints .u8 E s' l' cp' ys)
    (h : K (B (eqF a b c d e a' b' c' d' e' (zs.take l) (ys.take l'))) E) :
    Ent CF 3 Try.f16 [Fr a b c d e s l cp, Fr a' b' c' d' e' s' l' cp'] E K := by
  refine same (by kernel_rfl) (?_ : 
      ∃ (zs : List Int),
        ∃ (ys : List Int),
          Ints IntKind.u8 E s l cp zs ∧
            Ints IntKind.u8 E s' l' cp' ys ∧
              Mem.le E E ∧
                bif decide (List.take l zs = List.take l' ys) then
                  bif bif true then a == a' else false then
                    bif bif true then b == b' else false then
                      bif bif true then c == c' else false then
                        bif bif true then d == d' else false then
                          Mem.le E E ∧ K (SV.raw (Value.bool (bif true then e == e' else false))) E
                        else Mem.le E E ∧ K (SV.raw (Value.bool false)) E
                      else Mem.le E E ∧ K (SV.raw (Value.bool false)) E
                    else Mem.le E E ∧ K (SV.raw (Value.bool false)) E
                  else Mem.le E E ∧ K (SV.raw (Value.bool false)) E
                else Mem.le E E ∧ K (SV.raw (Value.bool false)) E)
  refine ⟨zs, ys, h1, h2, ?_⟩
  unfold eqF at h
  generalize decide (zs.take l = ys.take l') = p0 at h ⊢
  generalize (a == a') = p1 at h ⊢
  generalize (b == b') = p2 at h ⊢
  generalize (c == c') = p3 at h ⊢
  generalize (d == d') = p4 at h ⊢
  generalize (e == e') = p5 at h ⊢
  cases p0 <;> cases p1 <;> cases p2 <;> cases p3 <;> cases p4 <;> cases p5 <;> simp [Mem.le_refl] at h ⊢ <;> exact h

noncomputable def C9 : Cx := { P := Try.prog, inl := fun f => List.contains [10, 12, 14, 17, 19, 20, 21, 22, 23, 24, 25, 26, 28, 29, 30, 31, 32, 49] f, tab := fun _ _ _ _ => False, opt := ⟨4, [5]⟩, muts := mutsD }
theorem okC9 : CxOK C9 := ⟨fun _ _ _ _ h => h.elim, by kernel_rfl, okInl (by kernel_rfl)⟩
theorem s9 (h : K (B true) E) : Ent C9 5 Try.f9 [] E K := by
  refine same (by kernel_rfl) (?_ : 
      Mem.le E E ∧
        Mem.le E E ∧
          Mem.le E E ∧
            Mem.le E E ∧
              Mem.le E E ∧
                Mem.le E E ∧
                  Mem.le E E ∧
                    Mem.le E E ∧
                      Mem.le E E ∧
                        Mem.le E E ∧
                          Mem.le E E ∧
                            Mem.le E E ∧
                              Mem.le E E ∧
                                Mem.le E E ∧
                                  Mem.le E E ∧
                                    Mem.le E E ∧
                                      Mem.le E E ∧
                                        Mem.le E E ∧
                                          Mem.le E E ∧
                                            Mem.le E E ∧
                                              Mem.le E E ∧
                                                Mem.le E E ∧
                                                  Mem.le E E ∧
                                                    Mem.le E E ∧
                                                      Mem.le E E ∧
                                                        Mem.le E E ∧
                                                          Mem.le E E ∧
                                                            Mem.le E E ∧
                                                              Mem.le E E ∧
                                                                Mem.le E E ∧
                                                                  Mem.le E E ∧
                                                                    Mem.le E E ∧
                                                                      Mem.le E E ∧
                                                                        Mem.le E E ∧
                                                                          Mem.le E E ∧
                                                                            Mem.le E E ∧
                                                                              Mem.le E E ∧
                                                                                Mem.le E E ∧
                                                                                  Mem.le E E ∧
                                                                                    Mem.le E E ∧
                                                                                      Mem.le E E ∧
                                                                                        Mem.le E E ∧
                                                                                          Mem.le E E ∧
                                                                                            Mem.le E E ∧
                                                                                              Mem.le E E ∧
                                                                                                Mem.le E E ∧
                                                                                                  Mem.le E E ∧
                                                                                                    Mem.le E E ∧
                                                                                                      Mem.le E E ∧
                                                                                                        Mem.le E E ∧
                                                                                                          Mem.le E E ∧
                                                                                                            Mem.le E E ∧
                                                                                                              Mem.le E E ∧
                                                                                                                Mem.le E E ∧
                                                                                                                  Mem.le E E ∧
                                                                                                                    Mem.le E
                                                                                                                        E ∧
                                                                                                                      Mem.le E
                                                                                                                          E ∧
                                                                                                                        Mem.le
                                                                                                                            E
                                                                                                                            E ∧
                                                                                                                          Mem.le
                                                                                                                              E
                                                                                                                              E ∧
                                                                                                                            Mem.le
                                                                                                                                E
                                                                                                                                E ∧
                                                                                                                              Mem.le
                                                                                                                                  E
                                                                                                                                  E ∧
                                                                                                                                Mem.le
                                                                                                                                    E
                                                                                                                                    E ∧
                                                                                                                                  Mem.le
                                                                                                                                      E
                                                                                                                                      E ∧
                                                                                                                                    Mem.le
                                                                                                                                        E
                                                                                                                                        E ∧
                                                                                                                                      Mem.le
                                                                                                                                          E
                                                                                                                                          E ∧
                                                                                                                                        Mem.le
                                                                                                                                            E
                                                                                                                                            E ∧
                                                                                                                                          Mem.le
                                                                                                                                              E
                                                                                                                                              E ∧
                                                                                                                                            Mem.le
                                                                                                                                                E
                                                                                                                                                E ∧
                                                                                                                                              Mem.le
                                                                                                                                                  E
                                                                                                                                                  E ∧
                                                                                                                                                Mem.le
                                                                                                                                                    E
                                                                                                                                                    E ∧
                                                                                                                                                  Mem.le
                                                                                                                                                      E
                                                                                                                                                      E ∧
                                                                                                                                                    Mem.le
                                                                                                                                                        E
                                                                                                                                                        E ∧
                                                                                                                                                      Mem.le
                                                                                                                                                          E
                                                                                                                                                          E ∧
                                                                                                                                                        K
                                                                                                                                                          (SV.raw
                                                                                                                                                            (Value.bool
                                                                                                                                                              true))
                                                                                                                                                          E)
  simp [Mem.le_refl]
  exact h

def asI : SV → Option Int
  | .raw (.int .i64 n) => some n
  | _ => none
theorem asI_eq {x : SV} {n : Int} (h : asI x = some n) : x = I n := by
  unfold asI at h
  split at h
  · simp only [Option.some.injEq] at h; subst h; rfl
  · cases h
def asS : SV → Option (Option Addr × Nat × Nat)
  | .raw (.slice s l c) => some (s, l, c)
  | _ => none
theorem asS_eq {x : SV} {s : Option Addr} {l c : Nat} (h : asS x = some (s, l, c)) : x = L s l c := by
  unfold asS at h
  split at h
  · simp only [Option.some.injEq, Prod.mk.injEq] at h; obtain ⟨rfl, rfl, rfl⟩ := h; rfl
  · cases h
def asR : SV → Option (Int × Int)
  | .agg [x, y] => match asI x, asI y with
    | some a, some b => some (a, b)
    | _, _ => none
  | _ => none
theorem asR_eq {x : SV} {a b : Int} (h : asR x = some (a, b)) : x = .agg [I a, I b] := by
  unfold asR at h
  split at h
  · split at h
    · rename_i h1 h2
      simp only [Option.some.injEq, Prod.mk.injEq] at h; obtain ⟨rfl, rfl⟩ := h
      rw [asI_eq h1, asI_eq h2]
    · cases h
  · cases h
def asFr : SV → Option (Int × Int × Int × Int × Int × Option Addr × Nat × Nat)
  | .agg [x1, x2, x3, x4, x5, x6] => match asI x1, asI x2, asI x3, asI x4, asI x5, asS x6 with
    | some a, some b, some c, some d, some e, some (s, l, cp) => some (a, b, c, d, e, s, l, cp)
    | _, _, _, _, _, _ => none
  | _ => none
theorem asFr_eq {x : SV} {a b c d e : Int} {s : Option Addr} {l cp : Nat} (h : asFr x = some (a, b, c, d, e, s, l, cp)) : x = Fr a b c d e s l cp := by
  unfold asFr at h
  split at h
  · split at h
    · rename_i h1 h2 h3 h4 h5 h6
      simp only [Option.some.injEq, Prod.mk.injEq] at h; obtain ⟨rfl, rfl, rfl, rfl, rfl, rfl, rfl, rfl⟩ := h
      rw [asI_eq h1, asI_eq h2, asI_eq h3, asI_eq h4, asI_eq h5, asS_eq h6]; rfl
    · cases h
  · cases h

noncomputable def tabSeal (args : List SV) (E : Mem) (K : SV → Mem → Prop) : Prop :=
  match args with
  | [x, y] => match asFr x, asR y with
    | some (a, b, c, d, e, s, l, cp), some (F, N) => bif sealE d F N == 0 then K (.tup [Fr a b c d (keyN d) s l cp, I 0]) E else K (.tup [Fr 0 0 0 0 0 none 0 0, I (sealE d F N)]) E
    | _, _ => False
  | _ => False
noncomputable def tabOpen (args : List SV) (E : Mem) (K : SV → Mem → Prop) : Prop :=
  match args with
  | [x, y, z] => match asFr x, asR y, asI z with
    | some (a, b, c, d, e, s, l, cp), some (F, N), some n => K (I (openE d e F N n)) E
    | _, _, _ => False
  | _ => False
noncomputable def tabSameF (args : List SV) (E : Mem) (K : SV → Mem → Prop) : Prop :=
  match args with
  | [x, y] => match asFr x, asFr y with
    | some (a, b, c, d, e, s, l, cp), some (a', b', c', d', e', s', l', cp') => ∃ zs ys, Ints .u8 E s l cp zs ∧ Ints .u8 E s' l' cp' ys ∧ K (B (eqF a b c d e a' b' c' d' e' (zs.take l) (ys.take l'))) E
    | _, _ => False
  | _ => False
noncomputable def tabHead (args : List SV) (E : Mem) (K : SV → Mem → Prop) : Prop :=
  match args with
  | [] => K (B true) E
  | _ => False
noncomputable def tab2 (f : FuncId) (args : List SV) (E : Mem) (K : SV → Mem → Prop) : Prop :=
  if f = 9 then tabHead args E K else if f = 14 then tabSeal args E K else if f = 15 then tabSeal args E K else if f = 16 then tabSameF args E K
  else if f = 17 then tabOpen args E K else if f = 18 then tabOpen args E K else tab1 f args E K

theorem tabSeal_elim {args : List SV} {Q : Prop} (h : tabSeal args E K) (hq : ∀ a b c d e s l cp F N, args = [Fr a b c d e s l cp, .agg [I F, I N]] →
    (bif sealE d F N == 0 then K (.tup [Fr a b c d (keyN d) s l cp, I 0]) E else K (.tup [Fr 0 0 0 0 0 none 0 0, I (sealE d F N)]) E) → Q) : Q := by
  unfold tabSeal at h
  split at h
  · split at h
    · rename_i h1 h2
      exact hq _ _ _ _ _ _ _ _ _ _ (by rw [asFr_eq h1, asR_eq h2]) h
    · exact h.elim
  · exact h.elim
theorem tabOpen_elim {args : List SV} {Q : Prop} (h : tabOpen args E K) (hq : ∀ a b c d e s l cp F N n, args = [Fr a b c d e s l cp, .agg [I F, I N], I n] → K (I (openE d e F N n)) E → Q) : Q := by
  unfold tabOpen at h
  split at h
  · split at h
    · rename_i h1 h2 h3
      exact hq _ _ _ _ _ _ _ _ _ _ _ (by rw [asFr_eq h1, asR_eq h2, asI_eq h3]) h
    · exact h.elim
  · exact h.elim
theorem tab2_ok : TabOK Try.prog tab2 := by
  intro f args E K h
  unfold tab2 at h
  split at h
  · rename_i e; subst e
    unfold tabHead at h
    split at h
    · exact Ent.sem okC9 Try.func9 ⟨by kernel_rfl, by kernel_rfl⟩ rfl (s9 h)
    · exact h.elim
  split at h
  · rename_i e; subst e
    exact tabSeal_elim h fun a b c d e s l cp F N ha h => by subst ha; exact Ent.sem okC1 Try.func14 ⟨by kernel_rfl, by kernel_rfl⟩ rfl (s14 h)
  split at h
  · rename_i e; subst e
    exact tabSeal_elim h fun a b c d e s l cp F N ha h => by subst ha; exact Ent.sem okC1 Try.func15 ⟨by kernel_rfl, by kernel_rfl⟩ rfl (s15 h)
  split at h
  · rename_i e; subst e
    unfold tabSameF at h
    split at h
    · split at h
      · rename_i g1 g2
        obtain ⟨zs, ys, h1, h2, h⟩ := h
        rw [asFr_eq g1, asFr_eq g2]
        exact Ent.sem okCF Try.func16 ⟨by kernel_rfl, by kernel_rfl⟩ rfl (s16 h1 h2 h)
      · exact h.elim
    · exact h.elim
  split at h
  · rename_i e; subst e
    exact tabOpen_elim h fun a b c d e s l cp F N n ha h => by subst ha; exact Ent.sem okC1 Try.func17 ⟨by kernel_rfl, by kernel_rfl⟩ rfl (s17 h)
  split at h
  · rename_i e; subst e
    exact tabOpen_elim h fun a b c d e s l cp F N n ha h => by subst ha; exact Ent.sem okC1 Try.func18 ⟨by kernel_rfl, by kernel_rfl⟩ rfl (s18 h)
  · exact tab1_ok _ _ _ _ h
theorem leaf {x : Bool} (h : K (B true) E) (e : x = true) : K (.raw (.bool x)) E := e ▸ h
theorem iteI {c : Prop} [Decidable c] {p q : Prop} (h1 : c → p) (h2 : ¬ c → q) : if c then p else q := by
  by_cases h : c
  · rw [if_pos h]; exact h1 h
  · rw [if_neg h]; exact h2 h
theorem beqs {a b c d : Int} : ((a == b) = (c == d)) ↔ (a = b ↔ c = d) := by
  rw [Bool.eq_iff_iff, beq_iff_eq, beq_iff_eq]
theorem beqd {a b : Int} {p : Prop} [Decidable p] : ((a == b) = decide p) ↔ (a = b ↔ p) := by
  rw [Bool.eq_iff_iff, beq_iff_eq, decide_eq_true_eq]
theorem eqF_self (a b c d e : Int) (x : List Int) : eqF a b c d e a b c d e x x = true := by simp [eqF]
theorem keyS (n : Int) : (0 ≤ n ∧ n ≤ 1000000000 ∧ keyE n = 0 ∧ keyN n = n / 2000 + 1) ∨ (¬ (0 ≤ n ∧ n ≤ 1000000000) ∧ keyE n = 1 ∧ keyN n = 0) := by
  unfold keyE keyN; split <;> omega
theorem ownS (n : Int) : (0 ≤ n ∧ n < 60 ∧ ownE n = 0 ∧ ownN n = n + 1000000) ∨ (¬ (0 ≤ n ∧ n < 60) ∧ ownE n = 1 ∧ ownN n = 0) := by
  unfold ownE ownN; split <;> omega
theorem sealS (d F N : Int) : (0 ≤ d ∧ d ≤ 1000000000 ∧ F ≤ d / 2000 ∧ d / 2000 < N ∧ sealE d F N = 0) ∨ (0 ≤ d ∧ d ≤ 1000000000 ∧ ¬ (F ≤ d / 2000 ∧ d / 2000 < N) ∧ sealE d F N = 13) ∨ (¬ (0 ≤ d ∧ d ≤ 1000000000) ∧ sealE d F N = 1) := by
  unfold sealE; split <;> (try split) <;> omega
theorem openS (d e F N n : Int) : (0 ≤ n ∧ n ≤ 1000000000 ∧ d = n ∧ e = n / 2000 + 1 ∧ F ≤ n / 2000 ∧ n / 2000 < N ∧ openE d e F N n = 0) ∨ (0 ≤ n ∧ n ≤ 1000000000 ∧ d = n ∧ ¬ (e = n / 2000 + 1 ∧ F ≤ n / 2000 ∧ n / 2000 < N) ∧ openE d e F N n = 13) ∨
    (0 ≤ n ∧ n ≤ 1000000000 ∧ d ≠ n ∧ openE d e F N n = 14) ∨ (¬ (0 ≤ n ∧ n ≤ 1000000000) ∧ openE d e F N n = 1) := by
  unfold openE; split <;> (try split) <;> (try split) <;> omega
theorem quoS (n : Int) : ¬ (0 ≤ n ∧ n ≤ 1000000000) ∨ IntKind.wrap .i64 (Int.tdiv n 2000) = n / 2000 := by
  by_cases h : 0 ≤ n ∧ n ≤ 1000000000
  · exact .inr (quo h.1 h.2)
  · exact .inl h
theorem epochS (n : Int) : ¬ (0 ≤ n ∧ n ≤ 1000000000) ∨ epochN n = n / 2000 := by
  by_cases h : 0 ≤ n ∧ n ≤ 1000000000
  · exact .inr (epochN_eq h.1 h.2)
  · exact .inl h
noncomputable def C2 : Cx := { P := Try.prog, inl := fun f => List.contains [] f, tab := tab2, opt := ⟨4, [5]⟩, muts := mutsD }
theorem okC2 : CxOK C2 := ⟨tab2_ok, by kernel_rfl, okInl (by kernel_rfl)⟩

end Go.Proofs.Ytnkjoccemfbpcaa.SealOwn
