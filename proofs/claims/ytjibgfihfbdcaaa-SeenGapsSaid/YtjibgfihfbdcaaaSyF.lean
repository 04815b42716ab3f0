/- The symbolic evaluator, part F: soundness of one operation. Conditions: none; generic over programs. -/
import Derived.Test.YtjibgfihfbdcaaaSyE
namespace Go.Sx
open Go.RowKit (Below)

/-- The fence: any frame, or a round's. -/
def fW (ro : Option Nat) : Fence := { Fence.wide with round := ro }

theorem upon_val {ro : Option Nat} {P : Program} {o : Oper} {a : Act} {next : Act → World → Prop} {Q : Exit → Act → World → Prop} {s : Sem Value} {w w' : World} {v : Value}
    (hx : execOp a.eval o = (do pure (Next.value (← s)))) (hr : s.run P w = .ok v w') (hn : next (a.put o.dst v) w') : o.uponIn (fW ro) 0 P a next Q ((execOp a.eval o).run P w) := by
  rw [hx]
  simp only [Sem.run_bind, hr, Result.andThen_ok, Sem.run_pure]
  exact hn

theorem sliceNums_elim {lo hi mx : Option Int} {len cap : Nat} {K : Nat → Nat → Nat → Prop} (h : sliceNums lo hi mx len cap K) :
    (hi = none → mx = none) ∧ (∀ i, mx = some i → 0 ≤ i ∧ i ≤ (cap : Int)) ∧ (∀ i, hi = some i → 0 ≤ i ∧ i ≤ (toN mx cap : Int)) ∧ (∀ i, lo = some i → 0 ≤ i ∧ i ≤ (toN hi len : Int)) ∧
    K (toN lo 0) (toN hi len) (toN mx cap) := by
  have key : reqO mx cap (reqO hi (toN mx cap) (reqO lo (toN hi len) (K (toN lo 0) (toN hi len) (toN mx cap)))) ∧ (hi = none → mx = none) := by
    unfold sliceNums at h
    split at h
    · exact h.elim
    · rename_i hne
      refine ⟨h, ?_⟩
      intro e
      cases mx with
      | none => rfl
      | some i => exact (hne i e rfl).elim
  obtain ⟨key, h0⟩ := key
  have el : ∀ {o : Option Int} {t : Nat} {k : Prop}, reqO o t k → (∀ i, o = some i → 0 ≤ i ∧ i ≤ (t : Int)) ∧ k := by
    intro o t k hk
    cases o with
    | none => exact ⟨fun i e => (by cases e), hk⟩
    | some i => obtain ⟨h1, h2⟩ := req_elim hk; exact ⟨fun j e => (by cases e; exact h1), h2⟩
  obtain ⟨h1, key⟩ := el key
  obtain ⟨h2, key⟩ := el key
  obtain ⟨h3, key⟩ := el key
  exact ⟨h0, h1, h2, h3, key⟩

theorem numO_den {S : St} {a : Act} {ρ : Env} (hF : FrRel ρ S.fr a.tmps) {x : Option Operand} {n : Option Int} (h : numO S x = some n) :
    (x = none ∧ n = none) ∨ ∃ y k i, x = some y ∧ n = some i ∧ a.eval y = .int k i := by
  cases x with
  | none => simp only [numO, Option.some.injEq] at h; exact .inl ⟨rfl, h.symm⟩
  | some y =>
    simp only [numO] at h
    split at h
    · rename_i k i hs
      simp only [Option.some.injEq] at h
      have := opd_den hF hs
      simp only [SV.den, Option.some.injEq] at this
      exact .inr ⟨y, k, i, rfl, h.symm, this.symm⟩
    · cases h

theorem run_sliceBound {P : Program} (k : IntKind) (i : Int) (y : Nat) (c : BoundsCode) (h : 0 ≤ i ∧ i ≤ (y : Int)) (w : World) : (Instr.sliceBound (.int k i) y c).run P w = .ok i.toNat w := by
  unfold Instr.sliceBound
  simp [asIntOf, h]

theorem run_sliceBounds {P : Program} {S : St} {a : Act} {ρ : Env} (hF : FrRel ρ S.fr a.tmps) {lo hi mx : Option Operand} {l h m : Option Int} (h1 : numO S lo = some l) (h2 : numO S hi = some h) (h3 : numO S mx = some m)
    {len cap : Nat} {K : Nat → Nat → Nat → Prop} (hn : sliceNums l h m len cap K) (b : Bool) (w : World) :
    (Instr.sliceBounds b len cap (lo.map a.eval) (hi.map a.eval) (mx.map a.eval)).run P w = .ok (toN l 0, toN h len, toN m cap) w ∧ K (toN l 0) (toN h len) (toN m cap) := by
  obtain ⟨g0, g1, g2, g3, hK⟩ := sliceNums_elim hn
  refine ⟨?_, hK⟩
  unfold Instr.sliceBounds
  rcases numO_den hF h3 with ⟨rfl, rfl⟩ | ⟨y3, k3, i3, rfl, rfl, e3⟩ <;> rcases numO_den hF h2 with ⟨rfl, rfl⟩ | ⟨y2, k2, i2, rfl, rfl, e2⟩ <;>
    rcases numO_den hF h1 with ⟨rfl, rfl⟩ | ⟨y1, k1, i1, rfl, rfl, e1⟩ <;>
    first
    | (simp at g0; done)
    | (try have r3 := fun c w => run_sliceBound (P := P) k3 i3 cap c (g1 _ rfl) w
       try have r2 := fun c w => run_sliceBound (P := P) k2 i2 _ c (g2 _ rfl) w
       try have r1 := fun c w => run_sliceBound (P := P) k1 i1 _ c (g3 _ rfl) w
       clear g0 g1 g2 g3 hn h1 h2 h3 hK
       simp only [toN] at *
       simp [*]; done)

end Go.Sx
