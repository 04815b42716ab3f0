/- The package seen: what its functions answer. -/
import Derived.Test.YtjibgfihfbdcaaaSeen17
namespace Go.Proofs.Ytjibgfihfbdcaaa.SeenOwn
open Go Go.Sx
set_option maxRecDepth 100000
set_option maxHeartbeats 4000000
set_option linter.unusedVariables false
set_option linter.unusedSimpArgs false
variable {E : Mem} {K : SV → Mem → Prop}

/-! ### the missing numbers -/
def topF : Int → List Rg → Int
  | p, [] => p
  | _, x :: rs => topF x.2 rs
theorem topF_ge : ∀ {rs : List Rg} {p : Int}, chkR p rs → p ≤ topF p rs ∧ ∀ x ∈ rs, x.2 ≤ topF p rs
  | [], p, _ => ⟨Int.le_refl _, fun x hx => by cases hx⟩
  | x :: rs, p, h => by
    have e := h.1
    unfold okE at e
    obtain ⟨h1, h2⟩ := topF_ge h.2
    refine ⟨by show p ≤ topF x.2 rs; omega, fun y hy => ?_⟩
    rcases List.mem_cons.1 hy with rfl | hy
    · exact h1
    · exact h2 y hy
theorem mem_gap {nx lo m : Int} : m ∈ gap nx lo ↔ nx ≤ m ∧ m < lo := by
  unfold gap
  rw [List.mem_map]
  constructor
  · rintro ⟨i, hi, rfl⟩
    rw [List.mem_range] at hi; omega
  · intro h
    exact ⟨(m - nx).toNat, List.mem_range.2 (by omega), by omega⟩
/-- The missing numbers from nx on: none is held, and they lie below the greatest. -/
theorem mem_miss : ∀ {rs : List Rg} {p q : Int}, chkR q rs → (∀ x ∈ rs, p < x.1) → ∀ m, m ∈ missL (p + 1) rs ↔ p + 1 ≤ m ∧ m < topF p rs ∧ ¬ inR rs m
  | [], p, _, _, _, m => by
    constructor
    · intro h; cases h
    · rintro ⟨h1, h2, _⟩; simp only [topF] at h2; omega
  | x :: rs, p, q, h, hp, m => by
    have e := h.1
    unfold okE at e
    have hp0 := hp x (by simp)
    have ht := (topF_ge h.2).1
    have ih := mem_miss (p := x.2) h.2 (fun z hz => by have := chkR_gt h.2 z hz; omega) m
    have hgt : ∀ m, inR rs m → x.2 + 1 < m := fun m ⟨z, hz, w⟩ => by have := chkR_gt h.2 z hz; omega
    show m ∈ gap (p + 1) x.1 ++ missL (x.2 + 1) rs ↔ p + 1 ≤ m ∧ m < topF x.2 rs ∧ ¬ inR (x :: rs) m
    rw [List.mem_append, mem_gap, ih, inR_cons]
    constructor
    · rintro (w | w)
      · refine ⟨w.1, by omega, fun q => ?_⟩
        rcases q with q | q
        · omega
        · have := hgt m q; omega
      · exact ⟨by omega, w.2.1, fun q => q.elim (fun q => by omega) w.2.2⟩
    · rintro ⟨w1, w2, w3⟩
      rcases Int.lt_or_le m x.1 with g | g
      · exact .inl ⟨w1, g⟩
      · right
        refine ⟨?_, w2, fun q => w3 (.inr q)⟩
        rcases Int.lt_or_le x.2 m with v | v
        · omega
        · exact absurd (.inl ⟨g, v⟩) w3
theorem gap_sorted (nx lo : Int) : (gap nx lo).Pairwise (· < ·) := by
  unfold gap
  rw [List.pairwise_map]
  exact List.Pairwise.imp (fun h => by omega) List.pairwise_lt_range
theorem miss_sorted : ∀ {rs : List Rg} {p q : Int}, chkR q rs → (∀ x ∈ rs, p < x.1) → (missL (p + 1) rs).Pairwise (· < ·)
  | [], _, _, _, _ => List.Pairwise.nil
  | x :: rs, p, q, h, hp => by
    have e := h.1
    unfold okE at e
    show (gap (p + 1) x.1 ++ missL (x.2 + 1) rs).Pairwise (· < ·)
    rw [List.pairwise_append]
    have hq : ∀ z ∈ rs, x.2 < z.1 := fun z hz => by have := chkR_gt h.2 z hz; omega
    refine ⟨gap_sorted _ _, miss_sorted h.2 hq, fun a ha b hb => ?_⟩
    have h1 := mem_gap.1 ha
    have h2 := (mem_miss h.2 hq b).1 hb
    omega

end Go.Proofs.Ytjibgfihfbdcaaa.SeenOwn
