/- The package seen: what its functions answer. -/
import Derived.Test.YtjibgfihfbdcaaaSeen16
namespace Go.Proofs.Ytjibgfihfbdcaaa.SeenOwn
open Go Go.Sx
set_option maxRecDepth 100000
set_option maxHeartbeats 4000000
set_option linter.unusedVariables false
set_option linter.unusedSimpArgs false
variable {E : Mem} {K : SV → Mem → Prop}

/-! ### lists are determined by what they hold -/
theorem chkR_canon : ∀ {rs rt : List Rg} {p q : Int}, chkR p rs → chkR q rt → (∀ m, inR rs m ↔ inR rt m) → rs = rt
  | [], [], _, _, _, _, _ => rfl
  | [], y :: rt, p, q, _, ht, h => by
    exfalso
    have e := ht.1
    unfold okE at e
    exact inR_nil ((h y.1).2 (inR_cons.2 (.inl ⟨Int.le_refl _, e.2.1⟩)))
  | x :: rs, [], p, q, hs, _, h => by
    exfalso
    have e := hs.1
    unfold okE at e
    exact inR_nil ((h x.1).1 (inR_cons.2 (.inl ⟨Int.le_refl _, e.2.1⟩)))
  | x :: rs, y :: rt, p, q, hs, ht, h => by
    have e1 := hs.1
    have e2 := ht.1
    unfold okE at e1 e2
    have gs : ∀ m, inR rs m → x.2 + 1 < m := fun m ⟨z, hz, w⟩ => by have := chkR_gt hs.2 z hz; omega
    have gt : ∀ m, inR rt m → y.2 + 1 < m := fun m ⟨z, hz, w⟩ => by have := chkR_gt ht.2 z hz; omega
    have a1 : y.1 ≤ x.1 := by
      rcases inR_cons.1 ((h x.1).1 (inR_cons.2 (.inl ⟨Int.le_refl _, e1.2.1⟩))) with w | w
      · exact w.1
      · have := gt _ w; omega
    have a2 : x.1 ≤ y.1 := by
      rcases inR_cons.1 ((h y.1).2 (inR_cons.2 (.inl ⟨Int.le_refl _, e2.2.1⟩))) with w | w
      · exact w.1
      · have := gs _ w; omega
    have b1 : x.2 ≤ y.2 := by
      rcases Int.lt_or_le y.2 x.2 with w | w
      · exfalso
        rcases inR_cons.1 ((h (y.2 + 1)).1 (inR_cons.2 (.inl ⟨by omega, by omega⟩))) with v | v
        · omega
        · have := gt _ v; omega
      · exact w
    have b2 : y.2 ≤ x.2 := by
      rcases Int.lt_or_le x.2 y.2 with w | w
      · exfalso
        rcases inR_cons.1 ((h (x.2 + 1)).2 (inR_cons.2 (.inl ⟨by omega, by omega⟩))) with v | v
        · omega
        · have := gs _ v; omega
      · exact w
    have exy : x = y := Prod.ext (by omega) (by omega)
    subst exy
    rw [chkR_canon hs.2 ht.2 (fun m => ⟨fun w => by
      rcases inR_cons.1 ((h m).1 (inR_cons.2 (.inr w))) with v | v
      · have := gs _ w; omega
      · exact v, fun w => by
      rcases inR_cons.1 ((h m).2 (inR_cons.2 (.inr w))) with v | v
      · have := gt _ w; omega
      · exact v⟩)]
/-- What all lists hold. -/
def inS (xs : List Sn) (o m : Int) : Prop := inR (ofF xs o) m
theorem set_some {rs : List Rg} (h : setsOK rs) : ∃ m, inR rs m := by
  obtain ⟨h1, h2⟩ := h
  match rs, h1, h2 with
  | x :: rs, _, h2 =>
    have e := h2.1
    unfold okE at e
    exact ⟨x.1, inR_cons.2 (.inl ⟨Int.le_refl _, e.2.1⟩)⟩
theorem of_gt {xs : List Sn} {p o : Int} (h : chkS p xs) (ho : o ≤ p) : ofF xs o = [] := ofF_no (fun x hx => by have := chkS_gt h x hx; omega)
theorem chkS_canon : ∀ {xs ys : List Sn} {p q : Int}, chkS p xs → chkS q ys → (∀ o m, inS xs o m ↔ inS ys o m) → xs = ys
  | [], [], _, _, _, _, _ => rfl
  | [], y :: ys, p, q, _, hy, h => by
    exfalso
    obtain ⟨m, hm⟩ := set_some hy.1.2.2.1
    have := (h y.1 m).2 (by unfold inS; rw [of_cons, if_pos rfl]; exact hm)
    exact inR_nil this
  | x :: xs, [], p, q, hx, _, h => by
    exfalso
    obtain ⟨m, hm⟩ := set_some hx.1.2.2.1
    have := (h x.1 m).1 (by unfold inS; rw [of_cons, if_pos rfl]; exact hm)
    exact inR_nil this
  | x :: xs, y :: ys, p, q, hx, hy, h => by
    have eo : x.1 = y.1 := by
      rcases Int.lt_trichotomy x.1 y.1 with w | w | w
      · exfalso
        obtain ⟨m, hm⟩ := set_some hx.1.2.2.1
        have := (h x.1 m).1 (by unfold inS; rw [of_cons, if_pos rfl]; exact hm)
        unfold inS at this
        rw [of_cons, if_neg (by omega), of_gt hy.2 (by omega)] at this
        exact inR_nil this
      · exact w
      · exfalso
        obtain ⟨m, hm⟩ := set_some hy.1.2.2.1
        have := (h y.1 m).2 (by unfold inS; rw [of_cons, if_pos rfl]; exact hm)
        unfold inS at this
        rw [of_cons, if_neg (by omega), of_gt hx.2 (by omega)] at this
        exact inR_nil this
    have er : x.2 = y.2 := chkR_canon hx.1.2.2.1.2 hy.1.2.2.1.2 (fun m => by
      have := h x.1 m
      unfold inS at this
      rwa [of_cons, if_pos rfl, of_cons, if_pos eo.symm] at this)
    have exy : x = y := Prod.ext eo er
    subst exy
    rw [chkS_canon hx.2 hy.2 (fun o m => by
      have := h o m
      unfold inS at this ⊢
      rw [of_cons, of_cons] at this
      by_cases e : x.1 = o
      · rw [of_gt hx.2 (by omega), of_gt hy.2 (by omega)]
      · rwa [if_neg e, if_neg e] at this)]
/-- Adding one number adds one interval at the most. -/
theorem add_more {xs ys : List Sn} {o n e : Int} {t : Bool} (r : addF xs o n = (ys, t, e)) (he : e = 0) : manyF ys ≤ manyF xs + 1 := by
  rcases add_res r with ⟨w, _⟩ | ⟨_, gA, _⟩
  · exact absurd he w
  · have hnn : ∀ near : Int, near = (if holdsP (ofF xs o) (n - 1) then 1 else 0) + (if holdsP (ofF xs o) (n + 1) then 1 else 0) → 0 ≤ near := fun near h => by rw [h]; split <;> split <;> omega
    rcases room gA r rfl with ⟨_, rfl, _⟩ | ⟨_, _, _, w⟩ | ⟨_, _, _, w, _⟩
    · omega
    · omega
    · have := hnn _ rfl; omega
theorem add_fits {xs : List Sn} {o n : Int} (gA : okA xs o n) (h : manyF xs < 64) : ∃ ys t, addF xs o n = (ys, t, 0) := by
  cases r : addF xs o n with
  | mk ys w =>
    obtain ⟨t, e⟩ := w
    rcases room gA r rfl with ⟨_, _, w⟩ | ⟨_, w, _⟩ | ⟨_, _, w, _⟩
    · exact ⟨ys, t, by rw [w]⟩
    · omega
    · exact ⟨ys, t, by rw [w]⟩
/-- Adding numbers of origins, as long as there is room. -/
theorem adds_ok : ∀ (ps : List (Int × Int)), ps.length ≤ 64 → (∀ x ∈ ps, 0 ≤ x.1 ∧ x.1 ≤ 255 ∧ 0 ≤ x.2 ∧ x.2 ≤ 255) → ∃ ys, addsF ps = (ys, true) ∧ validS ys ∧ manyF ys ≤ ps.length ∧ ∀ o m, inS ys o m ↔ ∃ x ∈ ps, x.1 % 8 = o ∧ 1 + x.2 % 64 = m := by
  have key : ∀ (ps : List (Int × Int)) (xs : List Sn), validS xs → manyF xs + ps.length ≤ 64 → (∀ x ∈ ps, 0 ≤ x.1 ∧ x.1 ≤ 255 ∧ 0 ≤ x.2 ∧ x.2 ≤ 255) →
      ∃ ys, ps.foldl stepS (xs, true) = (ys, true) ∧ validS ys ∧ manyF ys ≤ manyF xs + ps.length ∧ ∀ o m, inS ys o m ↔ inS xs o m ∨ ∃ x ∈ ps, x.1 % 8 = o ∧ 1 + x.2 % 64 = m := by
    intro ps
    induction ps with
    | nil => intro xs hv _ _; exact ⟨xs, rfl, hv, by simp, fun o m => by simp⟩
    | cons a ps ih =>
      intro xs hv hl hb
      have ha := hb a (by simp)
      simp only [List.length_cons] at hl
      have gA : okA xs (a.1 % 8) (1 + a.2 % 64) := ⟨hv, ⟨by omega, by omega⟩, by omega, by omega⟩
      obtain ⟨zs, t, r⟩ := add_fits gA (by omega)
      have hm := add_more r rfl
      rcases add_res r with ⟨w, _⟩ | ⟨_, _, hz, _, hh, _⟩
      · exact absurd rfl w
      · obtain ⟨ys, f1, f2, f3, f4⟩ := ih zs hz (by omega) (fun x hx => hb x (List.mem_cons_of_mem _ hx))
        have hs : stepS (xs, true) a = (zs, true) := by
          show (if (addF xs (a.1 % 8) (1 + a.2 % 64)).2.2 = 0 then ((addF xs (a.1 % 8) (1 + a.2 % 64)).1, true) else ([], false)) = _
          rw [r]; rfl
        refine ⟨ys, by rw [List.foldl_cons, hs]; exact f1, f2, by simp only [List.length_cons]; omega, fun o m => ?_⟩
        rw [f4]
        have h1 : inS zs o m ↔ inS xs o m ∨ (o = a.1 % 8 ∧ m = 1 + a.2 % 64) := by
          have := hh o m
          unfold hasP at this
          unfold inS
          rw [← holds_in, ← holds_in]
          exact ⟨fun w => (this.1 ⟨hz, w⟩).imp (fun v => v.2) id, fun w => (this.2 (w.imp (fun v => ⟨hv, v⟩) id)).2⟩
        rw [h1]
        constructor
        · rintro ((w | w) | ⟨x, hx, w⟩)
          · exact .inl w
          · exact .inr ⟨a, by simp, w.1.symm, w.2.symm⟩
          · exact .inr ⟨x, List.mem_cons_of_mem _ hx, w⟩
        · rintro (w | ⟨x, hx, w⟩)
          · exact .inl (.inl w)
          · rcases List.mem_cons.1 hx with rfl | hx
            · exact .inl (.inr ⟨w.1.symm, w.2.symm⟩)
            · exact .inr ⟨x, hx, w⟩
  intro ps hl hb
  obtain ⟨ys, f1, f2, f3, f4⟩ := key ps [] ⟨by decide, trivial⟩ (by simp [manyF]; omega) hb
  refine ⟨ys, f1, f2, by simpa [manyF] using f3, fun o m => ?_⟩
  rw [f4]
  constructor
  · rintro (w | w)
    · exact absurd w inR_nil
    · exact w
  · exact .inr
/-- Whatever the order. -/
theorem adds_eq {ps qs : List (Int × Int)} (hp : ps.length ≤ 64) (hq : qs.length ≤ 64) (hb : ∀ x ∈ ps, 0 ≤ x.1 ∧ x.1 ≤ 255 ∧ 0 ≤ x.2 ∧ x.2 ≤ 255) (hm : ∀ x, x ∈ ps ↔ x ∈ qs) : ∃ ys, addsF ps = (ys, true) ∧ addsF qs = (ys, true) := by
  obtain ⟨ys, f1, f2, _, f4⟩ := adds_ok ps hp hb
  obtain ⟨zs, g1, g2, _, g4⟩ := adds_ok qs hq (fun x hx => hb x ((hm x).2 hx))
  have : ys = zs := chkS_canon f2.2 g2.2 (fun o m => by
    rw [f4, g4]
    exact ⟨fun ⟨x, hx, w⟩ => ⟨x, (hm x).1 hx, w⟩, fun ⟨x, hx, w⟩ => ⟨x, (hm x).2 hx, w⟩⟩)
  subst this
  exact ⟨ys, f1, g1⟩

end Go.Proofs.Ytjibgfihfbdcaaa.SeenOwn
