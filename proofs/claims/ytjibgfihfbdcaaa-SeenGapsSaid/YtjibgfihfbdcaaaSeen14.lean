/- The package seen: what its functions answer. -/
import Derived.Test.YtjibgfihfbdcaaaSeen13
namespace Go.Proofs.Ytjibgfihfbdcaaa.SeenOwn
open Go Go.Sx
set_option maxRecDepth 100000
set_option maxHeartbeats 4000000
set_option linter.unusedVariables false
set_option linter.unusedSimpArgs false
variable {E : Mem} {K : SV → Mem → Prop}

/-! What the arguments of a law hold. -/
theorem SLr_of {α : Type} {R : RowR α} {Q : α → Prop} : ∀ {z : List (List Value)}, (∀ r ∈ z, ∃ x, R E x r ∧ Q x) → ∃ xs, SLr R E z xs ∧ ∀ x ∈ xs, Q x
  | [], _ => ⟨[], SLr.nil, fun x h => by cases h⟩
  | r :: z, h => by
    obtain ⟨x, h1, h2⟩ := h r (by simp)
    obtain ⟨xs, h3, h4⟩ := SLr_of (fun r hr => h r (List.mem_cons_of_mem _ hr))
    exact ⟨x :: xs, (SLr.one h1).app h3, fun y hy => by
      rcases List.mem_cons.1 hy with rfl | hy
      · exact h2
      · exact h4 y hy⟩
theorem RowAt_take {W : World} {v : Value} {cs : List Value} (h : RowAt W v cs) (k : Nat) : RowAt W v (cs.take k) := by
  rcases h with rfl | ⟨a, n, c, h1, h2, h3⟩
  · exact .inl (by simp)
  · exact .inr ⟨a, n, c, h1, h2, fun i x hx => h3 i x (by
      have hk := (List.getElem?_eq_some_iff.1 hx).1
      rw [List.length_take] at hk
      rwa [List.getElem?_take_of_lt (by omega)] at hx)⟩
theorem SL_of {α : Type} {k : Nat} {R : RowR α} {Q : α → Prop} {W : World} {b : Option Addr} {l c : Nat} {z : List (List Value)} (hl : l ≤ c) (hb : b = none → c = 0) (hz : z.length = c) (hE : RowAt W (.slice b l c) z.flatten) (hk : ∀ r ∈ z, r.length = k)
    (hr : ∀ r ∈ z, ∃ x, R (fun v cs => RowAt W v cs) x r ∧ Q x) : ∃ xs, SL R (fun v cs => RowAt W v cs) b l c xs ∧ ∀ x ∈ xs, Q x := by
  obtain ⟨xs, h1, h2⟩ := SLr_of (z := z.take l) (fun r h => hr r (List.mem_of_mem_take h))
  refine ⟨xs, ⟨z.take l, h1, ?_, hl, .inr ?_, fun e => by have := hb e; omega⟩, h2⟩
  · rw [← h1.1, List.length_take]; omega
  · show RowAt W _ _
    rw [← flat_take hk]; exact RowAt_take hE _
theorem Shp_fld {W : World} {n : Nat} {T : TypeId} {r : List Value} {fs : Array Field} (hu : Try.prog.underlying T = some (.struct fs)) (h : Shp Try.prog W (n + 1) T r) {i t o : Nat} (hf : (fs.toList[i]?).map (fun f => (f.type, f.offset)) = some (t, o)) : Shp Try.prog W n t ((r.drop o).take (Try.prog.cellsOf t)) := by
  unfold Shp at h
  rw [hu] at h
  obtain ⟨_, h⟩ := h
  cases he : fs.toList[i]? with
  | none => rw [he] at hf; cases hf
  | some f =>
    rw [he] at hf
    simp only [Option.map_some, Option.some.injEq, Prod.mk.injEq] at hf
    have := h f (List.mem_of_getElem? he)
    rwa [hf.1, hf.2] at this
theorem Shp_sl {W : World} {n : Nat} {T e : TypeId} {v : Value} (hu : Try.prog.underlying T = some (.slice e)) (h : Shp Try.prog W (n + 1) T [v]) : ∃ (b : Option Addr) (l c : Nat) (z : List (List Value)), v = .slice b l c ∧ l ≤ c ∧ c ≤ maxLen ∧ (b = none → c = 0) ∧ z.length = c ∧ RowAt W (.slice b l c) z.flatten ∧ ∀ r ∈ z, r.length = Try.prog.cellsOf e ∧ Shp Try.prog W n e r := by
  unfold Shp at h
  rw [hu] at h
  obtain ⟨b, l, c, z, h1, h⟩ := h
  exact ⟨b, l, c, z, by simpa using h1, h⟩
theorem rg_row {W : World} {r : List Value} (h1 : r.length = 2) (h2 : Shp Try.prog W 10 47 r) : ∃ x : Rg, RR (fun v cs => RowAt W v cs) x r ∧ True := by
  have h := flatT_sound 10 47 [3, 3] r (by kernel_rfl) (h1.trans (by kernel_rfl)) h2
  obtain ⟨z0, r1, rfl, _, h⟩ := h.int (k := .i64) (by kernel_rfl)
  obtain ⟨z1, r2, rfl, _, h⟩ := h.int (k := .i64) (by kernel_rfl)
  obtain rfl := h.nil
  exact ⟨(z0, z1), rfl, trivial⟩
noncomputable def fs45 : Array Field := match Try.prog.underlying 45 with | some (.struct fs) => fs | _ => #[]
theorem sn_row {W : World} {r : List Value} (h1 : r.length = 2) (h2 : Shp Try.prog W 12 45 r) : ∃ x : Sn, SR (fun v cs => RowAt W v cs) x r ∧ x.2.length ≤ 9223372036854775807 := by
  match r, h1 with
  | [u, v], _ =>
    have hu : Try.prog.underlying 45 = some (.struct fs45) := by kernel_rfl
    have a0 : Shp Try.prog W 11 3 [u] := Shp_fld hu h2 (i := 0) (t := 3) (o := 0) (by kernel_rfl)
    have a1 : Shp Try.prog W 11 43 [v] := Shp_fld hu h2 (i := 1) (t := 43) (o := 1) (by kernel_rfl)
    obtain ⟨z0, rfl, _⟩ := Shp_int1 (k := .i64) (by kernel_rfl) a0
    obtain ⟨b, l, c, z, rfl, g1, g2, g3, g4, g5, g6⟩ := Shp_sl (e := 47) (by kernel_rfl) a1
    obtain ⟨xs, g7, _⟩ := SL_of (k := 2) (R := RR) (Q := fun _ => True) g1 g3 g4 g5 (fun r hr => (g6 r hr).1.trans (by kernel_rfl)) (fun r hr => rg_row ((g6 r hr).1.trans (by kernel_rfl)) (g6 r hr).2)
    refine ⟨(z0, xs), ⟨b, l, c, rfl, g7⟩, ?_⟩
    have := g7.len
    have e : maxLen = 9223372036854775807 := by decide
    show xs.length ≤ _
    omega
theorem SSof {W : World} {b : Option Addr} {l c : Nat} {z : List (List Value)} (hl : l ≤ c) (hb : b = none → c = 0) (hz : z.length = c) (hE : RowAt W (.slice b l c) z.flatten) (hr : ∀ r ∈ z, r.length = 2 ∧ Shp Try.prog W 12 45 r) :
    ∃ xs, SS (fun v cs => RowAt W v cs) b l c xs ∧ ∀ x ∈ xs, x.2.length ≤ 9223372036854775807 :=
  SL_of (k := 2) hl hb hz hE (fun r h => (hr r h).1) (fun r h => sn_row (hr r h).1 (hr r h).2)
theorem pr_row {W : World} {r : List Value} (h1 : r.length = 2) (h2 : Shp Try.prog W 12 36 r) : ∃ x : Int × Int, PR (fun v cs => RowAt W v cs) x r ∧ (0 ≤ x.1 ∧ x.1 ≤ 255 ∧ 0 ≤ x.2 ∧ x.2 ≤ 255) := by
  match r, h1 with
  | [u, v], _ =>
    unfold Shp at h2
    rw [show Try.prog.underlying 36 = some (.array 2 5) from by kernel_rfl] at h2
    obtain ⟨_, h2⟩ := h2
    have a0 : Shp Try.prog W 11 5 [u] := h2 0 (by decide)
    have a1 : Shp Try.prog W 11 5 [v] := h2 1 (by decide)
    obtain ⟨z0, rfl, w0⟩ := Shp_int1 (k := .u8) (by kernel_rfl) a0
    obtain ⟨z1, rfl, w1⟩ := Shp_int1 (k := .u8) (by kernel_rfl) a1
    refine ⟨(z0, z1), rfl, ?_⟩
    have b0 : 0 ≤ z0 ∧ z0 ≤ 255 := by simpa [Lit.wf, IntKind.min, IntKind.max, IntKind.signed, IntKind.bits] using w0
    have b1 : 0 ≤ z1 ∧ z1 ≤ 255 := by simpa [Lit.wf, IntKind.min, IntKind.max, IntKind.signed, IntKind.bits] using w1
    exact ⟨b0.1, b0.2, b1.1, b1.2⟩
theorem PSof {W : World} {b : Option Addr} {l c : Nat} {z : List (List Value)} (hl : l ≤ c) (hb : b = none → c = 0) (hz : z.length = c) (hE : RowAt W (.slice b l c) z.flatten) (hr : ∀ r ∈ z, r.length = 2 ∧ Shp Try.prog W 12 36 r) :
    ∃ ps, PS (fun v cs => RowAt W v cs) b l c ps ∧ ∀ x ∈ ps, 0 ≤ x.1 ∧ x.1 ≤ 255 ∧ 0 ≤ x.2 ∧ x.2 ≤ 255 :=
  SL_of (k := 2) hl hb hz hE (fun r h => (hr r h).1) (fun r h => pr_row (hr r h).1 (hr r h).2)

end Go.Proofs.Ytjibgfihfbdcaaa.SeenOwn
