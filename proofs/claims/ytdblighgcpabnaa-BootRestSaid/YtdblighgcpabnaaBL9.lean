/- The law's proof: for every input the law answers true. Conditions: none. -/
import Derived.Test.YtdblighgcpabnaaBg18
import Derived.OpenShut
import Derived.Test.YtdblighgcpabnaaRows
namespace Go.Proofs.Ytdblighgcpabnaa.BootOwn
open Go Go.Sx Go.Proofs.Ytdblighgcpabnaa
set_option maxRecDepth 100000
set_option maxHeartbeats 4000000
set_option linter.unusedVariables false
set_option linter.unusedSimpArgs false
variable {E : Mem} {K : SV → Mem → Prop}
noncomputable def tabL9 : FuncId → List SV → Mem → (SV → Mem → Prop) → Prop := fun f args E K => match f with
  | 10 => d0 args ((∀ E' : Mem, Mem.le E E' → K (B true) E'))
  | 25 => d2 args fun x0 x1 => dS x0 fun b1 l2 c3 => dS x1 fun b4 l5 c6 => ∃ (xs : List Int) (ys : List Int), Bs E b1 l2 c3 xs ∧ Bs E b4 l5 c6 ys ∧ l2 ≤ 60 ∧ l5 ≤ 60 ∧ (∀ (b' : Option Addr) (l' c' : Nat) (y : List Int) (E' : Mem), Mem.le E E' → Hyp (Run y xs ys) → Bs E' b' l' c' y → K (.tup [.agg [I 128, L b' l' c'], B true]) E')
  | 17 => d3 args fun x0 x1 x2 => dC x0 fun l1 => d2 l1 fun x0_0 x0_1 => dI x0_0 fun a1 => dS x0_1 fun b2 l3 c4 => dI x1 fun a5 => dS x2 fun b6 l7 c8 => ∃ (zs : List Int) (p : List Int) (ms : List (Int × List Int)) (e : Int), Bs E b2 l3 c4 zs ∧ Bs E b6 l7 c8 p ∧ installF a1 zs a5 p = (ms, e) ∧ (∀ (b' : Option Addr) (l' c' : Nat) (E' : Mem), Mem.le E E' → FL E' b' l' c' ms → K (.tup [L b' l' c', I e]) E')
  | 19 => d3 args fun x0 x1 x2 => dC x0 fun l1 => d2 l1 fun x0_0 x0_1 => dI x0_0 fun a1 => dS x0_1 fun b2 l3 c4 => dI x1 fun a5 => dI x2 fun a6 => ∃ (zs : List Int) (ms : List (Int × List Int)) (e : Int), Bs E b2 l3 c4 zs ∧ markF a1 zs a5 a6 = (ms, e) ∧ (∀ (b' : Option Addr) (l' c' : Nat) (E' : Mem), Mem.le E E' → FL E' b' l' c' ms → K (.tup [L b' l' c', I e]) E')
  | 27 => d2 args fun x0 x1 => dS x0 fun b1 l2 c3 => dI x1 fun a4 => ∃ (X : List (Int × List Int)) (w : List Int), FL E b1 l2 c3 (X ++ [(128, w)]) ∧ a4 = 0 ∧ l2 ≤ 100000 ∧ (∀ (b' : Option Addr) (l' c' : Nat) (E' : Mem), Mem.le E E' → Bs E' b' l' c' w → K (.tup [.agg [I 128, L b' l' c'], B true]) E')
  | 26 => d3 args fun x0 x1 x2 => dC x0 fun l1 => d2 l1 fun x0_0 x0_1 => dI x0_0 fun a1 => dS x0_1 fun b2 l3 c4 => dI x1 fun a5 => dS x2 fun b6 l7 c8 => ∃ (zs : List Int) (ds : List Int), Bs E b2 l3 c4 zs ∧ Bs E b6 l7 c8 ds ∧ selectF a1 zs = ((a5, ds), 0) ∧ l7 ≤ 100000 ∧ (∀ E' : Mem, Mem.le E E' → K (B true) E')
  | 23 => d2 args fun x0 x1 => dC x0 fun l1 => d2 l1 fun x0_0 x0_1 => dI x0_0 fun a1 => dS x0_1 fun b2 l3 c4 => dI x1 fun a5 => ∃ (zs : List Int) (r : Int), Bs E b2 l3 c4 zs ∧ marksF a1 zs a5 = r ∧ (∀ E' : Mem, Mem.le E E' → K (I r) E')
  | _ => False
theorem tabL9_ok : TabOK Try.prog tabL9 := by
  intro f args E K h
  unfold tabL9 at h
  split at h
  · obtain ⟨rfl, h⟩ := d0_elim h
    exact TabSem.congr rfl (Ent.sem okQ4 Try.func10 ⟨by kernel_rfl, by kernel_rfl⟩ rfl (q10 h))
  · replace h := d2_elim h
    obtain ⟨x0, x1, rfl, h⟩ := h
    replace h := dS_elim h
    obtain ⟨b1, l2, c3, rfl, h⟩ := h
    replace h := dS_elim h
    obtain ⟨b4, l5, c6, rfl, h⟩ := h
    obtain ⟨xs, ys, g0, g1, g2, g3, h⟩ := h
    exact TabSem.congr (valL_cons rfl (valL_cons rfl rfl)) (Ent.sem okQ4 Try.func25 ⟨by kernel_rfl, by kernel_rfl⟩ rfl (q25 g0 g1 g2 g3 h))
  · replace h := d3_elim h
    obtain ⟨x0, x1, x2, rfl, h⟩ := h
    replace h := dC_elim h
    obtain ⟨l1, hl1, h⟩ := h
    replace h := d2_elim h
    obtain ⟨x0_0, x0_1, rfl, h⟩ := h
    replace h := dI_elim h
    obtain ⟨a1, rfl, h⟩ := h
    replace h := dS_elim h
    obtain ⟨b2, l3, c4, rfl, h⟩ := h
    replace h := dI_elim h
    obtain ⟨a5, rfl, h⟩ := h
    replace h := dS_elim h
    obtain ⟨b6, l7, c8, rfl, h⟩ := h
    obtain ⟨zs, p, ms, e, g0, g1, g2, h⟩ := h
    exact TabSem.congr (valL_cons (asCells_val hl1) (valL_cons rfl (valL_cons rfl rfl))) (Ent.sem okP7 Try.func17 ⟨by kernel_rfl, by kernel_rfl⟩ rfl (q17E g0 g1 g2 h))
  · replace h := d3_elim h
    obtain ⟨x0, x1, x2, rfl, h⟩ := h
    replace h := dC_elim h
    obtain ⟨l1, hl1, h⟩ := h
    replace h := d2_elim h
    obtain ⟨x0_0, x0_1, rfl, h⟩ := h
    replace h := dI_elim h
    obtain ⟨a1, rfl, h⟩ := h
    replace h := dS_elim h
    obtain ⟨b2, l3, c4, rfl, h⟩ := h
    replace h := dI_elim h
    obtain ⟨a5, rfl, h⟩ := h
    replace h := dI_elim h
    obtain ⟨a6, rfl, h⟩ := h
    obtain ⟨zs, ms, e, g0, g1, h⟩ := h
    exact TabSem.congr (valL_cons (asCells_val hl1) (valL_cons rfl (valL_cons rfl rfl))) (Ent.sem okP5 Try.func19 ⟨by kernel_rfl, by kernel_rfl⟩ rfl (q19E g0 g1 h))
  · replace h := d2_elim h
    obtain ⟨x0, x1, rfl, h⟩ := h
    replace h := dS_elim h
    obtain ⟨b1, l2, c3, rfl, h⟩ := h
    replace h := dI_elim h
    obtain ⟨a4, rfl, h⟩ := h
    obtain ⟨X, w, g0, g1, g2, h⟩ := h
    exact TabSem.congr (valL_cons rfl (valL_cons rfl rfl)) (Ent.sem okQ2 Try.func27 ⟨by kernel_rfl, by kernel_rfl⟩ rfl (q27H g0 g1 g2 h))
  · replace h := d3_elim h
    obtain ⟨x0, x1, x2, rfl, h⟩ := h
    replace h := dC_elim h
    obtain ⟨l1, hl1, h⟩ := h
    replace h := d2_elim h
    obtain ⟨x0_0, x0_1, rfl, h⟩ := h
    replace h := dI_elim h
    obtain ⟨a1, rfl, h⟩ := h
    replace h := dS_elim h
    obtain ⟨b2, l3, c4, rfl, h⟩ := h
    replace h := dI_elim h
    obtain ⟨a5, rfl, h⟩ := h
    replace h := dS_elim h
    obtain ⟨b6, l7, c8, rfl, h⟩ := h
    obtain ⟨zs, ds, g0, g1, g2, g3, h⟩ := h
    exact TabSem.congr (valL_cons (asCells_val hl1) (valL_cons rfl (valL_cons rfl rfl))) (Ent.sem okQ3 Try.func26 ⟨by kernel_rfl, by kernel_rfl⟩ rfl (q26H g0 g1 g2 g3 h))
  · replace h := d2_elim h
    obtain ⟨x0, x1, rfl, h⟩ := h
    replace h := dC_elim h
    obtain ⟨l1, hl1, h⟩ := h
    replace h := d2_elim h
    obtain ⟨x0_0, x0_1, rfl, h⟩ := h
    replace h := dI_elim h
    obtain ⟨a1, rfl, h⟩ := h
    replace h := dS_elim h
    obtain ⟨b2, l3, c4, rfl, h⟩ := h
    replace h := dI_elim h
    obtain ⟨a5, rfl, h⟩ := h
    obtain ⟨zs, r, g0, g1, h⟩ := h
    exact TabSem.congr (valL_cons (asCells_val hl1) (valL_cons rfl rfl)) (Ent.sem okP5 Try.func23 ⟨by kernel_rfl, by kernel_rfl⟩ rfl (q23E g0 g1 h))
  · exact h.elim
noncomputable def WL9 : Cx := { P := Try.prog, inl := fun f => List.contains [28] f, tab := tabL9, isB := fun _ => false, tabB := fun _ _ _ _ _ => False, opt := { unroll := 0, carry := [] }, muts := mutsD }
theorem okWL9 : CxOK WL9 := CxOK.four tabL9_ok (by kernel_rfl) (okInl (by kernel_rfl)) (fun _ _ _ _ _ h => h.elim)
def over (z : List Int) (p : Nat) (d : List Int) : List Int := z.take p ++ (d ++ z.drop (p + d.length))
theorem over_len {z : List Int} {p : Nat} {d : List Int} (h : p + d.length ≤ z.length) : (over z p d).length = z.length := by
  unfold over
  simp only [List.length_append, List.length_take, List.length_drop]; omega
theorem over_get {z : List Int} {p : Nat} {d : List Int} (h : p + d.length ≤ z.length) {j : Nat} (hj : j < p ∨ p + d.length ≤ j) : (over z p d).getD j 0 = z.getD j 0 := by
  unfold over
  rw [List.getD_eq_getElem?_getD, List.getD_eq_getElem?_getD]
  congr 1
  rcases hj with hj | hj
  · rw [List.getElem?_append_left (by rw [List.length_take]; omega), List.getElem?_take_of_lt hj]
  · rw [List.getElem?_append_right (by rw [List.length_take]; omega), List.length_take, Nat.min_eq_left (by omega), List.getElem?_append_right (by omega), List.getElem?_drop]
    congr 1; omega
theorem over_byte {z : List Int} {p : Nat} {d : List Int} (hz : ∀ x ∈ z, 0 ≤ x ∧ x ≤ 255) (hd : ∀ x ∈ d, 0 ≤ x ∧ x ≤ 255) : ∀ x ∈ over z p d, 0 ≤ x ∧ x ≤ 255 := by
  intro x hx
  unfold over at hx
  rcases List.mem_append.1 hx with h | h
  · exact hz x (List.mem_of_mem_take h)
  rcases List.mem_append.1 h with h | h
  · exact hd x h
  · exact hz x (List.mem_of_mem_drop h)
theorem lay_over {z zs : List Int} {p l m : Nat} (hl : zs.length = l) (h : p + min l m ≤ z.length) : layV (vB z) p (List.take (min l m * 1) (List.take (l * 1) (vB zs))) = vB (over z p (zs.take m)) := by
  have e : List.take (min l m * 1) (List.take (l * 1) (vB zs)) = vB (zs.take m) := by
    rw [Nat.mul_one, Nat.mul_one, List.take_of_length_le (l := vB zs) (by simp; omega)]
    show List.take _ (List.map _ zs) = List.map _ _
    rw [← List.map_take]
    congr 1
    by_cases c : m ≤ l
    · rw [Nat.min_eq_right c]
    · rw [Nat.min_eq_left (by omega), List.take_of_length_le (by omega), List.take_of_length_le (by omega)]
  rw [e, layV_app (by rw [List.length_take, hl, Nat.min_comm]; exact h)]
  rfl
theorem rest_run {y p0 p1 w : List Int} (R : Run y p0 p1) (hl : w.length = 8448) (hb : ∀ x ∈ w, 0 ≤ x ∧ x ≤ 255)
    (h : ∀ j, j < 8448 → (j < 18 ∨ (32 ≤ j ∧ j < 32 + p0.length) ∨ (4224 ≤ j ∧ j < 4256 + p1.length)) → w.getD j 0 = y.getD j 0) (n0 : p0.length ≤ 60) (n1 : p1.length ≤ 60) : Run w p0 p1 := by
  have h0 := hdrF_len 3 p0
  have h1 := hdrF_len 7 p1
  refine ⟨hl, hb, ⟨R.h0.fit, R.h0.byt, fun j hj => (h _ (by omega) (by omega)).trans (R.h0.hdr j hj), (h _ (by omega) (by omega)).trans R.h0.who, fun j hj => (h _ (by omega) (by omega)).trans (R.h0.dat j hj)⟩, (h _ (by omega) (by omega)).trans R.a15, (h _ (by omega) (by omega)).trans R.a16, (h _ (by omega) (by omega)).trans R.a17,
    ⟨R.h1.fit, R.h1.byt, fun j hj => (h _ (by omega) (by omega)).trans (R.h1.hdr j hj), (h _ (by omega) (by omega)).trans R.h1.who, fun j hj => (h _ (by omega) (by omega)).trans (R.h1.dat j hj)⟩, (h _ (by omega) (by omega)).trans R.b15, (h _ (by omega) (by omega)).trans R.b16, (h _ (by omega) (by omega)).trans R.b17⟩
theorem run_marks {y p0 p1 : List Int} (R : Run y p0 p1) : marksF 128 y 3 = 2 ∧ marksF 128 y 7 = 1 := by
  have r := R.prog
  refine ⟨?_, ?_⟩
  · rw [marks_eq (k := 0) R.len (find_eq (.inl ⟨rfl, by rw [r.1]⟩) (by decide)), show 4224 * 0 + 17 = 17 from rfl, show 4224 * 0 + 16 = 16 from rfl, R.a17, R.a16]; rfl
  · rw [marks_eq (k := 1) R.len (find_eq (.inr ⟨rfl, by rw [r.1]; show (3 : Int) ≠ 7; decide, by rw [r.2]⟩) (by decide)), show 4224 * 1 + 17 = 4241 from rfl, show 4224 * 1 + 16 = 4240 from rfl, show 4224 * 1 + 15 = 4239 from rfl, R.b17, R.b16, R.b15]; rfl
theorem e9 {b1 : Option Addr} {l1 : Nat} {c1 : Nat} {z1 : List Int} {b2 : Option Addr} {l2 : Nat} {c2 : Nat} {z2 : List Int} {b3 : Option Addr} {l3 : Nat} {c3 : Nat} {z3 : List Int} (hB1 : Bs E b1 l1 c1 z1) (hL1 : l1 ≤ 9223372036854775807) (hB2 : Bs E b2 l2 c2 z2) (hL2 : l2 ≤ 9223372036854775807) (hB3 : Bs E b3 l3 c3 z3) (hL3 : l3 ≤ 9223372036854775807) (h : ∀ E' : Mem, Mem.le E E' → K (B true) E') :
    Ent WL9 8 Try.f9 [L b1 l1 c1, L b2 l2 c2, L b3 l3 c3] E K := by
  refine same (by kernel_rfl) (?_ : ∀ (E' : Mem), Mem.le E E' → Mem.le E E' ∧ bif decide ((NI l1) > (60 : Int)) then Mem.le E E' ∧ K (SV.raw (Value.bool true)) E' else bif bif false then true else decide ((NI l2) > (60 : Int)) then Mem.le E E' ∧ K (SV.raw (Value.bool true)) E' else bif bif false then true else decide ((NI l3) > (300 : Int)) then Mem.le E E' ∧ K (SV.raw (Value.bool true)) E' else ∃ (xs : List Int), ∃ (ys : List Int), Bs E' b1 l1 c1 xs ∧ Bs E' b2 l2 c2 ys ∧ l1 ≤ 60 ∧ l2 ≤ 60 ∧ ∀ (b' : Option Addr) (l' c' : Nat) (y : List Int) (E'_1 : Mem), Mem.le E' E'_1 → Hyp (Run y xs ys) → Bs E'_1 b' l' c' y → Mem.le E' E'_1 ∧ Mem.le E'_1 E'_1 ∧ bif bif false then true else !bif true then (NI l') == (8448 : Int) else false then Mem.le E E'_1 ∧ K (SV.raw (Value.bool false)) E'_1 else ∃ (cs : List Value), (cs = [] ∨ E'_1 (VS b' l' c') cs) ∧ l' * 1 ≤ List.length cs ∧ (∀ (x : Value), List.Mem x cs → Value.oneCell' x = true) ∧ 0 ≤ 0 ∧ 0 ≤ 0 ∧ 0 ≤ 0 ∧ req ((0 + l') * 1 ≤ 140737488355328) (∀ (cap' tot' : Nat), 0 + l' ≤ cap' → cap' * 1 ≤ tot' → req ((0 : Int) ≤ (32 : Int) ∧ (32 : Int) ≤ (NI (toN none cap'))) (∃ (cs_1 : List Value), (cs_1 = [] ∨ E'_1 (VS b3 l3 c3) cs_1) ∧ l3 * 1 ≤ List.length cs_1 ∧ (∀ (x : Value), List.Mem x cs_1 → Value.oneCell' x = true) ∧ (if toN none cap' = 18 then 0 else 18) + 14 ≤ List.length ([] ++ List.take (l' * 1) cs) ∧ req ((0 : Int) ≤ (4224 : Int) ∧ (4224 : Int) ≤ (NI (toN none cap'))) (req ((0 : Int) ≤ WI ((32 : Int) + (NI l1)) ∧ WI ((32 : Int) + (NI l1)) ≤ (NI 4224)) (∃ (cs_2 : List Value), (cs_2 = [] ∨ E'_1 (VS b3 l3 c3) cs_2) ∧ l3 * 1 ≤ List.length cs_2 ∧ (∀ (x : Value), List.Mem x cs_2 → Value.oneCell' x = true) ∧ (if toN none cap' = toN (some (WI ((32 : Int) + (NI l1)))) 0 then 0 else 0 + toN (some (WI ((32 : Int) + (NI l1)))) 0 * 1) + (4224 - toN (some (WI ((32 : Int) + (NI l1)))) 0) * 1 ≤ List.length (layV ([] ++ List.take (l' * 1) cs) (if toN none cap' = 18 then 0 else 18) (List.take (min l3 14 * 1) (List.take (l3 * 1) cs_1))) ∧ req ((0 : Int) ≤ WI ((4256 : Int) + (NI l2)) ∧ WI ((4256 : Int) + (NI l2)) ≤ (NI (toN none (0 + l')))) (∃ (cs_3 : List Value), (cs_3 = [] ∨ E'_1 (VS b3 l3 c3) cs_3) ∧ l3 * 1 ≤ List.length cs_3 ∧ (∀ (x : Value), List.Mem x cs_3 → Value.oneCell' x = true) ∧ (if toN none cap' = toN (some (WI ((4256 : Int) + (NI l2)))) 0 then 0 else 0 + toN (some (WI ((4256 : Int) + (NI l2)))) (0 : Nat) * 1) + (toN none (0 + l') - toN (some (WI ((4256 : Int) + (NI l2)))) 0) * 1 ≤ List.length (layV (layV ([] ++ List.take (l' * (1 : Nat)) cs) (if toN none cap' = (18 : Nat) then 0 else 18) (List.take (min l3 (14 : Nat) * 1) (List.take (l3 * (1 : Nat)) cs_1))) (if toN none cap' = toN (some (WI ((32 : Int) + (NI l1)))) 0 then 0 else 0 + toN (some (WI ((32 : Int) + (NI l1)))) (0 : Nat) * 1) (List.take (min l3 ((4224 : Nat) - toN (some (WI ((32 : Int) + (NI l1)))) 0) * 1) (List.take (l3 * 1) cs_2))) ∧ ∀ (base : Option Addr) (E' : Mem), Mem.le E'_1 E' → WinE E' base (layV (layV (layV ([] ++ List.take (l' * (1 : Nat)) cs) (if toN none cap' = (18 : Nat) then 0 else 18) (List.take (min l3 (14 : Nat) * (1 : Nat)) (List.take (l3 * (1 : Nat)) cs_1))) (if toN none cap' = toN (some (WI ((32 : Int) + (NI l1)))) 0 then 0 else (0 : Nat) + toN (some (WI ((32 : Int) + (NI l1)))) (0 : Nat) * (1 : Nat)) (List.take (min l3 ((4224 : Nat) - toN (some (WI ((32 : Int) + (NI l1)))) 0) * (1 : Nat)) (List.take (l3 * (1 : Nat)) cs_2))) (if toN none cap' = toN (some (WI ((4256 : Int) + (NI l2)))) 0 then 0 else (0 : Nat) + toN (some (WI ((4256 : Int) + (NI l2)))) (0 : Nat) * (1 : Nat)) (List.take (min l3 (toN none ((0 : Nat) + l') - toN (some (WI ((4256 : Int) + (NI l2)))) 0) * (1 : Nat)) (List.take (l3 * (1 : Nat)) cs_3))) → ∃ (zs : List Int), ∃ (ds : List Int), Bs E' (Option.map (fun (x : Addr) => Addr.add x 0) base) ((0 : Nat) + l') cap' zs ∧ Bs E' b2 l2 c2 ds ∧ selectF 128 zs = (((7 : Int), ds), (0 : Int)) ∧ l2 ≤ (100000 : Nat) ∧ ∀ (E'_2 : Mem), Mem.le E' E'_2 → ∃ (zs : List Int), ∃ (r : Int), Bs E'_2 (Option.map (fun (x : Addr) => Addr.add x 0) base) ((0 : Nat) + l') cap' zs ∧ marksF 128 zs (3 : Int) = r ∧ ∀ (E' : Mem), Mem.le E'_2 E' → Mem.le E'_2 E' ∧ bif bif true then r == (2 : Int) else false then ∃ (zs : List Int), ∃ (r : Int), Bs E' (Option.map (fun (x : Addr) => Addr.add x 0) base) ((0 : Nat) + l') cap' zs ∧ marksF 128 zs (7 : Int) = r ∧ ∀ (E'_3 : Mem), Mem.le E' E'_3 → Mem.le E' E'_3 ∧ Mem.le E E'_3 ∧ K (SV.raw (Value.bool (bif true then r == (1 : Int) else false))) E'_3 else Mem.le E E' ∧ K (SV.raw (Value.bool false)) E'))))))
  delta WI NI VS
  refine fun E1 k1 => ?_
  have le1 : Mem.le E E1 := Mem.le_trans (Mem.le_refl E) k1
  refine ⟨k1, condC (fun g => ⟨le1, h E1 le1⟩) (fun g1 => condC (fun g => ⟨le1, h E1 le1⟩) (fun g2 => condC (fun g => ⟨le1, h E1 le1⟩) (fun g3 => ?_)))⟩
  have g1 : l1 ≤ 60 := by simp at g1; omega
  have g2 : l2 ≤ 60 := by simp at g2; omega
  have g3 : l3 ≤ 300 := by simp at g3; omega
  have m1 := hB1.2.1
  have m2 := hB2.2.1
  have m3 := hB3.2.1
  have B1 := hB1.mono le1
  have B2 := hB2.mono le1
  have B3 := hB3.mono le1
  refine ⟨z1, z2, B1, B2, g1, g2, fun bY lY cY y E2 k2 R BY => ?_⟩
  have le2 : Mem.le E E2 := Mem.le_trans le1 k2
  have B1 := B1.mono k2
  have B2 := B2.mono k2
  have B3 := B3.mono k2
  have R : Run y z1 z2 := R
  have ylen := R.len
  have lye : lY = 8448 := by rw [← BY.2.1, R.len]
  subst lye
  refine ⟨k2, Mem.le_refl _, condC (fun g => absurd g (by decide)) (fun _ => ?_)⟩
  obtain ⟨t1, t2, t3⟩ := BY.src
  obtain ⟨s1, s2, s3⟩ := B3.src
  refine ⟨_, t1, t2, t3, Nat.le_refl _, Nat.le_refl _, Nat.le_refl _, req_intro (by decide) (fun cap tot c1 c2 => ?_)⟩
  have e0 : toN none cap = cap := rfl
  have w1 : IntKind.wrap .i64 ((32 : Int) + (l1 : Int)) = ((32 + l1 : Nat) : Int) := by rw [wrap_i64 (by omega)]; omega
  have w2 : IntKind.wrap .i64 ((4256 : Int) + (l2 : Int)) = ((4256 + l2 : Nat) : Int) := by rw [wrap_i64 (by omega)]; omega
  have f1 : toN (some ((32 + l1 : Nat) : Int)) 0 = 32 + l1 := Int.toNat_natCast _
  have f2 : toN (some ((4256 + l2 : Nat) : Int)) 0 = 4256 + l2 := Int.toNat_natCast _
  have f3 : toN none (0 + 8448) = 8448 := rfl
  have e1 : [] ++ List.take (8448 * 1) (y.map (Value.int .u8)) = vB y := by rw [List.nil_append, List.take_of_length_le (by simp; omega)]
  have q1 : (if cap = 18 then 0 else 18) = 18 := if_neg (by omega)
  have q2 : (if cap = 32 + l1 then 0 else 0 + (32 + l1) * 1) = 32 + l1 := by rw [if_neg (by omega)]; omega
  have q3 : (if cap = 4256 + l2 then 0 else 0 + (4256 + l2) * 1) = 4256 + l2 := by rw [if_neg (by omega)]; omega
  rw [e0, w1, w2, f1, f2, f3, e1, q1, q2, q3]
  have o1 : layV (vB y) 18 (List.take (min l3 14 * 1) (List.take (l3 * 1) (z3.map (Value.int .u8)))) = vB (over y 18 (z3.take 14)) := lay_over m3 (by omega)
  have n1 : (over y 18 (z3.take 14)).length = 8448 := by rw [over_len (by rw [List.length_take]; omega)]; exact ylen
  have o2 : layV (vB (over y 18 (z3.take 14))) (32 + l1) (List.take (min l3 (4224 - (32 + l1)) * 1) (List.take (l3 * 1) (z3.map (Value.int .u8)))) = vB (over (over y 18 (z3.take 14)) (32 + l1) (z3.take (4224 - (32 + l1)))) := lay_over m3 (by omega)
  have n2 : (over (over y 18 (z3.take 14)) (32 + l1) (z3.take (4224 - (32 + l1)))).length = 8448 := by rw [over_len (by rw [List.length_take]; omega)]; exact n1
  have o3 : layV (vB (over (over y 18 (z3.take 14)) (32 + l1) (z3.take (4224 - (32 + l1))))) (4256 + l2) (List.take (min l3 (8448 - (4256 + l2)) * 1) (List.take (l3 * 1) (z3.map (Value.int .u8)))) = vB (over (over (over y 18 (z3.take 14)) (32 + l1) (z3.take (4224 - (32 + l1)))) (4256 + l2) (z3.take (8448 - (4256 + l2)))) := lay_over m3 (by omega)
  have n3 : (over (over (over y 18 (z3.take 14)) (32 + l1) (z3.take (4224 - (32 + l1)))) (4256 + l2) (z3.take (8448 - (4256 + l2)))).length = 8448 := by rw [over_len (by rw [List.length_take]; omega)]; exact n2
  have by3 := hB3.2.2.2.1
  have bt : ∀ m, ∀ x ∈ z3.take m, 0 ≤ x ∧ x ≤ 255 := fun m x hx => by3 x (List.mem_of_mem_take hx)
  have bz := over_byte (p := 4256 + l2) (over_byte (p := 32 + l1) (over_byte (p := 18) R.byt (bt 14)) (bt (4224 - (32 + l1)))) (bt (8448 - (4256 + l2)))
  have gz : ∀ j, j < 8448 → (j < 18 ∨ (32 ≤ j ∧ j < 32 + z1.length) ∨ (4224 ≤ j ∧ j < 4256 + z2.length)) → (over (over (over y 18 (z3.take 14)) (32 + l1) (z3.take (4224 - (32 + l1)))) (4256 + l2) (z3.take (8448 - (4256 + l2)))).getD j 0 = y.getD j 0 := fun j hj hc => by
    rw [over_get (by rw [List.length_take]; omega) (by rw [List.length_take]; omega), over_get (by rw [List.length_take]; omega) (by rw [List.length_take]; omega), over_get (by rw [List.length_take]; omega) (by rw [List.length_take]; omega)]
  have RW := rest_run R n3 bz gz (by omega) (by omega)
  have lv : ∀ u : List Int, (vB u).length = u.length := fun u => List.length_map _
  refine req_intro (by omega) ⟨z3.map (Value.int .u8), s1, s2, s3, by rw [lv]; omega, req_intro (by omega) (req_intro (by omega) ⟨z3.map (Value.int .u8), s1, s2, s3, ?_, req_intro (by omega) ⟨z3.map (Value.int .u8), s1, s2, s3, ?_, ?_⟩⟩)⟩
  · rw [o1, lv, n1]; omega
  · rw [o1, o2, lv, n2]; omega
  rw [o1, o2, o3]
  generalize over (over (over y 18 (z3.take 14)) (32 + l1) (z3.take (4224 - (32 + l1)))) (4256 + l2) (z3.take (8448 - (4256 + l2))) = w at n3 bz gz RW
  have ms := RW.live.select
  have mk := run_marks RW
  refine fun base E3 k3 ww => ?_
  have le3 : Mem.le E E3 := Mem.le_trans le2 k3
  have B1 := B1.mono k3
  have B2 := B2.mono k3
  have B3 := B3.mono k3
  have BY := BY.mono k3
  have BW := Bs.win ww rfl (by rw [n3]) c1 bz
  refine ⟨w, z2, BW, B2, ms, by omega, fun E4 k4 => ?_⟩
  have le4 : Mem.le E E4 := Mem.le_trans le3 k4
  have B1 := B1.mono k4
  have B2 := B2.mono k4
  have B3 := B3.mono k4
  have BY := BY.mono k4
  have BW := BW.mono k4
  refine ⟨w, 2, BW, mk.1, fun E5 k5 => ?_⟩
  have le5 : Mem.le E E5 := Mem.le_trans le4 k5
  have B1 := B1.mono k5
  have B2 := B2.mono k5
  have B3 := B3.mono k5
  have BY := BY.mono k5
  have BW := BW.mono k5
  refine ⟨k5, condC (fun _ => ?_) (fun g => absurd g (by decide))⟩
  refine ⟨w, 1, BW, mk.2, fun E6 k6 => ?_⟩
  have le6 : Mem.le E E6 := Mem.le_trans le5 k6
  have B1 := B1.mono k6
  have B2 := B2.mono k6
  have B3 := B3.mono k6
  have BY := BY.mono k6
  have BW := BW.mono k6
  exact ⟨k6, le6, h E6 le6⟩
theorem opn9 (W : World) (K : List SV → Prop) (h : ∀ (b1 : Option Addr) (l1 c1 : Nat) (z1 : List Int), (l1 ≤ c1) → (c1 ≤ maxLen) → (b1 = none → c1 = 0) → (z1.length = c1) → (∀ x ∈ z1, (Lit.int .u8 x).wf = true) → RowAt W (.slice b1 l1 c1) (z1.map (.int .u8)) → ∀ (b2 : Option Addr) (l2 c2 : Nat) (z2 : List Int), (l2 ≤ c2) → (c2 ≤ maxLen) → (b2 = none → c2 = 0) → (z2.length = c2) → (∀ x ∈ z2, (Lit.int .u8 x).wf = true) → RowAt W (.slice b2 l2 c2) (z2.map (.int .u8)) → ∀ (b3 : Option Addr) (l3 c3 : Nat) (z3 : List Int), (l3 ≤ c3) → (c3 ≤ maxLen) → (b3 = none → c3 = 0) → (z3.length = c3) → (∀ x ∈ z3, (Lit.int .u8 x).wf = true) → RowAt W (.slice b3 l3 c3) (z3.map (.int .u8)) → K [L b1 l1 c1, L b2 l2 c2, L b3 l3 c3]) : opnAll Try.prog W Try.f9.params.toList K :=
  same (by kernel_rfl) h
theorem sem9 (W : World) : opnAll Try.prog W Try.f9.params.toList fun ss => TabSem Try.prog 9 ss (fun v cs => RowAt W v cs) fun r _ => r = .raw (.bool true) := by
  refine opn9 W _ ?_
  intro b1 l1 c1 z1 hl1 hc1 hb1 hz1 hw1 hE1 b2 l2 c2 z2 hl2 hc2 hb2 hz2 hw2 hE2 b3 l3 c3 z3 hl3 hc3 hb3 hz3 hw3 hE3
  exact Ent.sem okWL9 Try.func9 ⟨by kernel_rfl, by kernel_rfl⟩ rfl (e9 (Bs.of hl1 hb1 hz1 hw1 hE1) (Nat.le_trans hl1 (by simpa [maxLen] using hc1)) (Bs.of hl2 hb2 hz2 hw2 hE2) (Nat.le_trans hl2 (by simpa [maxLen] using hc2)) (Bs.of hl3 hb3 hz3 hw3 hE3) (Nat.le_trans hl3 (by simpa [maxLen] using hc3)) (fun _ _ => rfl))
theorem lifted9 (os : Os) (started : os.Started) (H : Type) (enc : TypeId × Value → H) :
    ReturnsInHanded {} Try.checked os 9 .any (Rows.bootRestSpec.pre6 enc Try.prog Try.f9 Rows.bootRestRow.domain false) (Rows.bootRestSpec.post enc Try.prog Try.f9 false true false false) :=
  lift_true (C := Try.checked) (by kernel_rfl) (by kernel_rfl) started (by kernel_rfl) Try.func9
    (ChangeSpec.witness6 (enc := enc) (C := Try.checked) false ⟨#[], #[.slice none 0 0, .slice none 0 0, .slice none 0 0], []⟩ 8 (by kernel_rfl) (by kernel_rfl) (by kernel_rfl) (by kernel_rfl))
    (Tb := 4) (by kernel_rfl) (by kernel_rfl) (by kernel_rfl) rfl
    (fun ds hl => by
      match ds, hl with
      | [d0, d1, d2], _ => exact ⟨rfl, rfl, rfl⟩)
    sem9
theorem over9 : Rows.bootRestRow.holds Try.pinned (OpenSpec.ofChange Rows.bootRestSpec) :=
  OpenClaim.holds_of_wide 9 Try.f9 rfl rfl rfl rfl rfl rfl rfl ⟨rfl, rfl, rfl, rfl, rfl⟩ rfl rfl rfl rfl rfl (by kernel_rfl) Try.func9 (by kernel_rfl)
    (of_decide_eq_true (by kernel_rfl)) (by unfold Func.isWrapper; first | (rw [if_pos (by decide +kernel)]; kernel_rfl) | (rw [if_neg (by decide +kernel)]; exact ⟨rfl, rfl⟩))
    (fun os started H enc _ => lifted9 os started H enc)
theorem proved9 : Rows.BootRestSaid := over9
end Go.Proofs.Ytdblighgcpabnaa.BootOwn
