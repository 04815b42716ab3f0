/- The symbolic evaluator, part G: soundness of one operation. Conditions: none; generic over programs. -/
import Derived.Test.YtjibgfihfbdcaaaSyF
namespace Go.Sx
open Go.RowKit (Below)

section
variable {ro : Option Nat} {P : Program} {callW : CallT} {S : St} {a : Act} {w w0 : World} {mu : Fm} {ρ : Env} {K : KT} {next : Act → World → Prop} {Q : Exit → Act → World → Prop}
  {dst : Option Tmp} {type : TypeId} {pos : String} {after : Array Edge} {guard : Option (Nat × Bool)}

theorem pureOp_sound {op : Op} {s : Sem Value} (hR : Rel w0 mu S.bx S.E ρ w) (hk : NextOK op S dst a ρ w0 mu K next)
    (hx : execOp a.eval ⟨dst, op, type, pos, after, guard⟩ = (do pure (Next.value (← s)))) (h : pureW P s fun r => K r S.bx S.E) :
    Oper.uponIn (fW ro) 0 P ⟨dst, op, type, pos, after, guard⟩ a next Q ((execOp a.eval ⟨dst, op, type, pos, after, guard⟩).run P w) := by
  obtain ⟨v, h1, h2⟩ := pureW_elim h
  exact upon_val hx (h1 w) (hk _ _ _ _ ρ w (List.prefix_refl _) rfl hR (fun _ => ⟨List.prefix_refl _, Mem.le_refl _⟩) h2)

theorem valL_toArray {ρ : Env} {args : List SV} {vs ws : List Value} (h : raws args = some vs) (hd : SV.denL ρ args = some ws) : ws = vs := by
  have := SV.denL_of_val ρ args h
  rw [hd] at this; cases this; rfl

theorem nilCmp {ρ : Env} {s t : SV} {r : Bool} {x y : Value} (h : isNilCmp s t = some r) (hs : s.den ρ = some x) (ht : t.den ρ = some y) :
    r = false ∧ ((∃ b, x = .pointer (some b) ∧ y = .pointer none) ∨ (∃ b, x = .pointer none ∧ y = .pointer (some b))) := by
  unfold isNilCmp at h
  split at h <;> first | (cases h; done) | simp only [Option.some.injEq] at h
  · simp only [SV.den, Option.some.injEq] at hs ht; obtain ⟨a, _, rfl⟩ := locDen_some hs; exact ⟨h.symm, .inl ⟨_, rfl, ht.symm⟩⟩
  · simp only [SV.den, Option.some.injEq] at hs ht; obtain ⟨a, _, _, _, rfl, _⟩ := rpDen_some hs; exact ⟨h.symm, .inl ⟨_, rfl, ht.symm⟩⟩
  · simp only [SV.den, Option.some.injEq] at hs ht; obtain ⟨a, _, rfl⟩ := locDen_some ht; exact ⟨h.symm, .inr ⟨_, hs.symm, rfl⟩⟩
  · simp only [SV.den, Option.some.injEq] at hs ht; obtain ⟨a, _, _, _, rfl, _⟩ := rpDen_some ht; exact ⟨h.symm, .inr ⟨_, hs.symm, rfl⟩⟩

theorem equalIn_ptr {T e : TypeId} (he : P.underlying T = some (.pointer e)) (d : Nat) (b : Addr) (w : World) :
    (Op.equalIn (d + 1) T (.pointer (some b)) (.pointer none)).run P w = .ok false w ∧ (Op.equalIn (d + 1) T (.pointer none) (.pointer (some b))).run P w = .ok false w := by
  constructor <;> simp [Op.equalIn, run_underlying he]

theorem slcDen_some {b off len cap : Nat} {v : Value} (h : slcDen ρ b off len cap = some v) :
    (∃ c, ρ[b]? = some (some c) ∧ v = .slice (some (c.add off)) len cap) ∨ (ρ[b]? = some none ∧ off = 0 ∧ len = 0 ∧ cap = 0 ∧ v = .slice none 0 0) := by
  unfold slcDen at h
  split at h
  · rename_i c hc; simp only [Option.some.injEq] at h; exact .inl ⟨c, hc, h.symm⟩
  · rename_i hc
    split at h
    · rename_i hh; obtain ⟨rfl, rfl, rfl⟩ := hh; simp only [Option.some.injEq] at h; exact .inr ⟨hc, rfl, rfl, rfl, h.symm⟩
    · cases h
  · cases h

theorem Rel.spot {bx : List Box} {E : Mem} (h : Rel w0 mu bx E ρ w) {b : Nat} {c : Addr} (hc : ρ[b]? = some (some c)) : c.spot = none := by
  have hb : b < bx.length := by
    rw [← h.len]
    rcases Nat.lt_or_ge b ρ.length with h' | h'
    · exact h'
    · simp [List.getElem?_eq_none h'] at hc
  exact (h.box b _ _ (List.getElem?_eq_getElem hb) hc).1

theorem add_add {c : Addr} (h : c.spot = none) (m n : Nat) : (c.add m).add n = c.add (m + n) := by
  rw [add_eq (a := c.add m) (by rw [add_eq h]), add_eq h, add_eq h, Nat.add_assoc]

/-- Facts of memory may be added. -/
theorem Rel.addE {bx : List Box} {E E' : Mem} (h : Rel w0 mu bx E ρ w) (hh : ∀ v cs, E' v cs → RowAt w v cs)
    (hs : ∀ v cs, E' v cs → cs ≠ [] → E v cs ∨ ∀ (i : Nat) b c, bx[i]? = some b → b.own = true → ρ[i]? = some (some c) → blk v ≠ some c.block)
    (hsrc : ∀ v cs, E' v cs → cs ≠ [] → (∃ b, blk v = some b ∧ (w0.heap.size ≤ b ∨ b ∈ mu.mu)) ∨ ∃ v0 cs0, mu.E0 v0 cs0 ∧ cs0 ≠ [] ∧ blk v = blk v0) : Rel w0 mu bx E' ρ w where
  keep := h.keep
  len := h.len
  box := h.box
  sep i b c h1 h2 h3 := by
    obtain ⟨t1, t2, t3⟩ := h.sep i b c h1 h2 h3
    exact ⟨t1, t2, fun v cs hE hne => (hs v cs hE hne).elim (fun g => t3 v cs g hne) fun g => g i b c h1 h2 h3⟩
  hold := hh
  bsrc := h.bsrc
  src := hsrc

theorem Rel.weakE {bx : List Box} {E F : Mem} (h : Rel w0 mu bx E ρ w) (hle : Mem.le F E) : Rel w0 mu bx F ρ w :=
  h.addE (fun v cs g => h.hold v cs (hle v cs g)) (fun v cs g _ => .inl (hle v cs g)) (fun v cs g hne => h.src v cs (hle v cs g) hne)

theorem allocOp_sound {op : Op} {T : TypeId} {s : SV} {x : Value} (hR : Rel w0 mu S.bx S.E ρ w) (hk : NextOK op S dst a ρ w0 mu K next) (hs : oneOrAgg s = true) (hx : s.den ρ = some x)
    (hr : (execOp a.eval ⟨dst, op, type, pos, after, guard⟩).run P w = .ok (.value (.pointer (some ⟨w.heap.size, 0, none⟩))) (w.alloc (.cells x.cells T)))
    (h : K (.loc S.bx.length 0) (S.bx ++ [⟨T, .lst (svCells s), (svCells s).length, true⟩]) S.E) :
    Oper.uponIn (fW ro) 0 P ⟨dst, op, type, pos, after, guard⟩ a next Q ((execOp a.eval ⟨dst, op, type, pos, after, guard⟩).run P w) := by
  rw [hr]
  have hc := svCells_den hs hx
  have := hR.alloc T (.lst (svCells s)) _ [] (svCells s).length hc (by simpa using denL_length hc)
  simp only [List.append_nil, Array.toArray_toList] at this
  refine hk _ _ _ _ _ _ (List.prefix_append _ _) ?_ this (fun _ => ⟨List.prefix_append _ _, Mem.le_refl _⟩) h
  simp only [SV.den, locDen, ← hR.len, List.getElem?_append_right (Nat.le_refl _), Nat.sub_self, List.getElem?_cons_zero]
  rfl

end

end Go.Sx
