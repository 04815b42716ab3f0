/- The symbolic evaluator, part U: small lemmas for the prover. Conditions: none; generic over programs. -/
import Derived.Test.YtnkjoccemfbpcaaSxO
import Derived.IntWalk
namespace Go.Sx

abbrev I (n : Int) : SV := .raw (.int .i64 n)
abbrev B (b : Bool) : SV := .raw (.bool b)
abbrev L (b : Option Addr) (l c : Nat) : SV := .raw (.slice b l c)

theorem wrap_i64 {x : Int} (h : -9223372036854775808 ≤ x ∧ x ≤ 9223372036854775807) : IntKind.wrap .i64 x = x := Go.IntWalk.i64_in x h

/-- The functions that are entered in place. -/
def okInlB (P : Program) (l : List FuncId) : Bool := l.all fun f => match P.funcs[f]? with
  | some fn => !(fn.name == "runtime.NumGoroutine") && !fn.body.isNone
  | none => true

theorem okInl {P : Program} {l : List FuncId} (h : okInlB P l = true) (f : FuncId) (fn : Func) (hf : (fun f => l.contains f) f = true) (hfn : P.funcs[f]? = some fn) : okFn fn := by
  have hm : f ∈ l := by simpa using hf
  have := List.all_eq_true.mp h f hm
  rw [hfn] at this
  simpa [okFn] using this

def weakFr : List (Option SV) → List (Option SV) → Prop
  | [], [] => True
  | _ :: xs, none :: ys => weakFr xs ys
  | some x :: xs, some y :: ys => x = y ∧ weakFr xs ys
  | _, _ => False

theorem weakFr_get : ∀ {xs ys : List (Option SV)}, weakFr xs ys → xs.length = ys.length ∧ ∀ (i : Nat) s, ys[i]? = some (some s) → xs[i]? = some (some s)
  | [], [], _ => ⟨rfl, fun i s h => by simp at h⟩
  | x :: xs, none :: ys, h => by
    have h' : weakFr xs ys := by cases x <;> exact h
    obtain ⟨h1, h2⟩ := weakFr_get h'
    exact ⟨by simp [h1], fun i s hs => by cases i with
      | zero => simp at hs
      | succ i => simpa using h2 i s (by simpa using hs)⟩
  | some x :: xs, some y :: ys, h => by
    obtain ⟨rfl, h'⟩ := h
    obtain ⟨h1, h2⟩ := weakFr_get h'
    exact ⟨by simp [h1], fun i s hs => by cases i with
      | zero => simpa using hs
      | succ i => simpa using h2 i s (by simpa using hs)⟩
  | [], _ :: _, h => h.elim
  | none :: _, some _ :: _, h => h.elim
  | _ :: _, [], h => by rename_i x _; cases x <;> exact h.elim

/-- A loop, from a state in which less is known. -/
theorem Lp_from {C : Cx} {n : Nat} {fn : Func} {p : List Nat} {E E' : Mem} {K : SV → Mem → Prop} {bx : List Box} {fr fr' : List (Option SV)} (hw : weakFr fr fr') (h : Lp C n fn p E K ⟨fr', bx, E'⟩) : Lp C n fn p E K ⟨fr, bx, E'⟩ :=
  Lp_weak (S := ⟨fr, bx, E'⟩) (T := ⟨fr', bx, E'⟩) ⟨rfl, Mem.le_refl _, (weakFr_get hw).1, (weakFr_get hw).2⟩ h

/-- A row of integers that nobody writes: the slice's elements are its first 'l'. -/
def Ints (k : IntKind) (E : Mem) (b : Option Addr) (l c : Nat) (zs : List Int) : Prop := E (.slice b l c) (zs.map (.int k)) ∧ l ≤ zs.length ∧ zs.length ≤ maxLen

theorem Ints.ne {k : IntKind} {E : Mem} {b : Option Addr} {l c : Nat} {zs : List Int} (h : Ints k E b l c zs) {i : Nat} (hi : i < l) : ∃ cs, E (.slice b l c) cs ∧ (cs = [] → False) :=
  ⟨_, h.1, fun e => by have := congrArg List.length e; have := h.2.1; simp at *; subst_vars; simp at *; omega⟩

theorem Ints.load {k : IntKind} {E : Mem} {b : Option Addr} {l c : Nat} {zs : List Int} (h : Ints k E b l c zs) {P : Program} {T : TypeId} (ht : P.underlying T = some (.int k)) {i : Nat} (hi : i < l) : LoadE P E T (.slice b l c) (i * 1) (.raw (.int k (zs.getD i 0))) :=
  ⟨_, h.1, by
    have hl : i < zs.length := Nat.lt_of_lt_of_le hi h.2.1
    unfold loadW
    rw [ht]
    simp [hl]⟩

theorem Ints.mono {k : IntKind} {E E' : Mem} {b : Option Addr} {l c : Nat} {zs : List Int} (h : Ints k E b l c zs) (he : Mem.le E E') : Ints k E' b l c zs := ⟨he _ _ h.1, h.2⟩

theorem take_snoc {zs ys : List Int} {i : Nat} (h : zs.take i = ys.take i) (h1 : i < zs.length) (h2 : i < ys.length) (e : zs.getD i 0 = ys.getD i 0) : zs.take (i + 1) = ys.take (i + 1) := by
  rw [List.take_add_one, List.take_add_one, h]
  simp only [List.getD_eq_getElem?_getD, List.getElem?_eq_getElem h1, List.getElem?_eq_getElem h2, Option.getD_some] at e ⊢
  rw [e]

theorem take_ne {zs ys : List Int} {i n m : Nat} (hn : i < n) (hm : i < m) (_ : i < zs.length) (_ : i < ys.length) (e : zs.getD i 0 ≠ ys.getD i 0) : zs.take n ≠ ys.take m := by
  intro h
  apply e
  have := congrArg (fun l => l.getD i 0) h
  simpa [List.getD_eq_getElem?_getD, List.getElem?_take, hn, hm] using this

end Go.Sx
