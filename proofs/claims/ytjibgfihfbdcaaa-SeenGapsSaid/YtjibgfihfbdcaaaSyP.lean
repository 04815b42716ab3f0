/- The symbolic evaluator, part P: rows that are handed out; boxes that are numbered anew. Conditions: none; generic over programs. -/
import Derived.Test.YtjibgfihfbdcaaaSyB
namespace Go.Sx
open Go.RowKit (Below)

/-! ### boxes numbered anew -/
/-- The boxes of a list, and behind them those from n on. -/
def renF (σ : List Nat) (n : Nat) (i : Nat) : Nat :=
  match σ[i]? with
  | some j => j
  | none => n + (i - σ.length)

mutual
def SV.ren (σ : List Nat) (n : Nat) : SV → SV
  | .raw v => .raw v
  | .loc b off => .loc (renF σ n b) off
  | .slc b off len cap => .slc (renF σ n b) off len cap
  | .rp v off => .rp v off
  | .agg l => .agg (SV.renL σ n l)
  | .tup l => .tup (SV.renL σ n l)
  | .clo f m l => .clo f (SV.renL σ n m) (SV.renL σ n l)
  | .ifc t v => .ifc t (SV.ren σ n v)
def SV.renL (σ : List Nat) (n : Nat) : List SV → List SV
  | [] => []
  | x :: l => SV.ren σ n x :: SV.renL σ n l
end

def Row.ren (σ : List Nat) (n : Nat) : Row → Row
  | .lst l => .lst (SV.renL σ n l)
  | .vals l => .vals l

def Box.ren (σ : List Nat) (n : Nat) (b : Box) : Box := { b with row := b.row.ren σ n }

mutual
theorem ren_den {ρ ρ' : Env} {σ : List Nat} {n : Nat} (h : ∀ i, ρ[renF σ n i]? = ρ'[i]?) : ∀ (s : SV), (s.ren σ n).den ρ = s.den ρ'
  | .raw v => by simp only [SV.ren, SV.den]
  | .loc b off => by simp only [SV.ren, SV.den, locDen, h]
  | .slc b off len cap => by simp only [SV.ren, SV.den, slcDen, h]
  | .rp v off => by simp only [SV.ren, SV.den]
  | .agg l => by simp only [SV.ren, SV.den, renL_den h l]
  | .tup l => by simp only [SV.ren, SV.den, renL_den h l]
  | .clo f m l => by simp only [SV.ren, SV.den, renL_den h m, renL_den h l]
  | .ifc t x => by simp only [SV.ren, SV.den, ren_den h x]
theorem renL_den {ρ ρ' : Env} {σ : List Nat} {n : Nat} (h : ∀ i, ρ[renF σ n i]? = ρ'[i]?) : ∀ (l : List SV), SV.denL ρ (SV.renL σ n l) = SV.denL ρ' l
  | [] => by simp only [SV.renL, SV.denL]
  | x :: l => by simp only [SV.renL, SV.denL, ren_den h x, renL_den h l]
end

theorem renL_raw (σ : List Nat) (n : Nat) : ∀ (l : List Value), SV.renL σ n (l.map .raw) = l.map .raw
  | [] => rfl
  | x :: l => by simp only [List.map_cons, SV.renL, SV.ren, renL_raw σ n l]

theorem Row.ren_cells (σ : List Nat) (n : Nat) (r : Row) : (r.ren σ n).cells = SV.renL σ n r.cells := by
  cases r with
  | lst l => rfl
  | vals l => exact (renL_raw σ n l).symm

theorem renL_length (σ : List Nat) (n : Nat) : ∀ (l : List SV), (SV.renL σ n l).length = l.length
  | [] => rfl
  | x :: l => by simp only [SV.renL, List.length_cons, renL_length σ n l]

theorem renL_isEmpty (σ : List Nat) (n : Nat) (l : List SV) : (SV.renL σ n l).isEmpty = l.isEmpty := by cases l <;> rfl

theorem Box.ren_live (σ : List Nat) (n : Nat) (b : Box) : (b.ren σ n).live = b.live := by
  unfold Box.live Box.ren Box.cells
  simp only [Row.ren_cells, renL_isEmpty]

theorem BoxAt.ren {w : World} {ρ ρ' : Env} {σ : List Nat} {n : Nat} (h : ∀ i, ρ[renF σ n i]? = ρ'[i]?) {oa : Option Addr} {b : Box} : BoxAt w ρ oa (b.ren σ n) ↔ BoxAt w ρ' oa b := by
  cases oa with
  | none =>
    simp only [BoxAt, Box.cells, Box.ren, Row.ren_cells]
    constructor
    · rintro ⟨h1, h2⟩; exact ⟨List.eq_nil_of_length_eq_zero (by rw [← renL_length σ n, h1]; rfl), h2⟩
    · rintro ⟨h1, h2⟩; exact ⟨by rw [h1]; rfl, h2⟩
  | some a =>
    simp only [BoxAt, Box.cells, Box.ren, Row.ren_cells, renL_den h]
    exact Iff.rfl

/-! ### rows of the activation's own, handed out -/
mutual
def SV.firstSlc : SV → Option Nat
  | .slc b _ _ _ => some b
  | .agg l | .tup l => SV.firstSlcL l
  | .clo _ m l => match SV.firstSlcL m with
    | some b => some b
    | none => SV.firstSlcL l
  | .ifc _ v => SV.firstSlc v
  | _ => none
def SV.firstSlcL : List SV → Option Nat
  | [] => none
  | x :: l => match SV.firstSlc x with
    | some b => some b
    | none => SV.firstSlcL l
end

def slcAs (base : Option Addr) (off len cap : Nat) : Value := .slice (base.map (·.add off)) len cap

mutual
def SV.subst (b : Nat) (base : Option Addr) : SV → SV
  | .slc b' off len cap => if b' = b then .raw (slcAs base off len cap) else .slc b' off len cap
  | .agg l => .agg (SV.substL b base l)
  | .tup l => .tup (SV.substL b base l)
  | .clo f m l => .clo f (SV.substL b base m) (SV.substL b base l)
  | .ifc t v => .ifc t (SV.subst b base v)
  | s => s
def SV.substL (b : Nat) (base : Option Addr) : List SV → List SV
  | [] => []
  | x :: l => SV.subst b base x :: SV.substL b base l
end

/-- What a row's cells are, if they are values. -/
def Row.val : Row → Option (List Value)
  | .lst l => SV.valL l
  | .vals l => some l

def Row.firstSlc : Row → Option Nat
  | .lst l => SV.firstSlcL l
  | .vals _ => none

def Box.subst (b : Nat) (base : Option Addr) (y : Box) : Box :=
  match y with
  | ⟨e, .lst l, t, o⟩ => ⟨e, .lst (SV.substL b base l), t, o⟩
  | ⟨e, .vals l, t, o⟩ => ⟨e, .vals l, t, o⟩

/-- Windows of a row. -/
def WinE (E' : Mem) (base : Option Addr) (cs : List Value) : Prop := (base = none → cs = []) ∧ ∀ off m len cap, off + m ≤ cs.length → E' (slcAs base off len cap) ((cs.drop off).take m)

/-- The row that is handed out first: one whose cells are values. -/
def deep (bx : List Box) : Nat → Nat → Nat
  | 0, b => b
  | n + 1, b => match bx[b]? with
    | some y => match y.row.firstSlc with
      | some b' => deep bx n b'
      | none => b
    | none => b

def pubW : Nat → List SV → List Box → Mem → (List SV → List Box → Mem → Prop) → Prop
  | 0, _, _, _, _ => False
  | n + 1, ss, bx, E, K =>
    match SV.firstSlcL ss with
    | none => K ss bx E
    | some b0 => match deep bx 4 b0 with
      | b => match bx[b]? with
        | some y => match y.row.val with
          | some cs => ∀ (base : Option Addr) (E' : Mem), Mem.le E E' → WinE E' base cs → pubW n (SV.substL b base ss) ((bx.set b { y with own := false }).map (Box.subst b base)) E' K
          | none => False
        | none => False

/-- A result that is handed out, and what is known of memory then. -/
def pubK (E : Mem) (K : SV → Mem → Prop) : SV → List Box → Mem → Prop := fun s bx E' => pubW 16 [s] bx E' fun ss _ E'' => Mem.le E E'' ∧ match ss with
  | [r] => match r.val with
    | some _ => K r E''
    | none => False
  | _ => False

end Go.Sx
