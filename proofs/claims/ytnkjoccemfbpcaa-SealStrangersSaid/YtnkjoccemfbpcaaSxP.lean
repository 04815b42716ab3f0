/- The symbolic evaluator, part P: rows that are handed out. Conditions: none; generic over programs. -/
import Derived.Test.YtnkjoccemfbpcaaSxB
namespace Go.Sx
open Go.RowKit (Below)

/-! ### rows of the activation's own, handed out -/
mutual
def SV.firstSlc : SV → Option Nat
  | .slc b _ _ _ => some b
  | .agg l | .tup l | .clo _ l => SV.firstSlcL l
  | .ifc _ v => SV.firstSlc v
  | _ => none
def SV.firstSlcL : List SV → Option Nat
  | [] => none
  | x :: l => match SV.firstSlc x with
    | some b => some b
    | none => SV.firstSlcL l
end

def slcAs (base : Option Addr) (off len cap : Nat) : Value := .slice (base.map (·.add off)) len cap

mutual
def SV.subst (b : Nat) (base : Option Addr) : SV → SV
  | .slc b' off len cap => if b' = b then .raw (slcAs base off len cap) else .slc b' off len cap
  | .agg l => .agg (SV.substL b base l)
  | .tup l => .tup (SV.substL b base l)
  | .clo f l => .clo f (SV.substL b base l)
  | .ifc t v => .ifc t (SV.subst b base v)
  | s => s
def SV.substL (b : Nat) (base : Option Addr) : List SV → List SV
  | [] => []
  | x :: l => SV.subst b base x :: SV.substL b base l
end

/-- Windows of a row. -/
def WinE (E' : Mem) (base : Option Addr) (cs : List Value) : Prop := ∀ off m len cap, off + m ≤ cs.length → E' (slcAs base off len cap) ((cs.drop off).take m)

def pubW : Nat → List SV → List Box → Mem → (List SV → List Box → Mem → Prop) → Prop
  | 0, _, _, _, _ => False
  | n + 1, ss, bx, E, K =>
    match SV.firstSlcL ss with
    | none => K ss bx E
    | some b => match bx[b]? with
      | some y => match SV.valL y.cells with
        | some cs => ∀ (base : Option Addr) (E' : Mem), Mem.le E E' → WinE E' base cs → pubW n (SV.substL b base ss) (bx.set b { y with own := false }) E' K
        | none => False
      | none => False


/-- A result that is handed out, and what is known of memory then. -/
def pubK (E : Mem) (K : SV → Mem → Prop) : SV → List Box → Mem → Prop := fun s bx E' => pubW 8 [s] bx E' fun ss _ E'' => Mem.le E E'' ∧ match ss with
  | [r] => match r.val with
    | some _ => K r E''
    | none => False
  | _ => False

end Go.Sx
