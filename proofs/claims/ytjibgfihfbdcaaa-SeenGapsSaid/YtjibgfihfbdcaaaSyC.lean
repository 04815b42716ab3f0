/- The symbolic evaluator, part C: what one operation does to a symbolic state, and that the model does the same. Conditions: none; generic over programs. -/
import Derived.Test.YtjibgfihfbdcaaaSyP
namespace Go.Sx
open Go.RowKit (Below)

abbrev KT := SV → List Box → Mem → Prop
abbrev CallT := FuncId → List SV → List Box → Mem → KT → Prop
/-- A call of yield, among the calls. -/
def YID : FuncId := 4294967296

/-- A condition that must hold. -/
def req (c : Prop) [Decidable c] (k : Prop) : Prop := if c then k else False
theorem req_intro {c : Prop} [Decidable c] {k : Prop} (h : c) (hk : k) : req c k := by unfold req; rw [if_pos h]; exact hk
theorem req_elim {c : Prop} [Decidable c] {k : Prop} (h : req c k) : c ∧ k := by
  unfold req at h; split at h
  · exact ⟨‹_›, h⟩
  · exact h.elim

def opd (S : St) : Operand → Option SV
  | .tmp t => match S.fr[t]? with | some o => o | none => none
  | .const v => some (.raw v)
  | .global g => some (.raw (.pointer (some ⟨g, 0, none⟩)))
  | .func f => some (.clo f [] [])

def opds (S : St) : List Operand → Option (List SV)
  | [] => some []
  | x :: l => match opd S x, opds S l with
    | some s, some ss => some (s :: ss)
    | _, _ => none

inductive Lf where
  | int (k : IntKind) | bool | slice | str | other

def leaf : TypeDesc → Lf
  | .int k => .int k
  | .bool => .bool
  | .slice _ => .slice
  | .string => .str
  | _ => .other

def exLeaf (l : Lf) (f : SV → Prop) : Prop :=
  match l with
  | .int k => ∃ n : Int, f (.raw (.int k n))
  | .bool => ∃ b : Bool, f (.raw (.bool b))
  | .slice => ∃ (base : Option Addr) (len cap : Nat), f (.raw (.slice base len cap))
  | .str => ∃ s : ByteArray, f (.raw (.string s))
  | .other => ∃ v : Value, f (.raw v)

theorem exLeaf_elim {l : Lf} {f : SV → Prop} (h : exLeaf l f) : ∃ s, f s := by
  cases l <;> simp only [exLeaf] at h
  · obtain ⟨n, h⟩ := h; exact ⟨_, h⟩
  · obtain ⟨n, h⟩ := h; exact ⟨_, h⟩
  · obtain ⟨a, b, c, h⟩ := h; exact ⟨_, h⟩
  · obtain ⟨n, h⟩ := h; exact ⟨_, h⟩
  · obtain ⟨n, h⟩ := h; exact ⟨_, h⟩

def exLeaves : List Lf → (List SV → Prop) → Prop
  | [], f => f []
  | l :: ls, f => exLeaf l fun s => exLeaves ls fun ss => f (s :: ss)

theorem exLeaves_elim : ∀ {ls : List Lf} {f : List SV → Prop}, exLeaves ls f → ∃ ss, f ss
  | [], _, h => ⟨_, h⟩
  | _ :: _, _, h => let ⟨_, h1⟩ := exLeaf_elim h; let ⟨_, h2⟩ := exLeaves_elim h1; ⟨_, h2⟩

def leaves (P : Program) : Nat → TypeId → List Lf
  | 0, _ => []
  | n + 1, T => match P.underlying T with
    | some (.struct fs) => fs.toList.flatMap fun f => leaves P n f.type
    | some (.array k e) => (List.replicate k (leaves P n e)).flatten
    | some d => [leaf d]
    | none => []

/-- What lies at cell 'off' of a slice that is known. -/
def LoadE (P : Program) (E : Mem) (T : TypeId) (v : Value) (off : Nat) (s : SV) : Prop := ∃ cs, E v cs ∧ loadW P T (cs.map .raw) off = some s

/-- Whatever value of a type R holds of. -/
def loadRel (P : Program) (T : TypeId) (R : SV → Prop) (K : SV → Prop) : Prop :=
  match P.underlying T with
  | some (.struct _) | some (.array ..) => exLeaves (leaves P 12 T) fun cs => R (.agg cs) ∧ K (.agg cs)
  | some d => exLeaf (leaf d) fun s => R s ∧ K s
  | none => False

theorem loadRel_elim {P : Program} {T : TypeId} {R : SV → Prop} {K : SV → Prop} (h : loadRel P T R K) : ∃ s, R s ∧ K s := by
  unfold loadRel at h
  split at h
  · obtain ⟨ss, h1, h2⟩ := exLeaves_elim h; exact ⟨_, h1, h2⟩
  · obtain ⟨ss, h1, h2⟩ := exLeaves_elim h; exact ⟨_, h1, h2⟩
  · exact exLeaf_elim h
  · exact h.elim

/-- What lies at cell 'off' of a row of values. -/
def LoadV (P : Program) (T : TypeId) (vs : List Value) (off : Nat) (s : SV) : Prop := loadW P T (vs.map .raw) off = some s

def sizeW (P : Program) (T : TypeId) : Option Nat := (P.info? T).map (·.size)

def fillW (place : Nat → Option (Nat × Nat)) (cells : List SV) : List (Nat × SV) → Option (List SV)
  | [] => some cells
  | (i, s) :: rest =>
    match place i with
    | none => none
    | some (off, size) =>
      if oneOrAgg s = true ∧ (svCells s).length = size ∧ off + (svCells s).length ≤ cells.length then fillW place (lay cells off (svCells s)) rest else none

def parts (S : St) : List (Nat × Operand) → Option (List (Nat × SV))
  | [] => some []
  | (i, x) :: l => match opd S x, parts S l with
    | some s, some ss => some ((i, s) :: ss)
    | _, _ => none

/-- The zero cells of n elements. -/
def zerosW (P : Program) (e : TypeId) (n : Nat) : Option (List SV) :=
  match P.info? e with
  | some i => match i.zero with
    | some z => if oneOrAgg (.raw z) = true ∧ (svCells (.raw z)).length = i.size then some (List.replicate n (svCells (.raw z))).flatten else none
    | none => none
  | none => none

def natOf (s : Option SV) : Option Int :=
  match s with
  | some (.raw (.int _ n)) => some n
  | _ => none

def reqO (o : Option Int) (top : Nat) (k : Prop) : Prop :=
  match o with
  | none => k
  | some i => req (0 ≤ i ∧ i ≤ (top : Int)) k

def toN (o : Option Int) (d : Nat) : Nat := match o with | none => d | some i => i.toNat

def sliceNums (lo hi mx : Option Int) (len cap : Nat) (K : Nat → Nat → Nat → Prop) : Prop :=
  match hi, mx with
  | none, some _ => False
  | _, _ => reqO mx cap <| reqO hi (toN mx cap) <| reqO lo (toN hi len) <| K (toN lo 0) (toN hi len) (toN mx cap)

/-- An optional operand that must be a number. -/
def numO (S : St) : Option Operand → Option (Option Int)
  | none => some none
  | some x => match opd S x with
    | some (.raw (.int _ n)) => some (some n)
    | _ => none

def raws (l : List SV) : Option (List Value) := SV.valL l

def pureW (P : Program) (s : Sem Value) (K : SV → Prop) : Prop :=
  match pureVal P s with
  | some v => K (.raw v)
  | none => False

/-- Two numbers and an operator; a divisor must not be nought. -/
def binW (P : Program) (op : BinOp) (T : TypeId) (x y : Operand) (v u : Value) (K : SV → Prop) : Prop :=
  match op, v, u with
  | .rem, .int k a, .int k' b => if k = k' then b ≠ 0 ∧ K (.raw (.int k (a.tmod b))) else False
  | .quo, .int k a, .int k' b => if k = k' then b ≠ 0 ∧ K (.raw (.int k (k.wrap (a.tdiv b)))) else False
  | .shl, .int k a, .int _ b => req (0 ≤ b) (K (.raw (.int k (k.wrap (a * 2 ^ min b.toNat k.bits)))))
  | .shr, .int k a, .int _ b => req (0 ≤ b) (K (.raw (.int k (a.fdiv (2 ^ min b.toNat k.bits)))))
  | _, _, _ => pureW P (do eqGuard op T x y v u; binOp op T v u) K

theorem binW_pure {P : Program} {op : BinOp} {T : TypeId} {x y : Operand} {v u : Value} {K : SV → Prop} (h : binW P op T x y v u K) :
    ∃ s : Sem Value, (do eqGuard op T x y v u; binOp op T v u) = s ∧ pureW P s K := by
  unfold binW at h
  split at h
  · rename_i k a k' b
    split at h
    case isFalse => exact h.elim
    rename_i hk; subst hk
    refine ⟨pure (.int k (a.tmod b)), ?_, h.2⟩
    show binOp .rem T (.int k a) (.int k b) = _
    simp [binOp, Op.intDiv, h.1]
  · rename_i k a k' b
    split at h
    case isFalse => exact h.elim
    rename_i hk; subst hk
    refine ⟨pure (.int k (k.wrap (a.tdiv b))), ?_, h.2⟩
    show binOp .quo T (.int k a) (.int k b) = _
    simp [binOp, Op.intDiv, h.1]
  · rename_i k a k' b
    obtain ⟨hb, h⟩ := req_elim h
    refine ⟨pure (.int k (k.wrap (a * 2 ^ min b.toNat k.bits))), ?_, h⟩
    show binOp .shl T (.int k a) (.int k' b) = _
    simp [binOp, Op.shift, show ¬ b < 0 by omega]
  · rename_i k a k' b
    obtain ⟨hb, h⟩ := req_elim h
    refine ⟨pure (.int k (a.fdiv (2 ^ min b.toNat k.bits))), ?_, h⟩
    show binOp .shr T (.int k a) (.int k' b) = _
    simp [binOp, Op.shift, show ¬ b < 0 by omega]
  · exact ⟨_, rfl, h⟩

def isNilCmp : SV → SV → Option Bool
  | .loc .., .raw (.pointer none) | .rp .., .raw (.pointer none) | .raw (.pointer none), .loc .. | .raw (.pointer none), .rp .. => some false
  | _, _ => none

def isPtrD : TypeDesc → Bool
  | .pointer _ => true
  | _ => false

def methodW (P : Program) (T : TypeId) (name : String) : Option FuncId :=
  match P.info? T with
  | some i => match i.methods.find? (·.name == name) with
    | some m => match m.path.toList, m.func, P.underlying T with
      | [], some (f, true), some (.pointer _) => some f
      | [], some (_, false), some (.pointer _) => none
      | [], some (f, false), some _ => some f
      | _, _, _ => none
    | none => none
  | none => none

/-- A call: where no argument leads into a box, the callee is walked by itself; its boxes lie behind those that were there. -/
def callG (callW : CallT) (f : FuncId) (args : List SV) (bx : List Box) (E : Mem) (K : KT) : Prop :=
  if f = YID then False else
  match SV.valL args with
  | some _ => callW f args [] E fun s bx' E' => Mem.le E E' ∧ K (s.ren [] bx.length) (bx ++ bx'.map (Box.ren [] bx.length)) E'
  | none => callW f args bx E K

/-! ### slices that are appended to, copied, made -/
/-- How many elements a slice has, and their cells. -/
def srcW (z : Nat) (s : SV) (bx : List Box) (E : Mem) (K : Nat → Row → Prop) : Prop :=
  match s with
  | .raw (.slice base m cap) => ∃ cs, (cs = [] ∨ E (.slice base m cap) cs) ∧ m * z ≤ cs.length ∧ (∀ x ∈ cs, x.oneCell' = true) ∧ K m (.vals (cs.take (m * z)))
  | .slc b off m _ => match bx[b]? with
    | some y => match y.row with
      | .lst cells => if off + m * z ≤ cells.length ∧ cells.all SV.one = true then K m (.lst ((cells.drop off).take (m * z))) else False
      | .vals vs => off + m * z ≤ vs.length ∧ (∀ x ∈ vs, x.oneCell' = true) ∧ K m (.vals ((vs.drop off).take (m * z)))
    | none => False
  | _ => False

/-- Rows, one behind the other. -/
def rowApp (a b : Row) (K : Row → Prop) : Prop :=
  match a, b with
  | .lst a, .lst b => K (.lst (a ++ b))
  | .vals a, .vals b => K (.vals (a ++ b))
  | .lst a, .vals b => match SV.valL a with
    | some a => K (.vals (a ++ b))
    | none => False
  | .vals a, .lst b => match SV.valL b with
    | some b => K (.vals (a ++ b))
    | none => False

/-- The first cells of a row. -/
def rowTake (n : Nat) : Row → Row
  | .lst l => .lst (l.take n)
  | .vals l => .vals (l.take n)

/-- A row that is given up. -/
def dead (y : Box) : Box := ⟨y.elem, .lst [], 0, false⟩

/-- append, behind what is appended has been read. -/
def appendC (e : TypeId) (i : TypeInfo) (s : SV) (m : Nat) (new : Row) (bx : List Box) (E : Mem) (K : KT) : Prop :=
  match s with
  | .raw (.slice base n cap) => match base with
    | none => if n = 0 ∧ cap = 0 then req (m * max i.bytes 1 ≤ 140737488355328) (∀ cap' tot' : Nat, m ≤ cap' → cap' * i.size ≤ tot' → K (.slc bx.length 0 m cap') (bx ++ [⟨e, new, tot', true⟩]) E) else False
    | some _ => False
  | .slc b off n cap => if off = 0 then match bx[b]? with
    | some ⟨e', r, tot, true⟩ => if e' = e then
        n * i.size ≤ r.cells.length ∧ cap * i.size ≤ tot ∧ n ≤ cap ∧ req ((n + m) * max i.bytes 1 ≤ 140737488355328) (rowApp (rowTake (n * i.size) r) new fun row =>
          ∀ cap' tot' : Nat, n + m ≤ cap' → cap' * i.size ≤ tot' → K (.slc bx.length 0 (n + m) cap') (bx.set b (dead ⟨e', r, tot, true⟩) ++ [⟨e', row, tot', true⟩]) E) else False
    | _ => False else False
  | _ => False

/-- Whether a slice's row is a list of values. -/
def rawRow (s : SV) (bx : List Box) : Bool :=
  match s with
  | .slc b _ _ _ => match bx[b]? with
    | some ⟨_, .vals _, _, _⟩ => true
    | _ => false
  | _ => false

/-- What is appended to a row of values is handed out first. -/
def appendW (P : Program) (e : TypeId) (s x : SV) (bx : List Box) (E : Mem) (K : KT) : Prop :=
  match P.info? e with
  | some i => match i.zero with
    | some zv => if zv.cells.size = i.size ∧ 0 < i.size then srcW i.size x bx E fun m new =>
        cond (rawRow s bx) (match new with
          | .lst l => match SV.valL l with
            | some _ => appendC e i s m (.lst l) bx E K
            | none => pubW 8 l bx E fun l' bx' E' => appendC e i s m (.lst l') bx' E' K
          | .vals l => appendC e i s m (.vals l) bx E K) (appendC e i s m new bx E K) else False
    | none => False
  | none => False

/-- Where values lie, what comes to lie there is values. -/
def asVals (r src : Row) : Row := match r, src with
  | .vals _, .lst l => (match SV.valL l with | some vs => .vals vs | none => .lst l)
  | _, s => s

/-- A slice of a row of values, and whether the row is the activation's own. -/
def rowV (s : SV) (bx : List Box) : Option (Nat × Nat × Nat × TypeId × List Value × Nat × Bool) :=
  match s with
  | .slc b off n _ => match bx[b]? with
    | some ⟨e, .vals vs, tot, o⟩ => some (b, off, n, e, vs, tot, o)
    | _ => none
  | _ => none

/-- copy between two rows of values: no more need be known than what is copied. -/
def copyV (z : Nat) (d x : Nat × Nat × Nat × TypeId × List Value × Nat × Bool) (bx : List Box) (E : Mem) (K : KT) : Prop :=
  match d, x with
  | (b, off, n, e', vs, tot, _), (_, off', m, _, us, _, _) =>
    off' + min m n * z ≤ us.length ∧ off ≤ vs.length ∧ (off + min m n * z ≤ vs.length ∨ off + min m n * z ≤ tot) ∧ (∀ x ∈ us, x.oneCell' = true) ∧
      K (.raw (.int .i64 (min m n : Nat))) (bx.set b ⟨e', .vals (layV vs off ((us.drop off').take (min m n * z))), tot, true⟩) E

def copyW (P : Program) (e : TypeId) (d x : SV) (bx : List Box) (E : Mem) (K : KT) : Prop :=
  match P.info? e with
  | some i => match rowV d bx, rowV x bx with
    | some (b, off, n, e', vs, tot, true), some y => copyV i.size (b, off, n, e', vs, tot, true) y bx E K
    | _, _ => srcW i.size x bx E fun m src =>
      match d with
      | .slc b off n _ => match bx[b]? with
        | some ⟨e', r, tot, true⟩ => match r, rowTake (min m n * i.size) (asVals r src) with
          | .lst cells, .lst new => if off + n * i.size ≤ cells.length then K (.raw (.int .i64 (min m n : Nat))) (bx.set b ⟨e', .lst (lay cells off new), tot, true⟩) E else False
          | .vals vs, .vals new => off + n * i.size ≤ vs.length ∧ K (.raw (.int .i64 (min m n : Nat))) (bx.set b ⟨e', .vals (layV vs off new), tot, true⟩) E
          | .lst cells, .vals new => match SV.valL cells with
            | some vs => off + n * i.size ≤ vs.length ∧ K (.raw (.int .i64 (min m n : Nat))) (bx.set b ⟨e', .vals (layV vs off new), tot, true⟩) E
            | none => False
          | .vals vs, .lst new => match SV.valL new with
            | some new => off + n * i.size ≤ vs.length ∧ K (.raw (.int .i64 (min m n : Nat))) (bx.set b ⟨e', .vals (layV vs off new), tot, true⟩) E
            | none => False
        | _ => False
      | _ => False
  | none => False

/-- The cells of n zero elements. -/
def zerosV (z : List Value) (n : Nat) : List Value := (List.replicate n z).flatten

def makeW (P : Program) (e : TypeId) (l c : Int) (bx : List Box) (E : Mem) (K : KT) : Prop :=
  match P.info? e with
  | some i => match i.zero with
    | some zv => if zv.cells.size = i.size ∧ zv.cells.toList.all Value.oneCell' = true then
        req (0 ≤ l ∧ l ≤ c) <| req (c * (max i.bytes 1 : Nat) ≤ 140737488355328) <| K (.slc bx.length 0 l.toNat c.toNat) (bx ++ [⟨e, .vals (zerosV zv.cells.toList c.toNat), c.toNat * i.size, true⟩]) E else False
    | none => False
  | none => False

/-- append of k zero elements, where there is no room for them. -/
def appendZ (P : Program) (e : TypeId) (s x : SV) (bx : List Box) (E : Mem) (K : KT) : Prop :=
  match P.info? e with
  | some i => match x with
    | .raw (.int _ k) => match i.zero with
      | some zv => if zv.cells.size = i.size ∧ 0 < i.size then
          match s with
          | .slc b off n cap => if off = 0 then match bx[b]? with
            | some ⟨_, .vals vs, _, true⟩ => n * i.size ≤ vs.length ∧ req (0 < k) (req ((cap : Int) < n + k) (req ((n + k) * (max i.bytes 1 : Nat) ≤ 140737488355328)
                (∀ cap' tot' : Nat, n + k.toNat ≤ cap' → cap' * i.size ≤ tot' → K (.slc bx.length 0 (n + k.toNat) cap') (bx ++ [⟨e, .vals (vs.take (n * i.size) ++ zerosV zv.cells.toList k.toNat), tot', true⟩]) E)))
            | _ => False else False
          | _ => False else False
      | none => False
    | _ => False
  | none => False

/-- Whether two structs are equal, field by field. -/
def eqFs (P : Program) (r : TypeId → SV → SV → Option Bool) (cs ds : List SV) : List Field → Option Bool
  | [] => some true
  | f :: fs => if f.name ≠ "_" then
      match loadW P f.type cs f.offset, loadW P f.type ds f.offset with
      | some x, some y => match r f.type x y, eqFs P r cs ds fs with
        | some b, some c => some (b && c)
        | _, _ => none
      | _, _ => none
    else eqFs P r cs ds fs

def eqSV (P : Program) : Nat → TypeId → SV → SV → Option Bool
  | 0, _, _, _ => none
  | n + 1, T, s, t => match P.underlying T with
    | some (.int _) => match s, t with
      | .raw (.int k a), .raw (.int k' b) => if k = k' then some (a == b) else none
      | _, _ => none
    | some .bool => match s, t with
      | .raw (.bool a), .raw (.bool b) => some (a == b)
      | _, _ => none
    | some (.struct fs) => match asCells s, asCells t with
      | some cs, some ds => if P.stoodInHeld T = false then eqFs P (eqSV P n) cs ds fs.toList else none
      | _, _ => none
    | _ => none

/-- A slice and nil. -/
def nilSlcW (s t : SV) (K : Bool → Prop) : Prop :=
  match t with
  | .raw (.slice none _ _) => match s with
    | .slc _ _ len cap => ∀ r : Bool, (r = true → len = 0 ∧ cap = 0) → K r
    | .raw (.slice base _ _) => K base.isNone
    | _ => False
  | _ => False

def opW (P : Program) (callW : CallT) (op : Op) (S : St) (K : KT) : Prop :=
  match op with
  | .move x | .assign x => match opd S x with | some s => K s S.bx S.E | none => False
  | .pick c x y => match opd S c, opd S x, opd S y with
    | some (.raw (.bool t)), some (.raw (.bool a)), some (.raw (.bool b)) => K (.raw (.bool (cond t a b))) S.bx S.E
    | some (.raw (.bool t)), some a, some b => cond t (K a S.bx S.E) (K b S.bx S.E)
    | some (.raw (.bool true)), some a, none => K a S.bx S.E
    | some (.raw (.bool false)), none, some b => K b S.bx S.E
    | _, _, _ => False
  | .alloc T => match P.info? T with
    | some i => match i.zero with
      | some z => if oneOrAgg (.raw z) = true then K (.loc S.bx.length 0) (S.bx ++ [⟨T, .lst (svCells (.raw z)), (svCells (.raw z)).length, true⟩]) S.E else False
      | none => False
    | none => False
  | .box T x => match opd S x with
    | some s => if oneOrAgg s = true then K (.loc S.bx.length 0) (S.bx ++ [⟨T, .lst (svCells s), (svCells s).length, true⟩]) S.E else False
    | none => False
  | .build T ps => match P.info? T, P.underlying T, parts S ps.toList with
    | some i, some (.struct fs), some ss => match i.zero, fs.toList.mapM (fun f => (P.info? f.type).map fun i => (f.offset, i.size)) with
      | some z, some places => match asCells (.raw z) with
        | some zs => match fillW (places.toArray[·]?) zs ss with
          | some cs => K (.agg cs) S.bx S.E
          | none => False
        | none => False
      | _, _ => False
    | some i, some (.array _ e), some ss => match i.zero, P.info? e with
      | some z, some ie => match asCells (.raw z) with
        | some zs => match fillW (fun k => some (k * ie.size, ie.size)) zs ss with
          | some cs => K (.agg cs) S.bx S.E
          | none => False
        | none => False
      | _, _ => False
    | _, _, _ => False
  | .buildSlice T n ps => match P.underlying T, parts S ps.toList with
    | some (.slice e), some ss => match sizeW P e, zerosW P e n with
      | some m, some zs => if n * m ≤ 16777216 then
          match fillW (fun k => some (k * m, m)) zs ss with
          | some cs => K (.slc S.bx.length 0 n n) (S.bx ++ [⟨e, .lst cs, cs.length, true⟩]) S.E
          | none => False else False
      | _, _ => False
    | _, _ => False
  | .load T x => match opd S x with
    | some (.loc b off) => match S.bx[b]? with
      | some y => match y.row with
        | .lst cells => match loadW P T cells off with
          | some r => K r S.bx S.E
          | none => False
        | .vals vs => loadRel P T (LoadV P T vs off) fun s => K s S.bx S.E
      | none => False
    | some (.rp v off) => loadRel P T (LoadE P S.E T v off) fun s => K s S.bx S.E
    | _ => False
  | .store T x y => match opd S x, opd S y with
    | some (.loc b off), some s => storeW P T S.bx b off s fun bx => K (.raw undef) bx S.E
    | _, _ => False
  | .nilCheck x => match opd S x with
    | some (.loc b off) => K (.loc b off) S.bx S.E
    | some (.rp v off) => K (.rp v off) S.bx S.E
    | some (.clo f m l) => K (.clo f m l) S.bx S.E
    | some (.ifc t v) => K (.ifc t v) S.bx S.E
    | _ => False
  | .binOp op T x y _ => match opd S x, opd S y with
    | some s, some t => match op, isNilCmp s t, P.underlying T with
      | .eql, some r, some (.pointer _) => K (.raw (.bool r)) S.bx S.E
      | .neq, some r, some (.pointer _) => K (.raw (.bool !r)) S.bx S.E
      | .eql, none, some (.slice _) => nilSlcW s t fun r => K (.raw (.bool r)) S.bx S.E
      | .neq, none, some (.slice _) => nilSlcW s t fun r => K (.raw (.bool !r)) S.bx S.E
      | .eql, none, some (.struct _) => if P.eqGuardType P.depth T = false then match eqSV P 12 T s t with
        | some r => K (.raw (.bool r)) S.bx S.E
        | none => False else False
      | .neq, none, some (.struct _) => if P.eqGuardType P.depth T = false then match eqSV P 12 T s t with
        | some r => K (.raw (.bool !r)) S.bx S.E
        | none => False else False
      | _, _, _ => match s.val, t.val with
        | some v, some u => binW P op T x y v u fun r => K r S.bx S.E
        | _, _ => False
    | _, _ => False
  | .unOp op _ x => match opd S x with
    | some (.raw v) => pureW P (Op.unary op v) fun r => K r S.bx S.E
    | _ => False
  | .convert src dst x => match opd S x with
    | some s => match s.val with
      | some v => pureW P (convert src dst v) fun r => K r S.bx S.E
      | none => False
    | none => False
  | .makeInterface T x => match opd S x, P.underlying T with
    | some _, some (.interface _) => False
    | some s, some _ => K (.ifc T s) S.bx S.E
    | _, _ => False
  | .makeFunc (.func f) first caps => match opds S first.toList, opds S caps.toList with
    | some m, some l => K (.clo f m l) S.bx S.E
    | _, _ => False
  | .makeSlice T l c => match opd S l, opd S c, P.underlying T with
    | some (.raw (.int _ l)), some (.raw (.int _ c)), some (.slice e) => makeW P e l c S.bx S.E K
    | _, _, _ => False
  | .slice T x lo hi mx => match opd S x, numO S lo, numO S hi, numO S mx, P.underlying T with
    | some (.loc b off), some l, some h, some m, some (.array n e) => match sizeW P e with
      | some z => sliceNums l h m n n fun l h m => K (.slc b (if m = l then off else off + l * z) (h - l) (m - l)) S.bx S.E
      | none => False
    | some (.slc b off len cap), some l, some h, some m, some (.slice e) => match sizeW P e with
      | some z => sliceNums l h m len cap fun l h m => K (.slc b (if m = l then off else off + l * z) (h - l) (m - l)) S.bx S.E
      | none => False
    | some (.raw (.slice base len cap)), some l, some h, some m, some (.slice e) => match sizeW P e with
      | some z => req (len ≤ cap) <| sliceNums l h m len cap fun l h m => ∀ (base' : Option Addr) (E' : Mem), Mem.le S.E E' →
          (∀ cs, S.E (.slice base len cap) cs → E' (.slice base' (h - l) (m - l)) ((cs.drop (l * z)).take ((h - l) * z))) → base'.isNone = base.isNone → K (.raw (.slice base' (h - l) (m - l))) S.bx E'
      | none => False
    | _, _, _, _, _ => False
  | .fieldAddr T x f => match P.underlying T with
    | some (.struct fs) => match fs[f]? with
      | some fld => match sizeW P fld.type, opd S x with
        | some n, some (.loc b off) => if n = 0 then False else K (.loc b (off + fld.offset)) S.bx S.E
        | some n, some (.rp v off) => if n = 0 then False else K (.rp v (off + fld.offset)) S.bx S.E
        | _, _ => False
      | none => False
    | _ => False
  | .field T x f => match P.underlying T with
    | some (.struct fs) => match fs[f]?, opd S x with
      | some fld, some s => match asCells s with
        | some cs => match loadW P fld.type cs fld.offset with
          | some r => K r S.bx S.E
          | none => False
        | none => False
      | _, _ => False
    | _ => False
  | .indexAddr T x i => match opd S x, opd S i, P.underlying T with
    | some (.loc b off), some (.raw (.int _ n)), some (.array len e) => match sizeW P e with
      | some z => req (0 ≤ n ∧ n < (len : Int)) (K (.loc b (off + n.toNat * z)) S.bx S.E)
      | none => False
    | some (.rp v off), some (.raw (.int _ n)), some (.array len e) => match sizeW P e with
      | some z => req (0 ≤ n ∧ n < (len : Int)) (K (.rp v (off + n.toNat * z)) S.bx S.E)
      | none => False
    | some (.slc b off len _), some (.raw (.int _ n)), some (.slice e) => match sizeW P e with
      | some z => req (0 ≤ n ∧ n < (len : Int)) (K (.loc b (off + n.toNat * z)) S.bx S.E)
      | none => False
    | some (.raw (.slice base len cap)), some (.raw (.int _ n)), some (.slice e) => match sizeW P e with
      | some z => req (0 ≤ n ∧ n < (len : Int)) ((∃ cs, S.E (.slice base len cap) cs ∧ cs ≠ []) ∧ K (.rp (.slice base len cap) (n.toNat * z)) S.bx S.E)
      | none => False
    | _, _, _ => False
  | .index T x i => match opd S x, opd S i, P.underlying T with
    | some s, some (.raw (.int _ n)), some (.array len e) => match asCells s, sizeW P e with
      | some cs, some z => req (0 ≤ n ∧ n < (len : Int)) (match loadW P e cs (n.toNat * z) with
        | some r => K r S.bx S.E
        | none => False)
      | _, _ => False
    | some (.raw v), some (.raw i), _ => pureW P (Instr.index T v i) fun r => K r S.bx S.E
    | _, _, _ => False
  | .extract x i => match opd S x with
    | some (.tup l) => match l[i]? with | some s => K s S.bx S.E | none => False
    | some (.raw (.tuple vs)) => match vs.toList[i]? with | some v => K (.raw v) S.bx S.E | none => False
    | _ => False
  | .typeAssert x T U ok => match opd S x with
    | some s => match s.val with
      | some v => pureW P (Instr.typeAssert v T U ok) fun r => K r S.bx S.E
      | none => False
    | none => False
  | .call c => match opds S c.args.toList with
    | some args => match c.callee with
      | .value f => match opd S f with
        | some (.clo g first caps) => callG callW g (first ++ args ++ caps) S.bx S.E K
        | some (.raw (.func (.yield l) m b)) => callW YID (.raw (.func (.yield l) m b) :: args) S.bx S.E K
        | _ => False
      | .invoke r name => match opd S r with
        | some (.ifc T v) => match methodW P T name with
          | some g => callG callW g (v :: args) S.bx S.E K
          | none => False
        | _ => False
      | .builtin .len => match args, (c.argTypes[0]?).bind P.underlying with
        | [.raw (.slice _ n _)], some (.slice _) => K (.raw (.int .i64 n)) S.bx S.E
        | [.slc _ _ n _], some (.slice _) => K (.raw (.int .i64 n)) S.bx S.E
        | [.raw (.string s)], some .string => K (.raw (.int .i64 s.size)) S.bx S.E
        | [_], some (.array n _) => K (.raw (.int .i64 n)) S.bx S.E
        | _, _ => False
      | .builtin .cap => match args, (c.argTypes[0]?).bind P.underlying with
        | [.raw (.slice _ _ n)], some (.slice _) => K (.raw (.int .i64 n)) S.bx S.E
        | [.slc _ _ _ n], some (.slice _) => K (.raw (.int .i64 n)) S.bx S.E
        | _, _ => False
      | .builtin .append => match args, c.argTypes.toList with
        | [s, x], [t, u] => match P.underlying t, P.underlying u with
          | some (.slice e), some (.slice _) => appendW P e s x S.bx S.E K
          | some (.slice e), some (.int _) => appendZ P e s x S.bx S.E K
          | _, _ => False
        | _, _ => False
      | .builtin .copy => match args, c.argTypes.toList with
        | [s, x], [t, u] => match P.underlying t, P.underlying u with
          | some (.slice e), some (.slice _) => copyW P e s x S.bx S.E K
          | _, _ => False
        | _, _ => False
      | .builtin .min => match raws args with
        | some vs => pureW P (Builtin.min_ #[] 0 vs.toArray) fun r => K r S.bx S.E
        | none => False
      | .builtin .max => match raws args with
        | some vs => pureW P (Builtin.max_ #[] 0 vs.toArray) fun r => K r S.bx S.E
        | none => False
      | .builtin _ => False
    | none => False
  | _ => False

/-- Operations behind which all boxes are as they were, but for new ones. -/
def growOp (op : Op) (S : St) : Bool :=
  match op with
  | .alloc _ | .box .. | .buildSlice .. | .makeSlice .. => true
  | .call c => match opds S c.args.toList with
    | some args => match c.callee with
      | .value f => match opd S f with
        | some (.clo _ first caps) => (SV.valL (first ++ args ++ caps)).isSome
        | _ => false
      | .invoke r _ => match opd S r with
        | some (.ifc _ v) => (SV.valL (v :: args)).isSome
        | _ => false
      | _ => false
    | none => false
  | _ => false

end Go.Sx
