/- The symbolic evaluator, part C: what one operation does to a symbolic state, and that the model does the same. Conditions: none; generic over programs. -/
import Derived.Test.YtnkjoccemfbpcaaSxP
namespace Go.Sx
open Go.RowKit (Below)

abbrev KT := SV → List Box → Mem → Prop
abbrev CallT := FuncId → List SV → List Box → Mem → KT → Prop

/-- A condition that must hold. -/
def req (c : Prop) [Decidable c] (k : Prop) : Prop := if c then k else False
theorem req_intro {c : Prop} [Decidable c] {k : Prop} (h : c) (hk : k) : req c k := by unfold req; rw [if_pos h]; exact hk
theorem req_elim {c : Prop} [Decidable c] {k : Prop} (h : req c k) : c ∧ k := by
  unfold req at h; split at h
  · exact ⟨‹_›, h⟩
  · exact h.elim

def opd (S : St) : Operand → Option SV
  | .tmp t => match S.fr[t]? with | some o => o | none => none
  | .const v => some (.raw v)
  | .global g => some (.raw (.pointer (some ⟨g, 0, none⟩)))
  | .func f => some (.clo f [])

def opds (S : St) : List Operand → Option (List SV)
  | [] => some []
  | x :: l => match opd S x, opds S l with
    | some s, some ss => some (s :: ss)
    | _, _ => none

inductive Lf where
  | int (k : IntKind) | bool | slice | str | other

def leaf : TypeDesc → Lf
  | .int k => .int k
  | .bool => .bool
  | .slice _ => .slice
  | .string => .str
  | _ => .other

def exLeaf (l : Lf) (f : SV → Prop) : Prop :=
  match l with
  | .int k => ∃ n : Int, f (.raw (.int k n))
  | .bool => ∃ b : Bool, f (.raw (.bool b))
  | .slice => ∃ (base : Option Addr) (len cap : Nat), f (.raw (.slice base len cap))
  | .str => ∃ s : ByteArray, f (.raw (.string s))
  | .other => ∃ v : Value, f (.raw v)

theorem exLeaf_elim {l : Lf} {f : SV → Prop} (h : exLeaf l f) : ∃ s, f s := by
  cases l <;> simp only [exLeaf] at h
  · obtain ⟨n, h⟩ := h; exact ⟨_, h⟩
  · obtain ⟨n, h⟩ := h; exact ⟨_, h⟩
  · obtain ⟨a, b, c, h⟩ := h; exact ⟨_, h⟩
  · obtain ⟨n, h⟩ := h; exact ⟨_, h⟩
  · obtain ⟨n, h⟩ := h; exact ⟨_, h⟩

def exLeaves : List Lf → (List SV → Prop) → Prop
  | [], f => f []
  | l :: ls, f => exLeaf l fun s => exLeaves ls fun ss => f (s :: ss)

theorem exLeaves_elim : ∀ {ls : List Lf} {f : List SV → Prop}, exLeaves ls f → ∃ ss, f ss
  | [], _, h => ⟨_, h⟩
  | _ :: _, _, h => let ⟨_, h1⟩ := exLeaf_elim h; let ⟨_, h2⟩ := exLeaves_elim h1; ⟨_, h2⟩

def leaves (P : Program) : Nat → TypeId → List Lf
  | 0, _ => []
  | n + 1, T => match P.underlying T with
    | some (.struct fs) => fs.toList.flatMap fun f => leaves P n f.type
    | some (.array k e) => (List.replicate k (leaves P n e)).flatten
    | some d => [leaf d]
    | none => []

/-- What lies at cell 'off' of a slice that is known. -/
def LoadE (P : Program) (E : Mem) (T : TypeId) (v : Value) (off : Nat) (s : SV) : Prop := ∃ cs, E v cs ∧ loadW P T (cs.map .raw) off = some s

def loadEW (P : Program) (E : Mem) (T : TypeId) (v : Value) (off : Nat) (K : SV → Prop) : Prop :=
  match P.underlying T with
  | some (.struct _) | some (.array ..) => exLeaves (leaves P 12 T) fun cs => LoadE P E T v off (.agg cs) ∧ K (.agg cs)
  | some d => exLeaf (leaf d) fun s => LoadE P E T v off s ∧ K s
  | none => False

theorem loadEW_elim {P : Program} {E : Mem} {T : TypeId} {v : Value} {off : Nat} {K : SV → Prop} (h : loadEW P E T v off K) : ∃ s, LoadE P E T v off s ∧ K s := by
  unfold loadEW at h
  split at h
  · obtain ⟨ss, h⟩ := exLeaves_elim h; exact ⟨_, h⟩
  · obtain ⟨ss, h⟩ := exLeaves_elim h; exact ⟨_, h⟩
  · exact exLeaf_elim h
  · exact h.elim

def sizeW (P : Program) (T : TypeId) : Option Nat := (P.info? T).map (·.size)

def fillW (place : Nat → Option (Nat × Nat)) (cells : List SV) : List (Nat × SV) → Option (List SV)
  | [] => some cells
  | (i, s) :: rest =>
    match place i with
    | none => none
    | some (off, size) =>
      if oneOrAgg s = true ∧ (svCells s).length = size ∧ off + (svCells s).length ≤ cells.length then fillW place (lay cells off (svCells s)) rest else none

def parts (S : St) : List (Nat × Operand) → Option (List (Nat × SV))
  | [] => some []
  | (i, x) :: l => match opd S x, parts S l with
    | some s, some ss => some ((i, s) :: ss)
    | _, _ => none

/-- The zero cells of n elements. -/
def zerosW (P : Program) (e : TypeId) (n : Nat) : Option (List SV) :=
  match P.info? e with
  | some i => match i.zero with
    | some z => if oneOrAgg (.raw z) = true ∧ (svCells (.raw z)).length = i.size then some (List.replicate n (svCells (.raw z))).flatten else none
    | none => none
  | none => none

def natOf (s : Option SV) : Option Int :=
  match s with
  | some (.raw (.int _ n)) => some n
  | _ => none

def reqO (o : Option Int) (top : Nat) (k : Prop) : Prop :=
  match o with
  | none => k
  | some i => req (0 ≤ i ∧ i ≤ (top : Int)) k

def toN (o : Option Int) (d : Nat) : Nat := match o with | none => d | some i => i.toNat

def sliceNums (lo hi mx : Option Int) (len cap : Nat) (K : Nat → Nat → Nat → Prop) : Prop :=
  match hi, mx with
  | none, some _ => False
  | _, _ => reqO mx cap <| reqO hi (toN mx cap) <| reqO lo (toN hi len) <| K (toN lo 0) (toN hi len) (toN mx cap)

/-- An optional operand that must be a number. -/
def numO (S : St) : Option Operand → Option (Option Int)
  | none => some none
  | some x => match opd S x with
    | some (.raw (.int _ n)) => some (some n)
    | _ => none

def raws (l : List SV) : Option (List Value) := SV.valL l

def pureW (P : Program) (s : Sem Value) (K : SV → Prop) : Prop :=
  match pureVal P s with
  | some v => K (.raw v)
  | none => False

def isNilCmp : SV → SV → Option Bool
  | .loc .., .raw (.pointer none) | .rp .., .raw (.pointer none) | .raw (.pointer none), .loc .. | .raw (.pointer none), .rp .. => some false
  | _, _ => none

def isPtrD : TypeDesc → Bool
  | .pointer _ => true
  | _ => false

def methodW (P : Program) (T : TypeId) (name : String) : Option FuncId :=
  match P.info? T with
  | some i => match i.methods.find? (·.name == name) with
    | some m => match m.path.toList, m.func, P.underlying T with
      | [], some (f, true), some (.pointer _) => some f
      | [], some (_, false), some (.pointer _) => none
      | [], some (f, false), some _ => some f
      | _, _, _ => none
    | none => none
  | none => none

/-- A call: where no argument leads into a box, the callee is walked by itself. -/
def callG (callW : CallT) (f : FuncId) (args : List SV) (bx : List Box) (E : Mem) (K : KT) : Prop :=
  match SV.valL args with
  | some _ => callW f args [] E (pubK E fun s E' => K s bx E')
  | none => callW f args bx E K

def opW (P : Program) (callW : CallT) (op : Op) (S : St) (K : KT) : Prop :=
  match op with
  | .move x | .assign x => match opd S x with | some s => K s S.bx S.E | none => False
  | .pick c x y => match opd S c, opd S x, opd S y with
    | some (.raw (.bool t)), some (.raw (.bool a)), some (.raw (.bool b)) => K (.raw (.bool (cond t a b))) S.bx S.E
    | some (.raw (.bool t)), some a, some b => cond t (K a S.bx S.E) (K b S.bx S.E)
    | some (.raw (.bool true)), some a, none => K a S.bx S.E
    | some (.raw (.bool false)), none, some b => K b S.bx S.E
    | _, _, _ => False
  | .alloc T => match P.info? T with
    | some i => match i.zero with
      | some z => if oneOrAgg (.raw z) = true then K (.loc S.bx.length 0) (S.bx ++ [⟨T, svCells (.raw z), (svCells (.raw z)).length, true⟩]) S.E else False
      | none => False
    | none => False
  | .box T x => match opd S x with
    | some s => if oneOrAgg s = true then K (.loc S.bx.length 0) (S.bx ++ [⟨T, svCells s, (svCells s).length, true⟩]) S.E else False
    | none => False
  | .build T ps => match P.info? T, P.underlying T, parts S ps.toList with
    | some i, some (.struct fs), some ss => match i.zero, fs.toList.mapM (fun f => (P.info? f.type).map fun i => (f.offset, i.size)) with
      | some z, some places => match asCells (.raw z) with
        | some zs => match fillW (places.toArray[·]?) zs ss with
          | some cs => K (.agg cs) S.bx S.E
          | none => False
        | none => False
      | _, _ => False
    | some i, some (.array _ e), some ss => match i.zero, P.info? e with
      | some z, some ie => match asCells (.raw z) with
        | some zs => match fillW (fun k => some (k * ie.size, ie.size)) zs ss with
          | some cs => K (.agg cs) S.bx S.E
          | none => False
        | none => False
      | _, _ => False
    | _, _, _ => False
  | .buildSlice T n ps => match P.underlying T, parts S ps.toList with
    | some (.slice e), some ss => match sizeW P e, zerosW P e n with
      | some m, some zs => if n * m ≤ 16777216 then
          match fillW (fun k => some (k * m, m)) zs ss with
          | some cs => K (.slc S.bx.length 0 n n) (S.bx ++ [⟨e, cs, cs.length, true⟩]) S.E
          | none => False else False
      | _, _ => False
    | _, _ => False
  | .load T x => match opd S x with
    | some (.loc b off) => match S.bx[b]? with
      | some y => match loadW P T y.cells off with
        | some r => K r S.bx S.E
        | none => False
      | none => False
    | some (.rp v off) => loadEW P S.E T v off fun s => K s S.bx S.E
    | _ => False
  | .store T x y => match opd S x, opd S y with
    | some (.loc b off), some s => match storeW P T S.bx b off s with
      | some bx => K (.raw undef) bx S.E
      | none => False
    | _, _ => False
  | .nilCheck x => match opd S x with
    | some (.loc b off) => K (.loc b off) S.bx S.E
    | some (.rp v off) => K (.rp v off) S.bx S.E
    | some (.clo f l) => K (.clo f l) S.bx S.E
    | some (.ifc t v) => K (.ifc t v) S.bx S.E
    | _ => False
  | .binOp op T x y _ => match opd S x, opd S y with
    | some s, some t => match op, isNilCmp s t, P.underlying T with
      | .eql, some r, some (.pointer _) => K (.raw (.bool r)) S.bx S.E
      | .neq, some r, some (.pointer _) => K (.raw (.bool !r)) S.bx S.E
      | _, _, _ => match s.val, t.val with
        | some v, some u => pureW P (do eqGuard op T x y v u; binOp op T v u) fun r => K r S.bx S.E
        | _, _ => False
    | _, _ => False
  | .unOp op _ x => match opd S x with
    | some (.raw v) => pureW P (Op.unary op v) fun r => K r S.bx S.E
    | _ => False
  | .convert src dst x => match opd S x with
    | some s => match s.val with
      | some v => pureW P (convert src dst v) fun r => K r S.bx S.E
      | none => False
    | none => False
  | .makeInterface T x => match opd S x, P.underlying T with
    | some _, some (.interface _) => False
    | some s, some _ => K (.ifc T s) S.bx S.E
    | _, _ => False
  | .makeFunc (.func f) first caps => match first.toList, opds S caps.toList with
    | [], some l => K (.clo f l) S.bx S.E
    | _, _ => False
  | .slice T x lo hi mx => match opd S x, numO S lo, numO S hi, numO S mx, P.underlying T with
    | some (.loc b off), some l, some h, some m, some (.array n e) => match sizeW P e with
      | some z => sliceNums l h m n n fun l h m => K (.slc b (if m = l then off else off + l * z) (h - l) (m - l)) S.bx S.E
      | none => False
    | some (.slc b off len cap), some l, some h, some m, some (.slice e) => match sizeW P e with
      | some z => sliceNums l h m len cap fun l h m => K (.slc b (if m = l then off else off + l * z) (h - l) (m - l)) S.bx S.E
      | none => False
    | some (.raw (.slice base len cap)), some l, some h, some m, some (.slice e) => match sizeW P e with
      | some z => req (len ≤ cap) <| sliceNums l h m len cap fun l h m => ∀ (base' : Option Addr) (E' : Mem), Mem.le S.E E' →
          (∀ cs, S.E (.slice base len cap) cs → E' (.slice base' (h - l) (m - l)) ((cs.drop (l * z)).take ((h - l) * z))) → K (.raw (.slice base' (h - l) (m - l))) S.bx E'
      | none => False
    | _, _, _, _, _ => False
  | .fieldAddr T x f => match P.underlying T with
    | some (.struct fs) => match fs[f]? with
      | some fld => match sizeW P fld.type, opd S x with
        | some n, some (.loc b off) => if n = 0 then False else K (.loc b (off + fld.offset)) S.bx S.E
        | some n, some (.rp v off) => if n = 0 then False else K (.rp v (off + fld.offset)) S.bx S.E
        | _, _ => False
      | none => False
    | _ => False
  | .field T x f => match P.underlying T with
    | some (.struct fs) => match fs[f]?, opd S x with
      | some fld, some s => match asCells s with
        | some cs => match loadW P fld.type cs fld.offset with
          | some r => K r S.bx S.E
          | none => False
        | none => False
      | _, _ => False
    | _ => False
  | .indexAddr T x i => match opd S x, opd S i, P.underlying T with
    | some (.loc b off), some (.raw (.int _ n)), some (.array len e) => match sizeW P e with
      | some z => req (0 ≤ n ∧ n < (len : Int)) (K (.loc b (off + n.toNat * z)) S.bx S.E)
      | none => False
    | some (.rp v off), some (.raw (.int _ n)), some (.array len e) => match sizeW P e with
      | some z => req (0 ≤ n ∧ n < (len : Int)) (K (.rp v (off + n.toNat * z)) S.bx S.E)
      | none => False
    | some (.slc b off len _), some (.raw (.int _ n)), some (.slice e) => match sizeW P e with
      | some z => req (0 ≤ n ∧ n < (len : Int)) (K (.loc b (off + n.toNat * z)) S.bx S.E)
      | none => False
    | some (.raw (.slice base len cap)), some (.raw (.int _ n)), some (.slice e) => match sizeW P e with
      | some z => req (0 ≤ n ∧ n < (len : Int)) ((∃ cs, S.E (.slice base len cap) cs ∧ cs ≠ []) ∧ K (.rp (.slice base len cap) (n.toNat * z)) S.bx S.E)
      | none => False
    | _, _, _ => False
  | .index T x i => match opd S x, opd S i, P.underlying T with
    | some s, some (.raw (.int _ n)), some (.array len e) => match asCells s, sizeW P e with
      | some cs, some z => req (0 ≤ n ∧ n < (len : Int)) (match loadW P e cs (n.toNat * z) with
        | some r => K r S.bx S.E
        | none => False)
      | _, _ => False
    | some (.raw v), some (.raw i), _ => pureW P (Instr.index T v i) fun r => K r S.bx S.E
    | _, _, _ => False
  | .extract x i => match opd S x with
    | some (.tup l) => match l[i]? with | some s => K s S.bx S.E | none => False
    | some (.raw (.tuple vs)) => match vs.toList[i]? with | some v => K (.raw v) S.bx S.E | none => False
    | _ => False
  | .typeAssert x T U ok => match opd S x with
    | some s => match s.val with
      | some v => pureW P (Instr.typeAssert v T U ok) fun r => K r S.bx S.E
      | none => False
    | none => False
  | .call c => match opds S c.args.toList with
    | some args => match c.callee with
      | .value f => match opd S f with
        | some (.clo g caps) => callG callW g (args ++ caps) S.bx S.E K
        | _ => False
      | .invoke r name => match opd S r with
        | some (.ifc T v) => match methodW P T name with
          | some g => callG callW g (v :: args) S.bx S.E K
          | none => False
        | _ => False
      | .builtin .len => match args, (c.argTypes[0]?).bind P.underlying with
        | [.raw (.slice _ n _)], some (.slice _) => K (.raw (.int .i64 n)) S.bx S.E
        | [.slc _ _ n _], some (.slice _) => K (.raw (.int .i64 n)) S.bx S.E
        | [.raw (.string s)], some .string => K (.raw (.int .i64 s.size)) S.bx S.E
        | [_], some (.array n _) => K (.raw (.int .i64 n)) S.bx S.E
        | _, _ => False
      | .builtin .min => match raws args with
        | some vs => pureW P (Builtin.min_ #[] 0 vs.toArray) fun r => K r S.bx S.E
        | none => False
      | .builtin .max => match raws args with
        | some vs => pureW P (Builtin.max_ #[] 0 vs.toArray) fun r => K r S.bx S.E
        | none => False
      | .builtin _ => False
    | none => False
  | _ => False

/-- Operations behind which all boxes are as they were, but for new ones. -/
def growOp (op : Op) (S : St) : Bool :=
  match op with
  | .alloc _ | .box .. | .buildSlice .. => true
  | .call c => match opds S c.args.toList with
    | some args => match c.callee with
      | .value f => match opd S f with
        | some (.clo _ caps) => (SV.valL (args ++ caps)).isSome
        | _ => false
      | .invoke r _ => match opd S r with
        | some (.ifc _ v) => (SV.valL (v :: args)).isSome
        | _ => false
      | _ => false
    | none => false
  | _ => false

end Go.Sx
