/- The symbolic evaluator, part T: the same evaluator once more, in a form that the kernel runs in less time: states are laid out as they go. Conditions: none; generic over programs. -/
import Derived.Test.YtjibgfihfbdcaaaSyI
namespace Go.Sx

def opN (P : Program) (callW : CallT) (op : Op) (fr0 : List (Option SV)) (bx0 : List Box) (E0 : Mem) (K : KT) : Prop :=
  match op with
  | .move x | .assign x => match opd ⟨fr0, bx0, E0⟩ x with | some s => K s bx0 E0 | none => False
  | .pick c x y => match opd ⟨fr0, bx0, E0⟩ c, opd ⟨fr0, bx0, E0⟩ x, opd ⟨fr0, bx0, E0⟩ y with
    | some (.raw (.bool t)), some (.raw (.bool a)), some (.raw (.bool b)) => K (.raw (.bool (cond t a b))) bx0 E0
    | some (.raw (.bool t)), some a, some b => cond t (K a bx0 E0) (K b bx0 E0)
    | some (.raw (.bool true)), some a, none => K a bx0 E0
    | some (.raw (.bool false)), none, some b => K b bx0 E0
    | _, _, _ => False
  | .alloc T => match P.info? T with
    | some i => match i.zero with
      | some z => if oneOrAgg (.raw z) = true then K (.loc bx0.length 0) (bx0 ++ [⟨T, .lst (svCells (.raw z)), (svCells (.raw z)).length, true⟩]) E0 else False
      | none => False
    | none => False
  | .box T x => match opd ⟨fr0, bx0, E0⟩ x with
    | some s => if oneOrAgg s = true then K (.loc bx0.length 0) (bx0 ++ [⟨T, .lst (svCells s), (svCells s).length, true⟩]) E0 else False
    | none => False
  | .build T ps => match P.info? T, P.underlying T, parts ⟨fr0, bx0, E0⟩ ps.toList with
    | some i, some (.struct fs), some ss => match i.zero, fs.toList.mapM (fun f => (P.info? f.type).map fun i => (f.offset, i.size)) with
      | some z, some places => match asCells (.raw z) with
        | some zs => match fillW (places.toArray[·]?) zs ss with
          | some cs => K (.agg cs) bx0 E0
          | none => False
        | none => False
      | _, _ => False
    | some i, some (.array _ e), some ss => match i.zero, P.info? e with
      | some z, some ie => match asCells (.raw z) with
        | some zs => match fillW (fun k => some (k * ie.size, ie.size)) zs ss with
          | some cs => K (.agg cs) bx0 E0
          | none => False
        | none => False
      | _, _ => False
    | _, _, _ => False
  | .buildSlice T n ps => match P.underlying T, parts ⟨fr0, bx0, E0⟩ ps.toList with
    | some (.slice e), some ss => match sizeW P e, zerosW P e n with
      | some m, some zs => if n * m ≤ 16777216 then
          match fillW (fun k => some (k * m, m)) zs ss with
          | some cs => K (.slc bx0.length 0 n n) (bx0 ++ [⟨e, .lst cs, cs.length, true⟩]) E0
          | none => False else False
      | _, _ => False
    | _, _ => False
  | .load T x => match opd ⟨fr0, bx0, E0⟩ x with
    | some (.loc b off) => match bx0[b]? with
      | some y => match y.row with
        | .lst cells => match loadW P T cells off with
          | some r => K r bx0 E0
          | none => False
        | .vals vs => loadRel P T (LoadV P T vs off) fun s => K s bx0 E0
      | none => False
    | some (.rp v off) => loadRel P T (LoadE P E0 T v off) fun s => K s bx0 E0
    | _ => False
  | .store T x y => match opd ⟨fr0, bx0, E0⟩ x, opd ⟨fr0, bx0, E0⟩ y with
    | some (.loc b off), some s => storeW P T bx0 b off s fun bx => K (.raw undef) bx E0
    | _, _ => False
  | .nilCheck x => match opd ⟨fr0, bx0, E0⟩ x with
    | some (.loc b off) => K (.loc b off) bx0 E0
    | some (.rp v off) => K (.rp v off) bx0 E0
    | some (.clo f m l) => K (.clo f m l) bx0 E0
    | some (.ifc t v) => K (.ifc t v) bx0 E0
    | _ => False
  | .binOp op T x y _ => match opd ⟨fr0, bx0, E0⟩ x, opd ⟨fr0, bx0, E0⟩ y with
    | some s, some t => match op, isNilCmp s t, P.underlying T with
      | .eql, some r, some (.pointer _) => K (.raw (.bool r)) bx0 E0
      | .neq, some r, some (.pointer _) => K (.raw (.bool !r)) bx0 E0
      | .eql, none, some (.slice _) => nilSlcW s t fun r => K (.raw (.bool r)) bx0 E0
      | .neq, none, some (.slice _) => nilSlcW s t fun r => K (.raw (.bool !r)) bx0 E0
      | .eql, none, some (.struct _) => if P.eqGuardType P.depth T = false then match eqSV P 12 T s t with
        | some r => K (.raw (.bool r)) bx0 E0
        | none => False else False
      | .neq, none, some (.struct _) => if P.eqGuardType P.depth T = false then match eqSV P 12 T s t with
        | some r => K (.raw (.bool !r)) bx0 E0
        | none => False else False
      | _, _, _ => match s.val, t.val with
        | some v, some u => binW P op T x y v u fun r => K r bx0 E0
        | _, _ => False
    | _, _ => False
  | .unOp op _ x => match opd ⟨fr0, bx0, E0⟩ x with
    | some (.raw v) => pureW P (Op.unary op v) fun r => K r bx0 E0
    | _ => False
  | .convert src dst x => match opd ⟨fr0, bx0, E0⟩ x with
    | some s => match s.val with
      | some v => pureW P (convert src dst v) fun r => K r bx0 E0
      | none => False
    | none => False
  | .makeInterface T x => match opd ⟨fr0, bx0, E0⟩ x, P.underlying T with
    | some _, some (.interface _) => False
    | some s, some _ => K (.ifc T s) bx0 E0
    | _, _ => False
  | .makeFunc (.func f) first caps => match opds ⟨fr0, bx0, E0⟩ first.toList, opds ⟨fr0, bx0, E0⟩ caps.toList with
    | some m, some l => K (.clo f m l) bx0 E0
    | _, _ => False
  | .makeSlice T l c => match opd ⟨fr0, bx0, E0⟩ l, opd ⟨fr0, bx0, E0⟩ c, P.underlying T with
    | some (.raw (.int _ l)), some (.raw (.int _ c)), some (.slice e) => makeW P e l c bx0 E0 K
    | _, _, _ => False
  | .slice T x lo hi mx => match opd ⟨fr0, bx0, E0⟩ x, numO ⟨fr0, bx0, E0⟩ lo, numO ⟨fr0, bx0, E0⟩ hi, numO ⟨fr0, bx0, E0⟩ mx, P.underlying T with
    | some (.loc b off), some l, some h, some m, some (.array n e) => match sizeW P e with
      | some z => sliceNums l h m n n fun l h m => K (.slc b (if m = l then off else off + l * z) (h - l) (m - l)) bx0 E0
      | none => False
    | some (.slc b off len cap), some l, some h, some m, some (.slice e) => match sizeW P e with
      | some z => sliceNums l h m len cap fun l h m => K (.slc b (if m = l then off else off + l * z) (h - l) (m - l)) bx0 E0
      | none => False
    | some (.raw (.slice base len cap)), some l, some h, some m, some (.slice e) => match sizeW P e with
      | some z => req (len ≤ cap) <| sliceNums l h m len cap fun l h m => ∀ (base' : Option Addr) (E' : Mem), Mem.le E0 E' →
          (∀ cs, E0 (.slice base len cap) cs → E' (.slice base' (h - l) (m - l)) ((cs.drop (l * z)).take ((h - l) * z))) → base'.isNone = base.isNone → K (.raw (.slice base' (h - l) (m - l))) bx0 E'
      | none => False
    | _, _, _, _, _ => False
  | .fieldAddr T x f => match P.underlying T with
    | some (.struct fs) => match fs[f]? with
      | some fld => match sizeW P fld.type, opd ⟨fr0, bx0, E0⟩ x with
        | some n, some (.loc b off) => if n = 0 then False else K (.loc b (off + fld.offset)) bx0 E0
        | some n, some (.rp v off) => if n = 0 then False else K (.rp v (off + fld.offset)) bx0 E0
        | _, _ => False
      | none => False
    | _ => False
  | .field T x f => match P.underlying T with
    | some (.struct fs) => match fs[f]?, opd ⟨fr0, bx0, E0⟩ x with
      | some fld, some s => match asCells s with
        | some cs => match loadW P fld.type cs fld.offset with
          | some r => K r bx0 E0
          | none => False
        | none => False
      | _, _ => False
    | _ => False
  | .indexAddr T x i => match opd ⟨fr0, bx0, E0⟩ x, opd ⟨fr0, bx0, E0⟩ i, P.underlying T with
    | some (.loc b off), some (.raw (.int _ n)), some (.array len e) => match sizeW P e with
      | some z => req (0 ≤ n ∧ n < (len : Int)) (K (.loc b (off + n.toNat * z)) bx0 E0)
      | none => False
    | some (.rp v off), some (.raw (.int _ n)), some (.array len e) => match sizeW P e with
      | some z => req (0 ≤ n ∧ n < (len : Int)) (K (.rp v (off + n.toNat * z)) bx0 E0)
      | none => False
    | some (.slc b off len _), some (.raw (.int _ n)), some (.slice e) => match sizeW P e with
      | some z => req (0 ≤ n ∧ n < (len : Int)) (K (.loc b (off + n.toNat * z)) bx0 E0)
      | none => False
    | some (.raw (.slice base len cap)), some (.raw (.int _ n)), some (.slice e) => match sizeW P e with
      | some z => req (0 ≤ n ∧ n < (len : Int)) ((∃ cs, E0 (.slice base len cap) cs ∧ cs ≠ []) ∧ K (.rp (.slice base len cap) (n.toNat * z)) bx0 E0)
      | none => False
    | _, _, _ => False
  | .index T x i => match opd ⟨fr0, bx0, E0⟩ x, opd ⟨fr0, bx0, E0⟩ i, P.underlying T with
    | some s, some (.raw (.int _ n)), some (.array len e) => match asCells s, sizeW P e with
      | some cs, some z => req (0 ≤ n ∧ n < (len : Int)) (match loadW P e cs (n.toNat * z) with
        | some r => K r bx0 E0
        | none => False)
      | _, _ => False
    | some (.raw v), some (.raw i), _ => pureW P (Instr.index T v i) fun r => K r bx0 E0
    | _, _, _ => False
  | .extract x i => match opd ⟨fr0, bx0, E0⟩ x with
    | some (.tup l) => match l[i]? with | some s => K s bx0 E0 | none => False
    | some (.raw (.tuple vs)) => match vs.toList[i]? with | some v => K (.raw v) bx0 E0 | none => False
    | _ => False
  | .typeAssert x T U ok => match opd ⟨fr0, bx0, E0⟩ x with
    | some s => match s.val with
      | some v => pureW P (Instr.typeAssert v T U ok) fun r => K r bx0 E0
      | none => False
    | none => False
  | .call c => match opds ⟨fr0, bx0, E0⟩ c.args.toList with
    | some args => match c.callee with
      | .value f => match opd ⟨fr0, bx0, E0⟩ f with
        | some (.clo g first caps) => callG callW g (first ++ args ++ caps) bx0 E0 K
        | some (.raw (.func (.yield l) m b)) => callW YID (.raw (.func (.yield l) m b) :: args) bx0 E0 K
        | _ => False
      | .invoke r name => match opd ⟨fr0, bx0, E0⟩ r with
        | some (.ifc T v) => match methodW P T name with
          | some g => callG callW g (v :: args) bx0 E0 K
          | none => False
        | _ => False
      | .builtin .len => match args, (c.argTypes[0]?).bind P.underlying with
        | [.raw (.slice _ n _)], some (.slice _) => K (.raw (.int .i64 n)) bx0 E0
        | [.slc _ _ n _], some (.slice _) => K (.raw (.int .i64 n)) bx0 E0
        | [.raw (.string s)], some .string => K (.raw (.int .i64 s.size)) bx0 E0
        | [_], some (.array n _) => K (.raw (.int .i64 n)) bx0 E0
        | _, _ => False
      | .builtin .cap => match args, (c.argTypes[0]?).bind P.underlying with
        | [.raw (.slice _ _ n)], some (.slice _) => K (.raw (.int .i64 n)) bx0 E0
        | [.slc _ _ _ n], some (.slice _) => K (.raw (.int .i64 n)) bx0 E0
        | _, _ => False
      | .builtin .append => match args, c.argTypes.toList with
        | [s, x], [t, u] => match P.underlying t, P.underlying u with
          | some (.slice e), some (.slice _) => appendW P e s x bx0 E0 K
          | some (.slice e), some (.int _) => appendZ P e s x bx0 E0 K
          | _, _ => False
        | _, _ => False
      | .builtin .copy => match args, c.argTypes.toList with
        | [s, x], [t, u] => match P.underlying t, P.underlying u with
          | some (.slice e), some (.slice _) => copyW P e s x bx0 E0 K
          | _, _ => False
        | _, _ => False
      | .builtin .min => match raws args with
        | some vs => pureW P (Builtin.min_ #[] 0 vs.toArray) fun r => K r bx0 E0
        | none => False
      | .builtin .max => match raws args with
        | some vs => pureW P (Builtin.max_ #[] 0 vs.toArray) fun r => K r bx0 E0
        | none => False
      | .builtin _ => False
    | none => False
  | _ => False

theorem opN_eq (P : Program) (callW : CallT) (op : Op) (S : St) (K : KT) : opN P callW op S.fr S.bx S.E K = opW P callW op S K := by
  cases S
  cases op <;> rfl

def nList (f : SV → (SV → Prop) → Prop) : List SV → (List SV → Prop) → Prop
  | [], K => K []
  | s :: l, K => f s fun s' => nList f l fun l' => K (s' :: l')

/-- A symbolic value, laid out. -/
def nSV : Nat → SV → (SV → Prop) → Prop
  | 0, s, K => K s
  | n + 1, s, K => match s with
    | .raw v => K (.raw v)
    | .loc b off => K (.loc b off)
    | .slc b off len cap => K (.slc b off len cap)
    | .rp v off => K (.rp v off)
    | .agg l => nList (nSV n) l fun l' => K (.agg l')
    | .tup l => nList (nSV n) l fun l' => K (.tup l')
    | .clo f m l => nList (nSV n) m fun m' => nList (nSV n) l fun l' => K (.clo f m' l')
    | .ifc t v => nSV n v fun v' => K (.ifc t v')

def nFr : List (Option SV) → (List (Option SV) → Prop) → Prop
  | [], K => K []
  | none :: l, K => nFr l fun l' => K (none :: l')
  | some s :: l, K => nSV 3 s fun s' => nFr l fun l' => K (some s' :: l')

def nBx : List Box → (List Box → Prop) → Prop
  | [], K => K []
  | ⟨e, .lst cells, total, own⟩ :: l, K => nList (nSV 3) cells fun cells' => match own with
    | true => nBx l fun l' => K (⟨e, .lst cells', total, true⟩ :: l')
    | false => nBx l fun l' => K (⟨e, .lst cells', total, false⟩ :: l')
  | ⟨e, .vals vs, total, own⟩ :: l, K => match own with
    | true => nBx l fun l' => K (⟨e, .vals vs, total, true⟩ :: l')
    | false => nBx l fun l' => K (⟨e, .vals vs, total, false⟩ :: l')

def nSt (S : St) (K : St → Prop) : Prop :=
  match S with
  | ⟨fr, bx, E⟩ => nFr fr fun fr' => nBx bx fun bx' => K ⟨fr', bx', E⟩

theorem nList_eq {f : SV → (SV → Prop) → Prop} (hf : ∀ s K, f s K = K s) : ∀ (l : List SV) (K : List SV → Prop), nList f l K = K l
  | [], _ => rfl
  | s :: l, K => by simp only [nList, hf, nList_eq hf l]

theorem nSV_eq : ∀ (n : Nat) (s : SV) (K : SV → Prop), nSV n s K = K s
  | 0, _, _ => rfl
  | n + 1, s, K => by cases s <;> simp only [nSV, nList_eq (nSV_eq n), nSV_eq n]

theorem nFr_eq : ∀ (l : List (Option SV)) (K : List (Option SV) → Prop), nFr l K = K l
  | [], _ => rfl
  | none :: l, K => by simp only [nFr, nFr_eq l]
  | some s :: l, K => by simp only [nFr, nFr_eq l, nSV_eq]

theorem nBx_eq : ∀ (l : List Box) (K : List Box → Prop), nBx l K = K l
  | [], _ => rfl
  | ⟨e, .lst cells, total, own⟩ :: l, K => by cases own <;> simp only [nBx, nBx_eq l, nList_eq (nSV_eq 3)]
  | ⟨e, .vals vs, total, own⟩ :: l, K => by cases own <;> simp only [nBx, nBx_eq l]

theorem nSt_eq (S : St) (K : St → Prop) : nSt S K = K S := by
  cases S
  simp only [nSt, nFr_eq, nBx_eq]

def putN (fr : List (Option SV)) (bx : List Box) (E : Mem) (dst : Option Tmp) (s : SV) : St :=
  match dst with
  | some d => ⟨fr.set d (some s), bx, E⟩
  | none => ⟨fr, bx, E⟩

def guardN (all : Array Oper) (o : Oper) (fr : List (Option SV)) (exec skip : List (Option SV) → Prop) : Prop :=
  match o.guard with
  | none => exec fr
  | some (j, want) =>
    match (all[j]?).bind (·.dst) with
    | none => False
    | some d => match fr[d]? with
      | some (some (.raw (.bool b))) => match want with
        | true => cond b (exec (fr.set d (some (.raw (.bool true))))) (skip (fr.set d (some (.raw (.bool false)))))
        | false => cond b (skip (fr.set d (some (.raw (.bool true))))) (exec (fr.set d (some (.raw (.bool false)))))
      | some (some (.raw (.tuple _))) => skip fr
      | _ => False

theorem guardN_eq (all : Array Oper) (o : Oper) (S : St) (exec skip : St → Prop) : guardN all o S.fr (fun fr => exec ⟨fr, S.bx, S.E⟩) (fun fr => skip ⟨fr, S.bx, S.E⟩) = guardW all o S exec skip := by
  cases S
  rfl

def stepN (P : Program) (callW : CallT) (all : Array Oper) (o : Oper) (S : St) (K : St → Prop) : Prop :=
  match S with
  | ⟨fr, bx, E⟩ => guardN all o fr (fun fr => opN P callW o.op fr bx E fun s bx' E' => K (putN fr bx' E' o.dst s)) (fun fr => K (putN fr bx E o.dst (.raw undef)))

theorem putN_eq (S : St) (bx : List Box) (E : Mem) (dst : Option Tmp) (s : SV) : putN S.fr bx E dst s = ({ S with bx := bx, E := E } : St).put dst s := by
  cases dst <;> rfl

theorem stepN_eq (P : Program) (callW : CallT) (all : Array Oper) (o : Oper) (S : St) (K : St → Prop) : stepN P callW all o S K = stepW P callW all o S K := by
  cases S with
  | mk fr bx E =>
    unfold stepW
    rw [← guardN_eq]
    simp only [stepN]
    congr 1

def stepGN (P : Program) (callW : CallT) (all : Array Oper) (o : Oper) (S : St) (K : St → Prop) : Prop :=
  match S with
  | ⟨fr, bx, E⟩ => guardN all o fr (fun fr => if growOp o.op ⟨fr, bx, E⟩ then opN P callW o.op fr bx E fun s bx' E' => K (putN fr bx' E' o.dst s) else False) (fun fr => K (putN fr bx E o.dst (.raw undef)))

theorem stepGN_eq (P : Program) (callW : CallT) (all : Array Oper) (o : Oper) (S : St) (K : St → Prop) : stepGN P callW all o S K = stepGW P callW all o S K := by
  cases S with
  | mk fr bx E =>
    unfold stepGW
    rw [← guardN_eq]
    simp only [stepGN]
    congr 1

def opsN (P : Program) (callW : CallT) (all : Array Oper) : List Oper → St → (St → Prop) → Prop
  | [], S, K => nSt S K
  | o :: r, S, K => stepN P callW all o S fun S' => opsN P callW all r S' K

theorem opsN_eq (P : Program) (callW : CallT) (all : Array Oper) : ∀ (l : List Oper) (S : St) (K : St → Prop), opsN P callW all l S K = opsW P callW all l S K
  | [], S, K => nSt_eq S K
  | o :: r, S, K => by simp only [opsN, opsW, stepN_eq, opsN_eq P callW all r]

def nNat (i : Nat) (K : Nat → Prop) : Prop := match i with
  | 0 => K 0
  | m + 1 => K (m + 1)

def nPl : PT → (PT → Prop) → Prop
  | .nil, K => K .nil
  | .bad, K => K .bad
  | .fin, K => K .fin
  | .q i t, K => nNat i fun i => nPl t fun t => K (.q i t)
  | .g i t, K => nNat i fun i => nPl t fun t => K (.g i t)
  | .al i t, K => nNat i fun i => nPl t fun t => K (.al i t)
  | .br i t r, K => nNat i fun i => nPl t fun t => nPl r fun r => K (.br i t r)
  | .brg i t r, K => nNat i fun i => nPl t fun t => nPl r fun r => K (.brg i t r)

theorem nNat_eq (i : Nat) (K : Nat → Prop) : nNat i K = K i := by cases i <;> rfl

theorem nPl_eq : ∀ (t : PT) (K : PT → Prop), nPl t K = K t
  | .nil, _ => rfl
  | .bad, _ => rfl
  | .fin, _ => rfl
  | .q i t, K => by simp only [nPl, nNat_eq, nPl_eq t]
  | .g i t, K => by simp only [nPl, nNat_eq, nPl_eq t]
  | .al i t, K => by simp only [nPl, nNat_eq, nPl_eq t]
  | .br i t r, K => by simp only [nPl, nNat_eq, nPl_eq t, nPl_eq r]
  | .brg i t r, K => by simp only [nPl, nNat_eq, nPl_eq t, nPl_eq r]

def runN (P : Program) (callW : CallT) (all : Array Oper) : PT → St → (St → Prop) → Prop
  | .nil, S, K => nSt S K
  | .bad, _, _ => False
  | .fin, _, _ => True
  | .q i t, S, K => match all[i]? with
    | some o => stepN P callW all o S fun S' => runN P callW all t S' K
    | none => False
  | .g i t, S, K => match all[i]? with
    | some o => stepGN P callW all o S fun S' => runN P callW all t S' K
    | none => False
  | .al i t, ⟨fr, bx, E⟩, K => match all[i]? with
    | some o => opN P callW o.op fr bx E fun s bx' E' => runN P callW all t (putN fr bx' E' o.dst s) K
    | none => False
  | .br i t rest, S, K => (match all[i]? with
    | some o => stepN P callW all o S fun S' => runN P callW all t S' K
    | none => False) ∧ runN P callW all rest S K
  | .brg i t rest, S, K => (match all[i]? with
    | some o => stepGN P callW all o S fun S' => runN P callW all t S' K
    | none => False) ∧ runN P callW all rest S K

theorem runN_eq (P : Program) (callW : CallT) (all : Array Oper) : ∀ (t : PT) (S : St) (K : St → Prop), runN P callW all t S K = runW P callW all t S K
  | .nil, S, K => nSt_eq S K
  | .bad, _, _ => rfl
  | .fin, _, _ => rfl
  | .q i t, S, K => by simp only [runN, runW, stepN_eq, runN_eq P callW all t]; rfl
  | .g i t, S, K => by simp only [runN, runW, stepGN_eq, runN_eq P callW all t]; rfl
  | .al i t, ⟨fr, bx, E⟩, K => by
    simp only [runN, runW, runN_eq P callW all t]
    cases all[i]? with
    | none => rfl
    | some o => exact opN_eq P callW o.op ⟨fr, bx, E⟩ _
  | .br i t r, S, K => by simp only [runN, runW, stepN_eq, runN_eq P callW all t, runN_eq P callW all r]; rfl
  | .brg i t r, S, K => by simp only [runN, runW, stepGN_eq, runN_eq P callW all t, runN_eq P callW all r]; rfl

def drawN (P : Program) (callW : CallT) (all : Array Oper) (tail : List Nat) (n : Nat) (listed : Array Bool) (S : St) (K : St → Prop) : Prop :=
  nPl (planF (okTy P) all tail n listed) fun t => nSt (S.forget (allocDsts P all)) fun S => runN P callW all t S K

theorem drawN_eq (P : Program) (callW : CallT) (all : Array Oper) (tail : List Nat) (n : Nat) (listed : Array Bool) (S : St) (K : St → Prop) : drawN P callW all tail n listed S K = drawW P callW all tail n listed S K := by
  unfold drawN drawW
  rw [nPl_eq, nSt_eq, runN_eq]

def codeN (P : Program) (callW : CallT) (inl : Op → Bool) (un : Opt) : Code → (Ex → St → Prop) → St → Prop
  | .skip, Q, S => Q .normal S
  | .region _ ops false, Q, S => opsN P callW ops ops.toList S (Q .normal)
  | .region _ ops true, Q, S => bif un.rnd && !noDefer ops then False else if Region.noSelect ops then drawN P callW ops (tailOf inl ops) ops.size (Array.replicate ops.size false) S (Q .normal) else False
  | .seq x y, Q, S => codeN P callW inl un x (fun e S' => match e with | .normal => (bif cutAt un y && !un.rnd then nSt S' (CutP P un.om un.base y Q) else codeN P callW inl un y Q S') | .exit id => Q (.exit id) S' | .ret => Q .ret S') S
  | .cond c x y, Q, S => match opd S c with
    | some (.raw (.bool b)) => cond b (bif cutC un x then nSt S (CutP P un.om un.base x Q) else codeN P callW inl un x Q S) (codeN P callW inl un y Q S)
    | _ => False
  | .block id body, Q, S => codeN P callW inl un body (fun e S' => match e with | .normal => Q .normal S' | .exit i => if i = id then Q .normal S' else Q (.exit i) S' | .ret => Q .ret S') S
  | .loop body, Q, S => bif un.rnd then False else iterW (codeN P callW inl un body) (fun Q S => nSt (S.forget (dropOf un body)) (LoopP P un.om un.base body Q)) un.unroll Q S
  | .exit id, Q, S => Q (.exit id) S
  | .ret, Q, S => Q .ret S
  | .rangeFunc g ps assign body, Q, S => bif un.rnd then False else nSt S (CutP P un.om un.base (.rangeFunc g ps assign body) Q)
  | _, _, _ => False

theorem codeN_eq (P : Program) (callW : CallT) (inl : Op → Bool) (un : Opt) : ∀ (c : Code), codeN P callW inl un c = codeW P callW inl un c
  | .skip => rfl
  | .region _ ops false => by funext Q S; simp only [codeN, codeW, opsN_eq]
  | .region _ ops true => by funext Q S; simp only [codeN, codeW, drawN_eq]
  | .seq x y => by funext Q S; simp only [codeN, codeW, codeN_eq P callW inl un x, codeN_eq P callW inl un y, nSt_eq]; rfl
  | .cond c x y => by funext Q S; simp only [codeN, codeW, codeN_eq P callW inl un x, codeN_eq P callW inl un y, nSt_eq]; rfl
  | .block id body => by funext Q S; simp only [codeN, codeW, codeN_eq P callW inl un body]; rfl
  | .loop body => by funext Q S; simp only [codeN, codeW, codeN_eq P callW inl un body, nSt_eq]
  | .exit id => rfl
  | .ret => rfl
  | .rangeFunc .. => by funext Q S; simp only [codeN, codeW, nSt_eq]
  | .scope .. => rfl
  | .label .. => rfl
  | .refuse .. => rfl
  | .goto _ => rfl

def contN (P : Program) (callW : CallT) (inl : Op → Bool) (un : Opt) : Code → List Nat → (Ex → St → Prop) → (Ex → St → Prop)
  | _, [], Q => Q
  | .seq x y, 0 :: p, Q => contN P callW inl un x p (fun e S' => match e with | .normal => (bif cutAt un y && !un.rnd then nSt S' (CutP P un.om un.base y Q) else codeN P callW inl un y Q S') | .exit id => Q (.exit id) S' | .ret => Q .ret S')
  | .seq _ y, _ :: p, Q => contN P callW inl un y p Q
  | .cond _ x _, 0 :: p, Q => contN P callW inl un x p Q
  | .cond _ _ y, _ :: p, Q => contN P callW inl un y p Q
  | .block id x, _ :: p, Q => contN P callW inl un x p (fun e S' => match e with | .normal => Q .normal S' | .exit i => if i = id then Q .normal S' else Q (.exit i) S' | .ret => Q .ret S')
  | .loop x, _ :: p, Q => contN P callW inl un x p (fun e S' => match e with | .normal => nSt (S'.forget (dropOf un x)) (LoopP P un.om un.base x Q) | .exit id => Q (.exit id) S' | .ret => Q .ret S')
  | _, _, Q => Q

theorem contN_eq (P : Program) (callW : CallT) (inl : Op → Bool) (un : Opt) : ∀ (c : Code) (p : List Nat) (Q : Ex → St → Prop), contN P callW inl un c p Q = contQ P callW inl un c p Q
  | c, [], Q => by cases c <;> rfl
  | .seq x y, 0 :: p, Q => by simp only [contN, contQ, contN_eq P callW inl un x p, codeN_eq, nSt_eq]; rfl
  | .seq _ y, (_ + 1) :: p, Q => by simp only [contN, contQ, contN_eq P callW inl un y p]
  | .cond _ x _, 0 :: p, Q => by simp only [contN, contQ, contN_eq P callW inl un x p]
  | .cond _ _ y, (_ + 1) :: p, Q => by simp only [contN, contQ, contN_eq P callW inl un y p]
  | .block id x, _ :: p, Q => by simp only [contN, contQ, contN_eq P callW inl un x p]; rfl
  | .loop x, _ :: p, Q => by simp only [contN, contQ, contN_eq P callW inl un x p, nSt_eq]; rfl
  | .skip, _ :: _, _ => by simp only [contN, contQ]
  | .region .., _ :: _, _ => by simp only [contN, contQ]
  | .rangeFunc .., _ :: _, _ => by simp only [contN, contQ]
  | .exit _, _ :: _, _ => by simp only [contN, contQ]
  | .scope _, _ :: _, _ => by simp only [contN, contQ]
  | .label _, _ :: _, _ => by simp only [contN, contQ]
  | .goto _, _ :: _, _ => by simp only [contN, contQ]
  | .ret, _ :: _, _ => by simp only [contN, contQ]
  | .refuse _, _ :: _, _ => by simp only [contN, contQ]

def retN (P : Program) (fn : Func) (S : St) (K : KT) : Prop :=
  match S with
  | ⟨fr, bx, E⟩ => match retVars P ⟨fr, bx, E⟩ fn.results.toList with
    | some [s] => nSV 3 s fun s => K s bx E
    | some ss => nList (nSV 3) ss fun ss => K (.tup ss) bx E
    | none => False

theorem retN_eq (P : Program) (fn : Func) (S : St) (K : KT) : retN P fn S K = retW P fn S K := by
  cases S
  unfold retN retW
  simp only [nSV_eq, nList_eq (nSV_eq 3)]
  rfl

def bodyN (P : Program) (fn : Func) (K : KT) : Ex → St → Prop
  | .normal, S | .ret, S => retN P fn S K
  | .exit _, _ => False

theorem bodyN_eq (P : Program) (fn : Func) (K : KT) : bodyN P fn K = bodyQ P fn K := by
  funext e S
  cases e <;> simp only [bodyN, bodyQ, retN_eq]

def enterN (P : Program) (callW : CallT) (inl : Op → Bool) (un : Opt) (fn : Func) (args : List SV) (bx : List Box) (E : Mem) (K : KT) : Prop :=
  match fn.body with
  | some c => if (args.length ≤ fn.ntmps ∧ (un.om.isNone || fn.results.toList.isEmpty) = true) then nSt { fr := args.map some ++ List.replicate (fn.ntmps - args.length) none, bx := bx, E := E } (codeN P callW inl { un with base := bx.length, rnd := false } c (bodyN P fn K)) else False
  | none => False

theorem enterN_eq (P : Program) (callW : CallT) (inl : Op → Bool) (un : Opt) (fn : Func) (args : List SV) (bx : List Box) (E : Mem) (K : KT) : enterN P callW inl un fn args bx E K = enterW P callW inl un fn args bx E K := by
  unfold enterN enterW
  simp only [nSt_eq, codeN_eq, bodyN_eq]
  rfl

def callN (C : Cx) : Nat → CallT
  | 0 => fun f args bx E K => nList (nSV 3) args fun args => nBx bx fun bx => tabF C f args bx E K
  | n + 1 => fun f args bx E K =>
    if (C.inl f && f != YID) = true then
      match C.P.funcs[f]? with
      | some fn => enterN C.P (callN C.noY n) C.muts { C.opt with cuts := [], om := none } fn args bx E K
      | none => False
    else nList (nSV 3) args fun args => nBx bx fun bx => tabF C f args bx E K

theorem callN_eq (C : Cx) : ∀ n, callN C n = callF C n
  | 0 => by funext f args bx E K; simp only [callN, callF, nList_eq (nSV_eq 3), nBx_eq]
  | n + 1 => by
    funext f args bx E K
    simp only [callN, callF, callN_eq C.noY n, enterN_eq, nList_eq (nSV_eq 3), nBx_eq]
    rfl

end Go.Sx
