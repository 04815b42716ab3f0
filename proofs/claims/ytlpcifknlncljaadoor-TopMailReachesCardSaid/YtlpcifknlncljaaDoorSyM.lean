/- The symbolic evaluator: a part of it; generic over programs. Conditions: none. -/
import Derived.Test.YtlpcifknlncljaaDoorSyI
import Derived.Test.YtlpcifknlncljaaDoorSyMP
import Derived.OrdersHeld
import Derived.OrdersIn
namespace Go.Sx
def opN (P:Program) (callW:CallT) (op:Op) (fr0:List (Option SV)) (bx0:List Box) (E0:Mem) (K:KT):Prop:=
 match op with
 | .move x| .assign x=>match opd ⟨fr0,bx0,E0⟩ x with |some s=>K s bx0 E0|none=>False
 | .pick c x y=>match opd ⟨fr0,bx0,E0⟩ c,opd ⟨fr0,bx0,E0⟩ x,opd ⟨fr0,bx0,E0⟩ y with
  | some (.raw (.bool t)),some (.raw (.bool a)),some (.raw (.bool b))=>K (.raw (.bool (cond t a b))) bx0 E0
  | some (.raw (.bool t)),some a,some b=>cond t (K a bx0 E0) (K b bx0 E0)
  | some (.raw (.bool true)),some a,none=>K a bx0 E0
  | some (.raw (.bool false)),none,some b=>K b bx0 E0
  | _,_,_=>False
 | .alloc T=>match P.info? T with
  | some i=>match i.zero with
   | some z=>if oneOrAgg (.raw z)=true then K (.loc bx0.length 0) (bx0++[⟨T,.lst (svCells (.raw z)),(svCells (.raw z)).length,true⟩]) E0 else False
   | none=>False
  | none=>False
 | .box T x=>match opd ⟨fr0,bx0,E0⟩ x with
  | some s=>if oneOrAgg s=true then K (.loc bx0.length 0) (bx0++[⟨T,.lst (svCells s),(svCells s).length,true⟩]) E0 else False
  | none=>False
 | .build T ps=>match P.info? T,P.underlying T,parts ⟨fr0,bx0,E0⟩ ps.toList with
  | some i,some (.struct fs),some ss=>match i.zero,fs.toList.mapM (fun f=>(P.info? f.type).map fun i=>(f.offset,i.size)) with
   | some z,some places=>match asCells (.raw z) with
    | some zs=>match fillW (places.toArray[·]?) zs ss with
     | some cs=>K (.agg cs) bx0 E0
     | none=>False
    | none=>False
   | _,_=>False
  | some i,some (.array _ e),some ss=>match i.zero,P.info? e with
   | some z,some ie=>match asCells (.raw z) with
    | some zs=>match fillW (fun k=>some (k*ie.size,ie.size)) zs ss with
     | some cs=>K (.agg cs) bx0 E0
     | none=>False
    | none=>False
   | _,_=>False
  | _,_,_=>False
 | .buildSlice T n ps=>match P.underlying T,parts ⟨fr0,bx0,E0⟩ ps.toList with
  | some (.slice e),some ss=>match sizeW P e,zerosW P e n with
   | some m,some zs=>if n*m<=16777216 then
     match fillW (fun k=>some (k*m,m)) zs ss with
     | some cs=>K (.slc bx0.length 0 n n) (bx0++[⟨e,.lst cs,cs.length,true⟩]) E0
     | none=>False else False
   | _,_=>False
  | _,_=>False
 | .load T x=>match opd ⟨fr0,bx0,E0⟩ x with
  | some (.loc b off)=>match bx0[b]? with
   | some y=>match y.row with
    | .lst cells=>match loadW P T cells off with
     | some r=>K r bx0 E0
     | none=>False
    | .vals vs=>loadRel P T (LoadV P T vs off) fun s=>K s bx0 E0
   | none=>False
  | some (.rp v off)=>loadRel P T (LoadE P E0 T v off) fun s=>K s bx0 E0
  | _=>False
 | .store T x y=>match opd ⟨fr0,bx0,E0⟩ x,opd ⟨fr0,bx0,E0⟩ y with
  | some (.loc b off),some s=>storeW P T bx0 b off s fun bx=>K (.raw undef) bx E0
  | _,_=>False
 | .nilCheck x=>match opd ⟨fr0,bx0,E0⟩ x with
  | some (.loc b off)=>K (.loc b off) bx0 E0
  | some (.rp v off)=>K (.rp v off) bx0 E0
  | some (.clo f m l)=>K (.clo f m l) bx0 E0
  | some (.ifc t v)=>K (.ifc t v) bx0 E0
  | some (.mth n (.ifc T v))=>match methodW P T n,P.underlying T with
   | some _,some (.pointer _)=>K (.mth n (.ifc T v)) bx0 E0
   | _,_=>False
  | _=>False
 | .binOp op T x y _=>match opd ⟨fr0,bx0,E0⟩ x,opd ⟨fr0,bx0,E0⟩ y with
  | some s,some t=>match op,isNilCmp s t,P.underlying T with
   | .eql,some r,some (.pointer _)=>K (.raw (.bool r)) bx0 E0
   | .neq,some r,some (.pointer _)=>K (.raw (.bool !r)) bx0 E0
   | .eql,none,some (.slice _)=>nilSlcW s t fun r=>K (.raw (.bool r)) bx0 E0
   | .neq,none,some (.slice _)=>nilSlcW s t fun r=>K (.raw (.bool !r)) bx0 E0
   | .eql,none,some (.struct _)=>if P.eqGuardType P.depth T=false then match eqSV P 12 T s t with
    | some r=>K (.raw (.bool r)) bx0 E0
    | none=>False else False
   | .neq,none,some (.struct _)=>if P.eqGuardType P.depth T=false then match eqSV P 12 T s t with
    | some r=>K (.raw (.bool !r)) bx0 E0
    | none=>False else False
   | _,_,_=>match s.val,t.val with
    | some v,some u=>binW P op T x y v u fun r=>K r bx0 E0
    | _,_=>False
  | _,_=>False
 | .unOp op _ x=>match opd ⟨fr0,bx0,E0⟩ x with
  | some (.raw v)=>pureW P (Op.unary op v) fun r=>K r bx0 E0
  | _=>False
 | .convert src dst x=>match opd ⟨fr0,bx0,E0⟩ x with
  | some s=>match s.val with
   | some v=>pureW P (convert src dst v) fun r=>K r bx0 E0
   | none=>cnvW P src dst s bx0 fun bx=>K s bx E0
  | none=>False
 | .makeInterface T x=>match opd ⟨fr0,bx0,E0⟩ x,P.underlying T with
  | some _,some (.interface _)=>False
  | some s,some _=>K (.ifc T s) bx0 E0
  | _,_=>False
 | .makeFunc (.func f) first caps=>match opds ⟨fr0,bx0,E0⟩ first.toList,opds ⟨fr0,bx0,E0⟩ caps.toList with
  | some m,some l=>K (.clo f m l) bx0 E0
  | _,_=>False
 | .makeFunc (.method n) first caps=>match opds ⟨fr0,bx0,E0⟩ first.toList,caps.toList with
  | some [.ifc T v],[]=>K (.mth n (.ifc T v)) bx0 E0
  | _,_=>False
 | .makeSlice T l c=>match opd ⟨fr0,bx0,E0⟩ l,opd ⟨fr0,bx0,E0⟩ c,P.underlying T with
  | some (.raw (.int _ l)),some (.raw (.int _ c)),some (.slice e)=>makeW P e l c bx0 E0 K
  | _,_,_=>False
 | .slice T x lo hi mx=>match opd ⟨fr0,bx0,E0⟩ x,numO ⟨fr0,bx0,E0⟩ lo,numO ⟨fr0,bx0,E0⟩ hi,numO ⟨fr0,bx0,E0⟩ mx,P.underlying T with
  | some (.loc b off),some l,some h,some m,some (.array n e)=>match sizeW P e with
   | some z=>sliceNums l h m n n fun l h m=>K (.slc b (if m=l then off else off+l*z) (h-l) (m-l)) bx0 E0
   | none=>False
  | some (.slc b off len cap),some l,some h,some m,some (.slice e)=>match sizeW P e with
   | some z=>sliceNums l h m len cap fun l h m=>K (.slc b (if m=l then off else off+l*z) (h-l) (m-l)) bx0 E0
   | none=>False
  | some (.raw (.slice base len cap)),some l,some h,some m,some (.slice e)=>match sizeW P e with
   | some z=>req (len<=cap)<|sliceNums l h m len cap fun l h m=>∀ (base':Option Addr) (E':Mem),Mem.le E0 E'->
     (∀ cs,E0 (.slice base len cap) cs->E' (.slice base' (h-l) (m-l)) ((cs.drop (l*z)).take ((h-l)*z)))->base'.isNone=base.isNone->K (.raw (.slice base' (h-l) (m-l))) bx0 E'
   | none=>False
  | _,_,_,_,_=>False
 | .fieldAddr T x f=>match P.underlying T with
  | some (.struct fs)=>match fs[f]? with
   | some fld=>match sizeW P fld.type,opd ⟨fr0,bx0,E0⟩ x with
    | some n,some (.loc b off)=>if n=0 then False else K (.loc b (off+fld.offset)) bx0 E0
    | some n,some (.rp v off)=>if n=0 then False else K (.rp v (off+fld.offset)) bx0 E0
    | _,_=>False
   | none=>False
  | _=>False
 | .field T x f=>match P.underlying T with
  | some (.struct fs)=>match fs[f]?,opd ⟨fr0,bx0,E0⟩ x with
   | some fld,some s=>match asCells s with
    | some cs=>match loadW P fld.type cs fld.offset with
     | some r=>K r bx0 E0
     | none=>False
    | none=>False
   | _,_=>False
  | _=>False
 | .indexAddr T x i=>match opd ⟨fr0,bx0,E0⟩ x,opd ⟨fr0,bx0,E0⟩ i,P.underlying T with
  | some (.loc b off),some (.raw (.int _ n)),some (.array len e)=>match sizeW P e with
   | some z=>req (0<=n/\n<(len:Int)) (K (.loc b (off+n.toNat*z)) bx0 E0)
   | none=>False
  | some (.rp v off),some (.raw (.int _ n)),some (.array len e)=>match sizeW P e with
   | some z=>req (0<=n/\n<(len:Int)) (K (.rp v (off+n.toNat*z)) bx0 E0)
   | none=>False
  | some (.slc b off len _),some (.raw (.int _ n)),some (.slice e)=>match sizeW P e with
   | some z=>req (0<=n/\n<(len:Int)) (K (.loc b (off+n.toNat*z)) bx0 E0)
   | none=>False
  | some (.raw (.slice base len cap)),some (.raw (.int _ n)),some (.slice e)=>match sizeW P e with
   | some z=>req (0<=n/\n<(len:Int)) ((∃ cs,E0 (.slice base len cap) cs/\cs≠[])/\K (.rp (.slice base len cap) (n.toNat*z)) bx0 E0)
   | none=>False
  | _,_,_=>False
 | .index T x i=>match opd ⟨fr0,bx0,E0⟩ x,opd ⟨fr0,bx0,E0⟩ i,P.underlying T with
  | some s,some (.raw (.int _ n)),some (.array len e)=>match asCells s,sizeW P e with
   | some cs,some z=>req (0<=n/\n<(len:Int)) (match loadW P e cs (n.toNat*z) with
    | some r=>K r bx0 E0
    | none=>False)
   | _,_=>False
  | some (.raw v),some (.raw i),_=>pureW P (Instr.index T v i) fun r=>K r bx0 E0
  | _,_,_=>False
 | .extract x i=>match opd ⟨fr0,bx0,E0⟩ x with
  | some (.tup l)=>match l[i]? with |some s=>K s bx0 E0|none=>False
  | some (.raw (.tuple vs))=>match vs.toList[i]? with |some v=>K (.raw v) bx0 E0|none=>False
  | _=>False
 | .makeMap T r=>makeMapW P T (r.map (opd ⟨fr0,bx0,E0⟩)) bx0 fun s bx=>K s bx E0
 | .lookup T x ix ok=>match opd ⟨fr0,bx0,E0⟩ x,opd ⟨fr0,bx0,E0⟩ ix with
  | some s,some t=>lookupW P T s t ok bx0 fun r=>K r bx0 E0
  | _,_=>False
 | .mapUpdate T m ix x| .insert T m ix x=>match opd ⟨fr0,bx0,E0⟩ m,opd ⟨fr0,bx0,E0⟩ ix,opd ⟨fr0,bx0,E0⟩ x with
  | some s,some t,some r=>updateW P T s t r bx0 fun bx=>K (.raw undef) bx E0
  | _,_,_=>False
 | .range T x=>match opd ⟨fr0,bx0,E0⟩ x with
  | some s=>rangeW P T s bx0 fun s bx=>K s bx E0
  | none=>False
 | .next x false=>match opd ⟨fr0,bx0,E0⟩ x with
  | some s=>nextW s bx0 fun s bx=>K s bx E0
  | none=>False
 | .entry x=>match opd ⟨fr0,bx0,E0⟩ x with
  | some s=>entryW s bx0 fun s=>K s bx0 E0
  | none=>False
 | .typeAssert x T U ok=>match opd ⟨fr0,bx0,E0⟩ x with
  | some s=>match s.val with
   | some v=>pureW P (Instr.typeAssert v T U ok) fun r=>K r bx0 E0
   | none=>False
  | none=>False
 | .call c=>match opds ⟨fr0,bx0,E0⟩ c.args.toList with
  | some args=>match c.callee with
   | .value f=>match opd ⟨fr0,bx0,E0⟩ f with
    | some (.clo g first caps)=>callG callW g (first++args++caps) bx0 E0 K
    | some (.raw (.func (.yield l) m b))=>callW YID (.raw (.func (.yield l) m b)::args) bx0 E0 K
    | _=>False
   | .invoke r name=>match opd ⟨fr0,bx0,E0⟩ r with
    | some (.ifc T v)=>match methodW P T name with
     | some g=>callG callW g (v::args) bx0 E0 K
     | none=>False
    | _=>False
   | .builtin .len=>match args,(c.argTypes[0]?).bind P.underlying with
    | [.raw (.slice _ n _)],some (.slice _)=>K (.raw (.int .i64 n)) bx0 E0
    | [.slc _ _ n _],some (.slice _)=>K (.raw (.int .i64 n)) bx0 E0
    | [.raw (.string s)],some .string=>K (.raw (.int .i64 s.size)) bx0 E0
    | [_],some (.array n _)=>K (.raw (.int .i64 n)) bx0 E0
    | [.mp false b],some (.map ..)=>match bx0[b]? with
     | some ⟨_,.lst cells,_,true⟩=>K (.raw (.int .i64 (cells.length / 2:Nat))) bx0 E0
     | _=>False
    | _,_=>False
   | .builtin .cap=>match args,(c.argTypes[0]?).bind P.underlying with
    | [.raw (.slice _ _ n)],some (.slice _)=>K (.raw (.int .i64 n)) bx0 E0
    | [.slc _ _ _ n],some (.slice _)=>K (.raw (.int .i64 n)) bx0 E0
    | _,_=>False
   | .builtin .append=>match args,c.argTypes.toList with
    | [s,x],[t,u]=>match P.underlying t,P.underlying u with
     | some (.slice e),some (.slice _)=>appendW P e s x bx0 E0 K
     | some (.slice e),some (.int _)=>appendZ P e s x bx0 E0 K
     | _,_=>False
    | _,_=>False
   | .builtin .copy=>match args,c.argTypes.toList with
    | [s,x],[t,u]=>match P.underlying t,P.underlying u with
     | some (.slice e),some (.slice _)=>copyW P e s x bx0 E0 K
     | _,_=>False
    | _,_=>False
   | .builtin .clear=>match args,c.argTypes.toList with
    | [s],[t]=>match P.underlying t with
     | some (.slice e)=>clearW P e s bx0 E0 K
     | _=>False
    | _,_=>False
   | .builtin .min=>match raws args with
    | some vs=>pureW P (Builtin.min_ #[] 0 vs.toArray) fun r=>K r bx0 E0
    | none=>False
   | .builtin .max=>match raws args with
    | some vs=>pureW P (Builtin.max_ #[] 0 vs.toArray) fun r=>K r bx0 E0
    | none=>False
   | .builtin _=>False
  | none=>False
 | _=>False
theorem opN_eq (P:Program) (callW:CallT) (op:Op) (S:St) (K:KT):opN P callW op S.fr S.bx S.E K=opW P callW op S K:=by
 cases S
 cases op<;>first|rfl|(rename_i b;cases b<;>rfl)
def nList (f:SV->(SV->Prop)->Prop):List SV->(List SV->Prop)->Prop
 | [],K=>K []
 | s::l,K=>f s fun s'=>nList f l fun l'=>K (s'::l')
def nSV:Nat->SV->(SV->Prop)->Prop
 | 0,s,K=>K s
 | n+1,s,K=>match s with
  | .raw v=>K (.raw v)
  | .loc b off=>K (.loc b off)
  | .slc b off len cap=>K (.slc b off len cap)
  | .rp v off=>K (.rp v off)
  | .agg l=>nList (nSV n) l fun l'=>K (.agg l')
  | .tup l=>nList (nSV n) l fun l'=>K (.tup l')
  | .clo f m l=>nList (nSV n) m fun m'=>nList (nSV n) l fun l'=>K (.clo f m' l')
  | .ifc t v=>nSV n v fun v'=>K (.ifc t v')
  | .mth t v=>nSV n v fun v'=>K (.mth t v')
  | .mp it b=>K (.mp it b)
def nFr:List (Option SV)->(List (Option SV)->Prop)->Prop
 | [],K=>K []
 | none::l,K=>nFr l fun l'=>K (none::l')
 | some s::l,K=>nSV 3 s fun s'=>nFr l fun l'=>K (some s'::l')
def nBx:List Box->(List Box->Prop)->Prop
 | [],K=>K []
 | ⟨e,.lst cells,total,own⟩::l,K=>nList (nSV 3) cells fun cells'=>match own with
  | true=>nBx l fun l'=>K (⟨e,.lst cells',total,true⟩::l')
  | false=>nBx l fun l'=>K (⟨e,.lst cells',total,false⟩::l')
 | ⟨e,.vals vs,total,own⟩::l,K=>match own with
  | true=>nBx l fun l'=>K (⟨e,.vals vs,total,true⟩::l')
  | false=>nBx l fun l'=>K (⟨e,.vals vs,total,false⟩::l')
def nSt (S:St) (K:St->Prop):Prop:=
 match S with
 | ⟨fr,bx,E⟩=>nFr fr fun fr'=>nBx bx fun bx'=>K ⟨fr',bx',E⟩
theorem nList_eq {f:SV->(SV->Prop)->Prop} (hf:∀ s K,f s K=K s):∀ (l:List SV) (K:List SV->Prop),nList f l K=K l
 | [],_=>rfl
 | s::l,K=>by simp only [nList,hf,nList_eq hf l]
theorem nSV_eq:∀ (n:Nat) (s:SV) (K:SV->Prop),nSV n s K=K s
 | 0,_,_=>rfl
 | n+1,s,K=>by cases s<;>simp only [nSV,nList_eq (nSV_eq n),nSV_eq n]
theorem nFr_eq:∀ (l:List (Option SV)) (K:List (Option SV)->Prop),nFr l K=K l
 | [],_=>rfl
 | none::l,K=>by simp only [nFr,nFr_eq l]
 | some s::l,K=>by simp only [nFr,nFr_eq l,nSV_eq]
theorem nBx_eq:∀ (l:List Box) (K:List Box->Prop),nBx l K=K l
 | [],_=>rfl
 | ⟨e,.lst cells,total,own⟩::l,K=>by cases own<;>simp only [nBx,nBx_eq l,nList_eq (nSV_eq 3)]
 | ⟨e,.vals vs,total,own⟩::l,K=>by cases own<;>simp only [nBx,nBx_eq l]
theorem nSt_eq (S:St) (K:St->Prop):nSt S K=K S:=by
 cases S
 simp only [nSt,nFr_eq,nBx_eq]
def putN (fr:List (Option SV)) (bx:List Box) (E:Mem) (dst:Option Tmp) (s:SV):St:=
 match dst with
 | some d=>⟨fr.set d (some s),bx,E⟩
 | none=>⟨fr,bx,E⟩
def guardN (all:Array Oper) (o:Oper) (fr:List (Option SV)) (exec skip:List (Option SV)->Prop):Prop:=
 match o.guard with
 | none=>exec fr
 | some (j,want)=>
  match (all[j]?).bind (·.dst) with
  | none=>False
  | some d=>match fr[d]? with
   | some (some (.raw (.bool b)))=>match want with
    | true=>cond b (exec (fr.set d (some (.raw (.bool true))))) (skip (fr.set d (some (.raw (.bool false)))))
    | false=>cond b (skip (fr.set d (some (.raw (.bool true))))) (exec (fr.set d (some (.raw (.bool false)))))
   | some (some (.raw (.tuple _)))=>skip fr
   | _=>False
theorem guardN_eq (all:Array Oper) (o:Oper) (S:St) (exec skip:St->Prop):guardN all o S.fr (fun fr=>exec ⟨fr,S.bx,S.E⟩) (fun fr=>skip ⟨fr,S.bx,S.E⟩)=guardW all o S exec skip:=by
 cases S
 rfl
def stepN (P:Program) (callW:CallT) (all:Array Oper) (o:Oper) (S:St) (K:St->Prop):Prop:=
 match S with
 | ⟨fr,bx,E⟩=>guardN all o fr (fun fr=>opN P callW o.op fr bx E fun s bx' E'=>K (putN fr bx' E' o.dst s)) (fun fr=>K (putN fr bx E o.dst (.raw undef)))
theorem stepN_eq (P:Program) (callW:CallT) (all:Array Oper) (o:Oper) (S:St) (K:St->Prop):stepN P callW all o S K=stepW P callW all o S K:=by
 cases S with
 | mk fr bx E=>
  unfold stepW
  rw [← guardN_eq]
  simp only [stepN]
  congr 1
def stepGN (P:Program) (callW:CallT) (all:Array Oper) (o:Oper) (S:St) (K:St->Prop):Prop:=
 match S with
 | ⟨fr,bx,E⟩=>guardN all o fr (fun fr=>if growOp o.op ⟨fr,bx,E⟩ then opN P callW o.op fr bx E fun s bx' E'=>K (putN fr bx' E' o.dst s) else False) (fun fr=>K (putN fr bx E o.dst (.raw undef)))
theorem stepGN_eq (P:Program) (callW:CallT) (all:Array Oper) (o:Oper) (S:St) (K:St->Prop):stepGN P callW all o S K=stepGW P callW all o S K:=by
 cases S with
 | mk fr bx E=>
  unfold stepGW
  rw [← guardN_eq]
  simp only [stepGN]
  congr 1
def opsN (P:Program) (callW:CallT) (all:Array Oper):List Oper->St->(St->Prop)->Prop
 | [],S,K=>nSt S K
 | o::r,S,K=>stepN P callW all o S fun S'=>opsN P callW all r S' K
theorem opsN_eq (P:Program) (callW:CallT) (all:Array Oper):∀ (l:List Oper) (S:St) (K:St->Prop),opsN P callW all l S K=opsW P callW all l S K
 | [],S,K=>nSt_eq S K
 | o::r,S,K=>by simp only [opsN,opsW,stepN_eq,opsN_eq P callW all r]
def nNat (i:Nat) (K:Nat->Prop):Prop:=match i with
 | 0=>K 0
 | m+1=>K (m+1)
def nPl:PT->(PT->Prop)->Prop
 | .nil,K=>K .nil
 | .bad,K=>K .bad
 | .fin,K=>K .fin
 | .q i t,K=>nNat i fun i=>nPl t fun t=>K (.q i t)
 | .g i t,K=>nNat i fun i=>nPl t fun t=>K (.g i t)
 | .al i t,K=>nNat i fun i=>nPl t fun t=>K (.al i t)
 | .br i t r,K=>nNat i fun i=>nPl t fun t=>nPl r fun r=>K (.br i t r)
 | .brg i t r,K=>nNat i fun i=>nPl t fun t=>nPl r fun r=>K (.brg i t r)
theorem nNat_eq (i:Nat) (K:Nat->Prop):nNat i K=K i:=by cases i<;>rfl
theorem nPl_eq:∀ (t:PT) (K:PT->Prop),nPl t K=K t
 | .nil,_=>rfl
 | .bad,_=>rfl
 | .fin,_=>rfl
 | .q i t,K=>by simp only [nPl,nNat_eq,nPl_eq t]
 | .g i t,K=>by simp only [nPl,nNat_eq,nPl_eq t]
 | .al i t,K=>by simp only [nPl,nNat_eq,nPl_eq t]
 | .br i t r,K=>by simp only [nPl,nNat_eq,nPl_eq t,nPl_eq r]
 | .brg i t r,K=>by simp only [nPl,nNat_eq,nPl_eq t,nPl_eq r]
def runN (P:Program) (callW:CallT) (all:Array Oper):PT->St->(St->Prop)->Prop
 | .nil,S,K=>nSt S K
 | .bad,_,_=>False
 | .fin,_,_=>True
 | .q i t,S,K=>match all[i]? with
  | some o=>stepN P callW all o S fun S'=>runN P callW all t S' K
  | none=>False
 | .g i t,S,K=>match all[i]? with
  | some o=>stepGN P callW all o S fun S'=>runN P callW all t S' K
  | none=>False
 | .al i t,⟨fr,bx,E⟩,K=>match all[i]? with
  | some o=>opN P callW o.op fr bx E fun s bx' E'=>runN P callW all t (putN fr bx' E' o.dst s) K
  | none=>False
 | .br i t rest,S,K=>(match all[i]? with
  | some o=>stepN P callW all o S fun S'=>runN P callW all t S' K
  | none=>False)/\runN P callW all rest S K
 | .brg i t rest,S,K=>(match all[i]? with
  | some o=>stepGN P callW all o S fun S'=>runN P callW all t S' K
  | none=>False)/\runN P callW all rest S K
theorem runN_eq (P:Program) (callW:CallT) (all:Array Oper):∀ (t:PT) (S:St) (K:St->Prop),runN P callW all t S K=runW P callW all t S K
 | .nil,S,K=>nSt_eq S K
 | .bad,_,_=>rfl
 | .fin,_,_=>rfl
 | .q i t,S,K=>by simp only [runN,runW,stepN_eq,runN_eq P callW all t];rfl
 | .g i t,S,K=>by simp only [runN,runW,stepGN_eq,runN_eq P callW all t];rfl
 | .al i t,⟨fr,bx,E⟩,K=>by
  simp only [runN,runW,runN_eq P callW all t]
  cases all[i]? with
  | none=>rfl
  | some o=>exact opN_eq P callW o.op ⟨fr,bx,E⟩ _
 | .br i t r,S,K=>by simp only [runN,runW,stepN_eq,runN_eq P callW all t,runN_eq P callW all r];rfl
 | .brg i t r,S,K=>by simp only [runN,runW,stepGN_eq,runN_eq P callW all t,runN_eq P callW all r];rfl
def drawN (P:Program) (callW:CallT) (all:Array Oper) (tail:List Nat) (n:Nat) (listed:Array Bool) (S:St) (K:St->Prop):Prop:=
 nPl (planF (okTy P) all tail n listed) fun t=>nSt (S.forget (allocDsts P all)) fun S=>runN P callW all t S K
theorem drawN_eq (P:Program) (callW:CallT) (all:Array Oper) (tail:List Nat) (n:Nat) (listed:Array Bool) (S:St) (K:St->Prop):drawN P callW all tail n listed S K=drawW P callW all tail n listed S K:=by
 unfold drawN drawW
 rw [nPl_eq,nSt_eq,runN_eq]
def codeN (P:Program) (callW:CallT) (inl:Op->Bool) (un:Opt):Code->(Ex->St->Prop)->St->Prop
 | .skip,Q,S=>Q .normal S
 | .region _ ops false,Q,S=>opsN P callW ops ops.toList S (Q .normal)
 | .region _ ops true,Q,S=>bif un.rnd&& !noDefer ops then False else if Region.noSelect ops then drawN P callW ops (tailOf inl ops) ops.size (Array.replicate ops.size false) S (Q .normal) else False
 | .seq x y,Q,S=>codeN P callW inl un x (fun e S'=>match e with | .normal=>(bif cutAt un y&& !un.rnd then nSt S' (CutP P un.om un.base y Q) else codeN P callW inl un y Q S')| .exit id=>Q (.exit id) S'| .ret=>Q .ret S') S
 | .cond c x y,Q,S=>match opd S c with
  | some (.raw (.bool b))=>cond b (bif cutC un x then nSt S (CutP P un.om un.base x Q) else codeN P callW inl un x Q S) (codeN P callW inl un y Q S)
  | _=>False
 | .block id body,Q,S=>codeN P callW inl un body (fun e S'=>match e with | .normal=>Q .normal S'| .exit i=>if i=id then Q .normal S' else Q (.exit i) S'| .ret=>Q .ret S') S
 | .scope body,Q,S=>codeN P callW inl un body Q S
 | .label _,Q,S=>Q .normal S
 | .loop body,Q,S=>bif un.rnd then nSt (S.forget (dropOf un body)) (LoopR P un.om un.base body Q) else iterW (codeN P callW inl un body) (fun Q S=>nSt (S.forget (dropOf un body)) (LoopP P un.om un.base body Q)) un.unroll Q S
 | .exit id,Q,S=>Q (.exit id) S
 | .ret,Q,S=>Q .ret S
 | .rangeFunc g ps assign body,Q,S=>bif un.rnd then False else nSt S (CutP P un.om un.base (.rangeFunc g ps assign body) Q)
 | _,_,_=>False
theorem codeN_eq (P:Program) (callW:CallT) (inl:Op->Bool) (un:Opt):∀ (c:Code),codeN P callW inl un c=codeW P callW inl un c
 | .skip=>rfl
 | .region _ ops false=>by funext Q S;simp only [codeN,codeW,opsN_eq]
 | .region _ ops true=>by funext Q S;simp only [codeN,codeW,drawN_eq]
 | .seq x y=>by funext Q S;simp only [codeN,codeW,codeN_eq P callW inl un x,codeN_eq P callW inl un y,nSt_eq];rfl
 | .cond c x y=>by funext Q S;simp only [codeN,codeW,codeN_eq P callW inl un x,codeN_eq P callW inl un y,nSt_eq];rfl
 | .block id body=>by funext Q S;simp only [codeN,codeW,codeN_eq P callW inl un body];rfl
 | .loop body=>by funext Q S;simp only [codeN,codeW,codeN_eq P callW inl un body,nSt_eq]
 | .exit id=>rfl
 | .ret=>rfl
 | .rangeFunc .. =>by funext Q S;simp only [codeN,codeW,nSt_eq]
 | .scope body=>by funext Q S;simp only [codeN,codeW,codeN_eq P callW inl un body]
 | .label .. =>rfl
 | .refuse .. =>rfl
 | .goto _=>rfl
def contN (P:Program) (callW:CallT) (inl:Op->Bool) (un:Opt):Code->List Nat->(Ex->St->Prop)->(Ex->St->Prop)
 | _,[],Q=>Q
 | .seq x y,0::p,Q=>contN P callW inl un x p (fun e S'=>match e with | .normal=>(bif cutAt un y&& !un.rnd then nSt S' (CutP P un.om un.base y Q) else codeN P callW inl un y Q S')| .exit id=>Q (.exit id) S'| .ret=>Q .ret S')
 | .seq _ y,_::p,Q=>contN P callW inl un y p Q
 | .cond _ x _,0::p,Q=>contN P callW inl un x p Q
 | .cond _ _ y,_::p,Q=>contN P callW inl un y p Q
 | .block id x,_::p,Q=>contN P callW inl un x p (fun e S'=>match e with | .normal=>Q .normal S'| .exit i=>if i=id then Q .normal S' else Q (.exit i) S'| .ret=>Q .ret S')
 | .scope x,_::p,Q=>contN P callW inl un x p Q
 | .loop x,_::p,Q=>contN P callW inl un x p (fun e S'=>match e with | .normal=>nSt (S'.forget (dropOf un x)) (LoopP P un.om un.base x Q)| .exit id=>Q (.exit id) S'| .ret=>Q .ret S')
 | _,_,Q=>Q
theorem contN_eq (P:Program) (callW:CallT) (inl:Op->Bool) (un:Opt):∀ (c:Code) (p:List Nat) (Q:Ex->St->Prop),contN P callW inl un c p Q=contQ P callW inl un c p Q
 | c,[],Q=>by cases c<;>rfl
 | .seq x y,0::p,Q=>by simp only [contN,contQ,contN_eq P callW inl un x p,codeN_eq,nSt_eq];rfl
 | .seq _ y,(_+1)::p,Q=>by simp only [contN,contQ,contN_eq P callW inl un y p]
 | .cond _ x _,0::p,Q=>by simp only [contN,contQ,contN_eq P callW inl un x p]
 | .cond _ _ y,(_+1)::p,Q=>by simp only [contN,contQ,contN_eq P callW inl un y p]
 | .block id x,_::p,Q=>by simp only [contN,contQ,contN_eq P callW inl un x p];rfl
 | .loop x,_::p,Q=>by simp only [contN,contQ,contN_eq P callW inl un x p,nSt_eq];rfl
 | .skip,_::_,_=>by simp only [contN,contQ]
 | .region ..,_::_,_=>by simp only [contN,contQ]
 | .rangeFunc ..,_::_,_=>by simp only [contN,contQ]
 | .exit _,_::_,_=>by simp only [contN,contQ]
 | .scope x,_::p,Q=>by simp only [contN,contQ,contN_eq P callW inl un x p]
 | .label _,_::_,_=>by simp only [contN,contQ]
 | .goto _,_::_,_=>by simp only [contN,contQ]
 | .ret,_::_,_=>by simp only [contN,contQ]
 | .refuse _,_::_,_=>by simp only [contN,contQ]
def retN (P:Program) (fn:Func) (S:St) (K:KT):Prop:=
 match S with
 | ⟨fr,bx,E⟩=>match retVars P ⟨fr,bx,E⟩ fn.results.toList with
  | some [s]=>nSV 3 s fun s=>K s bx E
  | some ss=>nList (nSV 3) ss fun ss=>K (.tup ss) bx E
  | none=>False
theorem retN_eq (P:Program) (fn:Func) (S:St) (K:KT):retN P fn S K=retW P fn S K:=by
 cases S
 unfold retN retW
 simp only [nSV_eq,nList_eq (nSV_eq 3)]
 rfl
def bodyN (P:Program) (fn:Func) (K:KT):Ex->St->Prop
 | .normal,S| .ret,S=>retN P fn S K
 | .exit _,_=>False
theorem bodyN_eq (P:Program) (fn:Func) (K:KT):bodyN P fn K=bodyQ P fn K:=by
 funext e S
 cases e<;>simp only [bodyN,bodyQ,retN_eq]
def enterN (P:Program) (callW:CallT) (inl:Op->Bool) (un:Opt) (fn:Func) (args:List SV) (bx:List Box) (E:Mem) (K:KT):Prop:=
 match fn.body with
 | some c=>if (args.length<=fn.ntmps/\(un.om.isNone||fn.results.toList.isEmpty)=true) then nSt { fr:=args.map some++List.replicate (fn.ntmps-args.length) none,bx:=bx,E:=E } (codeN P callW inl { un with base:=bx.length,rnd:=false } c (bodyN P fn K)) else False
 | none=>False
theorem enterN_eq (P:Program) (callW:CallT) (inl:Op->Bool) (un:Opt) (fn:Func) (args:List SV) (bx:List Box) (E:Mem) (K:KT):enterN P callW inl un fn args bx E K=enterW P callW inl un fn args bx E K:=by
 unfold enterN enterW
 simp only [nSt_eq,codeN_eq,bodyN_eq]
 rfl
def callN (C:Cx):Nat->CallT
 | 0=>fun f args bx E K=>nList (nSV 3) args fun args=>nBx bx fun bx=>tabF C f args bx E K
 | n+1=>fun f args bx E K=>
  if (C.inl f&&f !=YID)=true then
   match C.P.funcs[f]? with
   | some fn=>enterN C.P (callN C.noY n) C.muts { C.opt with cuts:=[],om:=none,unroll:=C.opt.unroll+C.opt.unrollC } fn args bx E K
   | none=>False
  else nList (nSV 3) args fun args=>nBx bx fun bx=>tabF C f args bx E K
theorem callN_eq (C:Cx):∀ n,callN C n=callF C n
 | 0=>by funext f args bx E K;simp only [callN,callF,nList_eq (nSV_eq 3),nBx_eq]
 | n+1=>by
  funext f args bx E K
  simp only [callN,callF,callN_eq C.noY n,enterN_eq,nList_eq (nSV_eq 3),nBx_eq]
  rfl
end Go.Sx
namespace Go.Sx
open Go.RowKit (Below)
theorem run_val {P:Program} {o:Oper} {a:Act} {s:Sem Value} {w:World} {v:Value}
  (hx:execOp a.eval o=(do pure (Next.value (← s)))) (hr:s.run P w= .ok v w):(execOp a.eval o).run P w= .ok (.value v) w:=by
 rw [hx]
 simp only [Sem.run_bind,hr,Result.andThen_ok,Sem.run_pure]
section
variable {P:Program} {callW:CallT} {S:St} {a:Act} {w0 w1:World} {mu:Fm} {ρ:Env} {K:KT}
def DetK (P:Program) (o:Oper) (S:St) (a:Act) (w0:World) (mu:Fm) (ρ:Env) (K:KT) (G:Prop):Prop:=
 ∀ (s:SV) (v:Value) (E':Mem),s.den ρ=some v->Mem.le S.E E'->(∀ w,Rel w0 mu S.bx S.E ρ w->Rel w0 mu S.bx E' ρ w)->(∀ v cs,E' v cs->cs≠[]->∃ v0 cs0,S.E v0 cs0/\cs0≠[]/\blk v=blk v0)->K s S.bx E'->
  (∀ w,(isLoad o.op=true->Rel w0 mu S.bx S.E ρ w)->(execOp a.eval o).run P w= .ok (.value v) w)->G
theorem pureDet {op:Op} {dst:Option Tmp} {type:TypeId} {pos:String} {after:Array Edge} {guard:Option (Nat×Bool)} {s:Sem Value}
  (hx:execOp a.eval ⟨dst,op,type,pos,after,guard⟩=(do pure (Next.value (← s)))) (h:pureW P s fun r=>K r S.bx S.E) {G:Prop} (hk:DetK P ⟨dst,op,type,pos,after,guard⟩ S a w0 mu ρ K G):G:=by
 obtain ⟨v,h1,h2⟩:=pureW_elim h
 exact hk _ v S.E rfl (Mem.le_refl _) (fun _ g=>g) (fun v cs g hne=>⟨v,cs,g,hne,rfl⟩) h2 (fun w _=>run_val hx (h1 w))
set_option maxHeartbeats 4000000 in
theorem detW_sound {o:Oper} (hdet:isDet o.op=true) (hR1:Rel w0 mu S.bx S.E ρ w1) (hF:FrRel ρ S.fr a.tmps) (h:opW P callW o.op S K) {G:Prop} (hk:DetK P o S a w0 mu ρ K G):G:=by
 obtain ⟨dst,op,type,pos,after,guard⟩:=o
 have fin:∀ {s:SV} {x:Value},s.den ρ=some x->K s S.bx S.E->(∀ w,(isLoad op=true->Rel w0 mu S.bx S.E ρ w)->(execOp a.eval ⟨dst,op,type,pos,after,guard⟩).run P w= .ok (.value x) w)->G:=
  fun {s x} h1 h2 h3=>hk s x S.E h1 (Mem.le_refl _) (fun _ g=>g) (fun v cs g hne=>⟨v,cs,g,hne,rfl⟩) h2 h3
 cases op with
 | move x=>
  simp only [opW] at h
  split at h
  ·rename_i s hs;exact fin (opd_den hF hs) h (fun w _=>rfl)
  ·exact h.elim
 | assign x=>
  simp only [opW] at h
  split at h
  ·rename_i s hs;exact fin (opd_den hF hs) h (fun w _=>rfl)
  ·exact h.elim
 | pick c x y=>
  simp only [opW] at h
  have hb:∀ {t:Bool},opd S c=some (.raw (.bool t))->a.eval c= .bool t:=fun hc=>by have:=opd_den hF hc;simpa [SV.den] using this.symm
  split at h
  ·rename_i t b1 b2 hc h1 h2
   have e1:a.eval x= .bool b1:=by have:=opd_den hF h1;simpa [SV.den] using this.symm
   have e2:a.eval y= .bool b2:=by have:=opd_den hF h2;simpa [SV.den] using this.symm
   have :∀ w,(execOp a.eval ⟨dst,.pick c x y,type,pos,after,guard⟩).run P w= .ok (.value (.bool (cond t b1 b2))) w:=by
    intro w
    cases t<;>simp [execOp,hb hc,asBool,e1,e2]
   exact fin (s:=.raw (.bool (cond t b1 b2))) rfl h (fun w _=>this w)
  ·rename_i t s1 s2 _ hc h1 h2
   cases t with
   | true=>
    have :∀ w,(execOp a.eval ⟨dst,.pick c x y,type,pos,after,guard⟩).run P w= .ok (.value (a.eval x)) w:=by intro w;simp [execOp,hb hc,asBool]
    exact fin (opd_den hF h1) h (fun w _=>this w)
   | false=>
    have :∀ w,(execOp a.eval ⟨dst,.pick c x y,type,pos,after,guard⟩).run P w= .ok (.value (a.eval y)) w:=by intro w;simp [execOp,hb hc,asBool]
    exact fin (opd_den hF h2) h (fun w _=>this w)
  ·rename_i s1 hc h1 h2
   have :∀ w,(execOp a.eval ⟨dst,.pick c x y,type,pos,after,guard⟩).run P w= .ok (.value (a.eval x)) w:=by intro w;simp [execOp,hb hc,asBool]
   exact fin (opd_den hF h1) h (fun w _=>this w)
  ·rename_i s1 hc h1 h2
   have :∀ w,(execOp a.eval ⟨dst,.pick c x y,type,pos,after,guard⟩).run P w= .ok (.value (a.eval y)) w:=by intro w;simp [execOp,hb hc,asBool]
   exact fin (opd_den hF h2) h (fun w _=>this w)
  ·exact h.elim
 | build T ps=>
  simp only [opW] at h
  have hp:∀ {ss},parts S ps.toList=some ss->PartsDen ρ ss (ps.map fun (i,x)=>(i,a.eval x)).toList:=fun hs=>by
   simpa using parts_den hF hs
  split at h
  ·rename_i i fs ss hi hu hs
   split at h
   case h_2=>exact h.elim
   rename_i z places hz hpl
   split at h
   case h_2=>exact h.elim
   rename_i zs hzs
   split at h
   case h_2=>exact h.elim
   rename_i cs hcs
   obtain ⟨hz1,rfl⟩:=asCells_raw hzs
   obtain ⟨ws,h1,h2⟩:=fill_den (hp hs) (denL_raw (ρ:=ρ) z.cells.toList) hcs
   refine fin (s:=.agg cs) (by simp only [SV.den,h1,Option.map_some]) h (fun w _=>run_val (s:=Instr.build T (ps.map fun (i,x)=>(i,a.eval x))) rfl (run_build w T _ ws.toArray ?_))
   simp only [Program.built,hi,hu,hz,hpl]
   simpa using h2
  ·rename_i i n e ss hi hu hs
   split at h
   case h_2=>exact h.elim
   rename_i z ie hz hie
   split at h
   case h_2=>exact h.elim
   rename_i zs hzs
   split at h
   case h_2=>exact h.elim
   rename_i cs hcs
   obtain ⟨hz1,rfl⟩:=asCells_raw hzs
   obtain ⟨ws,h1,h2⟩:=fill_den (hp hs) (denL_raw (ρ:=ρ) z.cells.toList) hcs
   refine fin (s:=.agg cs) (by simp only [SV.den,h1,Option.map_some]) h (fun w _=>run_val (s:=Instr.build T (ps.map fun (i,x)=>(i,a.eval x))) rfl (run_build w T _ ws.toArray ?_))
   simp only [Program.built,hi,hu,hz,hie]
   simpa using h2
  ·exact h.elim
 | load T x=>
  simp only [opW] at h
  split at h
  ·rename_i b off hs
   split at h
   case h_2=>exact h.elim
   rename_i y hy
   have hl:locDen ρ b off=some (a.eval x):=by simpa [SV.den] using opd_den hF hs
   have go:∀ r,loadW P T y.cells off=some r->K r S.bx S.E->G:=by
    intro r hr h
    obtain ⟨v,h1,h2⟩:=load_sound (P:=P) hR1 hy hr hl
    refine fin h1 h (fun w hR=>?_)
    obtain ⟨v',g1,g2⟩:=load_sound (P:=P) (hR rfl) hy hr hl
    rw [h1] at g1;cases g1
    exact run_val (s:=Instr.loadAt T (a.eval x)) rfl g2
   split at h
   ·rename_i cells hc
    split at h
    case h_2=>exact h.elim
    rename_i r hr
    exact go r (by simpa [Box.cells,hc,Row.cells] using hr) h
   ·rename_i us hc
    obtain ⟨r,hl,h⟩:=loadRel_elim h
    exact go r (by simpa [Box.cells,hc,Row.cells,LoadV] using hl) h
  ·rename_i v off hs
   obtain ⟨r,hl,h⟩:=loadRel_elim h
   have hl':rpDen v off=some (a.eval x):=by simpa [SV.den] using opd_den hF hs
   obtain ⟨v,h1,h2⟩:=loadE_sound (P:=P) hR1 hl hl'
   refine fin h1 h (fun w hR=>?_)
   obtain ⟨v',g1,g2⟩:=loadE_sound (P:=P) (hR rfl) hl hl'
   rw [h1] at g1;cases g1
   exact run_val (s:=Instr.loadAt T (a.eval x)) rfl g2
  ·exact h.elim
 | nilCheck x=>
  simp only [opW] at h
  split at h
  ·rename_i b off hs
   have hd:=opd_den hF hs
   simp only [SV.den] at hd
   obtain ⟨c,hc,e,hq⟩:=locDen_some hd
   have :∀ w,(execOp a.eval ⟨dst,.nilCheck x,type,pos,after,guard⟩).run P w= .ok (.value (a.eval x)) w:=by
    intro w
    simp [execOp,e]
   exact fin (opd_den hF hs) h (fun w _=>this w)
  ·rename_i v off hs
   have hd:=opd_den hF hs
   simp only [SV.den] at hd
   obtain ⟨c,_,_,_,e,_⟩:=rpDen_some hd
   have :∀ w,(execOp a.eval ⟨dst,.nilCheck x,type,pos,after,guard⟩).run P w= .ok (.value (a.eval x)) w:=by
    intro w
    simp [execOp,e]
   exact fin (opd_den hF hs) h (fun w _=>this w)
  ·rename_i f m l hs
   have hd:=opd_den hF hs
   have e:∃ us vs,a.eval x= .func (.func f) us vs:=by
    simp only [SV.den] at hd
    split at hd
    ·simp only [Option.some.injEq] at hd;exact ⟨_,_,hd.symm⟩
    ·cases hd
   obtain ⟨us,vs,e⟩:=e
   have :∀ w,(execOp a.eval ⟨dst,.nilCheck x,type,pos,after,guard⟩).run P w= .ok (.value (a.eval x)) w:=by
    intro w
    simp [execOp,e]
   exact fin (opd_den hF hs) h (fun w _=>this w)
  ·rename_i t v hs
   have hd:=opd_den hF hs
   simp only [SV.den,Option.map_eq_some_iff] at hd
   obtain ⟨vs,_,e⟩:=hd
   have :∀ w,(execOp a.eval ⟨dst,.nilCheck x,type,pos,after,guard⟩).run P w= .ok (.value (a.eval x)) w:=by
    intro w
    simp [execOp,← e]
   exact fin (opd_den hF hs) h (fun w _=>this w)
  ·rename_i n T v hs
   split at h
   case h_2=>exact h.elim
   rename_i g pt hm hu
   have hd:=opd_den hF hs
   obtain ⟨u,e⟩:=mth_den hd
   have :∀ w,(execOp a.eval ⟨dst,.nilCheck x,type,pos,after,guard⟩).run P w= .ok (.value (a.eval x)) w:=by
    intro w
    have:=run_nilAhead hm hu u (P.types.size+Made.depth) (by unfold Made.depth;omega) w
    simp [execOp,e,this]
   exact fin (opd_den hF hs) h (fun w _=>this w)
  ·exact h.elim
 | binOp op T x y yt=>
  simp only [opW] at h
  split at h
  case h_2=>exact h.elim
  rename_i s t hs ht
  have es:=opd_den hF hs
  have et:=opd_den hF ht
  have hx:execOp a.eval ⟨dst,.binOp op T x y yt,type,pos,after,guard⟩=(do pure (Next.value (← (do eqGuard op T x y (a.eval x) (a.eval y);binOp op T (a.eval x) (a.eval y))))):=rfl
  have hnil:∀ {r},isNilCmp s t=some r->∀ {e},P.underlying T=some (.pointer e)->r=false/\∀ w,(eqGuard op T x y (a.eval x) (a.eval y)).run P w= .ok () w/\(Op.equal T (a.eval x) (a.eval y)).run P w= .ok false w:=by
   intro r hr e he
   obtain ⟨h1,h2⟩:=nilCmp hr es et
   refine ⟨h1,fun w=>?_⟩
   rcases h2 with ⟨b,e1,e2⟩|⟨b,e1,e2⟩<;>rw [e1,e2]
   ·exact ⟨by cases op<;>rfl,(equalIn_ptr he 9999 b w).1⟩
   ·exact ⟨by cases op<;>rfl,(equalIn_ptr he 9999 b w).2⟩
  split at h
  ·rename_i r e hr he
   obtain ⟨rfl,hw⟩:=hnil hr he
   refine fin (s:=.raw (.bool false)) rfl h (fun w hR=>run_val hx ?_)
   have hb:binOp .eql T (a.eval x) (a.eval y)=(do pure (.bool (← Op.equal T (a.eval x) (a.eval y)))):=by
    obtain ⟨_,h2⟩:=nilCmp hr es et
    rcases h2 with ⟨b,e1,e2⟩|⟨b,e1,e2⟩<;>rw [e1,e2]<;>rfl
   simp only [Sem.run_bind,(hw w).1,Result.andThen_ok,hb,(hw w).2,Sem.run_pure]
  ·rename_i r e hr he
   obtain ⟨rfl,hw⟩:=hnil hr he
   refine fin (s:=.raw (.bool true)) rfl h (fun w hR=>run_val hx ?_)
   have hb:binOp .neq T (a.eval x) (a.eval y)=(do pure (.bool (!(← Op.equal T (a.eval x) (a.eval y))))):=by
    obtain ⟨_,h2⟩:=nilCmp hr es et
    rcases h2 with ⟨b,e1,e2⟩|⟨b,e1,e2⟩<;>rw [e1,e2]<;>rfl
   simp only [Sem.run_bind,(hw w).1,Result.andThen_ok,hb,(hw w).2,Sem.run_pure,Bool.not_false]
  ·rename_i e hr he
   obtain ⟨r,h,g1,_,g2,_⟩:=nilSlcW_sound (P:=P) (ρ:=ρ) he h es et
   refine fin (s:=.raw (.bool r)) rfl h (fun w hR=>run_val hx ?_)
   simp only [Sem.run_bind,g1,Result.andThen_ok,g2]
  ·rename_i e hr he
   obtain ⟨r,h,_,g1,_,g2⟩:=nilSlcW_sound (P:=P) (ρ:=ρ) he h es et
   refine fin (s:=.raw (.bool !r)) rfl h (fun w hR=>run_val hx ?_)
   simp only [Sem.run_bind,g1,Result.andThen_ok,g2]
  ·rename_i e hr he
   split at h
   case isFalse=>exact h.elim
   rename_i hg
   split at h
   case h_2=>exact h.elim
   rename_i r hr
   obtain ⟨g1,_,g2,_⟩:=eqStruct_sound (P:=P) (ρ:=ρ) he hg hr es et
   refine fin (s:=.raw (.bool r)) rfl h (fun w hR=>run_val hx ?_)
   simp only [Sem.run_bind,g1,Result.andThen_ok,g2]
  ·rename_i e hr he
   split at h
   case isFalse=>exact h.elim
   rename_i hg
   split at h
   case h_2=>exact h.elim
   rename_i r hr
   obtain ⟨_,g1,_,g2⟩:=eqStruct_sound (P:=P) (ρ:=ρ) he hg hr es et
   refine fin (s:=.raw (.bool !r)) rfl h (fun w hR=>run_val hx ?_)
   simp only [Sem.run_bind,g1,Result.andThen_ok,g2]
  ·split at h
   case h_2=>exact h.elim
   rename_i v u hv hu
   have e1:=SV.den_of_val ρ s hv
   have e2:=SV.den_of_val ρ t hu
   rw [es] at e1;rw [et] at e2
   cases e1;cases e2
   obtain ⟨_,rfl,h⟩:=binW_pure h
   exact pureDet hx h hk
 | unOp op T x=>
  simp only [opW] at h
  split at h
  case h_2=>exact h.elim
  rename_i v hs
  have es:=opd_den hF hs
  simp only [SV.den,Option.some.injEq] at es;subst es
  exact pureDet rfl h hk
 | convert src d x=>
  simp only [opW] at h
  split at h
  case h_2=>exact h.elim
  rename_i s hs
  split at h
  case h_2=>
   have hne:src≠d:=by simpa [isDet] using hdet
   unfold cnvW at h
   split at h
   case h_2=>exact h.elim
   split at h
   case h_2=>exact h.elim
   split at h
   case h_2=>exact h.elim
   rw [if_neg hne] at h
   exact h.elim
  rename_i v hv
  have es:=opd_den hF hs
  rw [SV.den_of_val ρ s hv] at es;cases es
  exact pureDet rfl h hk
 | makeInterface T x=>
  simp only [opW] at h
  split at h
  ·exact h.elim
  ·rename_i s d hne hs hu
   have es:=opd_den hF hs
   refine fin (s:=.ifc T s) (x:=.iface T (a.eval x)) (by simp only [SV.den,es,Option.map_some]) h (fun w hR=>run_val (s:=Instr.makeInterface T (a.eval x)) rfl ?_)
   unfold Instr.makeInterface
   simp only [Sem.run_bind,run_underlying hu,Result.andThen_ok]
   cases d<;>first|rfl|exact (hne _ rfl).elim
  ·exact h.elim
 | makeFunc fn first caps=>
  cases fn with
  | func f=>
   simp only [opW] at h
   split at h
   ·rename_i m l hm hl
    have el:=opds_den hF hl
    have em:=opds_den hF hm
    refine fin (s:=.clo f m l) (x:=.func (.func f) (first.map a.eval) (caps.map a.eval)) ?_ h (fun w _=>run_val (s:=Instr.makeFunc (.func f) (first.map a.eval) (caps.map a.eval)) rfl (by simp [Instr.makeFunc]))
    simp only [SV.den,el,em]
    congr 2<;>(apply Array.ext';simp)
   ·exact h.elim
  | method n=>
   simp only [opW] at h
   split at h
   case h_2=>exact h.elim
   rename_i T v hm hl
   have em:=opds_den hF hm
   exact fin (s:=.mth n (.ifc T v)) (x:=.func (.method n) (first.map a.eval) (caps.map a.eval)) (mth_of em hl) h (fun w _=>run_val (s:=Instr.makeFunc (.method n) (first.map a.eval) (caps.map a.eval)) rfl (by simp [Instr.makeFunc]))
  | _=>exact h.elim
 | slice T x lo hi mx=>
  simp only [opW] at h
  have hx:execOp a.eval ⟨dst,.slice T x lo hi mx,type,pos,after,guard⟩=(do pure (Next.value (← Instr.sliceAt T (a.eval x) (lo.map a.eval) (hi.map a.eval) (mx.map a.eval)))):=rfl
  split at h
  ·rename_i b off l hh m n e hs h1 h2 h3 hu
   split at h
   case h_2=>exact h.elim
   rename_i z hz
   simp only [sizeW,Option.map_eq_some_iff] at hz
   obtain ⟨i,hi',rfl⟩:=hz
   have es:=opd_den hF hs
   simp only [SV.den] at es
   obtain ⟨c,hc,e1,hq⟩:=locDen_some es
   have hr:=fun w=>(run_sliceBounds (P:=P) hF h1 h2 h3 h false w).1
   have hK:=(run_sliceBounds (P:=P) hF h1 h2 h3 h false w1).2
   refine fin (x:=.slice (some (c.add (if toN m n=toN l 0 then off else off+toN l 0*i.size))) (toN hh n-toN l 0) (toN m n-toN l 0)) ?_ hK (fun w hR=>run_val hx ?_)
   rotate_left
   ·unfold Instr.sliceAt
    simp only [Sem.run_bind,run_underlying hu,Result.andThen_ok,e1,Instr.sureAddr,Sem.run_pure,hr,run_sizeOf' hi']
    congr 3
    split
    ·rfl
    ·rw [add_add hq]
   ·simp only [SV.den,slcDen,hc,if_pos hq]
  ·rename_i b off len cap l hh m e hs h1 h2 h3 hu
   split at h
   case h_2=>exact h.elim
   rename_i z hz
   simp only [sizeW,Option.map_eq_some_iff] at hz
   obtain ⟨i,hi',rfl⟩:=hz
   have es:=opd_den hF hs
   simp only [SV.den] at es
   have hr:=fun w=>(run_sliceBounds (P:=P) hF h1 h2 h3 h true w).1
   have hK:=(run_sliceBounds (P:=P) hF h1 h2 h3 h true w1).2
   rcases slcDen_some es with ⟨c,hc,e1,hq⟩|⟨hc,rfl,rfl,rfl,e1⟩
   ·refine fin (x:=.slice (some (c.add (if toN m cap=toN l 0 then off else off+toN l 0*i.size))) (toN hh len-toN l 0) (toN m cap-toN l 0)) ?_ hK (fun w hR=>run_val hx ?_)
    rotate_left
    ·unfold Instr.sliceAt Instr.slice
     simp only [Sem.run_bind,run_underlying hu,Result.andThen_ok,e1,hr,run_sizeOf' hi',Sem.run_pure]
     congr 2
     split
     ·rfl
     ·simp only [Option.map_some];rw [add_add hq]
    ·simp only [SV.den,slcDen,hc,if_pos hq]
   ·obtain ⟨_,g1,g2,g3,_⟩:=sliceNums_elim h
    have z3:toN m 0=0:=by
     cases m with
     | none=>rfl
     | some j=>have:=g1 j rfl;simp only [toN];omega
    have z2:toN hh 0=0:=by
     cases hh with
     | none=>rfl
     | some j=>have:=g2 j rfl;rw [z3] at this;simp only [toN];omega
    have z1:toN l 0=0:=by
     cases l with
     | none=>rfl
     | some j=>have:=g3 j rfl;rw [z2] at this;simp only [toN];omega
    rw [z1,z2,z3] at hK
    simp only [z1,z2,z3] at hr
    refine fin (x:=.slice none 0 0) ?_ hK (fun w hR=>run_val hx ?_)
    rotate_left
    ·unfold Instr.sliceAt Instr.slice
     simp only [Sem.run_bind,run_underlying hu,Result.andThen_ok,e1,hr,run_sizeOf' hi',Sem.run_pure]
     rfl
    ·simp only [SV.den,slcDen,hc];rfl
  ·rename_i base len cap l hh m e hs h1 h2 h3 hu
   split at h
   case h_2=>exact h.elim
   rename_i z hz
   simp only [sizeW,Option.map_eq_some_iff] at hz
   obtain ⟨i,hi',rfl⟩:=hz
   have es:=opd_den hF hs
   simp only [SV.den,Option.some.injEq] at es
   obtain ⟨hlc,h⟩:=req_elim h
   have hr:=fun w=>(run_sliceBounds (P:=P) hF h1 h2 h3 h true w).1
   have hK:=(run_sliceBounds (P:=P) hF h1 h2 h3 h true w1).2
   let v':Value:=.slice (if toN m cap=toN l 0 then base else base.map (·.add (toN l 0*i.size))) (toN hh len-toN l 0) (toN m cap-toN l 0)
   let E':Mem:=fun v cs=>S.E v cs\/∃ cs0,S.E (.slice base len cap) cs0/\v=v'/\cs=(cs0.drop (toN l 0*i.size)).take ((toN hh len-toN l 0)*i.size)
   have hE:=hK (if toN m cap=toN l 0 then base else base.map (·.add (toN l 0*i.size))) E' (fun _ _ g=>.inl g) (fun cs g=>.inr ⟨cs,g,rfl,rfl⟩)
   obtain ⟨_,g1,g2,g3,_⟩:=sliceNums_elim h
   have hle:toN m cap=toN l 0->toN hh len-toN l 0=0:=by
    intro e0
    have a1:toN hh len<=toN m cap\/hh=none:=by
     cases hh with
     | none=>exact .inr rfl
     | some j=>have:=g2 j rfl;left;simp only [toN] at *;omega
    rcases a1 with a1|rfl
    ·omega
    ·cases m with
     | none=>simp only [toN] at *;omega
     | some j=>have h0:=(sliceNums_elim h).1 rfl;cases h0
   have hrow:∀ w,Rel w0 mu S.bx S.E ρ w->∀ cs0,S.E (.slice base len cap) cs0->RowAt w v' ((cs0.drop (toN l 0*i.size)).take ((toN hh len-toN l 0)*i.size)):=by
    intro w hR cs0 g
    by_cases e0:toN m cap=toN l 0
    ·left;rw [hle e0];simp
    ·rcases hR.hold _ _ g with rfl|⟨c,len',cap',e2,hsp,hcell⟩
     ·left;simp
     ·cases e2
      right
      refine ⟨c.add (toN l 0*i.size),toN hh len-toN l 0,toN m cap-toN l 0,by simp only [v',if_neg e0,Option.map_some],by rw [add_eq hsp],fun j x hj=>?_⟩
      rw [add_eq hsp]
      simp only
      have hj':j<(toN hh len-toN l 0)*i.size:=by
       rcases Nat.lt_or_ge j ((toN hh len-toN l 0)*i.size) with q|q
       ·exact q
       ·rw [List.getElem?_eq_none (by simp;omega)] at hj;cases hj
      rw [List.getElem?_take_of_lt hj',List.getElem?_drop] at hj
      rw [Nat.add_assoc]
      exact hcell _ _ hj
   have hR':∀ w,Rel w0 mu S.bx S.E ρ w->Rel w0 mu S.bx E' ρ w:=fun w hR=>hR.addE (fun v cs g=>by
     rcases g with g|⟨cs0,g,rfl,rfl⟩
     ·exact hR.hold v cs g
     ·exact hrow w hR cs0 g) (fun v cs g hne=>by
     rcases g with g|⟨cs0,g,rfl,rfl⟩
     ·exact .inl g
     ·right
      intro j b c b1 b2 b3
      have hne0:cs0≠[]:=by rintro rfl;simp at hne
      have:=(hR.sep j b c b1 b2 b3).2.2 _ _ g hne0
      have e0:¬ toN m cap=toN l 0:=by intro e0;rw [hle e0] at hne;simp at hne
      rcases hR.hold _ _ g with rfl|⟨c',len',cap',e2,hsp,_⟩
      ·exact absurd rfl hne0
      ·cases e2
       simp only [v',if_neg e0,Option.map_some,blk] at this ⊢
       rw [add_eq hsp];exact this) (fun v cs g hne=>by
     rcases g with g|⟨cs0,g,rfl,rfl⟩
     ·exact hR.src _ _ g hne
     ·have hne0:cs0≠[]:=by rintro rfl;simp at hne
      have e0:¬ toN m cap=toN l 0:=by intro e0;rw [hle e0] at hne;simp at hne
      have:=hR.src _ _ g hne0
      rcases hR.hold _ _ g with rfl|⟨c',len',cap',e2,hsp,_⟩
      ·exact absurd rfl hne0
      ·cases e2
       simp only [v',if_neg e0,Option.map_some,blk] at this ⊢
       rw [add_eq hsp];exact this)
   have hsub:∀ v cs,E' v cs->cs≠[]->∃ v0 cs0,S.E v0 cs0/\cs0≠[]/\blk v=blk v0:=fun v cs g hne=>by
    rcases g with g|⟨cs0,g,rfl,rfl⟩
    ·exact ⟨v,cs,g,hne,rfl⟩
    ·have hne0:cs0≠[]:=by rintro rfl;simp at hne
     have e0:¬ toN m cap=toN l 0:=by intro e0;rw [hle e0] at hne;simp at hne
     refine ⟨_,cs0,g,hne0,?_⟩
     rcases hR1.hold _ _ g with rfl|⟨c',len',cap',e2,hsp,_⟩
     ·exact absurd rfl hne0
     ·cases e2
      simp only [v',if_neg e0,Option.map_some,blk]
      rw [add_eq hsp]
   refine hk (.raw v') v' E' rfl (fun _ _ g=>.inl g) hR' hsub (hE (by split<;>simp)) (fun w hR=>run_val hx ?_)
   unfold Instr.sliceAt Instr.slice
   simp only [Sem.run_bind,run_underlying hu,Result.andThen_ok,← es,hr,run_sizeOf' hi',Sem.run_pure]
   rfl
  ·exact h.elim
 | fieldAddr T x f=>
  simp only [opW] at h
  split at h
  case h_2=>exact h.elim
  rename_i fs hu
  split at h
  case h_2=>exact h.elim
  rename_i fld hf
  have key:∀ {n off:Nat} {c:Addr},sizeW P fld.type=some n->n≠0->c.spot=none->a.eval x= .pointer (some (c.add off))->
    ∀ w,(Instr.fieldAt T (a.eval x) f).run P w= .ok (.pointer (some (c.add (off+fld.offset)))) w:=by
   intro n off c hn h0 hc e1 w
   simp only [sizeW,Option.map_eq_some_iff] at hn
   obtain ⟨i,hi',rfl⟩:=hn
   unfold Instr.fieldAt
   simp only [Sem.run_bind,run_underlying hu,Result.andThen_ok,hf,e1,Instr.sureAddr,Sem.run_pure]
   unfold fieldPlace
   simp only [Sem.run_bind,run_sizeOf' hi',Result.andThen_ok,if_neg h0,Sem.run_pure,add_add hc]
  split at h
  ·rename_i n b off hn hs
   split at h
   case isTrue=>exact h.elim
   rename_i h0
   have es:=opd_den hF hs
   simp only [SV.den] at es
   obtain ⟨c,hc,e1,hq⟩:=locDen_some es
   exact fin (by simp only [SV.den,locDen,hc,if_pos hq]) h (fun w hR=>run_val (s:=Instr.fieldAt T (a.eval x) f) rfl (key hn h0 hq e1 w))
  ·rename_i n v off hn hs
   split at h
   case isTrue=>exact h.elim
   rename_i h0
   have es:=opd_den hF hs
   simp only [SV.den] at es
   obtain ⟨c,len,cap,rfl,e1,hsp⟩:=rpDen_some es
   exact fin (by simp only [SV.den,rpDen,hsp,if_true]) h (fun w hR=>run_val (s:=Instr.fieldAt T (a.eval x) f) rfl (key hn h0 hsp e1 w))
  ·exact h.elim
 | field T x f=>
  simp only [opW] at h
  split at h
  case h_2=>exact h.elim
  rename_i fs hu
  split at h
  case h_2=>exact h.elim
  rename_i fld s hf hs
  split at h
  case h_2=>exact h.elim
  rename_i cs hcs
  split at h
  case h_2=>exact h.elim
  rename_i r hr
  obtain ⟨vs,e1,e2⟩:=asCells_den hcs (opd_den hF hs)
  obtain ⟨v,e3,e4⟩:=run_part (P:=P) (w:=w1) hr e2
  refine fin e3 h (fun w hR=>run_val (s:=Instr.field T (a.eval x) f) rfl ?_)
  obtain ⟨v',g3,g4⟩:=run_part (P:=P) (w:=w) hr e2
  rw [e3] at g3;cases g3
  unfold Instr.field
  simp only [Sem.run_bind,run_underlying hu,Result.andThen_ok,hf,e1,asAgg,Sem.run_pure,g4]
 | extract x i=>
  simp only [opW] at h
  split at h
  ·rename_i l hs
   split at h
   case h_2=>exact h.elim
   rename_i s hl
   have es:=opd_den hF hs
   simp only [SV.den,Option.map_eq_some_iff] at es
   obtain ⟨vs,e1,e2⟩:=es
   obtain ⟨v,e3,e4⟩:=denL_get e1 hl
   refine fin e4 h (fun w hR=>run_val (s:=Instr.extract (a.eval x) i) rfl ?_)
   rw [← e2]
   simp [Instr.extract,e3]
  ·rename_i vs hs
   split at h
   case h_2=>exact h.elim
   rename_i v hl
   have es:=opd_den hF hs
   simp only [SV.den,Option.some.injEq] at es
   refine fin rfl h (fun w hR=>run_val (s:=Instr.extract (a.eval x) i) rfl ?_)
   rw [← es]
   have :vs[i]? =some v:=by simpa using hl
   simp [Instr.extract,this]
  ·exact h.elim
 | typeAssert x T U ok=>
  simp only [opW] at h
  split at h
  case h_2=>exact h.elim
  rename_i s hs
  split at h
  case h_2=>exact h.elim
  rename_i v hv
  have es:=opd_den hF hs
  rw [SV.den_of_val ρ s hv] at es;cases es
  exact pureDet rfl h hk
 | indexAddr T x i=>
  simp only [opW] at h
  have hx:execOp a.eval ⟨dst,.indexAddr T x i,type,pos,after,guard⟩=(do pure (Next.value (← Instr.indexAt T (a.eval x) (a.eval i)))):=rfl
  split at h
  ·rename_i b off k n len e hs hi hu
   split at h
   case h_2=>exact h.elim
   rename_i z hz
   obtain ⟨hn,h⟩:=req_elim h
   simp only [sizeW,Option.map_eq_some_iff] at hz
   obtain ⟨inf,hi',rfl⟩:=hz
   have es:=opd_den hF hs
   have ei:=opd_den hF hi
   simp only [SV.den,Option.some.injEq] at es ei
   obtain ⟨c,hc,e1,hq⟩:=locDen_some es
   refine fin (x:=.pointer (some (c.add (off+n.toNat*inf.size)))) (by simp only [SV.den,locDen,hc,if_pos hq]) h (fun w hR=>run_val hx ?_)
   unfold Instr.indexAt
   simp only [← ei,asIntOf,Sem.run_bind,Sem.run_pure,Result.andThen_ok,run_underlying hu,e1,Instr.sureAddr]
   simp only [if_pos hn,Sem.run_bind,run_sizeOf' hi',Result.andThen_ok,Sem.run_pure,add_add hq]
  ·rename_i v off k n len e hs hi hu
   split at h
   case h_2=>exact h.elim
   rename_i z hz
   obtain ⟨hn,h⟩:=req_elim h
   simp only [sizeW,Option.map_eq_some_iff] at hz
   obtain ⟨inf,hi',rfl⟩:=hz
   have es:=opd_den hF hs
   have ei:=opd_den hF hi
   simp only [SV.den,Option.some.injEq] at es ei
   obtain ⟨c,l',cap',rfl,e1,hsp⟩:=rpDen_some es
   refine fin (x:=.pointer (some (c.add (off+n.toNat*inf.size)))) (by simp only [SV.den,rpDen,hsp,if_true]) h (fun w hR=>run_val hx ?_)
   unfold Instr.indexAt
   simp only [← ei,asIntOf,Sem.run_bind,Sem.run_pure,Result.andThen_ok,run_underlying hu,e1,Instr.sureAddr]
   simp only [if_pos hn,Sem.run_bind,run_sizeOf' hi',Result.andThen_ok,Sem.run_pure,add_add hsp]
  ·rename_i b off len cap k n e hs hi hu
   split at h
   case h_2=>exact h.elim
   rename_i z hz
   obtain ⟨hn,h⟩:=req_elim h
   simp only [sizeW,Option.map_eq_some_iff] at hz
   obtain ⟨inf,hi',rfl⟩:=hz
   have es:=opd_den hF hs
   have ei:=opd_den hF hi
   simp only [SV.den,Option.some.injEq] at es ei
   rcases slcDen_some es with ⟨c,hc,e1,hq⟩|⟨hc,rfl,rfl,rfl,e1⟩
   ·refine fin (x:=.pointer (some (c.add (off+n.toNat*inf.size)))) (by simp only [SV.den,locDen,hc,if_pos hq]) h (fun w hR=>run_val hx ?_)
    unfold Instr.indexAt
    simp only [← ei,asIntOf,Sem.run_bind,Sem.run_pure,Result.andThen_ok,run_underlying hu,e1]
    simp only [if_pos hn,Sem.run_bind,run_sizeOf' hi',Result.andThen_ok,Sem.run_pure,add_add hq]
   ·omega
  ·rename_i base len cap k n e hs hi hu
   split at h
   case h_2=>exact h.elim
   rename_i z hz
   obtain ⟨hn,⟨cs,hE,hne⟩,h⟩:=req_elim h
   simp only [sizeW,Option.map_eq_some_iff] at hz
   obtain ⟨inf,hi',rfl⟩:=hz
   have es:=opd_den hF hs
   have ei:=opd_den hF hi
   simp only [SV.den,Option.some.injEq] at es ei
   rcases hR1.hold _ _ hE with rfl|⟨c,l',cap',e2,hsp,_⟩
   ·exact absurd rfl hne
   ·cases e2
    refine fin (x:=.pointer (some (c.add (n.toNat*inf.size)))) (by simp only [SV.den,rpDen,hsp,if_true]) h (fun w hR=>run_val hx ?_)
    unfold Instr.indexAt
    simp only [← ei,asIntOf,Sem.run_bind,Sem.run_pure,Result.andThen_ok,run_underlying hu,← es]
    simp only [if_pos hn,Sem.run_bind,run_sizeOf' hi',Result.andThen_ok,Sem.run_pure]
  ·exact h.elim
 | index T x i=>
  simp only [opW] at h
  have hx:execOp a.eval ⟨dst,.index T x i,type,pos,after,guard⟩=(do pure (Next.value (← Instr.index T (a.eval x) (a.eval i)))):=rfl
  split at h
  ·rename_i s k n len e hs hi hu
   split at h
   case h_2=>exact h.elim
   rename_i cs z hcs hz
   obtain ⟨hn,h2⟩:=req_elim h
   clear h
   split at h2
   case h_2=>exact h2.elim
   rename_i r hr
   simp only [sizeW,Option.map_eq_some_iff] at hz
   obtain ⟨inf,hi',rfl⟩:=hz
   have ei:=opd_den hF hi
   simp only [SV.den,Option.some.injEq] at ei
   obtain ⟨vs,e1,e2⟩:=asCells_den hcs (opd_den hF hs)
   obtain ⟨v,e3,e4⟩:=run_part (P:=P) (w:=w1) hr e2
   refine fin e3 h2 (fun w hR=>run_val hx ?_)
   obtain ⟨v',g3,g4⟩:=run_part (P:=P) (w:=w) hr e2
   rw [e3] at g3;cases g3
   unfold Instr.index
   simp only [← ei,asIntOf,Sem.run_bind,Sem.run_pure,Result.andThen_ok,run_underlying hu,e1]
   simp only [if_pos hn,Sem.run_bind,run_sizeOf' hi',Result.andThen_ok,g4]
  ·rename_i v j hs hi _
   have es:=opd_den hF hs
   have ei:=opd_den hF hi
   simp only [SV.den,Option.some.injEq] at es ei
   rw [es,ei] at h
   exact pureDet hx h hk
  ·exact h.elim
 | call c=>
  simp only [opW] at h
  split at h
  case h_2=>exact h.elim
  rename_i args hargs
  have ea:=opds_den hF hargs
  have eaA:∀ vs:List Value,SV.denL ρ args=some vs->c.args.map a.eval=vs.toArray:=by
   intro vs hv
   rw [ea] at hv;cases hv
   apply Array.ext';simp
  split at h
  ·rename_i f hf
   obtain ⟨cal,args',types⟩:=c
   simp only at hf;subst hf
   simp [isDet] at hdet
  ·rename_i r name hr
   obtain ⟨cal,args',types⟩:=c
   simp only at hr;subst hr
   simp [isDet] at hdet
  ·rename_i hc
   have hx:execOp a.eval ⟨dst,.call c,type,pos,after,guard⟩=(do pure (Next.value (← Builtin.len_ c.argTypes type (c.args.map a.eval)))):=by
    simp only [execOp,resolve,hc];rfl
   have ht:∀ {d},(c.argTypes[0]?).bind P.underlying=some d->∃ t,c.argTypes[0]? =some t/\P.underlying t=some d:=fun {d} e=>by
    simpa [Option.bind_eq_some_iff] using e
   split at h
   ·rename_i base n cap e hu
    obtain ⟨t,ht1,ht2⟩:=ht hu
    have ev:c.args.map a.eval= #[.slice base n cap]:=eaA _ rfl
    refine fin (x:=.int .i64 n) rfl h (fun w hR=>run_val hx ?_)
    unfold Builtin.len_
    simp [ev,ht1,run_underlying ht2,goInt]
   ·rename_i b off n cap e hu
    obtain ⟨t,ht1,ht2⟩:=ht hu
    refine fin (x:=.int .i64 n) rfl h (fun w hR=>run_val hx ?_)
    have hd:∃ base,c.args.map a.eval= #[.slice base n cap]:=by
     have ea2:=ea
     simp only [SV.denL,SV.den] at ea2
     cases hsd:slcDen ρ b off n cap with
     | none=>rw [hsd] at ea2;simp at ea2
     | some v=>
      rw [hsd] at ea2
      have:=eaA [v] (by simp only [SV.denL,SV.den,hsd])
      rcases slcDen_some hsd with ⟨c',_,rfl,_⟩|⟨_,rfl,rfl,rfl,rfl⟩
      ·exact ⟨_,this⟩
      ·exact ⟨_,this⟩
    obtain ⟨base,ev⟩:=hd
    unfold Builtin.len_
    simp [ev,ht1,run_underlying ht2,goInt]
   ·rename_i s hu
    obtain ⟨t,ht1,ht2⟩:=ht hu
    have ev:c.args.map a.eval= #[.string s]:=eaA _ rfl
    refine fin (x:=.int .i64 s.size) rfl h (fun w hR=>run_val hx ?_)
    unfold Builtin.len_
    simp [ev,ht1,run_underlying ht2,goInt]
   ·rename_i s0 n e hu
    obtain ⟨t,ht1,ht2⟩:=ht hu
    refine fin (x:=.int .i64 n) rfl h (fun w hR=>run_val hx ?_)
    have hd:∃ x,c.args.map a.eval= #[x]:=by
     have hl:=denL_length ea
     have hsz:(c.args.map a.eval).size=1:=by simpa using hl
     refine ⟨(c.args.map a.eval)[0],?_⟩
     apply Array.ext<;>simp [hsz]
     intro i h1;have :i=0:=by omega
     subst this;simp
    obtain ⟨x,ev⟩:=hd
    unfold Builtin.len_
    simp [ev,ht1,run_underlying ht2,goInt]
   ·rename_i b key elem hu
    obtain ⟨t,ht1,ht2⟩:=ht hu
    split at h
    case h_2=>exact h.elim
    rename_i e cells tot hb
    have ea2:=ea
    simp only [SV.denL,SV.den] at ea2
    cases hsd:mpDen ρ false b with
    | none=>rw [hsd] at ea2;simp at ea2
    | some v=>
     have ev:=eaA [v] (by simp only [SV.denL,SV.den,hsd])
     refine fin (x:=.int .i64 (cells.length / 2:Nat)) rfl h (fun w hR=>run_val hx ?_)
     rw [ev]
     exact mapLen_sound (P:=P) ht2 hb (hR (by obtain ⟨cal,as,ty⟩:=c;simp only at hc;subst hc;rfl)) hsd c.argTypes ht1
   ·exact h.elim
  ·rename_i hc
   have hx:execOp a.eval ⟨dst,.call c,type,pos,after,guard⟩=(do pure (Next.value (← Builtin.cap_ c.argTypes type (c.args.map a.eval)))):=by
    simp only [execOp,resolve,hc];rfl
   have ht:∀ {d},(c.argTypes[0]?).bind P.underlying=some d->∃ t,c.argTypes[0]? =some t/\P.underlying t=some d:=fun {d} e=>by
    simpa [Option.bind_eq_some_iff] using e
   split at h
   ·rename_i base n cap e hu
    obtain ⟨t,ht1,ht2⟩:=ht hu
    have ev:c.args.map a.eval= #[.slice base n cap]:=eaA _ rfl
    refine fin (x:=.int .i64 cap) rfl h (fun w hR=>run_val hx ?_)
    unfold Builtin.cap_
    simp [ev,ht1,run_underlying ht2,goInt]
   ·rename_i b off n cap e hu
    obtain ⟨t,ht1,ht2⟩:=ht hu
    refine fin (x:=.int .i64 cap) rfl h (fun w hR=>run_val hx ?_)
    have hd:∃ base,c.args.map a.eval= #[.slice base n cap]:=by
     have ea2:=ea
     simp only [SV.denL,SV.den] at ea2
     cases hsd:slcDen ρ b off n cap with
     | none=>rw [hsd] at ea2;simp at ea2
     | some v=>
      rw [hsd] at ea2
      have:=eaA [v] (by simp only [SV.denL,SV.den,hsd])
      rcases slcDen_some hsd with ⟨c',_,rfl,_⟩|⟨_,rfl,rfl,rfl,rfl⟩
      ·exact ⟨_,this⟩
      ·exact ⟨_,this⟩
    obtain ⟨base,ev⟩:=hd
    unfold Builtin.cap_
    simp [ev,ht1,run_underlying ht2,goInt]
   ·exact h.elim
  ·rename_i hc
   obtain ⟨cal,args',types⟩:=c
   simp only at hc;subst hc
   simp [isDet] at hdet
  ·rename_i hc
   obtain ⟨cal,args',types⟩:=c
   simp only at hc;subst hc
   simp [isDet] at hdet
  ·rename_i hc
   obtain ⟨cal,args',types⟩:=c
   simp only at hc;subst hc
   simp [isDet] at hdet
  ·rename_i hc
   split at h
   case h_2=>exact h.elim
   rename_i vs hv
   have hx:execOp a.eval ⟨dst,.call c,type,pos,after,guard⟩=(do pure (Next.value (← Builtin.min_ #[] 0 vs.toArray))):=by
    have:=eaA vs (SV.denL_of_val ρ args hv)
    simp only [execOp,resolve,hc,this];rfl
   exact pureDet hx h hk
  ·rename_i hc
   split at h
   case h_2=>exact h.elim
   rename_i vs hv
   have hx:execOp a.eval ⟨dst,.call c,type,pos,after,guard⟩=(do pure (Next.value (← Builtin.max_ #[] 0 vs.toArray))):=by
    have:=eaA vs (SV.denL_of_val ρ args hv)
    simp only [execOp,resolve,hc,this];rfl
   exact pureDet hx h hk
  ·exact h.elim
 | lookup T x ix ok=>
  simp only [opW] at h
  split at h
  case h_2=>exact h.elim
  rename_i s t hs ht
  obtain ⟨v,r,h1,h2,h3⟩:=lookupW_sound h hR1 (opd_den hF hs) (opd_den hF ht)
  exact fin h2 h3 (fun w hR=>run_val (s:=Instr.lookup T (a.eval x) (a.eval ix) ok) rfl (h1 w (hR rfl)))
 | _=>simp [isDet] at hdet
end
end Go.Sx
namespace Go.Sx
open Go.RowKit (Below)
section
variable {P:Program} {ops:Array Oper} {Q:Exit->Act->World->Prop} {T D:Nat->Bool}
theorem YieldsIf.wpOpW {S:World->Prop} {i:Nat} {o:Oper} {v:Value} {a:Act} (hi:ops[i]? =some o) (hy:YieldsIf P ops S o v a)
  {K:Act->World->Prop} {w:World} (hS:S w) (h:K (a.put o.dst v) w):wpOpIn Fence.wide 0 P ops Q i K a w:=by
 unfold wpOpIn
 simp only [hi]
 rcases hy with ⟨hw,hv⟩|⟨hw,rfl⟩
 ·simp only [hw,if_true]
  refine ⟨fun _ _=>trivial,?_⟩
  show o.uponIn Fence.wide 0 P a K Q ((execOp a.eval o).run P w)
  rw [hv w hS];exact h
 ·simp only [hw,Bool.false_eq_true,if_false];exact ⟨fun _ _=>trivial,h⟩
theorem wpOpIn_putIf {S:World->Prop} {j:Nat} {oi oj:Oper} {v:Value} (hj:ops[j]? =some oj) (hap:oi.apart ops oj=true)
  (hsi:∀ cs b,oi.op≠.select cs b) (hsj:∀ cs b,oj.op≠.select cs b)
  (hQ:∀ c a w,Q (.panic c) (a.put oi.dst v) w->Q (.panic c) a w) {K:Act->World->Prop} {a:Act} {w:World}
  (hy:YieldsIf P ops S oi v a) (h:wpOpIn Fence.wide 0 P ops Q j K (a.put oi.dst v) w):
  wpOpIn Fence.wide 0 P ops Q j (fun a' w'=>YieldsIf P ops S oi v a'/\K (a'.put oi.dst v) w') a w:=by
 obtain ⟨h1,h2,h3⟩:=Oper.apart_spec hap
 have kp:∀ (b:Act),YieldsIf P ops S oi v b->∀ u,YieldsIf P ops S oi v (b.put oj.dst u):=fun b hb u=>
  hb.of_same (execOp_put oi hsi b oj.dst u h3) (wanted_put oi b oj.dst u h3)
 have kd:∀ d,YieldsIf P ops S oi v { a with defers:=d::a.defers }:=fun d=>hy.of_same rfl rfl
 unfold wpOpIn at *
 simp only [hj] at *
 rw [wanted_put oj a oi.dst v h1] at h
 split
 ·rename_i hw
  simp only [hw,if_true] at h
  refine ⟨fun _ _=>trivial,?_⟩
  have h:=h.2
  replace h:oj.uponIn Fence.wide 0 P (a.put oi.dst v) K Q ((execOp (a.put oi.dst v).eval oj).run P w):=h
  show oj.uponIn Fence.wide 0 P a _ Q ((execOp a.eval oj).run P w)
  rw [execOp_put oj hsj a oi.dst v h1] at h
  generalize (execOp a.eval oj).run P w=r at *
  cases r with
  | ok n w'=>
   cases n<;>simp only [Oper.uponIn] at h ⊢
   case value u=>exact ⟨kp a hy u,by rw [← Act.put_comm a v u h2];exact h⟩
   case skip=>exact ⟨kp a hy _,by rw [← Act.put_comm a v undef h2];exact h⟩
   case defer d=>
    refine ⟨kp _ (kd d) _,?_⟩
    rw [← Act.put_comm _ v undef h2,← Act.put_defers]
    exact h
   case enter f args=>
    refine ⟨h.1,h.2.mono fun e w'' he=>?_⟩
    cases e with
    | returned u=>exact ⟨kp a hy u,by rw [← Act.put_comm a v u h2];exact he⟩
    | panicked c=>exact hQ _ _ _ he
    | outgrown=>exact he
   case round l f tmps assign body=>
    refine ⟨h.1,h.2.mono fun e w'' he=>?_⟩
    cases e with
    | returned u=>exact ⟨kp a hy u,by rw [← Act.put_comm a v u h2];exact he⟩
    | panicked c=>exact hQ _ _ _ he
    | outgrown=>exact he
   case row row args=>exact ⟨h.1,h.2.mono fun u w'' he=>⟨kp a hy u,by rw [← Act.put_comm a v u h2];exact he⟩⟩
  | halt x w'=>
   cases x<;>simp only [Oper.uponIn] at h ⊢
   case panic u=>exact hQ _ _ _ h
 ·rename_i hw
  simp only [hw] at h
  exact ⟨fun _ _=>trivial,kp a hy _,by rw [← Act.put_comm a v undef h2];exact h.2⟩
def wpT (P:Program) (ops:Array Oper) (Q:Exit->Act->World->Prop) (T D:Nat->Bool) (S:World->Prop):Nat->Array Bool->Act->World->Prop
 | 0,listed,a,w=>Region.ready .any ops listed=[]/\Q .normal a w
 | n+1,listed,a,w=>(Region.ready .any ops listed=[]->Q .normal a w)/\
  ∀ i∈Region.ready .any ops listed,wpOpIn Fence.wide 0 P ops Q i (fun a' w'=>(T i=true->S w')/\(D i=true->w'=w)/\wpT P ops Q T D S n (listed.setIfInBounds i true) a' w') a w
theorem wpT_any {S:World->Prop}:∀ (n:Nat) (listed:Array Bool) (a:Act) (w:World),wpT P ops Q T D S n listed a w->wpAnyIn Fence.wide 0 P .any ops Q n listed a w
 | 0,_,_,_,h=>h
 | n+1,_,_,_,h=>⟨h.1,fun i hi=>wpOpIn_mono (fun a' w' h'=>wpT_any n _ a' w' h'.2.2) (h.2 i hi)⟩
theorem wpT_mono {S S':World->Prop} (hS:∀ w,S w->S' w):∀ (n:Nat) (listed:Array Bool) (a:Act) (w:World),wpT P ops Q T D S n listed a w->wpT P ops Q T D S' n listed a w
 | 0,_,_,_,h=>h
 | n+1,_,_,_,h=>⟨h.1,fun i hi=>wpOpIn_mono (fun a' w' h'=>⟨fun t=>hS w' (h'.1 t),h'.2.1,wpT_mono hS n _ a' w' h'.2.2⟩) (h.2 i hi)⟩
theorem ready_unlisted {listed:Array Bool} {i:Nat} (h:i∈Region.ready .any ops listed):listed.getD i true=false:=by
 simpa using (mem_ready.1 h).1
theorem getD_set_true {listed:Array Bool} {i j:Nat} (h:(listed.setIfInBounds i true).getD j true=false):listed.getD j true=false:=by
 by_cases hij:i=j
 ·subst hij
  rcases Nat.lt_or_ge i listed.size with h'|h'
  ·simp [h'] at h
  ·simp at h
 ·rw [getD_set_ne true hij] at h;exact h
theorem wpT_tail {S S':World->Prop}:∀ (n:Nat) (listed:Array Bool) (a:Act) (w:World),(∀ j,listed.getD j true=false->T j=false)->wpT P ops Q T D S n listed a w->wpT P ops Q T D S' n listed a w
 | 0,_,_,_,_,h=>h
 | n+1,listed,_,_,ht,h=>⟨h.1,fun i hi=>wpOpIn_mono (fun a' w' h'=>⟨fun t=>absurd t (by rw [ht i (ready_unlisted hi)];simp),h'.2.1,wpT_tail n _ a' w' (fun j hj=>ht j (getD_set_true hj)) h'.2.2⟩) (h.2 i hi)⟩
theorem wpT_first {S S1:World->Prop} {i:Nat} {oi:Oper} {v:Value} {B:List Nat} (hi:ops[i]? =some oi) (hsel:∀ (j:Nat) (o:Oper) cs b,ops[j]? =some o->o.op≠.select cs b)
  (hQ:∀ c a w,Q (.panic c) (a.put oi.dst v) w->Q (.panic c) a w) (hTi:T i=false) (hS1:∀ w,S w->S1 w)
  (hBe:∀ j∈B,∃ oj,ops[j]? =some oj/\∃ e∈oj.after,Region.binds .any e=true/\(e.on=i\/e.on∈B)):
  ∀ (fuel:Nat) (listed:Array Bool) (a:Act) (w:World),
   (∀ j oj,ops[j]? =some oj->j≠i->listed.getD j true=false->(∀ e∈oj.after,Region.binds .any e=true->e.on≠i)->oi.apart ops oj=true)->
   ((∀ w,S1 w)\/∀ j,listed.getD j true=false->T j=false->D j=false->j≠i->j∈B)->(∀ j∈B,listed.getD j true=false)->
   i∈Region.ready .any ops listed->YieldsIf P ops S1 oi v a->S1 w->
   wpT P ops Q T D S fuel (listed.setIfInBounds i true) (a.put oi.dst v) w->wpT P ops Q T D S (fuel+1) listed a w:=by
 intro fuel
 induction fuel with
 | zero=>
  intro listed a w _ _ _ hr hy hS H
  refine ⟨fun h=>(by rw [h] at hr;cases hr),fun j hj=>?_⟩
  by_cases hji:j=i
  ·subst hji;exact YieldsIf.wpOpW hi hy hS ⟨fun t=>(by rw [hTi] at t;cases t),fun _=>rfl,H⟩
  ·have:=ready_mono hj hji
   rw [H.1] at this
   cases this
 | succ fuel ih=>
  intro listed a w hfree hT hBu hr hy hS H
  refine ⟨fun h=>(by rw [h] at hr;cases hr),fun j hj=>?_⟩
  by_cases hji:j=i
  ·subst hji;exact YieldsIf.wpOpW hi hy hS ⟨fun t=>(by rw [hTi] at t;cases t),fun _=>rfl,H⟩
  ·have h1:=H.2 j (ready_mono hj hji)
   obtain ⟨hjun,oj,hoj,hall⟩:=mem_ready.1 hj
   have hiu:=ready_unlisted hr
   have contra:∀ k,listed.getD k true=false->listed.getD k false=true->False:=by
    intro k h1 h0
    rcases Nat.lt_or_ge k listed.size with h'|h'
    ·simp [h'] at h0 h1;rw [h0] at h1;cases h1
    ·simp [Array.getElem?_eq_none h'] at h1
   have hnot:∀ e∈oj.after,Region.binds .any e=true->e.on≠i:=fun e he hb heq=>by
    have h2:=hall e he hb
    rw [heq] at h2
    exact contra i hiu h2
   have hjB:j ∉ B:=by
    intro hB
    obtain ⟨oj',h2,e,he,hb,hon⟩:=hBe j hB
    rw [hoj] at h2;cases h2
    have h3:=hall e he hb
    rcases hon with hon|hon
    ·exact hnot e he hb hon
    ·exact contra _ (hBu _ hon) h3
   have hTj:(∀ w,S1 w)\/T j=true\/D j=true:=by
    rcases hT with hT|hT
    ·exact .inl hT
    ·cases hT':T j with
     | true=>exact .inr (.inl rfl)
     | false=>
      cases hD':D j with
      | true=>exact .inr (.inr rfl)
      | false=>exact absurd (hT j (ready_unlisted hj) hT' hD' hji) hjB
   have h2:=wpOpIn_putIf hoj (hfree j oj hoj hji hjun hnot) (fun cs b=>hsel i oi cs b hi) (fun cs b=>hsel j oj cs b hoj) hQ hy h1
   have hfree':∀ k ok,ops[k]? =some ok->k≠i->(listed.setIfInBounds j true).getD k true=false->
     (∀ e∈ok.after,Region.binds .any e=true->e.on≠i)->oi.apart ops ok=true:=fun k ok hk hki hun hno=>by
    exact hfree k ok hk hki (getD_set_true hun) hno
   refine wpOpIn_mono (fun a' w' h3=>?_) h2
   have hS':S1 w':=by
    rcases hTj with t|t|t
    ·exact t w'
    ·exact hS1 _ (h3.2.1 t)
    ·rw [h3.2.2.1 t];exact hS
   refine ⟨h3.2.1,h3.2.2.1,ih (listed.setIfInBounds j true) a' w' hfree' (hT.imp id fun hT k hk hTk hDk hki=>hT k (getD_set_true hk) hTk hDk hki) (fun k hk=>?_) (ready_mono hr (Ne.symm hji)) h3.1 hS' ?_⟩
   ·rw [getD_set_ne true (by rintro rfl;exact hjB hk)];exact hBu k hk
   ·rw [Array.setIfInBounds_comm _ _ hji]
    exact h3.2.2.2
theorem wpOp_tmps {j:Nat} {oj:Oper} (hj:ops[j]? =some oj) {K:Act->World->Prop} {a:Act} {w:World} (h:wpOpIn Fence.wide 0 P ops Q j K a w):
  wpOpIn Fence.wide 0 P ops Q j (fun a' w'=>K a' w'/\∀ t:Nat,oj.dst≠some t->a'.tmps[t]? =a.tmps[t]?) a w:=by
 have put:∀ (b:Act) (v:Value),b.tmps=a.tmps->∀ t:Nat,oj.dst≠some t->(b.put oj.dst v).tmps[t]? =a.tmps[t]?:=by
  intro b v hb t ht
  unfold Act.put
  cases hd:oj.dst with
  | none=>simp only [hb]
  | some d=>
   have :d≠t:=by rintro rfl;exact ht hd
   simp only [hb,Array.getElem?_setIfInBounds_ne this]
 unfold wpOpIn at *
 simp only [hj] at *
 split
 ·rename_i hw
  simp only [hw,if_true] at h
  refine ⟨fun _ _=>trivial,?_⟩
  have h:=h.2
  replace h:oj.uponIn Fence.wide 0 P a K Q ((execOp a.eval oj).run P w):=h
  show oj.uponIn Fence.wide 0 P a _ Q ((execOp a.eval oj).run P w)
  generalize (execOp a.eval oj).run P w=r at *
  cases r with
  | ok n w'=>
   cases n<;>simp only [Oper.uponIn] at h ⊢
   case value u=>exact ⟨h,put a u rfl⟩
   case skip=>exact ⟨h,put a _ rfl⟩
   case defer d=>exact ⟨h,put _ _ rfl⟩
   case enter f args=>
    refine ⟨h.1,h.2.mono fun e w'' he=>?_⟩
    cases e with
    | returned u=>exact ⟨he,put a u rfl⟩
    | panicked c=>exact he
    | outgrown=>exact he
   case round l f tmps assign body=>
    refine ⟨h.1,h.2.mono fun e w'' he=>?_⟩
    cases e with
    | returned u=>exact ⟨he,put a u rfl⟩
    | panicked c=>exact he
    | outgrown=>exact he
   case row row args=>exact ⟨h.1,h.2.mono fun u w'' he=>⟨he,put a u rfl⟩⟩
  | halt x w'=>
   cases x<;>simp only [Oper.uponIn] at h ⊢
   case panic u=>exact h
 ·rename_i hw
  simp only [hw] at h
  exact ⟨fun _ _=>trivial,h.2,put a _ rfl⟩
end
theorem waitsOn_spec {ops:Array Oper} {listed:Array Bool} {k:Nat}:∀ (n:Nat) (acc:List Nat),
  ((∀ j∈acc,listed.getD j true=false/\∃ oj,ops[j]? =some oj/\∃ e∈oj.after,Region.binds .any e=true/\(e.on=k\/e.on∈acc)))->
  ∀ j∈waitsOn ops listed k n acc,listed.getD j true=false/\∃ oj,ops[j]? =some oj/\∃ e∈oj.after,Region.binds .any e=true/\(e.on=k\/e.on∈waitsOn ops listed k n acc)
 | 0,acc,h=>by simpa [waitsOn] using h
 | n+1,acc,h=>by
  simp only [waitsOn]
  split
  ·rename_i j hj
   refine waitsOn_spec n (j::acc) ?_
   have hp:=List.find?_some hj
   simp only [Bool.and_eq_true,Bool.not_eq_true'] at hp
   obtain ⟨⟨⟨h1,h2⟩,h3⟩,h4⟩:=hp
   intro m hm
   rcases List.mem_cons.1 hm with rfl|hm
   ·refine ⟨h1,?_⟩
    cases ho:ops[m]? with
    | none=>rw [ho] at h4;simp at h4
    | some oj=>
     rw [ho] at h4
     simp only [Option.map_some,Option.getD_some,Array.any_eq_true] at h4
     obtain ⟨i,hi,h4⟩:=h4
     simp only [Bool.and_eq_true,Bool.or_eq_true,beq_iff_eq,List.contains_iff_mem] at h4
     exact ⟨oj,rfl,_,Array.getElem_mem hi,h4.1,h4.2.imp id (fun x=>List.mem_cons_of_mem _ x)⟩
   ·obtain ⟨g1,oj,g2,e,g3,g4,g5⟩:=h m hm
    exact ⟨g1,oj,g2,e,g3,g4,g5.imp id (fun x=>List.mem_cons_of_mem _ x)⟩
  ·exact h
theorem Rel.fewer {w0:World} {mu:Fm} {bx bx':List Box} {E E':Mem} {ρ ρ':Env} {w w':World} (h:Rel w0 mu bx E ρ w) (hp:ρ<+:ρ') (hb:bx<+:bx') (hE:Mem.le E E') (h':Rel w0 mu bx' E' ρ' w'):Rel w0 mu bx E ρ w' where
 keep:=h'.keep
 len:=h.len
 box i b oa h1 h2:=by
  have hx:=h'.box i b oa (get_prefix hb h1) (get_prefix hp h2)
  have h0:=h.box i b oa h1 h2
  cases oa with
  | none=>exact hx
  | some a=>
   obtain ⟨vs0,k2⟩:=h0.vals
   have:=SV.denL_mono hp _ k2
   rcases hx with ⟨g1,vs,g2,g3⟩|⟨g1,vs,g2,g3⟩
   ·rw [g2] at this;cases this
    exact .inl ⟨g1,vs0,k2,g3⟩
   ·rw [g2] at this;cases this
    exact .inr ⟨g1,vs0,k2,g3⟩
 sep i b a h1 h2 h3:=by
  obtain ⟨t1,t2,t3⟩:=h'.sep i b a (get_prefix hb h1) h2 (get_prefix hp h3)
  exact ⟨t1,fun j b' a' hji g1 g2 g3=>t2 j b' a' hji (get_prefix hb g1) g2 (get_prefix hp g3),fun v cs g hne=>t3 v cs (hE v cs g) hne⟩
 hold v cs g:=h'.hold v cs (hE v cs g)
 bsrc i b a h1 h2 h3:=h'.bsrc i b a (get_prefix hb h1) h2 (get_prefix hp h3)
 src v cs g hne:=h'.src v cs (hE v cs g) hne
section
variable {Ω:Option Rc} {P:Program} {callW:CallT} {all:Array Oper} {tail:List Nat} {w0:World} {mu:Fm} {ρ0:Env} {K:St->Prop} {Q:Exit->Act->World->Prop}
theorem quiet_step {o:Oper} {S:St} {ρ:Env} {a:Act} {w:World} {M:St->Prop} {G:Prop} (hdet:isDet o.op=true) (hR:Rel w0 mu S.bx S.E ρ w) (hF:FrRel ρ S.fr a.tmps) (h:stepW P callW all o S M)
  (key:∀ (v:Value) (S':St),S'.bx=S.bx->Mem.le S.E S'.E->(∀ w,Rel w0 mu S.bx S.E ρ w->Rel w0 mu S.bx S'.E ρ w)->(∀ v cs,S'.E v cs->cs≠[]->∃ v0 cs0,S.E v0 cs0/\cs0≠[]/\blk v=blk v0)->FrRel ρ S'.fr (a.put o.dst v).tmps->(∀ t:Nat,o.dst≠some t->S.fr[t]? =some none->S'.fr[t]? =some none)->
   YieldsIf P all (fun w=>isLoad o.op=true->Rel w0 mu S.bx S.E ρ w) o v a->M S'->G):G:=by
 have hput:∀ (S1:St) (s:SV) (t:Nat),o.dst≠some t->S1.fr[t]? =some none->(S1.put o.dst s).fr[t]? =some none:=by
  intro S1 s t ht h1
  unfold St.put
  cases hd:o.dst with
  | none=>exact h1
  | some d=>
   have :d≠t:=by rintro rfl;exact ht hd
   simp only [List.getElem?_set_ne this];exact h1
 have hex:∀ S1:St,S1.bx=S.bx->S1.E=S.E->(∀ t:Nat,S.fr[t]? =some none->S1.fr[t]? =some none)->FrRel ρ S1.fr a.tmps->Region.wanted o (yielded all a.tmps)=true->
   (opW P callW o.op S1 fun s bx E=>M (({ S1 with bx:=bx,E:=E }:St).put o.dst s))->G:=by
  intro S1 e1 e2 e3 hF1 hw hop
  refine detW_sound (S:=S1) (w0:=w0) (mu:=mu) (ρ:=ρ) (w1:=w) hdet (by rw [e1,e2];exact hR) hF1 hop (fun s v E' g1 g2 g3 g6 g4 g5=>?_)
  rw [e2] at g2 g6
  rw [e1,e2] at g3
  rw [e1,e2] at g5
  refine key v _ ?_ ?_ ?_ ?_ ?_ ?_ (.inl ⟨hw,g5⟩) g4
  ·rw [St.put_bx];exact e1
  ·rw [St.put_E];exact g2
  ·rw [St.put_E];exact g3
  ·rw [St.put_E];exact g6
  ·exact FrRel.put (S:={ S1 with bx:=S1.bx,E:=E' }) hF1 o.dst g1
  ·exact fun t ht hs=>hput { S1 with bx:=S1.bx,E:=E' } s t ht (e3 t hs)
 have hsk:∀ S1:St,S1.bx=S.bx->S1.E=S.E->(∀ t:Nat,S.fr[t]? =some none->S1.fr[t]? =some none)->FrRel ρ S1.fr a.tmps->Region.wanted o (yielded all a.tmps)=false->M (S1.put o.dst (.raw undef))->G:=by
  intro S1 e1 e2 e3 hF1 hw hdr
  refine key undef _ ?_ ?_ ?_ ?_ ?_ ?_ (.inr ⟨hw,rfl⟩) hdr
  ·rw [St.put_bx];exact e1
  ·rw [St.put_E,e2];exact Mem.le_refl _
  ·rw [St.put_E,e2];exact fun _ g=>g
  ·rw [St.put_E,e2];exact fun v cs g hne=>⟨v,cs,g,hne,rfl⟩
  ·exact FrRel.put hF1 o.dst rfl
  ·exact fun t ht hs=>hput S1 _ t ht (e3 t hs)
 unfold stepW guardW at h
 split at h
 ·rename_i hg
  exact hex S rfl rfl (fun _ x=>x) hF (by simp [Region.wanted,hg]) h
 ·rename_i j want hg
  split at h
  ·exact h.elim
  ·rename_i d hj
   split at h
   ·rename_i b hb
    obtain ⟨v,h1,h2⟩:=hF.2 d _ hb
    simp only [SV.den,Option.some.injEq] at h2;subst h2
    have hy:yielded all a.tmps j=some b:=by simp [yielded,hj,h1]
    have hset:∀ c:Bool,b=c->FrRel ρ (S.put (some d) (.raw (.bool c))).fr a.tmps:=fun c e=>FrRel.lit hF h1 e
    have hnn:∀ c:Bool,∀ t:Nat,S.fr[t]? =some none->(S.put (some d) (.raw (.bool c))).fr[t]? =some none:=by
     intro c t ht
     have :d≠t:=by rintro rfl;rw [hb] at ht;cases ht
     simp only [St.put,List.getElem?_set_ne this];exact ht
    cases want<;>cases b<;>simp only [cond] at h
    ·exact hex (S.put (some d) (.raw (.bool false))) rfl rfl (hnn false) (hset false rfl) (by simp [Region.wanted,hg,hy]) h
    ·exact hsk (S.put (some d) (.raw (.bool true))) rfl rfl (hnn true) (hset true rfl) (by simp [Region.wanted,hg,hy]) h
    ·exact hsk (S.put (some d) (.raw (.bool false))) rfl rfl (hnn false) (hset false rfl) (by simp [Region.wanted,hg,hy]) h
    ·exact hex (S.put (some d) (.raw (.bool true))) rfl rfl (hnn true) (hset true rfl) (by simp [Region.wanted,hg,hy]) h
   ·rename_i vs hb
    obtain ⟨v,h1,h2⟩:=hF.2 d _ hb
    simp only [SV.den,Option.some.injEq] at h2;subst h2
    have hy:yielded all a.tmps j=none:=by simp [yielded,hj,h1]
    exact hsk S rfl rfl (fun _ x=>x) hF (by simp [Region.wanted,hg,hy]) h
   ·exact h.elim
def lvB (bx:List Box) (ρ:Env):List Nat:=(List.range bx.length).filterMap fun j=>match bx[j]?,ρ[j]? with
 | some b,some (some a)=>if b.live=true then some a.block else none
 | _,_=>none
theorem lvB_mem {bx:List Box} {ρ:Env} {j:Nat} {b:Box} {a:Addr} (h1:bx[j]? =some b) (h2:ρ[j]? =some (some a)) (h3:b.live=true):a.block∈lvB bx ρ:=by
 refine List.mem_filterMap.2 ⟨j,List.mem_range.2 (get_lt h1),?_⟩
 simp only [h1,h2,h3,if_true]
theorem lvB_of {bx:List Box} {ρ:Env} {g:Nat} (h:g∈lvB bx ρ):∃ (j:Nat) (b:Box) (a:Addr),bx[j]? =some b/\ρ[j]? =some (some a)/\b.live=true/\a.block=g:=by
 obtain ⟨j,_,hj⟩:=List.mem_filterMap.1 h
 split at hj
 ·rename_i b a h1 h2
  split at hj
  ·rename_i hl
   simp only [Option.some.injEq] at hj
   exact ⟨j,b,a,h1,h2,hl,hj⟩
  ·cases hj
 ·cases hj
theorem Rel.here {bx:List Box} {E:Mem} {ρ:Env} {w:World} {om:Option Rc} {ds:List Deferred} (h:Rel w0 mu bx E ρ w):Rel w ⟨lvB bx ρ,E,om,ds⟩ bx E ρ w:=
 ⟨Keep.refl _ _,h.len,h.box,fun i b a h1 ho h2=>⟨.inr (lvB_mem h1 h2 (by simp [Box.live,ho])),(h.sep i b a h1 ho h2).2⟩,h.hold,fun i b a h1 hl h2=>.inr (lvB_mem h1 h2 hl),fun v cs g hne=>.inr ⟨v,cs,g,hne,rfl⟩⟩
theorem Rel.compose {bx bx':List Box} {E E':Mem} {ρ ρ':Env} {w w':World} {om:Option Rc} {ds:List Deferred} (h:Rel w0 mu bx E ρ w) (h':Rel w ⟨lvB bx ρ,E,om,ds⟩ bx' E' ρ' w'):Rel w0 mu bx' E' ρ' w':=by
 have hsrc:∀ g,g∈lvB bx ρ->w0.heap.size<=g\/g∈mu.mu:=by
  intro g hg
  obtain ⟨j,b,a,h1,h2,h3,rfl⟩:=lvB_of hg
  exact h.bsrc j b a h1 h3 h2
 have hsrc2:∀ g,(w.heap.size<=g\/g∈lvB bx ρ)->w0.heap.size<=g\/g∈mu.mu:=by
  rintro g (hg|hg)
  ·exact .inl (Nat.le_trans h.keep.size hg)
  ·exact hsrc g hg
 have hk:=h'.keep
 refine ⟨⟨hk.os.trans h.keep.os,hk.tape.trans h.keep.tape,hk.output.trans h.keep.output,Nat.le_trans h.keep.size hk.size,fun k h1 h2=>?_⟩,h'.len,h'.box,?_,h'.hold,?_,?_⟩
 ·rw [hk.block k (Nat.lt_of_lt_of_le h1 h.keep.size) (fun hg=>by
   rcases hsrc k hg with q|q
   ·omega
   ·exact h2 q)]
  exact h.keep.block k h1 h2
 ·intro i b a h1 ho h2
  obtain ⟨t1,t2,t3⟩:=h'.sep i b a h1 ho h2
  exact ⟨hsrc2 _ t1,t2,t3⟩
 ·intro i b a h1 hl h2
  exact hsrc2 _ (h'.bsrc i b a h1 hl h2)
 ·intro v cs g hne
  rcases h'.src v cs g hne with ⟨b,e1,e2⟩|⟨v0,cs0,e1,e2,e3⟩
  ·exact .inl ⟨b,e1,hsrc2 b e2⟩
  ·rw [e3];exact h.src v0 cs0 e1 e2
structure Hid (P:Program) (all:Array Oper) (w0:World) (bx:List Box) (E:Mem) (ρ:Env) (a:Act) (w:World) (r g:Nat):Prop where
 op:∃ d T type pos after i z,all[r]? =some ⟨some d,.alloc T,type,pos,after,none⟩/\P.info? T=some i/\i.zero=some z/\oneOrAgg (.raw z)=true/\w.heap[g]? =some (.cells z.cells T (0,0))/\(a.tmps[d]? =some (.pointer (some ⟨g,0,none⟩))\/a.tmps[d]? =none)
 new:w0.heap.size<=g
 apart:(∀ (j:Nat) b' a',bx[j]? =some b'->b'.live=true->ρ[j]? =some (some a')->a'.block≠g)/\(∀ v cs,E v cs->cs≠[]->blk v≠some g)
theorem allocAt_spec {okT:TypeId->Bool} {r:Nat} (h:allocAt okT all r=true):∃ d T type pos after,all[r]? =some ⟨some d,.alloc T,type,pos,after,none⟩/\okT T=true/\∀ k o,all[k]? =some o->k≠r->o.dst≠some d:=by
 unfold allocAt at h
 split at h
 ·rename_i d T type pos after ho
  simp only [Bool.and_eq_true,List.all_eq_true,List.mem_range,Bool.or_eq_true,beq_iff_eq,decide_eq_true_eq] at h
  refine ⟨d,T,type,pos,after,ho,h.1,fun k o hk hne=>?_⟩
  have hks:k<all.size:=(Array.getElem?_eq_some_iff.1 hk).1
  rcases h.2 k hks with q|q
  ·exact absurd q hne
  ·rw [hk] at q;exact q
 ·cases h
theorem okTy_spec {P:Program} {T:TypeId} (h:okTy P T=true):∃ i z,P.info? T=some i/\i.zero=some z/\oneOrAgg (.raw z)=true:=by
 unfold okTy at h
 split at h
 ·rename_i i hi
  split at h
  ·rename_i z hz;exact ⟨i,z,hi,hz,h⟩
  ·cases h
 ·cases h
theorem setAllB_getD:∀ (l:List Nat) (listed:Array Bool) (k:Nat),(setAllB listed l).getD k true=(listed.getD k true||l.contains k)
 | [],listed,k=>by simp [setAllB]
 | i::l,listed,k=>by
  rw [setAllB,setAllB_getD l]
  by_cases hik:i=k
  ·subst hik
   rcases Nat.lt_or_ge i listed.size with h'|h'
   ·simp [h']
   ·simp [h']
  ·rw [getD_set_ne true hik]
   simp [Ne.symm hik]
theorem setAllB_size:∀ (l:List Nat) (listed:Array Bool),(setAllB listed l).size=listed.size
 | [],_=>rfl
 | i::l,listed=>by rw [setAllB,setAllB_size l];simp
theorem getD_true_false {l:Array Bool} {k:Nat} (h:k<l.size):l.getD k false=l.getD k true:=by simp [h]
theorem ready_more {l l':Array Bool} (hs:l.size=l'.size) (h:∀ k,l.getD k true=true->l'.getD k true=true) {k:Nat} (hk:k∈Region.ready .any all l) (hu:l'.getD k true=false):k∈Region.ready .any all l':=by
 obtain ⟨_,o,ho,hall⟩:=mem_ready.1 hk
 refine mem_ready.2 ⟨by simpa using hu,o,ho,fun e he hb=>?_⟩
 have h1:=hall e he hb
 have hsz:e.on<l.size:=by
  rcases Nat.lt_or_ge e.on l.size with q|q
  ·exact q
  ·simp [q] at h1
 rw [getD_true_false hsz] at h1
 rw [getD_true_false (by omega)]
 exact h _ h1
def frOK (S S':St) (dst:Option Tmp):Prop:=∀ t:Nat,dst≠some t->S.fr[t]? =some none\/S.fr[t]? =none->S'.fr[t]? =some none\/S'.fr[t]? =none
theorem frOK_put (S S1:St) (o:Option Tmp) (s:SV) (h:∀ t:Nat,S.fr[t]? =some none\/S.fr[t]? =none->S1.fr[t]? =some none\/S1.fr[t]? =none):frOK S (S1.put o s) o:=by
 intro t ht hs
 have h1:=h t hs
 unfold St.put
 cases o with
 | none=>exact h1
 | some d=>
  have :d≠t:=by rintro rfl;exact ht rfl
  simp only [List.getElem?_set_ne this];exact h1
theorem guardW_fr {o:Oper} {S:St} {exec skip exec' skip':St->Prop}
  (he:∀ S1:St,(∀ t:Nat,S.fr[t]? =some none\/S.fr[t]? =none->S1.fr[t]? =some none\/S1.fr[t]? =none)->exec S1=exec' S1)
  (hs:∀ S1:St,(∀ t:Nat,S.fr[t]? =some none\/S.fr[t]? =none->S1.fr[t]? =some none\/S1.fr[t]? =none)->skip S1=skip' S1):guardW all o S exec skip=guardW all o S exec' skip':=by
 unfold guardW
 split
 ·exact he S (fun _ x=>x)
 ·split
  ·rfl
  ·rename_i d hj
   split
   ·rename_i b hb
    have hn:∀ c:Bool,∀ t:Nat,S.fr[t]? =some none\/S.fr[t]? =none->(S.put (some d) (.raw (.bool c))).fr[t]? =some none\/(S.put (some d) (.raw (.bool c))).fr[t]? =none:=by
     intro c t ht
     have :d≠t:=by rintro rfl;rw [hb] at ht;rcases ht with q|q<;>cases q
     simp only [St.put,List.getElem?_set_ne this];exact ht
    rw [he _ (hn true),he _ (hn false),hs _ (hn true),hs _ (hn false)]
   ·exact hs S (fun _ x=>x)
   ·rfl
theorem stepW_fr {o:Oper} {S:St} {M:St->Prop}:stepW P callW all o S M=stepW P callW all o S (fun S'=>frOK S S' o.dst/\M S'):=by
 unfold stepW
 refine guardW_fr (fun S1 h1=>?_) (fun S1 h1=>?_)
 ·congr 1
  funext s bx E
  exact propext ⟨fun x=>⟨frOK_put S { S1 with bx:=bx,E:=E } o.dst s h1,x⟩,fun x=>x.2⟩
 ·exact propext ⟨fun x=>⟨frOK_put S S1 o.dst _ h1,x⟩,fun x=>x.2⟩
theorem stepGW_fr {o:Oper} {S:St} {M:St->Prop}:stepGW P callW all o S M=stepGW P callW all o S (fun S'=>frOK S S' o.dst/\M S'):=by
 unfold stepGW
 refine guardW_fr (fun S1 h1=>?_) (fun S1 h1=>?_)
 ·congr 1
  congr 1
  funext s bx E
  exact propext ⟨fun x=>⟨frOK_put S { S1 with bx:=bx,E:=E } o.dst s h1,x⟩,fun x=>x.2⟩
 ·exact propext ⟨fun x=>⟨frOK_put S S1 o.dst _ h1,x⟩,fun x=>x.2⟩
theorem nodup_map_inj {α β:Type} {f:α->β}:∀ {l:List α},(l.map f).Nodup->∀ {x y:α},x∈l->y∈l->f x=f y->x=y
 | [],_,_,_,h,_,_=>by cases h
 | z::l,hn,x,y,hx,hy,e=>by
  simp only [List.map_cons,List.nodup_cons] at hn
  rcases List.mem_cons.1 hx with rfl|hx
  ·rcases List.mem_cons.1 hy with rfl|hy
   ·rfl
   ·exact absurd (List.mem_map.2 ⟨y,hy,e.symm⟩) hn.1
  ·rcases List.mem_cons.1 hy with e2|hy
   ·rw [e2] at e;exact absurd (List.mem_map.2 ⟨x,hx,e⟩) hn.1
   ·exact nodup_map_inj hn.2 hx hy e
theorem filter_ne_length:∀ {H:List (Nat×Nat)},(H.map (·.1)).Nodup->∀ {z:Nat×Nat},z∈H->(H.filter fun y=>y.1 !=z.1).length+1=H.length
 | [],_,_,h=>by cases h
 | y::H,hn,z,hz=>by
  simp only [List.map_cons,List.nodup_cons] at hn
  rcases List.mem_cons.1 hz with rfl|hz
  ·have :(z::H).filter (fun y=>y.1 !=z.1)=H:=by
    rw [List.filter_cons_of_neg (by simp)]
    refine List.filter_eq_self.2 fun u hu=>?_
    simp only [bne_iff_ne]
    intro e
    exact hn.1 (List.mem_map.2 ⟨u,hu,e⟩)
   rw [this];rfl
  ·have hne:y.1≠z.1:=fun e=>hn.1 (List.mem_map.2 ⟨z,hz,e.symm⟩)
   rw [List.filter_cons_of_pos (by simpa using hne)]
   simp only [List.length_cons]
   have:=filter_ne_length hn.2 hz
   omega
theorem FrRel.learn {ρ:Env} {fr:List (Option SV)} {tmps:Array Value} (h:FrRel ρ fr tmps) (d:Nat) {s:SV} {v:Value} (hv:s.den ρ=some v) (ht:tmps[d]? =some v):FrRel ρ (fr.set d (some s)) tmps:=by
 refine ⟨by simp [h.1],fun i t hi=>?_⟩
 by_cases hid:d=i
 ·subst hid
  rw [List.getElem?_set_self'] at hi
  cases hf:fr[d]? with
  | none=>simp [hf] at hi
  | some o=>simp [hf] at hi;subst hi;exact ⟨v,ht,hv⟩
 ·rw [List.getElem?_set_ne hid] at hi
  exact h.2 i t hi
theorem FrRel.skip {ρ:Env} {fr:List (Option SV)} {tmps:Array Value} (h:FrRel ρ fr tmps) (d:Nat) (v:Value) (hd:fr[d]? =some none\/fr[d]? =none):FrRel ρ fr (tmps.setIfInBounds d v):=by
 refine ⟨by simp [h.1],fun i t hi=>?_⟩
 have hid:d≠i:=by
  rintro rfl
  rcases hd with q|q<;>rw [q] at hi<;>cases hi
 obtain ⟨u,h1,h2⟩:=h.2 i t hi
 exact ⟨u,by rw [Array.getElem?_setIfInBounds_ne hid];exact h1,h2⟩
theorem getD_inj {l l':Array Bool} (hs:l.size=l'.size) (h:∀ k,l.getD k true=l'.getD k true):l=l':=by
 apply Array.ext hs
 intro i h1 h2
 have:=h i
 simpa [h1,h2] using this
theorem getD_set {l:Array Bool} {i k:Nat}:(l.setIfInBounds i true).getD k true=(l.getD k true||decide (i=k)):=by
 by_cases hik:i=k
 ·subst hik
  rcases Nat.lt_or_ge i l.size with h'|h'<;>simp [h']
 ·rw [getD_set_ne true hik];simp [hik]
theorem drawW_wpT (hcall:CallOK Ω P callW) (hom:mu.om=Ω/\okE Ω ρ0) (hsel:Region.noSelect all=true) (hQ:∀ a w,Lift w0 mu ρ0 K a w->Q .normal a w) (hpan:∀ c a w,¬ Q (.panic c) a w)
  (m n:Nat) (listed lc:Array Bool) (H:List (Nat×Nat)) (S:St) (ρ:Env) (a:Act) (w:World) (h:runW P callW all (planW (okTy P) all tail m listed) S K) (hls:listed.size=all.size) (hlc:lc.size=all.size)
  (hset:∀ k,lc.getD k true=(listed.getD k true||(H.map (·.1)).contains k)) (hH:∀ x∈H,x.1∈Region.ready .any all listed/\allocAt (okTy P) all x.1=true/\Hid P all w0 S.bx S.E ρ a w x.1 x.2) (hHt:∀ x∈H,tail.contains x.1=false) (hnd:(H.map (·.1)).Nodup/\(H.map (·.2)).Nodup)
  (hfr:∀ r d,allocAt (okTy P) all r=true->listed.getD r true=false->(all[r]?).bind (·.dst)=some d->S.fr[d]? =some none\/S.fr[d]? =none)
  (hm:m=n+H.length) (hU:∃ U:List Nat,(∀ k,lc.getD k true=false->k∈U)/\U.length<=n) (hd:a.defers=mu.ds/\okO w0 mu) (hp:ρ0<+:ρ) (hR:Rel w0 mu S.bx S.E ρ w) (hF:FrRel ρ S.fr a.tmps):
   wpT P all Q (fun j=> !tail.contains j&& !detAt all j) (fun j=> !tail.contains j&&detAt all j) (fun w=>Rel w0 mu S.bx S.E ρ w) n lc a w:=by
 have hsz:∀ (l:Array Bool) i,l.size=all.size->(l.setIfInBounds i true).size=all.size:=fun l i hl=>by simpa using hl
 -- what is hidden is not listed
 have hHu:∀ x∈H,listed.getD x.1 true=false:=fun x hx=>ready_unlisted (hH x hx).1
 have hHlt:∀ x∈H,x.2<w.heap.size:=fun x hx=>by
  obtain ⟨_,_,_,_,_,_,_,_,_,_,_,hg,_⟩:=(hH x hx).2.2.op
  exact (Array.getElem?_eq_some_iff.1 hg).1
 -- nothing hidden: as it stands
 have hnil:H=[]->lc=listed:=fun e=>getD_inj (by rw [hls,hlc]) (fun k=>by rw [hset,e];simp)
 -- the count of what is left
 have hUset:∀ i,lc.getD i true=false->∃ n',n=n'+1/\∃ U:List Nat,(∀ k,(lc.setIfInBounds i true).getD k true=false->k∈U)/\U.length<=n':=by
  intro i hi
  obtain ⟨U,h1,h2⟩:=hU
  have hiU:=h1 i hi
  have hpos:0<U.length:=List.length_pos_of_mem hiU
  refine ⟨n-1,by omega,U.erase i,fun k hk=>?_,?_⟩
  ·rw [getD_set] at hk
   simp only [Bool.or_eq_false_iff,decide_eq_false_iff_not] at hk
   exact (List.mem_erase_of_ne (Ne.symm hk.2)).2 (h1 k hk.1)
  ·rw [List.length_erase_of_mem hiU];omega
 -- a step that the plan takes: what is hidden stays hidden
 have hstepH:∀ (i:Nat) (oi:Oper),all[i]? =some oi->i∈Region.ready .any all listed->(∀ x∈H,x.1≠i)->∀ (S':St) (ρ':Env) (a':Act) (w':World),
   (∀ t:Nat,oi.dst≠some t->a'.tmps[t]? =a.tmps[t]?)->(∀ x∈H,w'.heap[x.2]? =w.heap[x.2]?)->
   (∀ x∈H,(∀ (j:Nat) b' a',S'.bx[j]? =some b'->b'.live=true->ρ'[j]? =some (some a')->a'.block≠x.2)/\(∀ v cs,S'.E v cs->cs≠[]->blk v≠some x.2))->
   ∀ x∈H,x.1∈Region.ready .any all (listed.setIfInBounds i true)/\allocAt (okTy P) all x.1=true/\Hid P all w0 S'.bx S'.E ρ' a' w' x.1 x.2:=by
  intro i oi hoi hi hne S' ρ' a' w' ht hh hap x hx
  obtain ⟨h1,h2,h3⟩:=hH x hx
  refine ⟨ready_mono h1 (hne x hx),h2,?_⟩
  obtain ⟨d,T,type,pos,after,ii,z,e1,e2,e3,e4,e5,e6⟩:=h3.op
  refine ⟨⟨d,T,type,pos,after,ii,z,e1,e2,e3,e4,by rw [hh x hx];exact e5,?_⟩,h3.new,hap x hx⟩
  obtain ⟨d',T',type',pos',after',f1,_,f3⟩:=allocAt_spec h2
  rw [e1] at f1
  simp only [Option.some.injEq,Oper.mk.injEq] at f1
  obtain ⟨rfl,_⟩:=f1
  rw [ht d (f3 i oi hoi (fun e=>hne x hx e.symm))];exact e6
 have hsetStep:∀ i,(∀ x∈H,x.1≠i)->∀ k,(lc.setIfInBounds i true).getD k true=((listed.setIfInBounds i true).getD k true||(H.map (·.1)).contains k):=by
  intro i _ k
  rw [getD_set,getD_set,hset]
  cases listed.getD k true<;>cases (H.map (·.1)).contains k<;>cases decide (i=k)<;>rfl
 have hfrStep:∀ (i:Nat) (oi:Oper) (S':St),all[i]? =some oi->(∀ t:Nat,oi.dst≠some t->S.fr[t]? =some none\/S.fr[t]? =none->S'.fr[t]? =some none\/S'.fr[t]? =none)->
   ∀ r d,allocAt (okTy P) all r=true->(listed.setIfInBounds i true).getD r true=false->(all[r]?).bind (·.dst)=some d->S'.fr[d]? =some none\/S'.fr[d]? =none:=by
  intro i oi S' hoi hS r d hr hl hdst
  rw [getD_set] at hl
  simp only [Bool.or_eq_false_iff,decide_eq_false_iff_not] at hl
  obtain ⟨d',T',type',pos',after',f1,_,f3⟩:=allocAt_spec hr
  rw [f1] at hdst
  simp only [Option.bind_some,Option.some.injEq] at hdst
  subst hdst
  exact hS d' (f3 i oi hoi hl.2) (hfr r d' hr hl.1 (by rw [f1];rfl))
 -- one more is hidden
 have hide:∀ i,i∈Region.ready .any all listed->allocAt (okTy P) all i=true->tail.contains i=false->(∀ x∈H,x.1≠i)->∀ n',n=n'+1->(∃ U:List Nat,(∀ k,(lc.setIfInBounds i true).getD k true=false->k∈U)/\U.length<=n')->
   wpOpIn Fence.wide 0 P all Q i (fun a' w'=>((fun j=> !tail.contains j&& !detAt all j) i=true->Rel w0 mu S.bx S.E ρ w')/\((fun j=> !tail.contains j&&detAt all j) i=true->w'=w)/\
    wpT P all Q (fun j=> !tail.contains j&& !detAt all j) (fun j=> !tail.contains j&&detAt all j) (fun w=>Rel w0 mu S.bx S.E ρ w) n' (lc.setIfInBounds i true) a' w') a w:=by
  intro i hi hal htl hne n' hn' hU'
  obtain ⟨d,T,type,pos,after,ho,hok,huniq⟩:=allocAt_spec hal
  obtain ⟨ii,z,hi1,hi2,hi3⟩:=okTy_spec hok
  have hrun:(execOp a.eval ⟨some d,.alloc T,type,pos,after,none⟩).run P w= .ok (.value (.pointer (some ⟨w.heap.size,0,none⟩))) (w.alloc (.cells z.cells T)):=by
   show Sem.run P (do pure (Next.value (← Instr.alloc T true (.tuple #[])))) w=_
   simp only [Instr.alloc,Sem.run_bind,run_zeroValue' hi1 hi2,Result.andThen_ok,run_newVar',Sem.run_pure]
  have hnd':detAt all i=false:=by simp [detAt,ho,isDet]
  have hgrow:Rel w0 mu S.bx S.E ρ (w.alloc (.cells z.cells T)):=hR.grow (Keep.alloc [] w _)
  unfold wpOpIn
  rw [ho]
  dsimp only
  rw [if_pos (by simp [Region.wanted])]
  refine ⟨fun _ _=>trivial,?_⟩
  rw [Oper.semAt_eq _ _ _ (by intro c e;cases e),hrun,Oper.uponIn_value]
  refine ⟨fun _=>hgrow,fun e=>(by rw [hnd'] at e;simp at e),?_⟩
  have hdn:=hfr i d hal (ready_unlisted hi) (by rw [ho];rfl)
  have htm:∀ (t:Nat),d≠t->(a.put (some d) (.pointer (some ⟨w.heap.size,0,none⟩))).tmps[t]? =a.tmps[t]?:=fun t ht=>by
   simp only [Act.put,Array.getElem?_setIfInBounds_ne ht]
  refine drawW_wpT hcall hom hsel hQ hpan m n' listed (lc.setIfInBounds i true) ((i,w.heap.size)::H) S ρ _ _ h hls (hsz _ _ hlc) ?_ ?_ (by intro x hx;rcases List.mem_cons.1 hx with rfl|hx;exact htl;exact hHt x hx) ?_ hfr (by simp only [List.length_cons];omega) hU' (by rw [put_defers];exact hd) hp hgrow ?_
  ·intro k
   rw [getD_set,hset]
   simp only [List.map_cons,List.contains_cons]
   by_cases hik:i=k
   ·subst hik;simp
   ·have :(k==i)=false:=by simpa using Ne.symm hik
    simp [hik,this]
  ·intro x hx
   rcases List.mem_cons.1 hx with rfl|hx
   ·refine ⟨hi,hal,⟨⟨d,T,type,pos,after,ii,z,ho,hi1,hi2,hi3,heap_alloc_new w _,?_⟩,hR.keep.size,?_,?_⟩⟩
    ·rcases Nat.lt_or_ge d a.tmps.size with hdz|hdz
     ·left;simp [Act.put,hdz]
     ·right;simp [Act.put,hdz]
    ·intro j b' a' g1 g2 g3
     have:=(hR.box j b' _ g1 g3).lt g2
     simp only;omega
    ·intro v cs hE hcs hb
     obtain ⟨b2,q1,q2⟩:=(hR.hold v cs hE).lt hcs
     rw [hb] at q1;cases q1
     exact absurd q2 (Nat.lt_irrefl _)
   ·obtain ⟨h1,h2,h3⟩:=hH x hx
    refine ⟨h1,h2,?_⟩
    obtain ⟨d2,T2,type2,pos2,after2,ii2,z2,e1,e2,e3,e4,e5,e6⟩:=h3.op
    refine ⟨⟨d2,T2,type2,pos2,after2,ii2,z2,e1,e2,e3,e4,by rw [heap_alloc_old w _ _ (hHlt x hx)];exact e5,?_⟩,h3.new,h3.apart⟩
    have hdd:d≠d2:=by
     intro e
     exact huniq x.1 _ e1 (hne x hx) (by rw [e])
    rw [htm d2 hdd];exact e6
  ·refine ⟨?_,?_⟩
   ·simp only [List.map_cons,List.nodup_cons]
    refine ⟨fun hm=>?_,hnd.1⟩
    obtain ⟨x,hx,e⟩:=List.mem_map.1 hm
    exact hne x hx e
   ·simp only [List.map_cons,List.nodup_cons]
    refine ⟨fun hm=>?_,hnd.2⟩
    obtain ⟨x,hx,e⟩:=List.mem_map.1 hm
    have:=hHlt x hx
    omega
  ·exact FrRel.skip hF d _ hdn
 cases m with
 | zero=>
  have hn0:n=0:=by omega
  have hH0:H=[]:=List.eq_nil_of_length_eq_zero (by omega)
  subst hn0
  rw [hnil hH0]
  simp only [planW] at h
  split at h
  ·rename_i hr;exact ⟨hr,hQ a w ⟨hd,S,ρ,hp,hR,hF,h⟩⟩
  ·exact h.elim
 | succ m=>
  simp only [planW] at h
  split at h
  ·rename_i hr
   have hH0:H=[]:=by
    cases H with
    | nil=>rfl
    | cons x H=>have:=(hH x (by simp)).1;rw [hr] at this;cases this
   subst hH0
   rw [hnil rfl]
   simp only [List.length_nil,Nat.add_zero] at hm
   subst hm
   exact ⟨fun _=>hQ a w ⟨hd,S,ρ,hp,hR,hF,h⟩,fun i hi=>by rw [hr] at hi;cases hi⟩
  ·rename_i r rs hr
   split at h
   ·-- a quiet operation is taken first
    rename_i i hfind
    simp only [runW] at h
    split at h
    case h_2=>exact h.elim
    rename_i o ho
    have hp1:=List.find?_some hfind
    simp only [quietFirst,Bool.and_eq_true,Bool.not_eq_true',detAt,ho,Option.map_some,Option.getD_some,Bool.or_eq_true] at hp1
    obtain ⟨⟨⟨hdet,hnt⟩,hfree⟩,htail⟩:=hp1
    have hir:i∈Region.ready .any all listed:=by rw [hr];exact List.mem_of_find?_eq_some hfind
    have hiH:∀ x∈H,x.1≠i:=by
     rintro x hx rfl
     obtain ⟨d,T,type,pos,after,f1,_,_⟩:=allocAt_spec (hH x hx).2.1
     rw [f1] at ho;cases ho
     simp [isDet] at hdet
    have hiu:lc.getD i true=false:=by
     rw [hset,ready_unlisted hir]
     simp only [Bool.false_or,List.contains_eq_mem,decide_eq_false_iff_not]
     intro hm
     obtain ⟨x,hx,e⟩:=List.mem_map.1 hm
     exact hiH x hx e
    have hirc:i∈Region.ready .any all lc:=ready_more (by rw [hls,hlc]) (fun k hk=>by rw [hset,hk];rfl) hir hiu
    obtain ⟨n',rfl,hU'⟩:=hUset i hiu
    have hB:=waitsOn_spec (ops:=all) (listed:=listed) (k:=i) all.size [] (by simp)
    have hBl:∀ j∈waitsOn all listed i all.size [],lc.getD j true=false:=by
     intro j hj
     obtain ⟨q1,oj,q2,e,q3,q4,q5⟩:=hB j hj
     cases hq:lc.getD j true with
     | false=>rfl
     | true=>
      exfalso
      rw [hset,q1] at hq
      simp only [Bool.false_or,List.contains_eq_mem,decide_eq_true_eq] at hq
      obtain ⟨x,hx,rfl⟩:=List.mem_map.1 hq
      obtain ⟨_,o2,g2,hall⟩:=mem_ready.1 (hH x hx).1
      rw [q2] at g2;cases g2
      have hon:=hall e q3 q4
      have hfalse:listed.getD e.on true=false:=by
       rcases q5 with q5|q5
       ·rw [q5];exact ready_unlisted hir
       ·exact (hB _ q5).1
      rcases Nat.lt_or_ge e.on listed.size with h'|h'
      ·simp [h'] at hfalse hon;rw [hfalse] at hon;cases hon
      ·simp [h'] at hon
    refine quiet_step hdet hR hF h (fun v S' e1 hle hrel hsub hF' hnone hy hdraw=>?_)
    have hrest:=drawW_wpT hcall hom hsel hQ hpan m n' (listed.setIfInBounds i true) (lc.setIfInBounds i true) H S' ρ (a.put o.dst v) w hdraw (hsz _ _ hls) (hsz _ _ hlc) (hsetStep i hiH)
     (hstepH i o ho hir hiH S' ρ _ w (fun t ht=>by
      unfold Act.put
      cases hdo:o.dst with
      | none=>rfl
      | some d0=>
       have :d0≠t:=by rintro rfl;exact ht hdo
       simp only [Array.getElem?_setIfInBounds_ne this]) (fun _ _=>rfl) (fun x hx=>by
      rw [e1]
      refine ⟨(hH x hx).2.2.apart.1,fun v cs hE hne=>?_⟩
      obtain ⟨v0,cs0,q1,q2,q3⟩:=hsub v cs hE hne
      rw [q3];exact (hH x hx).2.2.apart.2 v0 cs0 q1 q2)) hHt hnd
     (hfrStep i o S' ho (fun t ht hs=>hs.imp (fun q=>hnone t ht q) (fun q=>by
      have hl1:=hF.1
      have hl2:=hF'.1
      have hput:(a.put o.dst v).tmps.size=a.tmps.size:=by unfold Act.put;split<;>simp
      rw [List.getElem?_eq_none_iff] at q ⊢
      omega))) (by omega) hU' (by rw [put_defers];exact hd) hp (by rw [e1];exact hrel w hR) hF'
    refine wpT_first (S1:=fun w=>isLoad o.op=true->Rel w0 mu S.bx S.E ρ w) (B:=if isLoad o.op=true then waitsOn all listed i all.size [] else []) ho (Region.noSelect_spec hsel) (fun c a w hq=>(hpan _ _ _ hq).elim) (by simp [detAt,ho,hdet]) (fun w hw _=>hw) ?_ n' lc a w ?_ ?_ ?_ hirc hy (fun _=>hR) ?_
    ·intro j hj
     by_cases hld:isLoad o.op=true
     ·rw [if_pos hld] at hj ⊢;exact (hB j hj).2
     ·rw [if_neg hld] at hj;cases hj
    ·intro j oj hoj hji hun hno
     exact Region.free_spec ho hfree j oj hoj hji (by
      cases hq:listed.getD j true with
      | false=>rfl
      | true=>rw [hset,hq] at hun;simp at hun) hno
    ·by_cases hld:isLoad o.op=true
     ·right
      intro j hj hTj hDj hji
      rw [if_pos hld]
      have hmem:j∈tail:=by
       cases hc:tail.contains j with
       | true=>simpa using hc
       | false=>
        rw [hc] at hTj hDj
        cases hdj:detAt all j<;>simp [hdj] at hTj hDj
      rcases htail with hq|hq
      ·simp [loadAtI,ho,hld] at hq
      ·have:=List.all_eq_true.1 hq j hmem
       have hjl:listed.getD j true=false:=by
        cases hx:listed.getD j true with
        | false=>rfl
        | true=>rw [hset,hx] at hj;simp at hj
       rw [hjl] at this
       simpa using this
     ·left;intro w hw;exact absurd hw hld
    ·intro j hj
     by_cases hld:isLoad o.op=true
     ·rw [if_pos hld] at hj;exact hBl j hj
     ·rw [if_neg hld] at hj;cases hj
    ·refine wpT_mono (fun w' hw'=>?_) n' _ _ _ hrest
     rw [e1] at hw'
     exact hw'.weakE hle
   ·rename_i hfind
    have hHmem:∀ x∈H,x.1∈(r::rs).filter (allocAt (okTy P) all):=fun x hx=>List.mem_filter.2 ⟨by rw [← hr];exact (hH x hx).1,(hH x hx).2.1⟩
    split at h
    ·-- what is left changes no memory, or lies behind what does: every order
     rename_i hall
     have hH0:H=[]:=by
      cases H with
      | nil=>rfl
      | cons x H=>
       exfalso
       have h1:=(hH x (by simp)).1
       have h2:=hHt x (by simp)
       have h3:=(hH x (by simp)).2.1
       have hl:=ready_unlisted h1
       have hlt:x.1<all.size:=by
        rcases Nat.lt_or_ge x.1 all.size with q|q
        ·exact q
        ·obtain ⟨d,T,type,pos,after,e1,_⟩:=allocAt_spec h3
         rw [Array.getElem?_eq_none_iff.2 q] at e1;cases e1
       have h4:=List.all_eq_true.1 hall x.1 (List.mem_range.2 hlt)
       obtain ⟨d,T,type,pos,after,e1,_⟩:=allocAt_spec h3
       have h5:detAt all x.1=false:=by simp [detAt,e1,isDet]
       rw [hl,h2,h5] at h4
       cases h4
     subst hH0
     have hlce:=hnil rfl
     subst hlce
     simp only [List.length_nil,Nat.add_zero] at hm
     subst hm
     have hno:∀ x∈([]:List (Nat×Nat)),x.1≠(0:Nat)->False:=by simp
     have rec0:∀ (i:Nat) (oi:Oper) (S':St) (ρ':Env) (a':Act) (w':World),all[i]? =some oi->lc.getD i true=false->runW P callW all (planW (okTy P) all tail m (lc.setIfInBounds i true)) S' K->(a'.defers=mu.ds/\okO w0 mu)->ρ0<+:ρ'->Rel w0 mu S'.bx S'.E ρ' w'->FrRel ρ' S'.fr a'.tmps->
       (∀ t:Nat,oi.dst≠some t->S.fr[t]? =some none\/S.fr[t]? =none->S'.fr[t]? =some none\/S'.fr[t]? =none)->
       wpT P all Q (fun j=> !tail.contains j&& !detAt all j) (fun j=> !tail.contains j&&detAt all j) (fun w=>Rel w0 mu S'.bx S'.E ρ' w) m (lc.setIfInBounds i true) a' w':=by
      intro i oi S' ρ' a' w' hoi hiu hdraw hd' hp' hR' hF' hfr'
      obtain ⟨n',hn',hU'⟩:=hUset i hiu
      have :n'=m:=by omega
      subst this
      exact drawW_wpT hcall hom hsel hQ hpan n' n' (lc.setIfInBounds i true) (lc.setIfInBounds i true) [] S' ρ' a' w' hdraw (hsz _ _ hls) (hsz _ _ hls) (fun k=>by simp) (by simp) (by simp) (by simp) (hfrStep i oi S' hoi hfr') (by simp) hU' hd' hp' hR' hF'
     refine ⟨fun e=>(by rw [hr] at e;cases e),fun i hi=>?_⟩
     rw [hr] at hi
     obtain ⟨o,ho,h1⟩:=runW_branches h i hi
     have hT:∀ j,lc.getD j true=false->(!tail.contains j&& !detAt all j)=false:=by
      intro j hj
      by_cases hjs:j<all.size
      ·have:=List.all_eq_true.1 hall j (List.mem_range.2 hjs)
       rw [hj] at this
       simp only [Bool.false_or,Bool.or_eq_true] at this
       rcases this with q|q
       ·rw [q];rfl
       ·rw [q];simp
      ·exfalso
       have :¬ j<lc.size:=by omega
       simp [Array.getElem?_eq_none (Nat.le_of_not_lt this)] at hj
     have hir:i∈Region.ready .any all lc:=by rw [hr];exact hi
     have hTi:=hT i (ready_unlisted hir)
     by_cases hdi:(!tail.contains i&&detAt all i)=true
     ·-- a quiet one
      have hdet:isDet o.op=true:=by
       simp only [Bool.and_eq_true,detAt,ho,Option.map_some,Option.getD_some] at hdi
       exact hdi.2
      refine quiet_step hdet hR hF h1 (fun v S' e1 hle hrel hsub hF' hnone hy hdraw=>?_)
      refine YieldsIf.wpOpW ho hy (fun _=>hR) ⟨fun _=>hR,fun _=>rfl,?_⟩
      have hrest:=rec0 i o S' ρ (a.put o.dst v) w ho (ready_unlisted hir) hdraw (by rw [put_defers];exact hd) hp (by rw [e1];exact hrel w hR) hF' (fun t ht hs=>hs.imp (fun q=>hnone t ht q) (fun q=>by
       have hl1:=hF.1
       have hl2:=hF'.1
       have hput:(a.put o.dst v).tmps.size=a.tmps.size:=by unfold Act.put;split<;>simp
       rw [List.getElem?_eq_none_iff] at q ⊢
       omega))
      exact wpT_tail m _ _ _ (fun j hj=>hT j (getD_set_true hj)) hrest
     ·rw [stepW_fr] at h1
      have hst:=stepW_sound (P:=P) (all:=all) (Q:=Q) hcall (o:=o) (K:=fun S'=>frOK S S' o.dst/\runW P callW all (planW (okTy P) all tail m (lc.setIfInBounds i true)) S' K) (w0:=w0) (mu:=mu) (ρ0:=ρ) (a:=a) (w:=w) (ro:=none) ⟨hom.1,hom.2.mono hp⟩ ⟨hd,S,ρ,List.prefix_refl _,hR,hF,h1⟩
      have hnext:∀ a' w',Lift w0 mu ρ (fun S'=>frOK S S' o.dst/\runW P callW all (planW (okTy P) all tail m (lc.setIfInBounds i true)) S' K) a' w'->
        ((!tail.contains i&& !detAt all i)=true->Rel w0 mu S.bx S.E ρ w')/\((!tail.contains i&&detAt all i)=true->w'=w)/\
        wpT P all Q (fun j=> !tail.contains j&& !detAt all j) (fun j=> !tail.contains j&&detAt all j) (fun w=>Rel w0 mu S.bx S.E ρ w) m (lc.setIfInBounds i true) a' w':=by
       intro a' w' hl
       obtain ⟨hd',S',ρ',hp',hR',hF',hfo,hdr⟩:=hl
       refine ⟨fun e=>(by rw [hTi] at e;cases e),fun e=>absurd e hdi,?_⟩
       exact wpT_tail (S:=fun w=>Rel w0 mu S'.bx S'.E ρ' w) m _ a' w' (fun j hj=>hT j (getD_set_true hj)) (rec0 i o S' ρ' a' w' ho (ready_unlisted hir) hdr hd' (hp.trans hp') hR' hF' hfo)
      unfold wpOpIn
      rw [ho]
      dsimp only
      split
      ·rename_i hw
       rw [if_pos hw] at hst
       exact Oper.wpIn_mono hnext hst
      ·rename_i hw
       rw [if_neg hw] at hst
       exact ⟨fun _ _=>trivial,hnext _ _ hst⟩
    split at h
    ·-- no variable waits to be made
     rename_i hfil
     have hH0:H=[]:=by
      cases H with
      | nil=>rfl
      | cons x H=>have:=hHmem x (by simp);rw [hfil] at this;cases this
     subst hH0
     have hlce:=hnil rfl
     subst hlce
     simp only [List.length_nil,Nat.add_zero] at hm
     subst hm
     have hno:∀ x∈([]:List (Nat×Nat)),x.1≠(0:Nat)->False:=by simp
     have rec0:∀ (i:Nat) (oi:Oper) (S':St) (ρ':Env) (a':Act) (w':World),all[i]? =some oi->lc.getD i true=false->runW P callW all (planW (okTy P) all tail m (lc.setIfInBounds i true)) S' K->(a'.defers=mu.ds/\okO w0 mu)->ρ0<+:ρ'->Rel w0 mu S'.bx S'.E ρ' w'->FrRel ρ' S'.fr a'.tmps->
       (∀ t:Nat,oi.dst≠some t->S.fr[t]? =some none\/S.fr[t]? =none->S'.fr[t]? =some none\/S'.fr[t]? =none)->
       wpT P all Q (fun j=> !tail.contains j&& !detAt all j) (fun j=> !tail.contains j&&detAt all j) (fun w=>Rel w0 mu S'.bx S'.E ρ' w) m (lc.setIfInBounds i true) a' w':=by
      intro i oi S' ρ' a' w' hoi hiu hdraw hd' hp' hR' hF' hfr'
      obtain ⟨n',hn',hU'⟩:=hUset i hiu
      have :n'=m:=by omega
      subst this
      exact drawW_wpT hcall hom hsel hQ hpan n' n' (lc.setIfInBounds i true) (lc.setIfInBounds i true) [] S' ρ' a' w' hdraw (hsz _ _ hls) (hsz _ _ hls) (fun k=>by simp) (by simp) (by simp) (by simp) (hfrStep i oi S' hoi hfr') (by simp) hU' hd' hp' hR' hF'
     split at h
     case h_2=>exact h.elim
     split at h
     ·exact h.elim
     rename_i htd
     simp only [runW] at h
     split at h
     case h_2=>exact h.elim
     rename_i o ho
     refine ⟨fun e=>(by rw [hr] at e;cases e),fun i hi=>?_⟩
     have hir:=hi
     rw [hr] at hi
     simp only [List.mem_singleton] at hi;subst hi
     have hndt:(!tail.contains i&&detAt all i)=false:=by
      simp only [Bool.or_eq_true,not_or,Bool.not_eq_true] at htd
      simp [htd.2]
     rw [stepGW_fr] at h
     have hst:=stepGW_sound (P:=P) (all:=all) (Q:=Q) hcall (o:=o) (K:=fun S'=>frOK S S' o.dst/\runW P callW all (planW (okTy P) all tail m (lc.setIfInBounds i true)) S' K) (w0:=w0) (mu:=mu) (ρ0:=ρ) (a:=a) (w:=w) (ro:=none) ⟨hom.1,hom.2.mono hp⟩ hd (List.prefix_refl _) hR hF h
     have hnext:∀ a' w',Lift w0 mu ρ (fun S'=>(S.bx<+:S'.bx/\Mem.le S.E S'.E)/\frOK S S' o.dst/\runW P callW all (planW (okTy P) all tail m (lc.setIfInBounds i true)) S' K) a' w'->
       ((!tail.contains i&& !detAt all i)=true->Rel w0 mu S.bx S.E ρ w')/\((!tail.contains i&&detAt all i)=true->w'=w)/\
       wpT P all Q (fun j=> !tail.contains j&& !detAt all j) (fun j=> !tail.contains j&&detAt all j) (fun w=>Rel w0 mu S.bx S.E ρ w) m (lc.setIfInBounds i true) a' w':=by
      intro a' w' hl
      obtain ⟨hd',S',ρ',hp',hR',hF',⟨hb,hE⟩,hfo,hdr⟩:=hl
      exact ⟨fun _=>hR.fewer hp' hb hE hR',fun e=>(by rw [hndt] at e;cases e),wpT_mono (fun w2 hw2=>hR.fewer hp' hb hE hw2) m _ a' w' (rec0 i o S' ρ' a' w' ho (ready_unlisted hir) hdr hd' (hp.trans hp') hR' hF' hfo)⟩
     unfold wpOpIn
     rw [ho]
     dsimp only
     split
     ·rename_i hw
      rw [if_pos hw] at hst
      exact Oper.wpIn_mono hnext hst
     ·rename_i hw
      rw [if_neg hw] at hst
      exact ⟨fun _ _=>trivial,hnext _ _ hst⟩
    ·rename_i x xs hfil
     have hxmem:∀ y∈x::xs,y∈Region.ready .any all listed/\allocAt (okTy P) all y=true:=fun y hy=>by
      rw [← hfil] at hy
      have:=List.mem_filter.1 hy
      exact ⟨by rw [hr];exact this.1,this.2⟩
     have hHx:∀ z∈H,z.1∈x::xs:=fun z hz=>by rw [← hfil];exact hHmem z hz
     split at h
     ·-- variables alone are ready
      split at h
      case isFalse=>exact h.elim
      rename_i hcond
      simp only [runW] at h
      split at h
      case h_2=>exact h.elim
      rename_i o ho
      simp only [List.all_eq_true,Bool.and_eq_true,Bool.not_eq_true',beq_iff_eq] at hcond
      have hxr:=(hxmem x (by simp)).1
      by_cases hxH:∃ z∈H,z.1=x
      ·-- it has been made already
       obtain ⟨⟨x',g⟩,hz,rfl⟩:=hxH
       obtain ⟨h1,h2,h3⟩:=hH _ hz
       obtain ⟨d,T,type,pos,after,ii,zv,e1,e2,e3,e4,e5,e6⟩:=h3.op
       simp only at e1 e5 e6 h1 h2 hxr ho h hfil hcond hxmem hHx
       rw [ho] at e1
       simp only [Option.some.injEq] at e1
       subst e1
       simp only [opW,e2,e3,if_pos e4] at h
       have hR':=hR.addBox ⟨T,.lst (svCells (.raw zv)),(svCells (.raw zv)).length,true⟩ (some ⟨g,0,none⟩) (fun ρ' _=>by
        have hv:=svCells_den (ρ:=ρ') e4 (v:=zv) rfl
        refine .inl ⟨rfl,zv.cells.toList,hv,?_⟩
        simp only [if_true]
        refine ⟨trivial,[],?_,by simpa using denL_length hv⟩
        simpa using e5) (fun ad ha=>by
        cases ha
        exact ⟨.inl h3.new,h3.apart.1,h3.apart.2⟩)
       have hpp:ρ<+:ρ++[some ⟨g,0,none⟩]:=List.prefix_append _ _
       refine wpT_mono (S:=fun w2=>Rel w0 mu (S.bx++[⟨T,.lst (svCells (.raw zv)),(svCells (.raw zv)).length,true⟩]) S.E (ρ++[some ⟨g,0,none⟩]) w2) (fun w2 hw2=>hR.fewer hpp (List.prefix_append _ _) (Mem.le_refl _) hw2) n lc a w ?_
       have hinj:∀ y∈H,y.1=x'->y=(x',g):=fun y hy e=>nodup_map_inj (f:=fun z:Nat×Nat=>z.1) hnd.1 hy hz e
       have hinj2:∀ y∈H,y.2=g->y=(x',g):=fun y hy e=>nodup_map_inj (f:=fun z:Nat×Nat=>z.2) hnd.2 hy hz e
       refine drawW_wpT hcall hom hsel hQ hpan m n (listed.setIfInBounds x' true) lc (H.filter fun y=>y.1 !=x') _ (ρ++[some ⟨g,0,none⟩]) a w h (hsz _ _ hls) hlc ?_ ?_ (fun y hy=>hHt y (List.mem_filter.1 hy).1) ?_ (hfrStep x' _ _ ho (frOK_put S _ (some d) _ (fun _ q=>q))) ?_ hU hd (hp.trans hpp) (by rw [St.put_bx,St.put_E];exact hR') ?_
       ·intro k
        rw [getD_set,hset]
        by_cases hk:x'=k
        ·subst hk
         have :(H.map (·.1)).contains x'=true:=by simp only [List.contains_eq_mem,decide_eq_true_eq];exact List.mem_map.2 ⟨_,hz,rfl⟩
         rw [this];simp
        ·have :(H.map (·.1)).contains k=((H.filter fun y=>y.1 !=x').map (·.1)).contains k:=by
          rw [Bool.eq_iff_iff]
          simp only [List.contains_eq_mem,decide_eq_true_eq,List.mem_map,List.mem_filter,bne_iff_ne]
          constructor
          ·rintro ⟨y,hy,rfl⟩;exact ⟨y,⟨hy,Ne.symm hk⟩,rfl⟩
          ·rintro ⟨y,⟨hy,_⟩,rfl⟩;exact ⟨y,hy,rfl⟩
         rw [this];simp [hk]
       ·intro y hy
        have hy':=List.mem_filter.1 hy
        have hne:y.1≠x':=by simpa using hy'.2
        obtain ⟨q1,q2,q3⟩:=hH y hy'.1
        refine ⟨ready_mono q1 hne,q2,⟨q3.op,q3.new,?_,?_⟩⟩
        ·intro j b' ad g1 g2 g3
         rw [St.put_bx] at g1
         rcases getElem?_snoc g1 with ⟨gi,g1⟩|⟨rfl,rfl⟩
         ·rcases getElem?_snoc g3 with ⟨_,g3⟩|⟨q,_⟩
          ·exact q3.apart.1 j b' ad g1 g2 g3
          ·have:=hR.len;omega
         ·rcases getElem?_snoc g3 with ⟨q,_⟩|⟨_,q⟩
          ·have:=hR.len;omega
          ·cases q
           intro e
           exact hne (by rw [hinj2 y hy'.1 e.symm])
        ·rw [St.put_E];exact q3.apart.2
       ·exact ⟨hnd.1.sublist (List.filter_sublist.map _),hnd.2.sublist (List.filter_sublist.map _)⟩
       ·have:=filter_ne_length hnd.1 hz
        simp only at this;omega
       ·have hl1:=hF.1
        have hden:SV.den (ρ++[some ⟨g,0,none⟩]) (.loc S.bx.length 0)=some (.pointer (some ⟨g,0,none⟩)):=by
         simp only [SV.den,locDen,← hR.len,List.getElem?_append_right (Nat.le_refl _),Nat.sub_self,List.getElem?_cons_zero]
         rfl
        rcases e6 with e6|e6
        ·exact FrRel.learn (hF.mono hpp) d hden e6
        ·have :S.fr.length<=d:=by rw [hl1];exact Array.getElem?_eq_none_iff.1 e6
         show FrRel _ (S.fr.set d _) a.tmps
         rw [List.set_eq_of_length_le this]
         exact hF.mono hpp
      ·-- one of them is made now
       have hxu:lc.getD x true=false:=by
        rw [hset,ready_unlisted hxr]
        simp only [Bool.false_or,List.contains_eq_mem,decide_eq_false_iff_not]
        intro hm
        obtain ⟨z,hz,e⟩:=List.mem_map.1 hm
        exact hxH ⟨z,hz,e⟩
       obtain ⟨n',rfl,hU'⟩:=hUset x hxu
       refine ⟨fun e=>?_,fun i hi=>?_⟩
       ·have:=ready_more (by rw [hls,hlc]) (fun k hk=>by rw [hset,hk];rfl) hxr hxu
        rw [e] at this;cases this
       have hiu:=ready_unlisted hi
       have hix:i∈x::xs:=by
        by_cases hix:i∈x::xs
        ·exact hix
        ·have:=(hcond x (by simp)).2 i (ready_more (by rw [setAllB_size,hls,hlc]) (fun k hk=>?_) hi ?_)
         ·rw [this];simp
         ·rw [setAllB_getD]
          rw [hset] at hk
          simp only [Bool.or_eq_true] at hk ⊢
          rcases hk with q|q
          ·exact .inl q
          ·right
           simp only [List.contains_eq_mem,decide_eq_true_eq] at q ⊢
           obtain ⟨z,hz,rfl⟩:=List.mem_map.1 q
           refine List.mem_filter.2 ⟨hHx z hz,?_⟩
           simp only [bne_iff_ne]
           intro e;exact hxH ⟨z,hz,e⟩
         ·rw [setAllB_getD]
          rw [hset] at hiu
          simp only [Bool.or_eq_false_iff] at hiu ⊢
          refine ⟨hiu.1,?_⟩
          simp only [List.contains_eq_mem,decide_eq_false_iff_not]
          intro hm;exact hix (List.mem_filter.1 hm).1
       have hiH:∀ z∈H,z.1≠i:=by
        rintro z hz rfl
        rw [hset] at hiu
        have :(H.map (·.1)).contains z.1=true:=by
         simp only [List.contains_eq_mem,decide_eq_true_eq];exact List.mem_map.2 ⟨z,hz,rfl⟩
        rw [this] at hiu;simp at hiu
       obtain ⟨n2,hn2,hU2⟩:=hUset i hiu
       have :n2=n':=by omega
       subst this
       exact hide i (hxmem i hix).1 (hxmem i hix).2 (hcond i hix).1 hiH n2 rfl hU2
     ·-- one other operation is ready
      rename_i g hg
      split at h
      case isFalse=>exact h.elim
      rename_i hcond
      simp only [runW] at h
      split at h
      case h_2=>exact h.elim
      rename_i o ho
      simp only [Bool.and_eq_true,Bool.not_eq_true',Bool.or_eq_false_iff,List.all_eq_true,beq_iff_eq] at hcond
      obtain ⟨⟨⟨hgt,hgd⟩,htl⟩,hafter⟩:=hcond
      have hgmem:g∈(r::rs).filter (fun i=> !allocAt (okTy P) all i):=by rw [hg];simp
      have hgr:g∈Region.ready .any all listed:=by rw [hr];exact (List.mem_filter.1 hgmem).1
      have hgna:allocAt (okTy P) all g=false:=by simpa using (List.mem_filter.1 hgmem).2
      have hgH:∀ z∈H,z.1≠g:=by rintro z hz rfl;rw [(hH z hz).2.1] at hgna;cases hgna
      have hgu:lc.getD g true=false:=by
       rw [hset,ready_unlisted hgr]
       simp only [Bool.false_or,List.contains_eq_mem,decide_eq_false_iff_not]
       intro hm
       obtain ⟨z,hz,e⟩:=List.mem_map.1 hm
       exact hgH z hz e
      obtain ⟨n',rfl,hU'⟩:=hUset g hgu
      refine ⟨fun e=>?_,fun i hi=>?_⟩
      ·have:=ready_more (by rw [hls,hlc]) (fun k hk=>by rw [hset,hk];rfl) hgr hgu
       rw [e] at this;cases this
      -- what may come up
      have hcase:i=g\/(i∈x::xs/\∀ z∈H,z.1≠i):=by
       have hiu:=ready_unlisted hi
       by_cases hix:i∈x::xs
       ·refine .inr ⟨hix,?_⟩
        rintro z hz rfl
        rw [hset] at hiu
        have :(H.map (·.1)).contains z.1=true:=by
         simp only [List.contains_eq_mem,decide_eq_true_eq];exact List.mem_map.2 ⟨z,hz,rfl⟩
        rw [this] at hiu;simp at hiu
       ·left
        refine hafter i (ready_more (by rw [setAllB_size,hls,hlc]) (fun k hk=>?_) hi ?_)
        ·rw [setAllB_getD]
         rw [hset] at hk
         simp only [Bool.or_eq_true] at hk ⊢
         rcases hk with q|q
         ·exact .inl q
         ·right
          simp only [List.contains_eq_mem,decide_eq_true_eq] at q ⊢
          obtain ⟨z,hz,rfl⟩:=List.mem_map.1 q
          exact hHx z hz
        ·rw [setAllB_getD]
         rw [hset] at hiu
         simp only [Bool.or_eq_false_iff] at hiu ⊢
         refine ⟨hiu.1,?_⟩
         simp only [List.contains_eq_mem,decide_eq_false_iff_not];exact hix
      rcases hcase with rfl|⟨hix,hiH⟩
      ·have hndt:(!tail.contains i&&detAt all i)=false:=by rw [hgd];simp
       rw [stepGW_fr] at h
       have hst:=stepGW_sound (P:=P) (all:=all) (Q:=Q) hcall (o:=o) (K:=fun S'=>frOK S S' o.dst/\runW P callW all (planW (okTy P) all tail m (listed.setIfInBounds i true)) S' K) (w0:=w) (mu:=⟨lvB S.bx ρ,S.E,Ω,mu.ds⟩) (ρ0:=ρ) (a:=a) (w:=w) (ro:=none) ⟨rfl,hom.2.mono hp⟩ ⟨hd.1,hom.1 ▸ okO.at (E:=S.E) (ds:=mu.ds) hd.2 hR.keep (fun g hg=>by
        obtain ⟨j,b,ad,q1,q2,q3,rfl⟩:=lvB_of hg
        exact hR.bsrc j b ad q1 q3 q2)⟩ (List.prefix_refl _) hR.here hF h
       have hnext:∀ a' w',(Lift w ⟨lvB S.bx ρ,S.E,Ω,mu.ds⟩ ρ (fun S'=>(S.bx<+:S'.bx/\Mem.le S.E S'.E)/\frOK S S' o.dst/\runW P callW all (planW (okTy P) all tail m (listed.setIfInBounds i true)) S' K) a' w'/\∀ t:Nat,o.dst≠some t->a'.tmps[t]? =a.tmps[t]?)->
         ((!tail.contains i&& !detAt all i)=true->Rel w0 mu S.bx S.E ρ w')/\((!tail.contains i&&detAt all i)=true->w'=w)/\
         wpT P all Q (fun j=> !tail.contains j&& !detAt all j) (fun j=> !tail.contains j&&detAt all j) (fun w=>Rel w0 mu S.bx S.E ρ w) n' (lc.setIfInBounds i true) a' w':=by
        rintro a' w' ⟨hl,htm⟩
        obtain ⟨hd',S',ρ',hp',hR2,hF',⟨hb,hE⟩,hfo,hdr⟩:=hl
        have hR':=hR.compose hR2
        have hglv:∀ z∈H,z.2 ∉ lvB S.bx ρ:=fun z hz hm=>by
         obtain ⟨j,b,ad,q1,q2,q3,q4⟩:=lvB_of hm
         exact (hH z hz).2.2.apart.1 j b ad q1 q3 q2 q4
        refine ⟨fun _=>hR.fewer hp' hb hE hR',fun e=>(by rw [hndt] at e;cases e),wpT_mono (fun w2 hw2=>hR.fewer hp' hb hE hw2) n' _ a' w' ?_⟩
        refine drawW_wpT hcall hom hsel hQ hpan m n' (listed.setIfInBounds i true) (lc.setIfInBounds i true) H S' ρ' a' w' hdr (hsz _ _ hls) (hsz _ _ hlc) (hsetStep i hgH) (hstepH i o ho hgr hgH S' ρ' a' w' htm (fun z hz=>hR2.keep.block _ (hHlt z hz) (hglv z hz)) (fun z hz=>⟨fun j b' ad q1 q2 q3=>?_,fun v cs q1 q2=>?_⟩)) hHt hnd (hfrStep i o S' ho hfo) (by omega) hU' ⟨hd'.1,hd.2⟩ (hp.trans hp') hR' hF'
        ·rcases hR2.bsrc j b' ad q1 q2 q3 with q|q
         ·have:=hHlt z hz;omega
         ·rintro e;rw [e] at q;exact hglv z hz q
        ·rcases hR2.src v cs q1 q2 with ⟨bb,e1,e2⟩|⟨v0,cs0,e1,e2,e3⟩
         ·rw [e1]
          rintro e
          simp only [Option.some.injEq] at e
          rcases e2 with q|q
          ·have:=hHlt z hz;omega
          ·rw [e] at q;exact hglv z hz q
         ·rw [e3];exact (hH z hz).2.2.apart.2 v0 cs0 e1 e2
       have hw0:wpOpIn Fence.wide 0 P all Q i (Lift w ⟨lvB S.bx ρ,S.E,Ω,mu.ds⟩ ρ (fun S'=>(S.bx<+:S'.bx/\Mem.le S.E S'.E)/\frOK S S' o.dst/\runW P callW all (planW (okTy P) all tail m (listed.setIfInBounds i true)) S' K)) a w:=by
        unfold wpOpIn
        rw [ho]
        dsimp only
        split
        ·rename_i hw
         rw [if_pos hw] at hst
         exact hst
        ·rename_i hw
         rw [if_neg hw] at hst
         exact ⟨fun _ _=>trivial,hst⟩
       exact wpOpIn_mono hnext (wpOp_tmps ho hw0)
      ·have hiu:=ready_unlisted hi
       obtain ⟨n2,hn2,hU2⟩:=hUset i hiu
       have :n2=n':=by omega
       subst this
       exact hide i (hxmem i hix).1 (hxmem i hix).2 (htl i hix) hiH n2 rfl hU2
     ·exact h.elim
termination_by m+n
theorem drawF_wpT (hcall:CallOK Ω P callW) (hom:mu.om=Ω/\okE Ω ρ0) (hsel:Region.noSelect all=true) (hQ:∀ a w,Lift w0 mu ρ0 K a w->Q .normal a w) (hpan:∀ c a w,¬ Q (.panic c) a w)
  (n:Nat) (listed:Array Bool) (S:St) (ρ:Env) (a:Act) (w:World) (h:runW P callW all (planF (okTy P) all tail n listed) S K) (hls:listed.size=all.size)
  (hfr:∀ r d,allocAt (okTy P) all r=true->listed.getD r true=false->(all[r]?).bind (·.dst)=some d->S.fr[d]? =some none\/S.fr[d]? =none)
  (hU:∃ U:List Nat,(∀ k,listed.getD k true=false->k∈U)/\U.length<=n) (hd:a.defers=mu.ds/\okO w0 mu) (hp:ρ0<+:ρ) (hR:Rel w0 mu S.bx S.E ρ w) (hF:FrRel ρ S.fr a.tmps):
   wpT P all Q (fun j=> !tail.contains j&& !detAt all j) (fun j=> !tail.contains j&&detAt all j) (fun w=>Rel w0 mu S.bx S.E ρ w) n listed a w:=by
 have hsz:∀ (l:Array Bool) i,l.size=all.size->(l.setIfInBounds i true).size=all.size:=fun l i hl=>by simpa using hl
 have hUset:∀ i,listed.getD i true=false->∃ n',n=n'+1/\∃ U:List Nat,(∀ k,(listed.setIfInBounds i true).getD k true=false->k∈U)/\U.length<=n':=by
  intro i hi
  obtain ⟨U,h1,h2⟩:=hU
  have hiU:=h1 i hi
  have hpos:0<U.length:=List.length_pos_of_mem hiU
  refine ⟨n-1,by omega,U.erase i,fun k hk=>?_,?_⟩
  ·rw [getD_set] at hk
   simp only [Bool.or_eq_false_iff,decide_eq_false_iff_not] at hk
   exact (List.mem_erase_of_ne (Ne.symm hk.2)).2 (h1 k hk.1)
  ·rw [List.length_erase_of_mem hiU];omega
 have hfrStep:∀ (i:Nat) (oi:Oper) (S':St),all[i]? =some oi->(∀ t:Nat,oi.dst≠some t->S.fr[t]? =some none\/S.fr[t]? =none->S'.fr[t]? =some none\/S'.fr[t]? =none)->
   ∀ r d,allocAt (okTy P) all r=true->(listed.setIfInBounds i true).getD r true=false->(all[r]?).bind (·.dst)=some d->S'.fr[d]? =some none\/S'.fr[d]? =none:=by
  intro i oi S' hoi hS r d hr hl hdst
  rw [getD_set] at hl
  simp only [Bool.or_eq_false_iff,decide_eq_false_iff_not] at hl
  obtain ⟨d',T',type',pos',after',f1,_,f3⟩:=allocAt_spec hr
  rw [f1] at hdst
  simp only [Option.bind_some,Option.some.injEq] at hdst
  subst hdst
  exact hS d' (f3 i oi hoi hl.2) (hfr r d' hr hl.1 (by rw [f1];rfl))
 cases n with
 | zero=>
  simp only [planF] at h
  split at h
  ·rename_i hr;exact ⟨hr,hQ a w ⟨hd,S,ρ,hp,hR,hF,h⟩⟩
  ·exact h.elim
 | succ m=>
  have h0:=h
  simp only [planF] at h
  split at h
  ·rename_i hr
   exact ⟨fun _=>hQ a w ⟨hd,S,ρ,hp,hR,hF,h⟩,fun i hi=>by rw [hr] at hi;cases hi⟩
  ·rename_i r rs hr
   have rec0:∀ (i:Nat) (oi:Oper) (S':St) (ρ':Env) (a':Act) (w':World),all[i]? =some oi->listed.getD i true=false->runW P callW all (planF (okTy P) all tail m (listed.setIfInBounds i true)) S' K->(a'.defers=mu.ds/\okO w0 mu)->ρ0<+:ρ'->Rel w0 mu S'.bx S'.E ρ' w'->FrRel ρ' S'.fr a'.tmps->
     (∀ t:Nat,oi.dst≠some t->S.fr[t]? =some none\/S.fr[t]? =none->S'.fr[t]? =some none\/S'.fr[t]? =none)->
     wpT P all Q (fun j=> !tail.contains j&& !detAt all j) (fun j=> !tail.contains j&&detAt all j) (fun w=>Rel w0 mu S'.bx S'.E ρ' w) m (listed.setIfInBounds i true) a' w':=by
    intro i oi S' ρ' a' w' hoi hiu hdraw hd' hp' hR' hF' hfr'
    obtain ⟨n',hn',hU'⟩:=hUset i hiu
    have :n'=m:=by omega
    subst this
    exact drawF_wpT hcall hom hsel hQ hpan n' (listed.setIfInBounds i true) S' ρ' a' w' hdraw (hsz _ _ hls) (hfrStep i oi S' hoi hfr') hU' hd' hp' hR' hF'
   have frQ:∀ (o:Oper) (v:Value) (S':St),FrRel ρ S'.fr (a.put o.dst v).tmps->(∀ t:Nat,o.dst≠some t->S.fr[t]? =some none->S'.fr[t]? =some none)->
     (∀ t:Nat,o.dst≠some t->S.fr[t]? =some none\/S.fr[t]? =none->S'.fr[t]? =some none\/S'.fr[t]? =none):=fun o v S' hF' hnone t ht hs=>hs.imp (fun q=>hnone t ht q) (fun q=>by
    have hl1:=hF.1
    have hl2:=hF'.1
    have hput:(a.put o.dst v).tmps.size=a.tmps.size:=by unfold Act.put;split<;>simp
    rw [List.getElem?_eq_none_iff] at q ⊢
    omega)
   split at h
   ·-- a quiet operation is taken first
    rename_i i hfind
    simp only [runW] at h
    split at h
    case h_2=>exact h.elim
    rename_i o ho
    have hp1:=List.find?_some hfind
    simp only [quietFirst,Bool.and_eq_true,Bool.not_eq_true',detAt,ho,Option.map_some,Option.getD_some,Bool.or_eq_true] at hp1
    obtain ⟨⟨⟨hdet,hnt⟩,hfree⟩,htail⟩:=hp1
    have hir:i∈Region.ready .any all listed:=by rw [hr];exact List.mem_of_find?_eq_some hfind
    have hiu:=ready_unlisted hir
    have hB:=waitsOn_spec (ops:=all) (listed:=listed) (k:=i) all.size [] (by simp)
    have hBl:∀ j∈waitsOn all listed i all.size [],listed.getD j true=false:=fun j hj=>(hB j hj).1
    refine quiet_step hdet hR hF h (fun v S' e1 hle hrel hsub hF' hnone hy hdraw=>?_)
    have hrest:=rec0 i o S' ρ (a.put o.dst v) w ho hiu hdraw (by rw [put_defers];exact hd) hp (by rw [e1];exact hrel w hR) hF' (frQ o v S' hF' hnone)
    refine wpT_first (S1:=fun w=>isLoad o.op=true->Rel w0 mu S.bx S.E ρ w) (B:=if isLoad o.op=true then waitsOn all listed i all.size [] else []) ho (Region.noSelect_spec hsel) (fun c a w hq=>(hpan _ _ _ hq).elim) (by simp [detAt,ho,hdet]) (fun w hw _=>hw) ?_ m listed a w ?_ ?_ ?_ hir hy (fun _=>hR) ?_
    ·intro j hj
     by_cases hld:isLoad o.op=true
     ·rw [if_pos hld] at hj ⊢;exact (hB j hj).2
     ·rw [if_neg hld] at hj;cases hj
    ·intro j oj hoj hji hun hno
     exact Region.free_spec ho hfree j oj hoj hji hun hno
    ·by_cases hld:isLoad o.op=true
     ·right
      intro j hj hTj hDj hji
      rw [if_pos hld]
      have hmem:j∈tail:=by
       cases hc:tail.contains j with
       | true=>simpa using hc
       | false=>
        rw [hc] at hTj hDj
        cases hdj:detAt all j<;>simp [hdj] at hTj hDj
      rcases htail with hq|hq
      ·simp [loadAtI,ho,hld] at hq
      ·have:=List.all_eq_true.1 hq j hmem
       rw [hj] at this
       simpa using this
     ·left;intro w hw;exact absurd hw hld
    ·intro j hj
     by_cases hld:isLoad o.op=true
     ·rw [if_pos hld] at hj;exact hBl j hj
     ·rw [if_neg hld] at hj;cases hj
    ·refine wpT_mono (fun w' hw'=>?_) m _ _ _ hrest
     rw [e1] at hw'
     exact hw'.weakE hle
   ·rename_i hfind
    split at h
    ·-- what is left changes no memory, or lies behind what does: every order
     rename_i hall
     refine ⟨fun e=>(by rw [hr] at e;cases e),fun i hi=>?_⟩
     rw [hr] at hi
     obtain ⟨o,ho,h1⟩:=runW_branches h i hi
     have hT:∀ j,listed.getD j true=false->(!tail.contains j&& !detAt all j)=false:=by
      intro j hj
      by_cases hjs:j<all.size
      ·have:=List.all_eq_true.1 hall j (List.mem_range.2 hjs)
       rw [hj] at this
       simp only [Bool.false_or,Bool.or_eq_true] at this
       rcases this with q|q
       ·rw [q];rfl
       ·rw [q];simp
      ·exfalso
       have :¬ j<listed.size:=by omega
       simp [Array.getElem?_eq_none (Nat.le_of_not_lt this)] at hj
     have hir:i∈Region.ready .any all listed:=by rw [hr];exact hi
     have hTi:=hT i (ready_unlisted hir)
     by_cases hdi:(!tail.contains i&&detAt all i)=true
     ·-- a quiet one
      have hdet:isDet o.op=true:=by
       simp only [Bool.and_eq_true,detAt,ho,Option.map_some,Option.getD_some] at hdi
       exact hdi.2
      refine quiet_step hdet hR hF h1 (fun v S' e1 hle hrel hsub hF' hnone hy hdraw=>?_)
      refine YieldsIf.wpOpW ho hy (fun _=>hR) ⟨fun _=>hR,fun _=>rfl,?_⟩
      have hrest:=rec0 i o S' ρ (a.put o.dst v) w ho (ready_unlisted hir) hdraw (by rw [put_defers];exact hd) hp (by rw [e1];exact hrel w hR) hF' (frQ o v S' hF' hnone)
      exact wpT_tail m _ _ _ (fun j hj=>hT j (getD_set_true hj)) hrest
     ·rw [stepW_fr] at h1
      have hst:=stepW_sound (P:=P) (all:=all) (Q:=Q) hcall (o:=o) (K:=fun S'=>frOK S S' o.dst/\runW P callW all (planF (okTy P) all tail m (listed.setIfInBounds i true)) S' K) (w0:=w0) (mu:=mu) (ρ0:=ρ) (a:=a) (w:=w) (ro:=none) ⟨hom.1,hom.2.mono hp⟩ ⟨hd,S,ρ,List.prefix_refl _,hR,hF,h1⟩
      have hnext:∀ a' w',Lift w0 mu ρ (fun S'=>frOK S S' o.dst/\runW P callW all (planF (okTy P) all tail m (listed.setIfInBounds i true)) S' K) a' w'->
        ((!tail.contains i&& !detAt all i)=true->Rel w0 mu S.bx S.E ρ w')/\((!tail.contains i&&detAt all i)=true->w'=w)/\
        wpT P all Q (fun j=> !tail.contains j&& !detAt all j) (fun j=> !tail.contains j&&detAt all j) (fun w=>Rel w0 mu S.bx S.E ρ w) m (listed.setIfInBounds i true) a' w':=by
       intro a' w' hl
       obtain ⟨hd',S',ρ',hp',hR',hF',hfo,hdr⟩:=hl
       refine ⟨fun e=>(by rw [hTi] at e;cases e),fun e=>absurd e hdi,?_⟩
       exact wpT_tail (S:=fun w=>Rel w0 mu S'.bx S'.E ρ' w) m _ a' w' (fun j hj=>hT j (getD_set_true hj)) (rec0 i o S' ρ' a' w' ho (ready_unlisted hir) hdr hd' (hp.trans hp') hR' hF' hfo)
      unfold wpOpIn
      rw [ho]
      dsimp only
      split
      ·rename_i hw
       rw [if_pos hw] at hst
       exact Oper.wpIn_mono hnext hst
      ·rename_i hw
       rw [if_neg hw] at hst
       exact ⟨fun _ _=>trivial,hnext _ _ hst⟩
    split at h
    ·-- every order of what only adds
     rename_i hcond
     simp only [Bool.and_eq_true,List.all_eq_true,Bool.not_eq_true'] at hcond
     refine ⟨fun e=>(by rw [hr] at e;cases e),fun i hi=>?_⟩
     have hir:=hi
     rw [hr] at hi
     have hnt:tail.contains i=false:=hcond.1 i hi
     obtain ⟨o,ho,h1,h2⟩:=runW_branchesG h i hi
     cases hD:detAt all i with
     | true=>
      have hdet:isDet o.op=true:=by
       simp only [detAt,ho,Option.map_some,Option.getD_some] at hD
       exact hD
      refine quiet_step hdet hR hF (h1 hD) (fun v S' e1 hle hrel hsub hF' hnone hy hdraw=>?_)
      refine YieldsIf.wpOpW ho hy (fun _=>hR) ⟨fun _=>hR,fun _=>rfl,?_⟩
      have hrest:=rec0 i o S' ρ (a.put o.dst v) w ho (ready_unlisted hir) hdraw (by rw [put_defers];exact hd) hp (by rw [e1];exact hrel w hR) hF' (frQ o v S' hF' hnone)
      refine wpT_mono (fun w' hw'=>?_) m _ _ _ hrest
      rw [e1] at hw'
      exact hw'.weakE hle
     | false=>
      have h2:=h2 hD
      have hndt:(!tail.contains i&&detAt all i)=false:=by rw [hD];simp
      rw [stepGW_fr] at h2
      have hst:=stepGW_sound (P:=P) (all:=all) (Q:=Q) hcall (o:=o) (K:=fun S'=>frOK S S' o.dst/\runW P callW all (planF (okTy P) all tail m (listed.setIfInBounds i true)) S' K) (w0:=w0) (mu:=mu) (ρ0:=ρ) (a:=a) (w:=w) (ro:=none) ⟨hom.1,hom.2.mono hp⟩ hd (List.prefix_refl _) hR hF h2
      have hnext:∀ a' w',Lift w0 mu ρ (fun S'=>(S.bx<+:S'.bx/\Mem.le S.E S'.E)/\frOK S S' o.dst/\runW P callW all (planF (okTy P) all tail m (listed.setIfInBounds i true)) S' K) a' w'->
        ((!tail.contains i&& !detAt all i)=true->Rel w0 mu S.bx S.E ρ w')/\((!tail.contains i&&detAt all i)=true->w'=w)/\
        wpT P all Q (fun j=> !tail.contains j&& !detAt all j) (fun j=> !tail.contains j&&detAt all j) (fun w=>Rel w0 mu S.bx S.E ρ w) m (listed.setIfInBounds i true) a' w':=by
       intro a' w' hl
       obtain ⟨hd',S',ρ',hp',hR',hF',⟨hb,hE⟩,hfo,hdr⟩:=hl
       exact ⟨fun _=>hR.fewer hp' hb hE hR',fun e=>(by rw [hndt] at e;cases e),wpT_mono (fun w2 hw2=>hR.fewer hp' hb hE hw2) m _ a' w' (rec0 i o S' ρ' a' w' ho (ready_unlisted hir) hdr hd' (hp.trans hp') hR' hF' hfo)⟩
      unfold wpOpIn
      rw [ho]
      dsimp only
      split
      ·rename_i hw
       rw [if_pos hw] at hst
       exact Oper.wpIn_mono hnext hst
      ·rename_i hw
       rw [if_neg hw] at hst
       exact ⟨fun _ _=>trivial,hnext _ _ hst⟩
    ·exact drawW_wpT hcall hom hsel hQ hpan (m+1) (m+1) listed listed [] S ρ a w h hls hls (fun k=>by simp) (by simp) (by simp) (by simp) hfr (by simp) hU hd hp hR hF
theorem forgetL_some (ds:List Nat):∀ (k:Nat) (l:List (Option SV)) (i:Nat) (s:SV),(forgetL ds k l)[i]? =some (some s)->l[i]? =some (some s)/\(k+i) ∉ ds
 | _,[],i,s,h=>by simp [forgetL] at h
 | k,o::l,0,s,h=>by
  simp only [forgetL,List.getElem?_cons_zero,Option.some.injEq] at h ⊢
  split at h
  ·cases h
  ·rename_i hc;exact ⟨h,by simpa using hc⟩
 | k,o::l,i+1,s,h=>by
  simp only [forgetL,List.getElem?_cons_succ] at h ⊢
  have:=forgetL_some ds (k+1) l i s h
  rwa [show k+1+i=k+(i+1) by omega] at this
theorem forgetL_length (ds:List Nat):∀ (k:Nat) (l:List (Option SV)),(forgetL ds k l).length=l.length
 | _,[]=>rfl
 | k,_::l=>by simp [forgetL,forgetL_length ds (k+1) l]
theorem wpOpW {ro:Option Nat} {ops:Array Oper} {Q:Exit->Act->World->Prop} {i:Nat} (hnd:∀ (o:Oper),ops[i]? =some o->∀ c,o.op≠.defer c) {K K':Act->World->Prop} (hK:∀ a w,K a w->K' a w) {a:Act} {w:World}
  (h:wpOpIn Fence.wide 0 P ops Q i K a w):wpOpIn (fW ro) 0 P ops Q i K' a w:=by
 unfold wpOpIn at *
 split
 ·rename_i ho;rw [ho] at h;exact hK _ _ h
 ·rename_i o ho
  rw [ho] at h
  simp only at h
  split
  ·rename_i hw
   rw [if_pos hw] at h
   have h:=Oper.wpIn_mono hK h
   unfold Oper.wpIn at *
   refine ⟨fun _ _=>trivial,?_⟩
   have h2:=h.2
   rw [Oper.semAt_eq _ _ _ (hnd o ho)] at h2 ⊢
   exact h2
  ·rename_i hw
   rw [if_neg hw] at h
   exact ⟨fun _ _=>trivial,hK _ _ h.2⟩
theorem wpAnyW {ro:Option Nat} {ops:Array Oper} {Q:Exit->Act->World->Prop} (hnd:∀ (i:Nat) (o:Oper),ops[i]? =some o->∀ c,o.op≠.defer c):∀ (n:Nat) (listed:Array Bool) (a:Act) (w:World),wpAnyIn Fence.wide 0 P .any ops Q n listed a w->wpAnyIn (fW ro) 0 P .any ops Q n listed a w
 | 0,_,_,_,h=>h
 | n+1,_,_,_,h=>⟨h.1,fun i hi=>wpOpW (hnd i) (fun a w x=>wpAnyW hnd n _ a w x) (h.2 i hi)⟩
theorem noDefer_spec {ops:Array Oper} (h:noDefer ops=true) (i:Nat) (o:Oper) (ho:ops[i]? =some o) (c:Call):o.op≠.defer c:=by
 intro e
 have h1:=List.all_eq_true.1 h o (List.mem_of_getElem? (by rw [Array.getElem?_toList];exact ho))
 rw [e] at h1;cases h1
theorem drawW_sound {ro:Option Nat} (hcall:CallOK Ω P callW) (hom:mu.om=Ω/\okE Ω ρ0) (hm:P.follows .mixedOrders=true) (hsel:Region.noSelect all=true) (hnd:ro≠none->noDefer all=true) {id:Nat} (hQ:∀ a w,Lift w0 mu ρ0 K a w->Q .normal a w) {a:Act} {w:World}
  (h:Lift w0 mu ρ0 (fun S=>drawW P callW all tail all.size (Array.replicate all.size false) S K) a w):(Code.region id all true).wpIn (fW ro) 0 P Q a w:=by
 obtain ⟨hd,S,ρ,hp,hR,hF,h⟩:=h
 have hF':FrRel ρ (S.forget (allocDsts P all)).fr a.tmps:=⟨by rw [← hF.1];exact forgetL_length _ _ _,fun i s hs=>hF.2 i s (forgetL_some _ 0 _ i s hs).1⟩
 have hfr:∀ r d,allocAt (okTy P) all r=true->(Array.replicate all.size false).getD r true=false->(all[r]?).bind (·.dst)=some d->(S.forget (allocDsts P all)).fr[d]? =some none\/(S.forget (allocDsts P all)).fr[d]? =none:=by
  intro r d hr _ hdst
  have hrs:r<all.size:=by
   rcases Nat.lt_or_ge r all.size with q|q
   ·exact q
   ·rw [Array.getElem?_eq_none q] at hdst;cases hdst
  have hmem:d∈allocDsts P all:=List.mem_filterMap.2 ⟨r,List.mem_range.2 hrs,by rw [if_pos hr];exact hdst⟩
  cases hx:(S.forget (allocDsts P all)).fr[d]? with
  | none=>exact .inr rfl
  | some o=>
   cases o with
   | none=>exact .inl rfl
   | some s=>
    have:=(forgetL_some _ 0 _ d s hx).2
    rw [Nat.zero_add] at this
    exact absurd hmem this
 have h1:(Code.region id all true).wpIn (fW ro) 0 P (fun e a w=>match e with | .normal=>Lift w0 mu ρ0 K a w|_=>False) a w:=by
  refine wpIn_region_any hm ?_
  have h2:wpAnyIn Fence.wide 0 P .any all (fun e a w=>match e with | .normal=>Lift w0 mu ρ0 K a w|_=>False) all.size (Array.replicate all.size false) a { w with drawn:=w.drawn+1 }:=wpT_any _ _ _ _ (drawF_wpT hcall hom hsel (fun a w x=>x) (fun c a w x=>x) all.size (Array.replicate all.size false) (S.forget (allocDsts P all)) ρ a _ h (by simp) hfr ⟨List.range all.size,fun k hk=>by
   rcases Nat.lt_or_ge k all.size with q|q
   ·exact List.mem_range.2 q
   ·simp [Nat.not_lt.2 q] at hk,by simp⟩ hd hp (hR.drew _) hF')
  cases ro with
  | none=>exact h2
  | some l=>exact wpAnyW (noDefer_spec (hnd (fun e=>by cases e))) _ _ _ _ h2
 exact Code.wpIn_mono (fun e a w x=>by cases e<;>first|exact hQ a w x|exact x.elim) h1
end
end Go.Sx
namespace Go.Sx
open Go.RowKit (Below)
section
variable {P:Program} {callW:CallT}
theorem LiftX.base {w0 w1:World} {mu mu1:Fm} {ρ0:Env} {a:Act} {w:World} (hb:Base w0 mu w1 mu1) (ho:okO w0 mu) (h:LiftX w1 mu1 ρ0 a w):LiftX w0 mu ρ0 a w:=
 let ⟨c,h1,_,w2,mu2,h2,h3⟩:=h;⟨c,hb.om ▸ h1,ho,w2,mu2,hb.trans h2,h3⟩
theorem LiftQ_base {w0 w1:World} {mu mu1:Fm} {ρ0:Env} {Q:Ex->St->Prop} (hb:Base w0 mu w1 mu1) (ho:okO w0 mu):∀ (e:Exit) (a:Act) (w:World),LiftQ w1 mu1 ρ0 Q e a w->LiftQ w0 mu ρ0 Q e a w
 | .normal,_,_,x=>LiftR.base hb x
 | .exit _,_,_,x=>LiftR.base hb x
 | .ret,_,_,x=>x.imp (LiftR.base hb) (LiftX.base hb ho)
 | .panic _,_,_,x=>x
 | .goto _,_,_,x=>x
 | .outgrown,_,_,x=>x
theorem thenQ {w0:World} {mu:Fm} {ρ0:Env} {Q:Ex->St->Prop} {M:St->Prop} {N:Act->World->Prop} (hN:∀ a w,LiftR w0 mu ρ0 M a w->N a w):
  ∀ (e:Exit) (a:Act) (w:World),LiftQ w0 mu ρ0 (fun e S'=>match e with | .normal=>M S'| .exit id=>Q (.exit id) S'| .ret=>Q .ret S') e a w->Exit.then N (LiftQ w0 mu ρ0 Q) e a w
 | .normal,a,w,x=>hN a w x
 | .exit _,_,_,x=>x
 | .ret,_,_,x=>x
 | .panic _,_,_,x=>x
 | .goto _,_,_,x=>x
 | .outgrown,_,_,x=>x
theorem then_mono {N N':Act->World->Prop} {R:Exit->Act->World->Prop} (h:∀ a w,N a w->N' a w):∀ (e:Exit) (a:Act) (w:World),Exit.then N R e a w->Exit.then N' R e a w
 | .normal,a,w,x=>h a w x
 | .exit _,_,_,x=>x
 | .ret,_,_,x=>x
 | .panic _,_,_,x=>x
 | .goto _,_,_,x=>x
 | .outgrown,_,_,x=>x
theorem then_mono2 {N:Act->World->Prop} {R R':Exit->Act->World->Prop} (h:∀ e a w,R e a w->R' e a w):∀ (e:Exit) (a:Act) (w:World),Exit.then N R e a w->Exit.then N R' e a w
 | .normal,_,_,x=>x
 | .exit _,_,_,x=>h _ _ _ x
 | .ret,_,_,x=>h _ _ _ x
 | .panic _,_,_,x=>h _ _ _ x
 | .goto _,_,_,x=>h _ _ _ x
 | .outgrown,_,_,x=>h _ _ _ x
theorem LoopLfp.fold {body:Code} {R:Exit->Act->World->Prop} {a:Act} {w:World} (h:body.wpIn Fence.wide 0 P (Exit.then (LoopLfp P body R) R) a w):LoopLfp P body R a w:=
 fun I hI=>hI a w (Code.wpIn_mono (then_mono fun _ _ x=>x I hI) h)
theorem LoopLfp.unfold {body:Code} {R:Exit->Act->World->Prop} {a:Act} {w:World} (h:LoopLfp P body R a w):body.wpIn Fence.wide 0 P (Exit.then (LoopLfp P body R) R) a w:=
 h (fun a w=>body.wpIn Fence.wide 0 P (Exit.then (LoopLfp P body R) R) a w) fun _ _ x=>Code.wpIn_mono (then_mono fun _ _ y=>LoopLfp.fold y) x
theorem LoopLfp.mono {body:Code} {R R':Exit->Act->World->Prop} (hR:∀ e a w,R e a w->R' e a w) {a:Act} {w:World} (h:LoopLfp P body R a w):LoopLfp P body R' a w:=
 fun I hI=>h I fun a w x=>hI a w (Code.wpIn_mono (then_mono2 hR) x)
theorem round_arrives {body:Code} {R:Exit->Act->World->Prop} {I:Act->World->Prop}
  (hI:∀ a w,I a w->∀ (b:Frame) (k:List Item) (cs:List Frame),∃ e a' w',R e a' w'/\Arrives P (lone (b.at a (.inLoop body::k)) cs w) b k cs e a' w')
  {a:Act} {w:World} (h:body.wp P (Exit.then I R) a w) (b:Frame) (k:List Item) (cs:List Frame):
  ∃ e a' w',R e a' w'/\Arrives P (lone (b.at a (.code body::.inLoop body::k)) cs w) b k cs e a' w':=by
 obtain ⟨e,a₁,w₁,hq,harr⟩:=h b (.inLoop body::k) cs
 cases e with
 | normal=>
  obtain ⟨e₂,a₂,w₂,hq₂,harr₂⟩:=hI _ _ hq b k cs
  exact ⟨e₂,a₂,w₂,hq₂,.of_steps harr harr₂⟩
 | exit id=>exact ⟨_,a₁,w₁,hq,.pass (x:=.inLoop body) rfl (fun _ _=>.inl (by simp)) harr⟩
 | goto l=>exact ⟨_,a₁,w₁,hq,.pass (x:=.inLoop body) rfl (fun _ _=>.inl (by simp)) harr⟩
 | ret=>exact ⟨_,a₁,w₁,hq,.pass (x:=.inLoop body) rfl (fun _ _=>.inl (by simp)) harr⟩
 | panic ch=>exact ⟨_,a₁,w₁,hq,.pass (x:=.inLoop body) rfl (fun _ _=>.inl (by simp)) harr⟩
 | outgrown=>exact ⟨_,a₁,w₁,hq,.pass (x:=.inLoop body) rfl (fun _ _=>.inl (by simp)) harr⟩
theorem LoopLfp.wp {body:Code} {R:Exit->Act->World->Prop} {a:Act} {w:World} (h:LoopLfp P body R a w):(Code.loop body).wpIn Fence.wide 0 P R a w:=by
 have key:∀ a w,LoopLfp P body R a w->∀ (b:Frame) (k:List Item) (cs:List Frame),∃ e a' w',R e a' w'/\Arrives P (lone (b.at a (.inLoop body::k)) cs w) b k cs e a' w':=by
  intro a w h
  refine h (fun a w=>∀ (b:Frame) (k:List Item) (cs:List Frame),∃ e a' w',R e a' w'/\Arrives P (lone (b.at a (.inLoop body::k)) cs w) b k cs e a' w') ?_
  intro a w hb b k cs
  obtain ⟨e,a',w',h1,h2⟩:=round_arrives (I:=fun a w=>∀ (b:Frame) (k:List Item) (cs:List Frame),∃ e a' w',R e a' w'/\Arrives P (lone (b.at a (.inLoop body::k)) cs w) b k cs e a' w') (fun _ _ x=>x) (wpIn_wide.1 hb) b k cs
  exact ⟨e,a',w',h1,.of_steps (.one step_inLoop) h2⟩
 refine wpIn_wide.2 fun b k cs=>?_
 obtain ⟨e,a',w',h1,h2⟩:=round_arrives key (wpIn_wide.1 h.unfold) b k cs
 exact ⟨e,a',w',h1,.of_steps (.one step_loop) h2⟩
theorem LoopLfpR.fold {ro:Option Nat} {body:Code} {R:Exit->Act->World->Prop} {a:Act} {w:World} (h:body.wpIn (fW ro) 0 P (Exit.then (LoopLfpR ro P body R) R) a w):LoopLfpR ro P body R a w:=
 fun I hI=>hI a w (Code.wpIn_mono (then_mono fun _ _ x=>x I hI) h)
theorem LoopLfpR.mono {ro:Option Nat} {body:Code} {R R':Exit->Act->World->Prop} (hR:∀ e a w,R e a w->R' e a w) {a:Act} {w:World} (h:LoopLfpR ro P body R a w):LoopLfpR ro P body R' a w:=
 fun I hI=>h I fun a w x=>hI a w (Code.wpIn_mono (then_mono2 hR) x)
theorem LoopLfpR.wp {ro:Option Nat} {body:Code} {R:Exit->Act->World->Prop} {a:Act} {w:World} (h:LoopLfpR ro P body R a w):(Code.loop body).wpIn (fW ro) 0 P R a w:=by
 intro b k cs hro hb hr
 have key:∀ a w,LoopLfpR ro P body R a w->∃ e a' w',R e a' w'/\ArrivesIn (Machine.fenced P (fW ro)) P (lone (b.atR a (.code body::.inLoop body::k)) cs w) b k cs e a' w':=by
  intro a w h
  refine h (fun a w=>∃ e a' w',R e a' w'/\ArrivesIn (Machine.fenced P (fW ro)) P (lone (b.atR a (.code body::.inLoop body::k)) cs w) b k cs e a' w') ?_
  intro a w hc
  obtain ⟨e,a₁,w₁,hq,harr⟩:=hc b (.inLoop body::k) cs hro hb hr
  cases e with
  | normal=>
   obtain ⟨e₂,a₂,w₂,hq₂,harr₂⟩:=hq
   exact ⟨e₂,a₂,w₂,hq₂,.of_steps (StepsIn.trans harr (.one (fenced_calm hb hr rfl) stepR_inLoop)) harr₂⟩
  | exit id=>exact ⟨_,a₁,w₁,hq,.pass (x:=.inLoop body) rfl (fun _ _=>.inl (by simp)) harr⟩
  | goto l=>exact ⟨_,a₁,w₁,hq,.pass (x:=.inLoop body) rfl (fun _ _=>.inl (by simp)) harr⟩
  | ret=>exact ⟨_,a₁,w₁,hq,.pass (x:=.inLoop body) rfl (fun _ _=>.inl (by simp)) harr⟩
  | panic ch=>exact ⟨_,a₁,w₁,hq,.pass (x:=.inLoop body) rfl (fun _ _=>.inl (by simp)) harr⟩
  | outgrown=>exact ⟨_,a₁,w₁,hq,.pass (x:=.inLoop body) rfl (fun _ _=>.inl (by simp)) harr⟩
 obtain ⟨e,a',w',h1,h2⟩:=key a w h
 exact ⟨e,a',w',h1,.of_steps (.one (fenced_calm hb hr rfl) stepR_loop) h2⟩
theorem stepR_scope {b:Frame} {a:Act} {k:List Item} {cs:List Frame} {w:World} {c:Code}:step P (lone (b.atR a (.code (.scope c)::k)) cs w)= .next (lone (b.atR a (.code c::.inScope c::k)) cs w):=
 step_lone_go (by simp [stepG,stepG.exec,Frame.atR])
theorem stepR_inScope {b:Frame} {a:Act} {k:List Item} {cs:List Frame} {w:World} {c:Code}:step P (lone (b.atR a (.inScope c::k)) cs w)= .next (lone (b.atR a k) cs w):=
 step_lone_go (by simp [stepG,stepG.exec,Frame.atR])
theorem wpIn_scope {F:Fence} {n:Nat} {c:Code} {Q:Exit->Act->World->Prop} {a:Act} {w:World} (hg:∀ l a w,¬ Q (.goto l) a w) (h:c.wpIn F n P Q a w):(Code.scope c).wpIn F n P Q a w:=by
 intro b k cs hro hb hr
 have h0:(lone (b.atR a (.code (.scope c)::k)) cs w).fenced P F:=fenced_calm hb hr rfl
 obtain ⟨e,a₁,w₁,hq,harr⟩:=h b (.inScope c::k) cs hro hb hr
 cases e with
 | normal=>exact ⟨.normal,a₁,w₁,hq,.head h0 stepR_scope (StepsIn.trans harr (.one (fenced_calm hb hr rfl) stepR_inScope))⟩
 | exit id=>
  have hx:exitTo id (.inScope c::k)=exitTo id k:=by simp [exitTo]
  exact ⟨.exit id,a₁,w₁,hq,fun k' hk=>.head h0 stepR_scope (harr.1 k' (by rw [hx];exact hk)),fun hr' hk=>let ⟨k₁,h1,h2⟩:=harr.2 hr' (by rw [hx];exact hk);⟨k₁,h1,.head h0 stepR_scope h2⟩⟩
 | goto l=>exact absurd hq (hg _ _ _)
 | ret=>exact ⟨_,a₁,w₁,hq,.of_steps (.one h0 stepR_scope) harr⟩
 | panic ch=>exact ⟨_,a₁,w₁,hq,.of_steps (.one h0 stepR_scope) harr⟩
 | outgrown=>exact ⟨_,a₁,w₁,hq,.of_steps (.one h0 stepR_scope) harr⟩
def St.weak (S T:St):Prop:=S.bx=T.bx/\Mem.le T.E S.E/\S.fr.length=T.fr.length/\∀ (i:Nat) s,T.fr[i]? =some (some s)->S.fr[i]? =some (some s)
structure AtP (n0:Nat) (Φ:World->Fm->Env->Act->World->Prop) (S:St):Prop where
 out:∀ w0 mu (ρ0:Env) a w,ρ0.length<=n0->Lift w0 mu ρ0 (fun S'=>S'=S) a w->Φ w0 mu ρ0 a w
theorem AtP_weak {n0:Nat} {Φ:World->Fm->Env->Act->World->Prop} {S T:St} (hw:S.weak T) (h:AtP n0 Φ T):AtP n0 Φ S:=by
 refine ⟨fun w0 mu ρ0 a w hn hl=>?_⟩
 obtain ⟨hd,S',ρ,hp,hR,hF,rfl⟩:=hl
 obtain ⟨h1,h2,h3,h4⟩:=hw
 refine h.out w0 mu ρ0 a w hn ⟨hd,T,ρ,hp,?_,?_,rfl⟩
 ·rw [← h1];exact hR.weakE h2
 ·exact ⟨h3 ▸ hF.1,fun i s hs=>hF.2 i s (h4 i s hs)⟩
theorem LoopP_weak {Ω:Option Rc} {n0:Nat} {body:Code} {Q:Ex->St->Prop} {S T:St} (hw:S.weak T) (h:LoopP P Ω n0 body Q T):LoopP P Ω n0 body Q S:=
 ⟨(AtP_weak (Φ:=fun w0 mu ρ0 a w=>mu.om=Ω/\okE Ω ρ0->LoopLfp P body (LiftQ w0 mu ρ0 Q) a w) hw ⟨h.out⟩).out⟩
abbrev Tau:=List (Option Nat)
def tauN (τ:Tau) (N:Nat):List Nat:=τ.map (·.getD N)
def wkV (τ:Tau) (N:Nat) (s t:SV):Prop:=
 s=t.ren (tauN τ N) N\/(s= .raw (.slice none 0 0)/\match t with
  | .slc j 0 0 0=>τ[j]? =some none
  | _=>False)
def wkFr (τ:Tau) (N:Nat):List (Option SV)->List (Option SV)->Prop
 | [],[]=>True
 | _::xs,none::ys=>wkFr τ N xs ys
 | some x::xs,some y::ys=>wkV τ N x y/\wkFr τ N xs ys
 | _,_=>False
def wkCells (τ:Tau) (N:Nat):List SV->List SV->Prop
 | [],[]=>True
 | x::xs,y::ys=>wkV τ N x y/\wkCells τ N xs ys
 | _,_=>False
def wkRow (τ:Tau) (N:Nat) (r q:Row):Prop:=
 match q with
 | .vals vs=>r.cells=vs.map .raw
 | .lst l=>wkCells τ N r.cells l
def isDead (b:Box):Bool:=
 match b.own,b.row,b.total with
 | false,.lst [],0=>true
 | _,_,_=>false
def wkBx (τ:Tau) (N:Nat) (Sbx:List Box):Nat->List Box->Prop
 | _,[]=>True
 | j,b::l=>(match τ[j]? with
  | some (some k)=>match isDead b with
   | true=>k<N
   | false=>match Sbx[k]? with
    | some c=>c.elem=b.elem/\c.total=b.total/\c.own=b.own/\wkRow τ N c.row b.row
    | none=>False
  | some none=>b.row.cells=[]/\b.total=0
  | none=>False)/\wkBx τ N Sbx (j+1) l
def liveSrc:Tau->List Box->List Nat
 | some k::τ,b::l=>match isDead b with
  | true=>liveSrc τ l
  | false=>k::liveSrc τ l
 | _::τ,_::l=>liveSrc τ l
 | _,_=>[]
structure St.wk (n0:Nat) (τ:Tau) (S T:St):Prop where
 base:n0<=S.bx.length/\n0<=τ.length/\∀ j,j<n0->τ[j]? =some (some j)
 len:T.bx.length=τ.length
 fr:wkFr τ S.bx.length S.fr T.fr
 bx:wkBx τ S.bx.length S.bx 0 T.bx
 live:(liveSrc τ T.bx).Nodup
 E:Mem.le T.E S.E
mutual
theorem ren_den1 {ρ ρ':Env} {σ:List Nat} {n:Nat} (h:∀ i x,ρ[renF σ n i]? =some x->ρ'[i]? =some x):∀ (s:SV) {v:Value},(s.ren σ n).den ρ=some v->s.den ρ'=some v
 | .raw v,_,e=>by simpa only [SV.ren,SV.den] using e
 | .loc b off,v,e=>by
  simp only [SV.ren,SV.den] at e ⊢
  obtain ⟨a,h1,rfl,hq⟩:=locDen_some e
  simp only [locDen,h _ _ h1,if_pos hq]
 | .slc b off len cap,v,e=>by
  simp only [SV.ren,SV.den] at e ⊢
  rcases slcDen_some e with ⟨c,h1,rfl,hq⟩|⟨h1,rfl,rfl,rfl,rfl⟩
  ·simp only [slcDen,h _ _ h1,if_pos hq]
  ·simp [slcDen,h _ _ h1]
 | .rp v off,_,e=>by simpa only [SV.ren,SV.den] using e
 | .agg l,v,e=>by
  simp only [SV.ren,SV.den,Option.map_eq_some_iff] at e ⊢
  obtain ⟨vs,h1,h2⟩:=e;exact ⟨vs,renL_den1 h l h1,h2⟩
 | .tup l,v,e=>by
  simp only [SV.ren,SV.den,Option.map_eq_some_iff] at e ⊢
  obtain ⟨vs,h1,h2⟩:=e;exact ⟨vs,renL_den1 h l h1,h2⟩
 | .clo f m l,v,e=>by
  simp only [SV.ren,SV.den] at e
  split at e
  ·rename_i us vs h1 h2
   simp only [SV.den,renL_den1 h m h1,renL_den1 h l h2];exact e
  ·cases e
 | .ifc t x,v,e=>by
  simp only [SV.ren,SV.den,Option.map_eq_some_iff] at e ⊢
  obtain ⟨vs,h1,h2⟩:=e;exact ⟨vs,ren_den1 h x h1,h2⟩
 | .mth t x,v,e=>by
  simp only [SV.ren,SV.den,Option.map_eq_some_iff] at e ⊢
  obtain ⟨vs,h1,h2⟩:=e;exact ⟨vs,ren_den1 h x h1,h2⟩
 | .mp it b,v,e=>by
  simp only [SV.ren,SV.den] at e ⊢
  obtain ⟨a,h1,h2,rfl⟩:=mpDen_some e
  simp only [mpDen,h _ _ h1,if_pos h2]
theorem renL_den1 {ρ ρ':Env} {σ:List Nat} {n:Nat} (h:∀ i x,ρ[renF σ n i]? =some x->ρ'[i]? =some x):∀ (l:List SV) {vs:List Value},SV.denL ρ (SV.renL σ n l)=some vs->SV.denL ρ' l=some vs
 | [],_,e=>by simpa only [SV.renL,SV.denL] using e
 | x::l,vs,e=>by
  simp only [SV.renL,SV.denL] at e
  split at e
  ·rename_i v ws h1 h2
   simp only [SV.denL,ren_den1 h x h1,renL_den1 h l h2];exact e
  ·cases e
end
theorem wkFr_get {τ:Tau} {N:Nat}:∀ {xs ys:List (Option SV)},wkFr τ N xs ys->xs.length=ys.length/\∀ (i:Nat) t,ys[i]? =some (some t)->∃ s,xs[i]? =some (some s)/\wkV τ N s t
 | [],[],_=>⟨rfl,fun i s h=>by simp at h⟩
 | x::xs,none::ys,h=>by
  have h':wkFr τ N xs ys:=by cases x<;>exact h
  obtain ⟨h1,h2⟩:=wkFr_get h'
  exact ⟨by simp [h1],fun i s hs=>by cases i with
   | zero=>simp at hs
   | succ i=>simpa using h2 i s (by simpa using hs)⟩
 | some x::xs,some y::ys,h=>by
  obtain ⟨hv,h'⟩:=h
  obtain ⟨h1,h2⟩:=wkFr_get h'
  exact ⟨by simp [h1],fun i s hs=>by cases i with
   | zero=>simp at hs;subst hs;exact ⟨x,by simp,hv⟩
   | succ i=>simpa using h2 i s (by simpa using hs)⟩
 | [],_::_,h=>h.elim
 | none::_,some _::_,h=>h.elim
 | _::_,[],h=>by rename_i x _;cases x<;>exact h.elim
theorem wkBx_get {τ:Tau} {N:Nat} {Sbx:List Box}:∀ {l:List Box} {j:Nat},wkBx τ N Sbx j l->∀ (i:Nat) b,l[i]? =some b->
  (∃ k,τ[j+i]? =some (some k)/\((isDead b=true/\k<N)\/(isDead b=false/\∃ c,Sbx[k]? =some c/\c.elem=b.elem/\c.total=b.total/\c.own=b.own/\wkRow τ N c.row b.row)))\/
  (τ[j+i]? =some none/\b.row.cells=[]/\b.total=0)
 | [],_,_,i,b,h=>by simp at h
 | y::l,j,h,0,b,hb=>by
  simp only [List.getElem?_cons_zero,Option.some.injEq] at hb
  subst hb
  have h1:=h.1
  rw [Nat.add_zero]
  split at h1
  ·rename_i k hk
   left
   refine ⟨k,hk,?_⟩
   split at h1
   ·rename_i hd;exact .inl ⟨hd,h1⟩
   ·rename_i hd
    split at h1
    ·rename_i c hc;exact .inr ⟨hd,c,hc,h1⟩
    ·exact h1.elim
  ·rename_i hk;exact .inr ⟨hk,h1⟩
  ·exact h1.elim
 | y::l,j,h,i+1,b,hb=>by
  simp only [List.getElem?_cons_succ] at hb
  have:=wkBx_get h.2 i b hb
  rwa [show j+1+i=j+(i+1) by omega] at this
theorem liveSrc_mem:∀ {τ:Tau} {l:List Box} (i k:Nat) (b:Box),τ[i]? =some (some k)->l[i]? =some b->isDead b=false->k∈liveSrc τ l
 | [],_,i,k,b,h,_,_=>by simp at h
 | _::_,[],i,k,b,_,h,_=>by simp at h
 | o::τ,y::l,0,k,b,h1,h2,h3=>by
  simp only [List.getElem?_cons_zero,Option.some.injEq] at h1 h2
  subst h1;subst h2
  simp [liveSrc,h3]
 | o::τ,y::l,i+1,k,b,h1,h2,h3=>by
  simp only [List.getElem?_cons_succ] at h1 h2
  have:=liveSrc_mem i k b h1 h2 h3
  cases o with
  | none=>simpa [liveSrc] using this
  | some k'=>
   simp only [liveSrc]
   split
   ·exact this
   ·exact List.mem_cons_of_mem _ this
theorem liveSrc_inj:∀ {τ:Tau} {l:List Box},(liveSrc τ l).Nodup->∀ (i j k:Nat) (b c:Box),τ[i]? =some (some k)->l[i]? =some b->isDead b=false->τ[j]? =some (some k)->l[j]? =some c->isDead c=false->i=j
 | [],_,_,i,j,k,b,c,h,_,_,_,_,_=>by simp at h
 | _::_,[],_,i,j,k,b,c,_,h,_,_,_,_=>by simp at h
 | o::τ,y::l,hn,i,j,k,b,c,h1,h2,h3,g1,g2,g3=>by
  have hn':(liveSrc τ l).Nodup:=by
   cases o with
   | none=>simpa [liveSrc] using hn
   | some k'=>
    simp only [liveSrc] at hn
    split at hn
    ·exact hn
    ·exact (List.nodup_cons.1 hn).2
  cases i with
  | zero=>
   cases j with
   | zero=>rfl
   | succ j=>
    simp only [List.getElem?_cons_zero,List.getElem?_cons_succ,Option.some.injEq] at h1 h2 g1 g2
    subst h1;subst h2
    have:=liveSrc_mem j k c g1 g2 g3
    simp only [liveSrc,h3] at hn
    exact absurd this (List.nodup_cons.1 hn).1
  | succ i=>
   cases j with
   | zero=>
    simp only [List.getElem?_cons_zero,List.getElem?_cons_succ,Option.some.injEq] at h1 h2 g1 g2
    subst g1;subst g2
    have:=liveSrc_mem i k b h1 h2 h3
    simp only [liveSrc,g3] at hn
    exact absurd this (List.nodup_cons.1 hn).1
   | succ j=>
    simp only [List.getElem?_cons_succ] at h1 h2 g1 g2
    rw [liveSrc_inj hn' i j k b c h1 h2 h3 g1 g2 g3]
theorem isDead_live {b:Box} (h:isDead b=true):b.own=false/\b.cells=[]/\b.total=0:=by
 obtain ⟨e,r,t,o⟩:=b
 unfold isDead at h
 split at h
 ·rename_i h1 h2 h3;simp only at h1 h2 h3;subst h1;subst h2;subst h3;exact ⟨rfl,rfl,rfl⟩
 ·cases h
theorem wkCells_len {τ:Tau} {N:Nat}:∀ {xs ys:List SV},wkCells τ N xs ys->xs.length=ys.length
 | [],[],_=>rfl
 | x::xs,y::ys,h=>by simp [wkCells_len h.2]
 | [],_::_,h=>h.elim
 | _::_,[],h=>h.elim
theorem AtP_wk {n0:Nat} {τ:Tau} {Φ:World->Fm->Env->Act->World->Prop} {S T:St} (hw:S.wk n0 τ T) (h:AtP n0 Φ T):AtP n0 Φ S:=by
 refine ⟨fun w0 mu ρ0 a w hn hl=>?_⟩
 obtain ⟨hd,S',ρ,hp,hR,hF,rfl⟩:=hl
 obtain ⟨⟨hb1,hb2,hb3⟩,hlen,hfr,hbx,hlive,hE⟩:=hw
 have hρl:=hR.len
 let src:Option Nat->Option Addr:=fun o=>match o with
  | some k=>(ρ[k]?).getD none
  | none=>none
 let ρT:Env:=τ.map src
 have hρT:∀ j:Nat,ρT[j]? =(τ[j]?).map src:=fun j=>List.getElem?_map
 have hρTs:∀ (j k:Nat) o,τ[j]? =some (some k)->ρ[k]? =some o->ρT[j]? =some o:=by
  intro j k o h1 h2
  rw [hρT,h1]
  simp [src,h2]
 have hpre:ρ0<+:ρT:=by
  obtain ⟨t,rfl⟩:=hp
  refine List.prefix_iff_getElem?.2 fun i hi=>?_
  refine hρTs i i _ (hb3 i (by omega)) ?_
  rw [List.getElem?_append_left hi,List.getElem?_eq_getElem hi]
 have hren:∀ i x,ρ[renF (tauN τ S'.bx.length) S'.bx.length i]? =some x->ρT[i]? =some x:=by
  intro i x hx
  unfold renF at hx
  cases hi:τ[i]? with
  | none=>
   have h1:(tauN τ S'.bx.length)[i]? =none:=by simp [tauN,hi]
   rw [h1] at hx
   simp only at hx
   rw [List.getElem?_eq_none (by omega)] at hx;cases hx
  | some o=>
   have h1:(tauN τ S'.bx.length)[i]? =some (o.getD S'.bx.length):=by simp [tauN,hi]
   rw [h1] at hx
   simp only at hx
   cases o with
   | none=>simp only [Option.getD_none] at hx;rw [List.getElem?_eq_none (by omega)] at hx;cases hx
   | some k=>exact hρTs i k x hi hx
 have hwkV:∀ {s t:SV} {v:Value},wkV τ S'.bx.length s t->s.den ρ=some v->t.den ρT=some v:=by
  intro s t v hv hs
  rcases hv with rfl|⟨rfl,ht⟩
  ·exact ren_den1 hren t hs
  ·simp only [SV.den,Option.some.injEq] at hs;subst hs
   split at ht
   ·rename_i j
    simp only [SV.den,slcDen,hρT,ht,Option.map_some,src]
    simp
   ·exact ht.elim
 have hwkC:∀ {xs ys:List SV} {vs:List Value},wkCells τ S'.bx.length xs ys->SV.denL ρ xs=some vs->SV.denL ρT ys=some vs:=by
  intro xs
  induction xs with
  | nil=>
   intro ys vs hc hs
   cases ys with
   | nil=>exact hs
   | cons=>exact hc.elim
  | cons x xs ih=>
   intro ys vs hc hs
   cases ys with
   | nil=>exact hc.elim
   | cons y ys=>
    simp only [SV.denL] at hs
    split at hs
    ·rename_i v ws h1 h2
     simp only [SV.denL,hwkV hc.1 h1,ih hc.2 h2];exact hs
    ·cases hs
 have hrow:∀ {r q:Row} {vs:List Value},wkRow τ S'.bx.length r q->SV.denL ρ r.cells=some vs->SV.denL ρT q.cells=some vs:=by
  intro r q vs hr hs
  cases q with
  | vals us=>
   simp only [wkRow] at hr
   rw [hr,denL_raw] at hs
   exact (denL_raw us).trans hs
  | lst l=>exact hwkC hr hs
 have hrowl:∀ {r q:Row},wkRow τ S'.bx.length r q->r.cells.length=q.cells.length:=by
  intro r q hr
  cases q with
  | vals us=>simp only [wkRow] at hr;rw [hr];rfl
  | lst l=>exact wkCells_len hr
 -- a box of the later state
 have hfrom:∀ (j:Nat) b,T.bx[j]? =some b->(∃ k,τ[j]? =some (some k)/\k<ρ.length/\isDead b=true)\/
   (∃ k c,τ[j]? =some (some k)/\isDead b=false/\S'.bx[k]? =some c/\c.elem=b.elem/\c.total=b.total/\c.own=b.own/\wkRow τ S'.bx.length c.row b.row/\c.live=b.live)\/
   (τ[j]? =some none/\b.row.cells=[]/\b.total=0):=by
  intro j b hj
  have:=wkBx_get hbx j b hj
  rw [Nat.zero_add] at this
  rcases this with ⟨k,h1,⟨h2,h3⟩|⟨h2,c,h3,h4,h5,h6,h7⟩⟩|h1
  ·exact .inl ⟨k,h1,by omega,h2⟩
  ·refine .inr (.inl ⟨k,c,h1,h2,h3,h4,h5,h6,h7,?_⟩)
   have:=hrowl h7
   simp only [Box.live,Box.cells,h6]
   cases hc:c.row.cells<;>cases hb:b.row.cells<;>simp_all
  ·exact .inr (.inr h1)
 refine h.out w0 mu ρ0 a w hn ⟨hd,T,ρT,hpre,?_,?_,rfl⟩
 ·refine ⟨hR.keep,by simp [ρT,hlen],?_,?_,fun v cs g=>hR.hold v cs (hE v cs g),?_,fun v cs g hne=>hR.src v cs (hE v cs g) hne⟩
  ·intro j b oa h1 h2
   rcases hfrom j b h1 with ⟨k,g1,g2,g3⟩|⟨k,c,g1,g2,g3,g4,g5,g6,g7,g8⟩|⟨g1,g2,g3⟩
   ·obtain ⟨d1,d2⟩:=isDead_live g3
    have hk:ρ[k]? =some ρ[k]:=List.getElem?_eq_getElem g2
    rw [hρTs j k _ g1 hk] at h2
    simp only [Option.some.injEq] at h2
    have hkb:k<S'.bx.length:=by omega
    have hbox:=hR.box k _ _ (List.getElem?_eq_getElem hkb) hk
    cases oa with
    | none=>
     exact d2
    | some ad=>
     rw [h2] at hbox
     exact hbox.dead' d2.1 d1
   ·have hk:k<ρ.length:=by rw [hρl];exact get_lt g3
    have hk':ρ[k]? =some ρ[k]:=List.getElem?_eq_getElem hk
    rw [hρTs j k _ g1 hk'] at h2
    simp only [Option.some.injEq] at h2
    rw [h2] at hk'
    have hbox:=hR.box k c oa g3 hk'
    cases oa with
    | none=>
     have:=hrowl g7
     refine ⟨List.eq_nil_of_length_eq_zero ?_,by rw [← g5];exact hbox.2⟩
     rw [show b.cells.length=b.row.cells.length from rfl,← this,show c.row.cells=[] from hbox.1];rfl
    | some ad=>
     rcases hbox with ⟨q1,vs,q2,q3⟩|⟨q1,vs,q2,q3,q4,q5⟩
     ·refine .inl ⟨q1,vs,hrow g7 q2,?_⟩
      rw [← g6,← g4,← g5];exact q3
     ·refine .inr ⟨q1,vs,hrow g7 q2,by rw [← g8];exact q3,by rw [← g6,← g5,← g4];exact q4,fun ho=>?_⟩
      have:=q5 (g6.trans ho)
      have hl:=hrowl g7
      exact List.eq_nil_of_length_eq_zero (by rw [show b.cells.length=b.row.cells.length from rfl,← hl,show c.row.cells=[] from this];rfl)
   ·rw [hρT,g1] at h2
    simp only [Option.map_some,src,Option.some.injEq] at h2
    subst h2
    exact ⟨g2,g3⟩
  ·intro j b ad h1 ho h2
   rcases hfrom j b h1 with ⟨k,g1,g2,g3⟩|⟨k,c,g1,g2,g3,g4,g5,g6,g7,g8⟩|⟨g1,g2,g3⟩
   ·rw [(isDead_live g3).1] at ho;cases ho
   ·have hk:k<ρ.length:=by rw [hρl];exact get_lt g3
    have hk':ρ[k]? =some ρ[k]:=List.getElem?_eq_getElem hk
    rw [hρTs j k _ g1 hk'] at h2
    simp only [Option.some.injEq] at h2
    rw [h2] at hk'
    obtain ⟨t1,t2,t3⟩:=hR.sep k c ad g3 (g6.trans ho) hk'
    refine ⟨t1,?_,fun v cs g=>t3 v cs (hE v cs g)⟩
    intro j' b' a' hne hj1 hl hj2
    rcases hfrom j' b' hj1 with ⟨k',q1,q2,q3⟩|⟨k',c',q1,q2,q3,q4,q5,q6,q7,q8⟩|⟨q1,q2,q3⟩
    ·obtain ⟨d1,d2⟩:=isDead_live q3
     simp [Box.live,d1,d2.1] at hl
    ·have hkk:k'<ρ.length:=by rw [hρl];exact get_lt q3
     have hkk':ρ[k']? =some ρ[k']:=List.getElem?_eq_getElem hkk
     rw [hρTs j' k' _ q1 hkk'] at hj2
     simp only [Option.some.injEq] at hj2
     rw [hj2] at hkk'
     refine t2 k' c' a' ?_ q3 (q8.trans hl) hkk'
     rintro rfl
     exact hne (liveSrc_inj hlive j' j k' b' b q1 hj1 q2 g1 h1 g2)
    ·rw [hρT,q1] at hj2
     simp [src] at hj2
   ·rw [hρT,g1] at h2
    simp [src] at h2
  ·intro j b ad h1 hl h2
   rcases hfrom j b h1 with ⟨k,g1,g2,g3⟩|⟨k,c,g1,g2,g3,g4,g5,g6,g7,g8⟩|⟨g1,g2,g3⟩
   ·obtain ⟨d1,d2⟩:=isDead_live g3
    simp [Box.live,d1,d2.1] at hl
   ·have hk:k<ρ.length:=by rw [hρl];exact get_lt g3
    have hk':ρ[k]? =some ρ[k]:=List.getElem?_eq_getElem hk
    rw [hρTs j k _ g1 hk'] at h2
    simp only [Option.some.injEq] at h2
    rw [h2] at hk'
    exact hR.bsrc k c ad g3 (g8.trans hl) hk'
   ·rw [hρT,g1] at h2
    simp [src] at h2
 ·obtain ⟨f1,f2⟩:=wkFr_get hfr
  refine ⟨by rw [← f1];exact hF.1,fun i t ht=>?_⟩
  obtain ⟨s,hs,hv⟩:=f2 i t ht
  obtain ⟨v,v1,v2⟩:=hF.2 i s hs
  exact ⟨v,v1,hwkV hv v2⟩
theorem LoopP_wk {Ω:Option Rc} {n0:Nat} {τ:Tau} {body:Code} {Q:Ex->St->Prop} {S T:St} (hw:S.wk n0 τ T) (h:LoopP P Ω n0 body Q T):LoopP P Ω n0 body Q S:=
 ⟨(AtP_wk (Φ:=fun w0 mu ρ0 a w=>mu.om=Ω/\okE Ω ρ0->LoopLfp P body (LiftQ w0 mu ρ0 Q) a w) hw ⟨h.out⟩).out⟩
theorem CutP_wk {Ω:Option Rc} {n0:Nat} {τ:Tau} {c:Code} {Q:Ex->St->Prop} {S T:St} (hw:S.wk n0 τ T) (h:CutP P Ω n0 c Q T):CutP P Ω n0 c Q S:=
 ⟨(AtP_wk (Φ:=fun w0 mu ρ0 a w=>mu.om=Ω/\okE Ω ρ0->c.wpIn Fence.wide 0 P (LiftQ w0 mu ρ0 Q) a w) hw ⟨h.out⟩).out⟩
theorem forgetL_len (ds:List Nat):∀ (k:Nat) (l:List (Option SV)),(forgetL ds k l).length=l.length
 | _,[]=>rfl
 | k,_::l=>by simp [forgetL,forgetL_len ds (k+1) l]
theorem forgetL_get (ds:List Nat):∀ (k:Nat) (l:List (Option SV)) (i:Nat) (s:SV),(forgetL ds k l)[i]? =some (some s)->l[i]? =some (some s)
 | _,[],i,s,h=>by simp [forgetL] at h
 | k,o::l,0,s,h=>by
  simp only [forgetL,List.getElem?_cons_zero,Option.some.injEq] at h ⊢
  split at h
  ·cases h
  ·exact h
 | k,o::l,i+1,s,h=>by
  simp only [forgetL,List.getElem?_cons_succ] at h ⊢
  exact forgetL_get ds (k+1) l i s h
theorem St.weak_forget (S:St) (ds:List Nat):S.weak (S.forget ds):=
 ⟨rfl,Mem.le_refl _,(forgetL_len ds 0 S.fr).symm,fun i s h=>forgetL_get ds 0 S.fr i s h⟩
theorem LoopR_weak {Ω:Option Rc} {n0:Nat} {body:Code} {Q:Ex->St->Prop} {S T:St} (hw:S.weak T) (h:LoopR P Ω n0 body Q T):LoopR P Ω n0 body Q S:=
 ⟨fun ro=>(AtP_weak (Φ:=fun w0 mu ρ0 a w=>mu.om=Ω/\okE Ω ρ0->LoopLfpR ro P body (LiftQ w0 mu ρ0 Q) a w/\LoopLfpR ro P body (LiftW w0 mu ρ0 Q) a w) hw ⟨h.out ro⟩).out⟩
theorem LoopR_wk {Ω:Option Rc} {n0:Nat} {τ:Tau} {body:Code} {Q:Ex->St->Prop} {S T:St} (hw:S.wk n0 τ T) (h:LoopR P Ω n0 body Q T):LoopR P Ω n0 body Q S:=
 ⟨fun ro=>(AtP_wk (Φ:=fun w0 mu ρ0 a w=>mu.om=Ω/\okE Ω ρ0->LoopLfpR ro P body (LiftQ w0 mu ρ0 Q) a w/\LoopLfpR ro P body (LiftW w0 mu ρ0 Q) a w) hw ⟨h.out ro⟩).out⟩
theorem iterW_sound {Ω:Option Rc} {n0:Nat} {body:Code} {ds:List Nat} (bodyW:(Ex->St->Prop)->St->Prop)
  (hb:∀ (Q:Ex->St->Prop) w0 mu (ρ0:Env) a w,ρ0.length<=n0->mu.om=Ω/\okE Ω ρ0->Lift w0 mu ρ0 (fun S=>bodyW Q S) a w->body.wpIn Fence.wide 0 P (LiftQ w0 mu ρ0 Q) a w):
  ∀ (n:Nat) (Q:Ex->St->Prop) w0 mu (ρ0:Env) a w,ρ0.length<=n0->mu.om=Ω/\okE Ω ρ0->Lift w0 mu ρ0 (fun S=>iterW bodyW (fun Q S=>LoopP P Ω n0 body Q (S.forget ds)) n Q S) a w->LoopLfp P body (LiftQ w0 mu ρ0 Q) a w:=by
 intro n
 induction n with
 | zero=>
  intro Q w0 mu ρ0 a w hn ho h
  obtain ⟨hd,S,ρ,hp,hR,hF,h⟩:=h
  exact (LoopP_weak (St.weak_forget S ds) h).out w0 mu ρ0 a w hn ⟨hd,S,ρ,hp,hR,hF,rfl⟩ ho
 | succ n ih=>
  intro Q w0 mu ρ0 a w hn ho h
  refine LoopLfp.fold (Code.wpIn_mono (thenQ fun a w hl=>?_) (hb _ w0 mu ρ0 a w hn ho h))
  obtain ⟨w1,mu1,hB,hl⟩:=hl
  exact LoopLfp.mono (LiftQ_base hB h.1.2) (ih Q w1 mu1 ρ0 a w hn ⟨hB.om.trans ho.1,ho.2⟩ hl)
theorem blockQ {w0:World} {mu:Fm} {ρ0:Env} {Q:Ex->St->Prop} {id:Nat}:
  ∀ (e:Exit) (a:Act) (w:World),LiftQ w0 mu ρ0 (fun e S'=>match e with | .normal=>Q .normal S'| .exit i=>if i=id then Q .normal S' else Q (.exit i) S'| .ret=>Q .ret S') e a w->Exit.inBlock id (LiftQ w0 mu ρ0 Q) e a w
 | .normal,_,_,x=>x
 | .exit i,a,w,x=>by
  simp only [Exit.inBlock]
  by_cases hi:i=id
  ·rw [if_pos hi];exact LiftR.mono x fun S h=>by simpa [hi] using h
  ·rw [if_neg hi];exact LiftR.mono x fun S h=>by simpa [hi] using h
 | .ret,_,_,x=>x
 | .panic _,_,_,x=>x
 | .goto _,_,_,x=>x
 | .outgrown,_,_,x=>x
theorem Lift.no {w0:World} {mu:Fm} {ρ0:Env} {a:Act} {w:World} {K:St->Prop} {p:Prop} (h:Lift w0 mu ρ0 K a w) (hk:∀ S,¬ K S):p:=by
 obtain ⟨_,S,_,_,_,_,h⟩:=h;exact (hk S h).elim
theorem codeW_sound {un:Opt} (hcall:CallOK un.om P callW) (hm:P.follows .mixedOrders=true) {inl:Op->Bool} {ro:Option Nat} (hro:un.rnd=false->ro=none):∀ (c:Code) (Q:Ex->St->Prop) (w0:World) (mu:Fm) (ρ0:Env) (a:Act) (w:World),ρ0.length<=un.base->mu.om=un.om/\okE un.om ρ0->
  Lift w0 mu ρ0 (fun S=>codeW P callW inl un c Q S) a w->c.wpIn (fW ro) 0 P (LiftQ w0 mu ρ0 Q) a w
 | .skip,Q,w0,mu,ρ0,a,w,hn,ho,h=>wpIn_skip (LiftR.of h)
 | .region id ops false,Q,w0,mu,ρ0,a,w,hn,ho,h=>wpIn_region_list (opsW_sound hcall ho (fun a w x=>LiftR.of x) _ a w h)
 | .region id ops true,Q,w0,mu,ρ0,a,w,hn,ho,h=>by
  by_cases hr:(un.rnd&& !noDefer ops)=true
  ·exact h.no fun S x=>by simp only [codeW,hr,cond] at x
  ·by_cases hs:Region.noSelect ops=true
   ·have hr':(un.rnd&& !noDefer ops)=false:=by simpa using hr
    simp only [codeW,hr',hs,if_true,cond] at h
    exact drawW_sound (ro:=ro) hcall ho hm hs (fun e=>by
     cases hu:un.rnd with
     | false=>exact absurd (hro hu) e
     | true=>rw [hu] at hr';simpa using hr') (fun a w x=>LiftR.of x) h
   ·exact h.no fun S x=>by
     have hr':(un.rnd&& !noDefer ops)=false:=by simpa using hr
     simp [codeW,hr',hs] at x
 | .seq x y,Q,w0,mu,ρ0,a,w,hn,ho,h=>wpIn_seq (Code.wpIn_mono (thenQ fun a w hl=>by
   obtain ⟨w1,mu1,hB,hl⟩:=hl
   have ho1:mu1.om=un.om/\okE un.om ρ0:=⟨hB.om.trans ho.1,ho.2⟩
   refine Code.wpIn_mono (LiftQ_base hB h.1.2) ?_
   cases hc:(cutAt un y&& !un.rnd) with
   | true=>
    have hr:un.rnd=false:=by simp at hc;exact hc.2
    rw [hc] at hl
    obtain ⟨hd,S,ρ,hp,hR,hF,hl⟩:=hl
    rw [hro hr]
    exact hl.out w1 mu1 ρ0 a w hn ⟨hd,S,ρ,hp,hR,hF,rfl⟩ ho1
   | false=>
    rw [hc] at hl
    exact codeW_sound hcall hm hro y Q w1 mu1 ρ0 a w hn ho1 hl) (codeW_sound hcall hm hro x _ w0 mu ρ0 a w hn ho h))
 | .cond c x y,Q,w0,mu,ρ0,a,w,hn,ho,h=>by
  obtain ⟨hd,S,ρ,hp,hR,hF,h⟩:=h
  simp only [codeW] at h
  split at h
  case h_2=>exact h.elim
  rename_i b hb
  have he:a.eval c= .bool b:=by have:=opd_den hF hb;simpa [SV.den] using this.symm
  refine wpIn_cond he ?_
  cases b with
  | true=>
   simp only [cond_true] at h
   cases hc:cutC un x with
   | true=>
    rw [hc] at h
    simp only [cond_true] at h
    have hr:un.rnd=false:=by simp [cutC] at hc;exact hc.1.2
    rw [hro hr]
    exact h.out w0 mu ρ0 a w hn ⟨hd,S,ρ,hp,hR,hF,rfl⟩ ho
   | false=>
    rw [hc] at h
    exact codeW_sound hcall hm hro x Q w0 mu ρ0 a w hn ho ⟨hd,S,ρ,hp,hR,hF,h⟩
  | false=>exact codeW_sound hcall hm hro y Q w0 mu ρ0 a w hn ho ⟨hd,S,ρ,hp,hR,hF,h⟩
 | .block id body,Q,w0,mu,ρ0,a,w,hn,ho,h=>wpIn_block (Code.wpIn_mono blockQ (codeW_sound hcall hm hro body _ w0 mu ρ0 a w hn ho h))
 | .loop body,Q,w0,mu,ρ0,a,w,hn,ho,h=>by
  cases hr:un.rnd with
  | true=>
   simp only [codeW,hr,cond] at h
   obtain ⟨hd,S,ρ,hp,hR,hF,h⟩:=h
   exact ((LoopR_weak (St.weak_forget S _) h).out ro w0 mu ρ0 a w hn ⟨hd,S,ρ,hp,hR,hF,rfl⟩ ho).1.wp
  | false=>
   simp only [codeW,hr,cond] at h
   have:=hro hr
   subst this
   exact (iterW_sound (codeW P callW inl un body) (fun Q w0 mu ρ0 a w hn ho h=>codeW_sound hcall hm hro body Q w0 mu ρ0 a w hn ho h) un.unroll Q w0 mu ρ0 a w hn ho h).wp
 | .exit id,Q,w0,mu,ρ0,a,w,hn,ho,h=>wpIn_exit (LiftR.of h)
 | .ret,Q,w0,mu,ρ0,a,w,hn,ho,h=>wpIn_ret (.inl (LiftR.of h))
 | .rangeFunc g ps assign body,Q,w0,mu,ρ0,a,w,hn,ho,h=>by
  cases hr:un.rnd with
  | true=>exact h.no fun S x=>by simp only [codeW,hr,cond] at x
  | false=>
   simp only [codeW,hr,cond] at h
   rw [hro hr]
   obtain ⟨hd,S,ρ,hp,hR,hF,h⟩:=h
   exact h.out w0 mu ρ0 a w hn ⟨hd,S,ρ,hp,hR,hF,rfl⟩ ho
 | .scope c,Q,w0,mu,ρ0,a,w,hn,ho,h=>wpIn_scope (fun _ _ _ x=>x) (codeW_sound hcall hm hro c Q w0 mu ρ0 a w hn ho h)
 | .label l,Q,w0,mu,ρ0,a,w,hn,ho,h=>wpIn_label (LiftR.of h)
 | .goto ..,_,_,_,_,_,_,_,_,h=>h.no fun _ x=>x
 | .refuse ..,_,_,_,_,_,_,_,_,h=>h.no fun _ x=>x
theorem LiftW_base {w0 w1:World} {mu mu1:Fm} {ρ0:Env} {Q:Ex->St->Prop} (hb:Base w0 mu w1 mu1):∀ (e:Exit) (a:Act) (w:World),LiftW w1 mu1 ρ0 Q e a w->LiftW w0 mu ρ0 Q e a w
 | .normal,_,_,x=>LiftR.base hb x
 | .exit _,_,_,x=>LiftR.base hb x
 | .ret,_,_,x=>LiftR.base hb x
 | .panic _,_,_,x=>x
 | .goto _,_,_,x=>x
 | .outgrown,_,_,x=>x
theorem thenW {w0:World} {mu:Fm} {ρ0:Env} {Q:Ex->St->Prop} {M:St->Prop} {N:Act->World->Prop} (hN:∀ a w,LiftR w0 mu ρ0 M a w->N a w):
  ∀ (e:Exit) (a:Act) (w:World),LiftW w0 mu ρ0 (fun e S'=>match e with | .normal=>M S'| .exit id=>Q (.exit id) S'| .ret=>Q .ret S') e a w->Exit.then N (LiftW w0 mu ρ0 Q) e a w
 | .normal,a,w,x=>hN a w x
 | .exit _,_,_,x=>x
 | .ret,_,_,x=>x
 | .panic _,_,_,x=>x
 | .goto _,_,_,x=>x
 | .outgrown,_,_,x=>x
theorem blockW {w0:World} {mu:Fm} {ρ0:Env} {Q:Ex->St->Prop} {id:Nat}:
  ∀ (e:Exit) (a:Act) (w:World),LiftW w0 mu ρ0 (fun e S'=>match e with | .normal=>Q .normal S'| .exit i=>if i=id then Q .normal S' else Q (.exit i) S'| .ret=>Q .ret S') e a w->Exit.inBlock id (LiftW w0 mu ρ0 Q) e a w
 | .normal,_,_,x=>x
 | .exit i,a,w,x=>by
  simp only [Exit.inBlock]
  by_cases hi:i=id
  ·rw [if_pos hi];exact LiftR.mono x fun S h=>by simpa [hi] using h
  ·rw [if_neg hi];exact LiftR.mono x fun S h=>by simpa [hi] using h
 | .ret,_,_,x=>x
 | .panic _,_,_,x=>x
 | .goto _,_,_,x=>x
 | .outgrown,_,_,x=>x
theorem codeW_rnd {un:Opt} (hcall:CallOK un.om P callW) (hm:P.follows .mixedOrders=true) {inl:Op->Bool} {ro:Option Nat} (hrd:un.rnd=true):∀ (c:Code) (Q:Ex->St->Prop) (w0:World) (mu:Fm) (ρ0:Env) (a:Act) (w:World),ρ0.length<=un.base->mu.om=un.om/\okE un.om ρ0->
  Lift w0 mu ρ0 (fun S=>codeW P callW inl un c Q S) a w->c.wpIn (fW ro) 0 P (LiftW w0 mu ρ0 Q) a w
 | .skip,Q,w0,mu,ρ0,a,w,hn,ho,h=>wpIn_skip (LiftR.of h)
 | .region id ops false,Q,w0,mu,ρ0,a,w,hn,ho,h=>wpIn_region_list (opsW_sound hcall ho (fun a w x=>LiftR.of x) _ a w h)
 | .region id ops true,Q,w0,mu,ρ0,a,w,hn,ho,h=>by
  by_cases hr:(un.rnd&& !noDefer ops)=true
  ·exact h.no fun S x=>by simp only [codeW,hr,cond] at x
  ·by_cases hs:Region.noSelect ops=true
   ·have hr':(un.rnd&& !noDefer ops)=false:=by simpa using hr
    simp only [codeW,hr',hs,if_true,cond] at h
    exact drawW_sound (ro:=ro) hcall ho hm hs (fun e=>by rw [hrd] at hr';simpa using hr') (fun a w x=>LiftR.of x) h
   ·exact h.no fun S x=>by
     have hr':(un.rnd&& !noDefer ops)=false:=by simpa using hr
     simp [codeW,hr',hs] at x
 | .seq x y,Q,w0,mu,ρ0,a,w,hn,ho,h=>wpIn_seq (Code.wpIn_mono (thenW fun a w hl=>by
   obtain ⟨w1,mu1,hB,hl⟩:=hl
   have ho1:mu1.om=un.om/\okE un.om ρ0:=⟨hB.om.trans ho.1,ho.2⟩
   refine Code.wpIn_mono (LiftW_base hB) ?_
   cases hc:(cutAt un y&& !un.rnd) with
   | true=>
    rw [hrd] at hc;simp at hc
   | false=>
    rw [hc] at hl
    exact codeW_rnd hcall hm hrd y Q w1 mu1 ρ0 a w hn ho1 hl) (codeW_rnd hcall hm hrd x _ w0 mu ρ0 a w hn ho h))
 | .cond c x y,Q,w0,mu,ρ0,a,w,hn,ho,h=>by
  obtain ⟨hd,S,ρ,hp,hR,hF,h⟩:=h
  simp only [codeW] at h
  split at h
  case h_2=>exact h.elim
  rename_i b hb
  have he:a.eval c= .bool b:=by have:=opd_den hF hb;simpa [SV.den] using this.symm
  refine wpIn_cond he ?_
  cases b with
  | true=>
   simp only [cond_true] at h
   cases hc:cutC un x with
   | true=>
    rw [show cutC un x=false by simp [cutC,hrd]] at hc;cases hc
   | false=>
    rw [hc] at h
    exact codeW_rnd hcall hm hrd x Q w0 mu ρ0 a w hn ho ⟨hd,S,ρ,hp,hR,hF,h⟩
  | false=>exact codeW_rnd hcall hm hrd y Q w0 mu ρ0 a w hn ho ⟨hd,S,ρ,hp,hR,hF,h⟩
 | .block id body,Q,w0,mu,ρ0,a,w,hn,ho,h=>wpIn_block (Code.wpIn_mono blockW (codeW_rnd hcall hm hrd body _ w0 mu ρ0 a w hn ho h))
 | .loop body,Q,w0,mu,ρ0,a,w,hn,ho,h=>by
  simp only [codeW,hrd,cond] at h
  obtain ⟨hd,S,ρ,hp,hR,hF,h⟩:=h
  exact ((LoopR_weak (St.weak_forget S _) h).out ro w0 mu ρ0 a w hn ⟨hd,S,ρ,hp,hR,hF,rfl⟩ ho).2.wp
 | .exit id,Q,w0,mu,ρ0,a,w,hn,ho,h=>wpIn_exit (LiftR.of h)
 | .ret,Q,w0,mu,ρ0,a,w,hn,ho,h=>wpIn_ret (LiftR.of h)
 | .rangeFunc g ps assign body,Q,w0,mu,ρ0,a,w,hn,ho,h=>h.no fun S x=>by simp only [codeW,hrd,cond] at x
 | .scope c,Q,w0,mu,ρ0,a,w,hn,ho,h=>wpIn_scope (fun _ _ _ x=>x) (codeW_rnd hcall hm hrd c Q w0 mu ρ0 a w hn ho h)
 | .label l,Q,w0,mu,ρ0,a,w,hn,ho,h=>wpIn_label (LiftR.of h)
 | .goto ..,_,_,_,_,_,_,_,_,h=>h.no fun _ x=>x
 | .refuse ..,_,_,_,_,_,_,_,_,h=>h.no fun _ x=>x
theorem LoopR_round {un:Opt} (hcall:CallOK un.om P callW) (hm:P.follows .mixedOrders=true) (hrd:un.rnd=true) {inl:Op->Bool} {body:Code} {Q:Ex->St->Prop} {S:St}
  (h:codeW P callW inl un body (fun e S'=>match e with | .normal=>LoopR P un.om un.base body Q (S'.forget (dropOf un body))| .exit id=>Q (.exit id) S'| .ret=>Q .ret S') S):LoopR P un.om un.base body Q S:=by
 refine ⟨fun ro w0 mu ρ0 a w hn hl ho=>?_⟩
 have hoo:=hl.1.2
 constructor
 ·refine LoopLfpR.fold (Code.wpIn_mono (thenQ (M:=fun S'=>LoopR P un.om un.base body Q (S'.forget (dropOf un body))) fun a w hl=>?_) (codeW_sound (ro:=ro) hcall hm (fun e=>by rw [hrd] at e;cases e) (inl:=inl) (un:=un) body _ w0 mu ρ0 a w hn ho (hl.mono fun S' e=>e ▸ h)))
  obtain ⟨w1,mu1,hB,hl⟩:=hl
  obtain ⟨hd,S',ρ,hp,hR,hF,hL⟩:=hl
  exact LoopLfpR.mono (LiftQ_base hB hoo) ((LoopR_weak (St.weak_forget S' _) hL).out ro w1 mu1 ρ0 a w hn ⟨hd,S',ρ,hp,hR,hF,rfl⟩ ⟨hB.om.trans ho.1,ho.2⟩).1
 ·refine LoopLfpR.fold (Code.wpIn_mono (thenW (M:=fun S'=>LoopR P un.om un.base body Q (S'.forget (dropOf un body))) fun a w hl=>?_) (codeW_rnd (ro:=ro) hcall hm hrd (inl:=inl) (un:=un) body _ w0 mu ρ0 a w hn ho (hl.mono fun S' e=>e ▸ h)))
  obtain ⟨w1,mu1,hB,hl⟩:=hl
  obtain ⟨hd,S',ρ,hp,hR,hF,hL⟩:=hl
  exact LoopLfpR.mono (LiftW_base hB) ((LoopR_weak (St.weak_forget S' _) hL).out ro w1 mu1 ρ0 a w hn ⟨hd,S',ρ,hp,hR,hF,rfl⟩ ⟨hB.om.trans ho.1,ho.2⟩).2
theorem LoopR_ind {un:Opt} (hcall:CallOK un.om P callW) (hm:P.follows .mixedOrders=true) (hrd:un.rnd=true) {inl:Op->Bool} {body:Code} {Q:Ex->St->Prop} {ι:Type} (Sh:ι->St) (μ:ι->Nat)
  (h:∀ i,(∀ j,μ j<μ i->LoopR P un.om un.base body Q (Sh j))->codeW P callW inl un body (fun e S'=>match e with | .normal=>LoopR P un.om un.base body Q (S'.forget (dropOf un body))| .exit id=>Q (.exit id) S'| .ret=>Q .ret S') (Sh i)):∀ i,LoopR P un.om un.base body Q (Sh i):=by
 have key:∀ n i,μ i=n->LoopR P un.om un.base body Q (Sh i):=by
  intro n
  induction n using Nat.strongRecOn with
  | _ n ih=>
   intro i hi
   exact LoopR_round hcall hm hrd (h i fun j hj=>ih (μ j) (hi ▸ hj) j rfl)
 exact fun i=>key _ i rfl
theorem LoopP_round {un:Opt} (hcall:CallOK un.om P callW) (hm:P.follows .mixedOrders=true) {inl:Op->Bool} {body:Code} {Q:Ex->St->Prop} {S:St}
  (h:codeW P callW inl un body (fun e S'=>match e with | .normal=>LoopP P un.om un.base body Q (S'.forget (dropOf un body))| .exit id=>Q (.exit id) S'| .ret=>Q .ret S') S):LoopP P un.om un.base body Q S:=by
 refine ⟨fun w0 mu ρ0 a w hn hl ho=>?_⟩
 have hoo:=hl.1.2
 refine LoopLfp.fold (Code.wpIn_mono (thenQ (M:=fun S'=>LoopP P un.om un.base body Q (S'.forget (dropOf un body))) fun a w hl=>?_) (codeW_sound (ro:=none) hcall hm (fun _=>rfl) (inl:=inl) (un:=un) body _ w0 mu ρ0 a w hn ho (hl.mono fun S' e=>e ▸ h)))
 obtain ⟨w1,mu1,hB,hl⟩:=hl
 obtain ⟨hd,S',ρ,hp,hR,hF,hL⟩:=hl
 exact LoopLfp.mono (LiftQ_base hB hoo) ((LoopP_weak (St.weak_forget S' _) hL).out w1 mu1 ρ0 a w hn ⟨hd,S',ρ,hp,hR,hF,rfl⟩ ⟨hB.om.trans ho.1,ho.2⟩)
theorem CutP_intro {un:Opt} (hcall:CallOK un.om P callW) (hm:P.follows .mixedOrders=true) {inl:Op->Bool} {c:Code} {Q:Ex->St->Prop} {S:St} (h:codeW P callW inl un c Q S):CutP P un.om un.base c Q S:=
 ⟨fun w0 mu ρ0 a w hn ⟨hd,S',ρ,hp,hR,hF,e⟩ ho=>codeW_sound (ro:=none) hcall hm (fun _=>rfl) c Q w0 mu ρ0 a w hn ho ⟨hd,S',ρ,hp,hR,hF,e ▸ h⟩⟩
theorem LoopP_ind {un:Opt} (hcall:CallOK un.om P callW) (hm:P.follows .mixedOrders=true) {inl:Op->Bool} {body:Code} {Q:Ex->St->Prop} {ι:Type} (Sh:ι->St) (μ:ι->Nat)
  (h:∀ i,(∀ j,μ j<μ i->LoopP P un.om un.base body Q (Sh j))->codeW P callW inl un body (fun e S'=>match e with | .normal=>LoopP P un.om un.base body Q (S'.forget (dropOf un body))| .exit id=>Q (.exit id) S'| .ret=>Q .ret S') (Sh i)):∀ i,LoopP P un.om un.base body Q (Sh i):=by
 have key:∀ n i,μ i=n->LoopP P un.om un.base body Q (Sh i):=by
  intro n
  induction n using Nat.strongRecOn with
  | _ n ih=>
   intro i hi
   exact LoopP_round hcall hm (h i fun j hj=>ih (μ j) (hi ▸ hj) j rfl)
 exact fun i=>key _ i rfl
end
end Go.Sx
namespace Go.Sx
open Go.RowKit (Below)
section
variable {P:Program} {callW:CallT}
def resOf (tmps:Array Value):ResultVar->Sem Value
 | .tmp t=>pure (tmps.getD t undef)
 | .cell t T=>do loadVar T (← asAddr (tmps.getD t undef))
theorem retVar_den {S:St} {a:Act} {w w0:World} {mu:Fm} {ρ:Env} (hR:Rel w0 mu S.bx S.E ρ w) (hF:FrRel ρ S.fr a.tmps) {x:ResultVar} {s:SV} (h:retVar P S x=some s):
  ∃ v,s.den ρ=some v/\(resOf a.tmps x).run P w= .ok v w:=by
 cases x with
 | tmp t=>exact ⟨_,opd_den hF (x:=.tmp t) h,rfl⟩
 | cell t T=>
  simp only [retVar] at h
  split at h
  case h_2=>cases h
  rename_i b off hs
  split at h
  case h_2=>cases h
  rename_i y hy
  have hd:=opd_den hF hs
  simp only [SV.den] at hd
  obtain ⟨c,hc,e,_⟩:=locDen_some hd
  obtain ⟨v,h1,h2⟩:=load_sound (P:=P) hR hy h hd
  refine ⟨v,h1,?_⟩
  have e':a.tmps.getD t undef= .pointer (some (c.add off)):=e
  simp only [resOf,e',asAddr,Sem.run_bind,Sem.run_pure,Result.andThen_ok]
  simp only [Instr.loadAt,Instr.sureAddr,Sem.run_bind] at h2
  rw [show a.eval (.tmp t)= .pointer (some (c.add off)) from e] at h2
  simpa using h2
theorem retVars_den {S:St} {a:Act} {w w0:World} {mu:Fm} {ρ:Env} (hR:Rel w0 mu S.bx S.E ρ w) (hF:FrRel ρ S.fr a.tmps):∀ {l:List ResultVar} {ss:List SV},retVars P S l=some ss->
  ∃ vs,SV.denL ρ ss=some vs/\(l.mapM (resOf a.tmps)).run P w= .ok vs w
 | [],_,h=>by simp only [retVars,Option.some.injEq] at h;subst h;exact ⟨[],rfl,by simp⟩
 | x::l,_,h=>by
  simp only [retVars] at h
  split at h
  case h_2=>cases h
  rename_i s ss h1 h2
  simp only [Option.some.injEq] at h;subst h
  obtain ⟨v,h3,h4⟩:=retVar_den (P:=P) hR hF h1
  obtain ⟨vs,h5,h6⟩:=retVars_den hR hF h2
  refine ⟨v::vs,by simp only [SV.denL,h3,h5],?_⟩
  simp only [List.mapM_cons,Sem.run_bind,h4,h6,Result.andThen_ok,Sem.run_pure]
theorem retW_sound {fn:Func} {S:St} {a:Act} {w w0:World} {mu:Fm} {ρ:Env} {K:KT} (hR:Rel w0 mu S.bx S.E ρ w) (hF:FrRel ρ S.fr a.tmps) (h:retW P fn S K):
  ∃ v s,(results fn a.tmps).run P w= .ok v w/\s.den ρ=some v/\K s S.bx S.E:=by
 have hres:∀ {vs:List Value},(fn.results.toList.mapM (resOf a.tmps)).run P w= .ok vs w->
   (results fn a.tmps).run P w= .ok (if h:vs.toArray.size=1 then vs.toArray[0] else .tuple vs.toArray) w:=by
  intro vs hvs
  have hm:(fn.results.mapM (resOf a.tmps)).run P w= .ok vs.toArray w:=by
   rw [Array.mapM_eq_mapM_toList]
   simp only [Sem.run_map,hvs,Result.andThen_ok]
  have he:results fn a.tmps=(do
    let vs ← fn.results.mapM (resOf a.tmps)
    pure (if h:vs.size=1 then vs[0] else .tuple vs)):=by
   unfold results
   congr 1
   try congr 1
   try (funext x;cases x<;>rfl)
  rw [he,Sem.run_bind,hm]
  rfl
 unfold retW at h
 split at h
 ·rename_i s hs
  obtain ⟨vs,h1,h2⟩:=retVars_den (P:=P) hR hF hs
  have h3:=hres h2
  have hl:=denL_length h1
  match vs,hl,h1,h3 with
  | [v],_,h1,h3=>
   refine ⟨v,s,by simpa using h3,?_,h⟩
   simp only [SV.denL] at h1
   split at h1
   ·rename_i x ys e1 e2
    simp only [Option.some.injEq,List.cons.injEq] at e2 h1
    rw [e1,h1.1]
   ·cases h1
 ·rename_i ss hne hs
  obtain ⟨vs,h1,h2⟩:=retVars_den (P:=P) hR hF hs
  have h3:=hres h2
  have hl:=denL_length h1
  have hsz:vs.toArray.size≠1:=by
   intro e
   simp only [List.size_toArray] at e
   rw [hl] at e
   match ss,e with
   | [s],_=>exact hne s rfl
  rw [dif_neg hsz] at h3
  exact ⟨_,.tup ss,h3,by simp only [SV.den,h1,Option.map_some],h⟩
 ·exact h.elim
def Obj.flat:Obj->Bool
 | .cells _ _ _| .map _ _| .mapIter _ _ _ _=>false
 | _=>true
theorem cell_flat {w:World} {l:Nat} {o:Obj} (h:w.heap[l]? =some o) (ho:Obj.flat o=true) (off:Nat):w.cell? ⟨l,off,none⟩=none:=by
 unfold World.cell?
 simp only [h]
 cases o<;>first|rfl|cases ho
theorem BoxAt.flat {w:World} {ρ:Env} {a:Addr} {b:Box} (h:BoxAt w ρ (some a) b) (hl:b.live=true) {l:Nat} {o:Obj} (hw:w.heap[l]? =some o) (ho:Obj.flat o=true):a.block≠l:=by
 rintro rfl
 rcases h with ⟨h1,vs,h2,h3⟩|⟨h1,vs,h2,h3,h4,h5⟩
 case inr=>
  by_cases hb:b.own=true
  ·obtain ⟨_,q,_⟩:=h4 hb
   rw [hw] at q;cases q
   unfold objS at ho
   split at ho
   ·cases ho
   ·unfold itObj at ho
    split at ho<;>cases ho
  ·have:=h5 (by simpa using hb)
   simp [Box.live,hb,this] at hl
 by_cases hb:b.own=true
 ·rw [if_pos hb] at h3
  obtain ⟨_,junk,h4,_⟩:=h3
  rw [hw] at h4;cases h4;cases ho
 ·rw [if_neg hb] at h3
  have hne:b.cells≠[]:=by
   intro e;simp [Box.live,hb,e] at hl
  have hlen:=denL_length h2
  cases vs with
  | nil=>exact hne (List.eq_nil_of_length_eq_zero hlen.symm)
  | cons x vs=>
   have:=h3 0 x rfl
   rw [cell_flat hw ho] at this;cases this
theorem RowAt.flat {w:World} {v:Value} {cs:List Value} (h:RowAt w v cs) (hne:cs≠[]) {l:Nat} {o:Obj} (hw:w.heap[l]? =some o) (ho:Obj.flat o=true):blk v≠some l:=by
 rcases h with h|⟨a,len,cap,rfl,hs,h⟩
 ·exact absurd h hne
 ·intro e
  simp only [blk,Option.some.injEq] at e
  cases cs with
  | nil=>exact hne rfl
  | cons x cs=>
   have:=h 0 x rfl
   rw [e,cell_flat hw ho] at this;cases this
theorem lvB_flat {w0 w:World} {mu:Fm} {bx:List Box} {E:Mem} {ρ:Env} (h:Rel w0 mu bx E ρ w) {l:Nat} {o:Obj} (hw:w.heap[l]? =some o) (ho:Obj.flat o=true):l ∉ lvB bx ρ:=by
 intro hg
 obtain ⟨j,b,a,h1,h2,h3,rfl⟩:=lvB_of hg
 exact (h.box j b _ h1 h2).flat h3 hw ho rfl
theorem Rel.putObj {w0 w:World} {mu:Fm} {bx:List Box} {E:Mem} {ρ:Env} (h:Rel w0 mu bx E ρ w) {l:Nat} {o:Obj} (hw:w.heap[l]? =some o) (ho:Obj.flat o=true) (hl:w0.heap.size<=l) (o':Obj):Rel w0 mu bx E ρ (w.putObj l o'):=by
 have hk:=h.keep
 refine ⟨⟨hk.os,hk.tape,hk.output,by rw [World.putObj_size];exact hk.size,fun k h1 h2=>?_⟩,h.len,fun i b oa h1 h2=>(h.box i b oa h1 h2).of_block fun a ha hl'=>?_,h.sep,fun v cs hE=>(h.hold v cs hE).of_block fun b hne hb=>?_,h.bsrc,h.src⟩
 ·rw [World.putObj_heap_other (by omega)];exact hk.block k h1 h2
 ·subst ha
  exact World.putObj_heap_other ((h.box i b _ h1 h2).flat hl' hw ho)
 ·refine World.putObj_heap_other ?_
  rintro rfl
  exact (h.hold v cs hE).flat hne hw ho hb
theorem Rel.putBoth {w0 w:World} {mu:Fm} {bx:List Box} {E:Mem} {ρ:Env} (h:Rel w0 mu bx E ρ w) {l:Nat} {o:Obj} (h0:l<w0.heap.size) (hw:w.heap[l]? =some o) (ho:Obj.flat o=true) (o':Obj):Rel (w0.putObj l o') mu bx E ρ (w.putObj l o'):=by
 have hk:=h.keep
 have hlw:l<w.heap.size:=(Array.getElem?_eq_some_iff.1 hw).1
 refine ⟨⟨hk.os,hk.tape,hk.output,by rw [World.putObj_size,World.putObj_size];exact hk.size,fun k h1 h2=>?_⟩,h.len,fun i b oa h1 h2=>(h.box i b oa h1 h2).of_block fun a ha hl'=>?_,by simpa using h.sep,fun v cs hE=>(h.hold v cs hE).of_block fun b hne hb=>?_,by simpa using h.bsrc,by simpa using h.src⟩
 ·by_cases hkl:k=l
  ·subst hkl
   rw [World.putObj_heap_same hlw,World.putObj_heap_same h0]
  ·rw [World.putObj_heap_other hkl,World.putObj_heap_other hkl]
   exact hk.block k (by simpa using h1) h2
 ·subst ha
  exact World.putObj_heap_other ((h.box i b _ h1 h2).flat hl' hw ho)
 ·refine World.putObj_heap_other ?_
  rintro rfl
  exact (h.hold v cs hE).flat hne hw ho hb
theorem leaves_marks {fn:Func} {tmps:Array Value} {R:Ending->World->Prop} {w0:World} {mu:Fm} {bx:List Box} {E:Mem} {ρ:Env}
  (hR:∀ w,Rel w0 mu bx E ρ w->∃ v,(results fn tmps).run P w= .ok v w/\R (.returned v) w):
  ∀ (ds:List Deferred) (w:World),ds.Nodup->(∀ d∈ds,∃ D,d={ target:=.collected D,args:=#[] }/\w.heap[D]? =some (.deferred (some []))/\w0.heap.size<=D)->Rel w0 mu bx E ρ w->
   LeavesInM Fence.wide 0 P fn tmps R ds .returning w
 | [],w,_,_,h=>hR w h
 | d::ds,w,hn,hd,h=>by
  obtain ⟨D,rfl,h1,h2⟩:=hd d (by simp)
  refine ⟨(fun e=>by cases e),.inl ⟨D,_,rfl,run_takeDeferred h1,?_⟩⟩
  refine leaves_marks hR ds _ (List.nodup_cons.1 hn).2 (fun d' hd'=>?_) (h.putObj h1 rfl h2 _)
  obtain ⟨D',rfl,g1,g2⟩:=hd d' (List.mem_cons_of_mem _ hd')
  refine ⟨D',rfl,?_,g2⟩
  rw [World.putObj_heap_other]
  ·exact g1
  ·rintro rfl;exact (List.nodup_cons.1 hn).1 hd'
theorem bodyQ_sound {fn:Func} {w0:World} {mu:Fm} {ρ:Env} {K:KT} (hmu:mu.ds=[]) (hres:mu.om.isSome=true->fn.results.toList=[]) (e:Exit) (a:Act) (w:World) (h:LiftQ w0 mu ρ (bodyQ P fn K) e a w):
  bodyPostM Fence.wide 0 P fn (fun e w=>CallPost w0 mu ρ K e w\/QuitPost mu.om w0 mu ρ e w) e a w:=by
 have key:LiftR w0 mu ρ (fun S=>retW P fn S K) a w->LeavesInM Fence.wide 0 P fn a.tmps (fun e w=>CallPost w0 mu ρ K e w\/QuitPost mu.om w0 mu ρ e w) a.defers .returning w:=by
  rintro ⟨w1,mu1,hB,hd,S,ρ',hp,hR,hF,h⟩
  have hD:=hB.mark ⟨by rw [hmu];exact List.nodup_nil,by rw [hmu];simp⟩
  have hR0:=hB.back _ _ _ _ hR
  refine leaves_marks (fun w' hR'=>?_) a.defers w (by rw [hd.1];exact hD.1) (fun d hdm=>?_) hR0
  ·obtain ⟨v,s,h1,h2,h3⟩:=retW_sound hR' hF h
   exact ⟨v,h1,.inl ⟨v,s,S.bx,S.E,ρ',rfl,hp,h2,hR',h3⟩⟩
  ·rw [hd.1] at hdm
   obtain ⟨D,e1,e2,e3⟩:=hD.2 d hdm
   refine ⟨D,e1,?_,?_⟩
   ·rw [hR.keep.block D (Array.getElem?_eq_some_iff.1 e2).1 e3];exact e2
   ·rcases hB.fresh d hdm with q|⟨D',q1,q2⟩
    ·rw [hmu] at q;cases q
    ·rw [e1] at q1;cases q1;exact q2
 have keyX:LiftX w0 mu ρ a w->LeavesInM Fence.wide 0 P fn a.tmps (fun e w=>CallPost w0 mu ρ K e w\/QuitPost mu.om w0 mu ρ e w) a.defers .returning w:=by
  rintro ⟨c,hc,ho,w1,mu1,hB,hd,bx,E,ρ',hp,hR,hq⟩
  have hD:=hB.mark ⟨by rw [hmu];exact List.nodup_nil,by rw [hmu];simp⟩
  have hR0:=hB.backX c _ _ _ _ _ hc ho hR
  have ho1:=hB.okX ho
  unfold okO at ho1
  rw [hB.om.trans hc] at ho1
  have hrs:=hres (by rw [hc];rfl)
  refine leaves_marks (fun w' hR'=>?_) a.defers w (by rw [hd];exact hD.1) (fun d hdm=>?_) hR0
  ·refine ⟨.tuple #[],?_,.inr ⟨c,hc,_,bx,E,ρ',rfl,hp,hR',hq⟩⟩
   have hr:fn.results= #[]:=by rw [← Array.toList_inj];exact hrs
   unfold results
   rw [hr]
   simp
  ·rw [hd] at hdm
   obtain ⟨D,e1,e2,e3⟩:=hD.2 d hdm
   have hne:D≠c.l:=by
    rintro rfl
    rw [ho1.1] at e2;cases e2
   refine ⟨D,e1,?_,?_⟩
   ·rw [hR.keep.block D (by rw [World.putObj_size];exact (Array.getElem?_eq_some_iff.1 e2).1) e3,World.putObj_heap_other hne];exact e2
   ·rw [World.putObj_size]
    rcases hB.fresh d hdm with q|⟨D',q1,q2⟩
    ·rw [hmu] at q;cases q
    ·rw [e1] at q1;cases q1;exact q2
 cases e with
 | normal=>exact key h
 | ret=>exact h.elim key keyX
 | exit _=>obtain ⟨_,_,_,_,_,_,_,_,_,h⟩:=h;exact h.elim
 | goto _=>exact h.elim
 | panic _=>exact h.elim
 | outgrown=>exact h.elim
def okFn (fn : Func) : Prop := (fn.name == "runtime.NumGoroutine") = false ∧ fn.body.isNone = false
theorem enterW_sound {un:Opt} (hcall:CallOK un.om P callW) (hm:P.follows .mixedOrders=true) {inl:Op->Bool} {f:FuncId} {fn:Func} (hf:P.funcs[f]? =some fn) (hok:okFn fn)
  {args:List SV} {bx:List Box} {E:Mem} {K:KT} (h:enterW P callW inl un fn args bx E K):CallSemO un.om P f args bx E K:=by
 refine ⟨⟨fn,hf,hok.1,hok.2⟩,?_⟩
 intro w0 mu0 ρ w vs hΩ hR hd
 have hR:=Rel.cast (mu:=mu0) (mu':=⟨mu0.mu,mu0.E0,mu0.om,[]⟩) rfl rfl hR
 have hpost:∀ e w',CallPost w0 ⟨mu0.mu,mu0.E0,mu0.om,[]⟩ ρ K e w'\/QuitPost mu0.om w0 ⟨mu0.mu,mu0.E0,mu0.om,[]⟩ ρ e w'->CallPost w0 mu0 ρ K e w'\/QuitPost un.om w0 mu0 ρ e w':=by
  rintro e w' (⟨v,s,bx',E',ρ',rfl,h1,h2,h3,h4⟩|⟨c,q,v,bx',E',ρ',rfl,h1,h2,h3⟩)
  ·exact .inl ⟨v,s,bx',E',ρ',rfl,h1,h2,Rel.cast (mu:=⟨mu0.mu,mu0.E0,mu0.om,[]⟩) rfl rfl h3,h4⟩
  ·exact .inr ⟨c,hΩ.1.1 ▸ q,v,bx',E',ρ',rfl,h1,Rel.cast (mu:=⟨mu0.mu,mu0.E0,mu0.om,[]⟩) rfl rfl h2,h3⟩
 refine Calls.mono ?_ hpost
 have hO:okO w0 ⟨mu0.mu,mu0.E0,mu0.om,[]⟩:=hΩ.2
 have hom:=hΩ.1
 generalize hmu:(⟨mu0.mu,mu0.E0,mu0.om,[]⟩:Fm)=mu at *
 have hds:mu.ds=[]:=by rw [← hmu]
 have hmo:mu0.om=mu.om:=by rw [← hmu]
 rw [hmo]
 have hom':mu.om=un.om/\okE un.om ρ:=by rw [← hmu];exact hom
 unfold enterW at h
 split at h
 case h_2=>exact h.elim
 rename_i c hc
 split at h
 case isFalse=>exact h.elim
 rename_i hle
 have hrs:mu.om.isSome=true->fn.results.toList=[]:=fun q=>by
  have h2:=hle.2
  rw [hom'.1] at q
  cases ho:un.om with
  | none=>rw [ho] at q;cases q
  | some c=>rw [ho] at h2;simpa using h2
 have hle:=hle.1
 refine (callsIn_wide (n:=0)).1 (callsIn_of_wp_marks hf hc trivial (Code.wpIn_mono (bodyQ_sound hds hrs) (codeW_sound (ro:=none) (inl:=inl) (un:={ un with base:=bx.length,rnd:=false }) hcall hm (fun _=>rfl) c _ w0 mu ρ _ w (Nat.le_of_eq hR.len) hom' ⟨⟨hds.symm,hO⟩,_,ρ,List.prefix_refl _,?_,?_,h⟩)))
 ·exact hR
 ·have hl:=denL_length hd
  refine ⟨by simp;omega,fun i s hs=>?_⟩
  simp only at hs ⊢
  by_cases hi:i<args.length
  ·rw [List.getElem?_append_left (by simpa using hi),List.getElem?_map] at hs
   cases hai:args[i]? with
   | none=>rw [hai] at hs;cases hs
   | some s'=>
    rw [hai] at hs
    simp only [Option.map_some,Option.some.injEq] at hs;subst hs
    obtain ⟨v,h1,h2⟩:=denL_get hd hai
    exact ⟨v,by rw [Array.getElem?_append_left (by simp;omega)];simpa using h1,h2⟩
  ·rw [List.getElem?_append_right (by simpa using Nat.le_of_not_lt hi)] at hs
   have:=List.mem_of_getElem? hs
   simp at this
structure CxOK (C:Cx):Prop where
 tab:TabOK C.P C.tab
 wide:C.P.follows .mixedOrders=true
 inl:∀ f fn,C.inl f=true->C.P.funcs[f]? =some fn->okFn fn
 tabB:∀ f args bx E K,C.tabB f args bx E K->CallSem C.P f args bx E K
 tabY:∀ c args bx E K,C.opt.om=some c->C.tabY args bx E K->YieldSem (some c) C.P args bx E K:=by intro c args bx E K h;cases h
theorem tabF_sound {C:Cx} (hC:CxOK C):CallOK C.opt.om C.P (tabF C):=by
 intro f args bx E K h
 unfold tabF at h
 split at h
 ·rename_i hf
  rw [if_pos hf]
  cases hc:C.opt.om with
  | none=>rw [hc] at h;exact h.elim
  | some c=>rw [hc] at h;exact hC.tabY c args bx E K hc h
 rename_i hf
 rw [if_neg hf]
 split at h
 ·exact hC.tabB f args bx E K h
 ·intro w0 mu ρ w vs hR hd
  obtain ⟨args',bx2,E2,h1,h2,h3⟩:=pubW_sound 16 args bx E vs h hR hd
  exact (TabSem.call (bx:=bx2) (hC.tab f args' E2 _ h3)) w0 mu ρ w vs h2 h1
theorem noY_P (C:Cx):C.noY.P=C.P:=by unfold Cx.noY;split<;>rfl
theorem noY_om (C:Cx):C.noY.opt.om=none:=by unfold Cx.noY;split<;>simp_all
theorem CxOK.noY {C:Cx} (hC:CxOK C):CxOK C.noY:=by
 unfold Cx.noY
 split
 ·exact hC
 ·exact ⟨hC.tab,hC.wide,hC.inl,hC.tabB,fun c args bx E K h=>by cases h⟩
theorem callF_sound:∀ (n:Nat) {C:Cx},CxOK C->CallOK C.opt.om C.P (callF C n)
 | 0,C,hC,f,args,bx,E,K,h=>tabF_sound hC f args bx E K h
 | n+1,C,hC,f,args,bx,E,K,h=>by
  unfold callF at h
  split at h
  ·rename_i hi
   simp only [Bool.and_eq_true,bne_iff_ne] at hi
   split at h
   ·rename_i fn hf
    have h1:CallOK none C.P (callF C.noY n):=by
     have:=callF_sound n hC.noY
     rw [noY_P,noY_om] at this;exact this
    rw [if_neg hi.2]
    exact (enterW_sound (un:={ C.opt with cuts:=[],om:=none,unroll:=C.opt.unroll+C.opt.unrollC }) h1 hC.wide hf (hC.inl f fn hi.1 hf) h).out
   ·exact h.elim
  ·exact tabF_sound hC f args bx E K h
def EntB (C:Cx) (n:Nat) (fn:Func) (args:List SV) (bx:List Box) (E:Mem) (K:KT):Prop:=enterN C.P (callN C n) C.muts C.opt fn args bx E K
def Ent (C:Cx) (n:Nat) (fn:Func) (args:List SV) (E:Mem) (K:SV->Mem->Prop):Prop:=enterN C.P (callN C n) C.muts C.opt fn args [] E (pubK E K)
def Lp (C:Cx) (n:Nat) (fn:Func) (p:List Nat) (n0:Nat) (K:KT) (S:St):Prop:=
 LoopP C.P C.opt.om n0 (sub (bodyOf fn) (p++[0])) (contN C.P (callN C n) C.muts { C.opt with base:=n0 } (bodyOf fn) p (bodyN C.P fn K)) S
def Rnd (C:Cx) (n:Nat) (fn:Func) (p:List Nat) (n0:Nat) (K:KT) (S:St):Prop:=
 codeN C.P (callN C n) C.muts { C.opt with base:=n0 } (sub (bodyOf fn) (p++[0])) (fun e S'=>match e with
  | .normal=>nSt (S'.forget (dropOf C.opt (sub (bodyOf fn) (p++[0])))) (Lp C n fn p n0 K)
  | .exit id=>contN C.P (callN C n) C.muts { C.opt with base:=n0 } (bodyOf fn) p (bodyN C.P fn K) (.exit id) S'
  | .ret=>contN C.P (callN C n) C.muts { C.opt with base:=n0 } (bodyOf fn) p (bodyN C.P fn K) .ret S') S
def Ct (C:Cx) (n:Nat) (fn:Func) (p:List Nat) (n0:Nat) (K:KT) (S:St):Prop:=
 CutP C.P C.opt.om n0 (sub (bodyOf fn) p) (contN C.P (callN C n) C.muts { C.opt with base:=n0 } (bodyOf fn) p (bodyN C.P fn K)) S
def Pc (C:Cx) (n:Nat) (fn:Func) (p:List Nat) (n0:Nat) (K:KT) (S:St):Prop:=
 codeN C.P (callN C n) C.muts { C.opt with base:=n0 } (sub (bodyOf fn) p) (contN C.P (callN C n) C.muts { C.opt with base:=n0 } (bodyOf fn) p (bodyN C.P fn K)) S
theorem EntB.semO {C:Cx} (hC:CxOK C) {n:Nat} {f:FuncId} {fn:Func} (hf:C.P.funcs[f]? =some fn) (hok:okFn fn) {args:List SV} {bx:List Box} {E:Mem} {K:KT}
  (h:EntB C n fn args bx E K):CallSemO C.opt.om C.P f args bx E K:=by
 unfold EntB at h
 rw [enterN_eq,callN_eq] at h
 exact enterW_sound (callF_sound n hC) hC.wide hf hok h
theorem EntB.sem {C:Cx} (hC:CxOK C) {n:Nat} {f:FuncId} {fn:Func} (hf:C.P.funcs[f]? =some fn) (hok:okFn fn) {args:List SV} {bx:List Box} {E:Mem} {K:KT}
  (h:EntB C n fn args bx E K) (ho:C.opt.om=none:=by rfl):CallSem C.P f args bx E K:=by
 have:=EntB.semO hC hf hok h
 rw [ho] at this
 exact this.out
theorem Ent.sem {C:Cx} (hC:CxOK C) {n:Nat} {f:FuncId} {fn:Func} (hf:C.P.funcs[f]? =some fn) (hok:okFn fn) {args:List SV} {vs:List Value} {E:Mem} {K:SV->Mem->Prop}
  (hv:SV.valL args=some vs) (h:Ent C n fn args E K) (ho:C.opt.om=none:=by rfl):TabSem C.P f args E K:=by
 unfold Ent at h
 rw [enterN_eq,callN_eq] at h
 have:=enterW_sound (callF_sound n hC) hC.wide hf hok h
 rw [ho] at this
 exact TabSem.intro hv this
theorem Lp_ind {C:Cx} (hC:CxOK C) {n:Nat} {fn:Func} {p:List Nat} {n0:Nat} {K:KT} {ι:Type} (Sh:ι->St) (μ:ι->Nat)
  (h:∀ i,(∀ j,μ j<μ i->Lp C n fn p n0 K (Sh j))->Rnd C n fn p n0 K (Sh i)):∀ i,Lp C n fn p n0 K (Sh i):=by
 simp only [Lp,Rnd,contN_eq,callN_eq,bodyN_eq,codeN_eq,nSt_eq] at h ⊢
 exact LoopP_ind (callF_sound n hC) hC.wide (inl:=C.muts) (un:={ C.opt with base:=n0 }) Sh μ h
theorem Ct_intro {C:Cx} (hC:CxOK C) {n:Nat} {fn:Func} {p:List Nat} {n0:Nat} {K:KT} {S:St} (h:Pc C n fn p n0 K S):Ct C n fn p n0 K S:=by
 unfold Pc at h
 rw [codeN_eq] at h
 have h2:codeW C.P (callF C n) C.muts { C.opt with base:=n0 } (sub (bodyOf fn) p) (contN C.P (callN C n) C.muts { C.opt with base:=n0 } (bodyOf fn) p (bodyN C.P fn K)) S:=by
  rw [callN_eq C n] at h ⊢;exact h
 exact CutP_intro (callF_sound n hC) hC.wide (inl:=C.muts) (un:={ C.opt with base:=n0 }) h2
theorem Ct_wk {C:Cx} {n:Nat} {fn:Func} {p:List Nat} {n0:Nat} {K:KT} {S T:St} (τ:Tau) (hw:S.wk n0 τ T) (h:Ct C n fn p n0 K T):Ct C n fn p n0 K S:=CutP_wk hw h
theorem Lp_wk {C:Cx} {n:Nat} {fn:Func} {p:List Nat} {n0:Nat} {K:KT} {S T:St} (τ:Tau) (hw:S.wk n0 τ T) (h:Lp C n fn p n0 K T):Lp C n fn p n0 K S:=LoopP_wk hw h
theorem same {p q:Prop} (e:p=q) (h:q):p:=e.mpr h
attribute [irreducible] Ent EntB Lp Rnd Ct Pc
end
end Go.Sx
