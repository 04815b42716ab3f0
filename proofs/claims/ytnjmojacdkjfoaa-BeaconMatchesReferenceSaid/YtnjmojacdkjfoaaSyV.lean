/- The symbolic evaluator; generic. Conditions: none. -/
import Derived.Test.YtnjmojacdkjfoaaSyI
import Derived.Test.YtnjmojacdkjfoaaSyR
import Derived.OrdersHeld
import Derived.OrdersIn
import Derived.ProofKit
import Derived.OpenShut
import Derived.ChangeOld
import Derived.Carry
import Derived.ChangeArms
import Derived.IntWalk
namespace Go.Sx
def TP (P:Program) (ak:cK) (op:Op) (pO:List (Option SV)) (gk:List aR) (E0:Mem) (K:KT):Prop:=
 match op with
 | .move x| .assign x=>match jh ⟨pO,gk,E0⟩ x with |some s=>K s gk E0|none=>False
 | .pick c x y=>match jh ⟨pO,gk,E0⟩ c,jh ⟨pO,gk,E0⟩ x,jh ⟨pO,gk,E0⟩ y with
  | some (.raw (.bool t)),some (.raw (.bool a)),some (.raw (.bool b))=>K (.raw (.bool (cond t a b))) gk E0
  | some (.raw (.bool t)),some a,some b=>cond t (K a gk E0) (K b gk E0)
  | some (.raw (.bool true)),some a,none=>K a gk E0
  | some (.raw (.bool false)),none,some b=>K b gk E0
  | _,_,_=>False
 | .alloc T=>match P.info? T with
  | some i=>match i.zero with
   | some z=>if gH (.raw z)=true then K (.loc gk.length 0) (gk++[⟨T,.ae (cG (.raw z)),(cG (.raw z)).length,true⟩]) E0 else False
   | none=>False
  | none=>False
 | .box T x=>match jh ⟨pO,gk,E0⟩ x with
  | some s=>if gH s=true then K (.loc gk.length 0) (gk++[⟨T,.ae (cG s),(cG s).length,true⟩]) E0 else False
  | none=>False
 | .build T ps=>match P.info? T,P.underlying T,parts ⟨pO,gk,E0⟩ ps.toList with
  | some i,some (.struct fs),some ss=>match i.zero,fs.toList.mapM (λf=>(P.info? f.type).map λi=>(f.offset,i.size)) with
   | some z,some places=>match fN (.raw z) with
    | some zs=>match pS (places.toArray[·]?) zs ss with
     | some cs=>K (.agg cs) gk E0
     | none=>False
    | none=>False
   | _,_=>False
  | some i,some (.array _ e),some ss=>match i.zero,P.info? e with
   | some z,some ie=>match fN (.raw z) with
    | some zs=>match pS (λk=>some (k*ie.size,ie.size)) zs ss with
     | some cs=>K (.agg cs) gk E0
     | none=>False
    | none=>False
   | _,_=>False
  | _,_,_=>False
 | .buildSlice T n ps=>match P.underlying T,parts ⟨pO,gk,E0⟩ ps.toList with
  | some (.slice e),some ss=>match eJ P e,vR P e n with
   | some m,some zs=>if n*m<=16777216 then
     match pS (λk=>some (k*m,m)) zs ss with
     | some cs=>K (.bH gk.length 0 n n) (gk++[⟨e,.ae cs,cs.length,true⟩]) E0
     | none=>False else False
   | _,_=>False
  | _,_=>False
 | .load T x=>match jh ⟨pO,gk,E0⟩ x with
  | some (.loc b off)=>match gk[b]? with
   | some y=>match y.row with
    | .ae cells=>match iB P T cells off with
     | some r=>K r gk E0
     | none=>False
    | .vals vs=>qB P T (gA P T vs off) λs=>K s gk E0
   | none=>False
  | some (.rp v off)=>qB P T (bt P E0 T v off) λs=>K s gk E0
  | _=>False
 | .store T x y=>match jh ⟨pO,gk,E0⟩ x,jh ⟨pO,gk,E0⟩ y with
  | some (.loc b off),some s=>zg P T gk b off s λbx=>K (.raw undef) bx E0
  | _,_=>False
 | .nilCheck x=>match jh ⟨pO,gk,E0⟩ x with
  | some (.loc b off)=>K (.loc b off) gk E0
  | some (.rp v off)=>K (.rp v off) gk E0
  | some (.fM f m l)=>K (.fM f m l) gk E0
  | some (.cr t v)=>K (.cr t v) gk E0
  | some (.vm n (.cr T v))=>match mR P T n,P.underlying T with
   | some _,some (.pointer _)=>K (.vm n (.cr T v)) gk E0
   | _,_=>False
  | _=>False
 | .binOp op T x y _=>match jh ⟨pO,gk,E0⟩ x,jh ⟨pO,gk,E0⟩ y with
  | some s,some t=>match op,nL s t,P.underlying T with
   | .eql,some r,some (.pointer _)=>K (.raw (.bool r)) gk E0
   | .neq,some r,some (.pointer _)=>K (.raw (.bool !r)) gk E0
   | .eql,none,some (.slice _)=>qC s t λr=>K (.raw (.bool r)) gk E0
   | .neq,none,some (.slice _)=>qC s t λr=>K (.raw (.bool !r)) gk E0
   | .eql,none,some (.struct _)=>if P.eqGuardType P.depth T=false then match xT P 12 T s t with
    | some r=>K (.raw (.bool r)) gk E0
    | none=>False else False
   | .neq,none,some (.struct _)=>if P.eqGuardType P.depth T=false then match xT P 12 T s t with
    | some r=>K (.raw (.bool !r)) gk E0
    | none=>False else False
   | _,_,_=>match s.val,t.val with
    | some v,some u=>JD P op T x y v u λr=>K r gk E0
    | _,_=>False
  | _,_=>False
 | .unOp op _ x=>match jh ⟨pO,gk,E0⟩ x with
  | some (.raw v)=>kf P (Op.unary op v) λr=>K r gk E0
  | _=>False
 | .convert src dst x=>match jh ⟨pO,gk,E0⟩ x with
  | some s=>match s.val with
   | some v=>kf P (convert src dst v) λr=>K r gk E0
   | none=>JF P src dst s gk λbx=>K s bx E0
  | none=>False
 | .makeInterface T x=>match jh ⟨pO,gk,E0⟩ x,P.underlying T with
  | some _,some (.interface _)=>False
  | some s,some _=>K (.cr T s) gk E0
  | _,_=>False
 | .makeFunc (.func f) first jL=>match tJ ⟨pO,gk,E0⟩ first.toList,tJ ⟨pO,gk,E0⟩ jL.toList with
  | some m,some l=>K (.fM f m l) gk E0
  | _,_=>False
 | .makeFunc (.method n) first jL=>match tJ ⟨pO,gk,E0⟩ first.toList,jL.toList with
  | some [.cr T v],[]=>K (.vm n (.cr T v)) gk E0
  | _,_=>False
 | .makeSlice T l c=>match jh ⟨pO,gk,E0⟩ l,jh ⟨pO,gk,E0⟩ c,P.underlying T with
  | some (.raw (.int _ l)),some (.raw (.int _ c)),some (.slice e)=>CQ P e l c gk E0 K
  | _,_,_=>False
 | .slice T x lo hi mx=>match jh ⟨pO,gk,E0⟩ x,vn ⟨pO,gk,E0⟩ lo,vn ⟨pO,gk,E0⟩ hi,vn ⟨pO,gk,E0⟩ mx,P.underlying T with
  | some (.loc b off),some l,some h,some m,some (.array n e)=>match eJ P e with
   | some z=>jj l h m n n λl h m=>K (.bH b (if m=l then off else off+l*z) (h-l) (m-l)) gk E0
   | none=>False
  | some (.bH b off len cap),some l,some h,some m,some (.slice e)=>match eJ P e with
   | some z=>jj l h m len cap λl h m=>K (.bH b (if m=l then off else off+l*z) (h-l) (m-l)) gk E0
   | none=>False
  | some (.raw (.slice base len cap)),some l,some h,some m,some (.slice e)=>match eJ P e with
   | some z=>cU (len<=cap)<|jj l h m len cap λl h m=>∀ (base':Oa) (E':Mem),Mem.le E0 E'->
     (∀ cs,E0 (.slice base len cap) cs->E' (.slice base' (h-l) (m-l)) ((cs.drop (l*z)).take ((h-l)*z)))->base'.isNone=base.isNone->K (.raw (.slice base' (h-l) (m-l))) gk E'
   | none=>False
  | _,_,_,_,_=>False
 | .fieldAddr T x f=>match P.underlying T with
  | some (.struct fs)=>match fs[f]? with
   | some xU=>match eJ P xU.type,jh ⟨pO,gk,E0⟩ x with
    | some n,some (.loc b off)=>if n=0 then False else K (.loc b (off+xU.offset)) gk E0
    | some n,some (.rp v off)=>if n=0 then False else K (.rp v (off+xU.offset)) gk E0
    | _,_=>False
   | none=>False
  | _=>False
 | .field T x f=>match P.underlying T with
  | some (.struct fs)=>match fs[f]?,jh ⟨pO,gk,E0⟩ x with
   | some xU,some s=>match fN s with
    | some cs=>match iB P xU.type cs xU.offset with
     | some r=>K r gk E0
     | none=>False
    | none=>False
   | _,_=>False
  | _=>False
 | .indexAddr T x i=>match jh ⟨pO,gk,E0⟩ x,jh ⟨pO,gk,E0⟩ i,P.underlying T with
  | some (.loc b off),some (.raw (.int _ n)),some (.array len e)=>match eJ P e with
   | some z=>cU (0<=n/\n<(len:Int)) (K (.loc b (off+n.toNat*z)) gk E0)
   | none=>False
  | some (.rp v off),some (.raw (.int _ n)),some (.array len e)=>match eJ P e with
   | some z=>cU (0<=n/\n<(len:Int)) (K (.rp v (off+n.toNat*z)) gk E0)
   | none=>False
  | some (.bH b off len _),some (.raw (.int _ n)),some (.slice e)=>match eJ P e with
   | some z=>cU (0<=n/\n<(len:Int)) (K (.loc b (off+n.toNat*z)) gk E0)
   | none=>False
  | some (.raw (.slice base len cap)),some (.raw (.int _ n)),some (.slice e)=>match eJ P e with
   | some z=>cU (0<=n/\n<(len:Int)) ((∃ cs,E0 (.slice base len cap) cs/\cs≠[])/\K (.rp (.slice base len cap) (n.toNat*z)) gk E0)
   | none=>False
  | _,_,_=>False
 | .index T x i=>match jh ⟨pO,gk,E0⟩ x,jh ⟨pO,gk,E0⟩ i,P.underlying T with
  | some s,some (.raw (.int _ n)),some (.array len e)=>match fN s,eJ P e with
   | some cs,some z=>cU (0<=n/\n<(len:Int)) (match iB P e cs (n.toNat*z) with
    | some r=>K r gk E0
    | none=>False)
   | _,_=>False
  | some (.raw v),some (.raw i),_=>kf P (Instr.index T v i) λr=>K r gk E0
  | _,_,_=>False
 | .extract x i=>match jh ⟨pO,gk,E0⟩ x with
  | some (.bB l)=>match l[i]? with |some s=>K s gk E0|none=>False
  | some (.raw (.tuple vs))=>match vs.toList[i]? with |some v=>K (.raw v) gk E0|none=>False
  | _=>False
 | .typeAssert x T U ok=>match jh ⟨pO,gk,E0⟩ x with
  | some s=>match s.val with
   | some v=>kf P (Instr.typeAssert v T U ok) λr=>K r gk E0
   | none=>False
  | none=>False
 | .call c=>match tJ ⟨pO,gk,E0⟩ c.args.toList with
  | some args=>match c.callee with
   | .value f=>match jh ⟨pO,gk,E0⟩ f with
    | some (.fM g first jL)=>yj ak g (first++args++jL) gk E0 K
    | some (.raw (.func (.yield l) m b))=>ak LG (.raw (.func (.yield l) m b)::args) gk E0 K
    | _=>False
   | .invoke r name=>match jh ⟨pO,gk,E0⟩ r with
    | some (.cr T v)=>match mR P T name with
     | some g=>yj ak g (v::args) gk E0 K
     | none=>False
    | _=>False
   | .builtin .len=>match args,(c.argTypes[0]?).bind P.underlying with
    | [.raw (.slice _ n _)],some (.slice _)=>K (.raw (.int .i64 n)) gk E0
    | [.bH _ _ n _],some (.slice _)=>K (.raw (.int .i64 n)) gk E0
    | [.raw (.string s)],some .string=>K (.raw (.int .i64 s.size)) gk E0
    | [_],some (.array n _)=>K (.raw (.int .i64 n)) gk E0
    | _,_=>False
   | .builtin .cap=>match args,(c.argTypes[0]?).bind P.underlying with
    | [.raw (.slice _ _ n)],some (.slice _)=>K (.raw (.int .i64 n)) gk E0
    | [.bH _ _ _ n],some (.slice _)=>K (.raw (.int .i64 n)) gk E0
    | _,_=>False
   | .builtin .append=>match args,c.argTypes.toList with
    | [s,x],[t,u]=>match P.underlying t,P.underlying u with
     | some (.slice e),some (.slice _)=>vG P e s x gk E0 K
     | some (.slice e),some (.int _)=>vH P e s x gk E0 K
     | _,_=>False
    | _,_=>False
   | .builtin .copy=>match args,c.argTypes.toList with
    | [s,x],[t,u]=>match P.underlying t,P.underlying u with
     | some (.slice e),some (.slice _)=>CP P e s x gk E0 K
     | _,_=>False
    | _,_=>False
   | .builtin .clear=>match args,c.argTypes.toList with
    | [s],[t]=>match P.underlying t with
     | some (.slice e)=>zl P e s gk E0 K
     | _=>False
    | _,_=>False
   | .builtin .min=>match JC args with
    | some vs=>kf P (Builtin.min_ #[] 0 vs.toArray) λr=>K r gk E0
    | none=>False
   | .builtin .max=>match JC args with
    | some vs=>kf P (Builtin.max_ #[] 0 vs.toArray) λr=>K r gk E0
    | none=>False
   | .builtin _=>False
  | none=>False
 | _=>False
theorem Ns (P:Program) (ak:cK) (op:Op) (S:St) (K:KT):TP P ak op S.fr S.bx S.E K=kg P ak op S K:=by
 cases S
 cases op<;>rfl
def pZ (f:SV->(SV->Prop)->Prop):List SV->(List SV->Prop)->Prop
 | [],K=>K []
 | s::l,K=>f s λs'=>pZ f l λl'=>K (s'::l')
def C1:Nat->SV->(SV->Prop)->Prop
 | 0,s,K=>K s
 | n+1,s,K=>match s with
  | .raw v=>K (.raw v)
  | .loc b off=>K (.loc b off)
  | .bH b off len cap=>K (.bH b off len cap)
  | .rp v off=>K (.rp v off)
  | .agg l=>pZ (C1 n) l λl'=>K (.agg l')
  | .bB l=>pZ (C1 n) l λl'=>K (.bB l')
  | .fM f m l=>pZ (C1 n) m λm'=>pZ (C1 n) l λl'=>K (.fM f m' l')
  | .cr t v=>C1 n v λv'=>K (.cr t v')
  | .vm t v=>C1 n v λv'=>K (.vm t v')
def P3:List (Option SV)->(List (Option SV)->Prop)->Prop
 | [],K=>K []
 | none::l,K=>P3 l λl'=>K (none::l')
 | some s::l,K=>C1 3 s λs'=>P3 l λl'=>K (some s'::l')
def Jj:List aR->(List aR->Prop)->Prop
 | [],K=>K []
 | ⟨e,.ae cells,total,own⟩::l,K=>pZ (C1 3) cells λcells'=>match own with
  | true=>Jj l λl'=>K (⟨e,.ae cells',total,true⟩::l')
  | false=>Jj l λl'=>K (⟨e,.ae cells',total,false⟩::l')
 | ⟨e,.vals vs,total,own⟩::l,K=>match own with
  | true=>Jj l λl'=>K (⟨e,.vals vs,total,true⟩::l')
  | false=>Jj l λl'=>K (⟨e,.vals vs,total,false⟩::l')
def Eg (S:St) (K:St->Prop):Prop:=
 match S with
 | ⟨fr,bx,E⟩=>P3 fr λfr'=>Jj bx λbA=>K ⟨fr',bA,E⟩
theorem nQ {f:SV->(SV->Prop)->Prop} (hf:∀ s K,f s K=K s):∀ (l:List SV) (K:List SV->Prop),pZ f l K=K l
 | [],_=>rfl
 | s::l,K=>by simp only [pZ,hf,nQ hf l]
theorem qc:∀ (n:Nat) (s:SV) (K:SV->Prop),C1 n s K=K s
 | 0,_,_=>rfl
 | n+1,s,K=>by cases s<;>simp only [C1,nQ (qc n),qc n]
theorem BP:∀ (l:List (Option SV)) (K:List (Option SV)->Prop),P3 l K=K l
 | [],_=>rfl
 | none::l,K=>by simp only [P3,BP l]
 | some s::l,K=>by simp only [P3,BP l,qc]
theorem wz:∀ (l:List aR) (K:List aR->Prop),Jj l K=K l
 | [],_=>rfl
 | ⟨e,.ae cells,total,own⟩::l,K=>by cases own<;>simp only [Jj,wz l,nQ (qc 3)]
 | ⟨e,.vals vs,total,own⟩::l,K=>by cases own<;>simp only [Jj,wz l]
theorem lX (S:St) (K:St->Prop):Eg S K=K S:=by cases S;simp only [Eg,BP,wz]
def Eh (fr:List (Option SV)) (bx:List aR) (E:Mem) (dst:Option Tmp) (s:SV):St:=
 match dst with
 | some d=>⟨fr.set d (some s),bx,E⟩
 | none=>⟨fr,bx,E⟩
def BQ (all:Array Oper) (o:Oper) (fr:List (Option SV)) (exec skip:List (Option SV)->Prop):Prop:=
 match o.guard with
 | none=>exec fr
 | some (j,want)=>
  match (all[j]?).bind (·.dst) with
  | none=>False
  | some d=>match fr[d]? with
   | some (some (.raw (.bool b)))=>match want with
    | true=>cond b (exec (fr.set d (some (.raw (.bool true))))) (skip (fr.set d (some (.raw (.bool false)))))
    | false=>cond b (skip (fr.set d (some (.raw (.bool true))))) (exec (fr.set d (some (.raw (.bool false)))))
   | some (some (.raw (.tuple _)))=>skip fr
   | _=>False
theorem yq (all:Array Oper) (o:Oper) (S:St) (exec skip:St->Prop):BQ all o S.fr (λfr=>exec ⟨fr,S.bx,S.E⟩) (λfr=>skip ⟨fr,S.bx,S.E⟩)=ou all o S exec skip:=by cases S;rfl
def Az (P:Program) (ak:cK) (all:Array Oper) (o:Oper) (S:St) (K:St->Prop):Prop:=
 match S with
 | ⟨fr,bx,E⟩=>BQ all o fr (λfr=>TP P ak o.op fr bx E λs bA E'=>K (Eh fr bA E' o.dst s)) (λfr=>K (Eh fr bx E o.dst (.raw undef)))
theorem wA (P:Program) (ak:cK) (all:Array Oper) (o:Oper) (S:St) (K:St->Prop):Az P ak all o S K=kj P ak all o S K:=by
 cases S with
 | mk fr bx E=>
  unfold kj;rw [← yq];simp only [Az];congr 1
def zw (P:Program) (ak:cK) (all:Array Oper) (o:Oper) (S:St) (K:St->Prop):Prop:=
 match S with
 | ⟨fr,bx,E⟩=>BQ all o fr (λfr=>if jT o.op ⟨fr,bx,E⟩ then TP P ak o.op fr bx E λs bA E'=>K (Eh fr bA E' o.dst s) else False) (λfr=>K (Eh fr bx E o.dst (.raw undef)))
theorem yu (P:Program) (ak:cK) (all:Array Oper) (o:Oper) (S:St) (K:St->Prop):zw P ak all o S K=nB P ak all o S K:=by
 cases S with
 | mk fr bx E=>
  unfold nB;rw [← yq];simp only [zw];congr 1
def JN (P:Program) (ak:cK) (all:Array Oper):List Oper->St->(St->Prop)->Prop
 | [],S,K=>Eg S K
 | o::r,S,K=>Az P ak all o S λS'=>JN P ak all r S' K
theorem C2 (P:Program) (ak:cK) (all:Array Oper):∀ (l:List Oper) (S:St) (K:St->Prop),JN P ak all l S K=Ed P ak all l S K
 | [],S,K=>lX S K
 | o::r,S,K=>by simp only [JN,Ed,wA,C2 P ak all r]
def Ei (i:Nat) (K:Nat->Prop):Prop:=match i with
 | 0=>K 0
 | m+1=>K (m+1)
def C3:PT->(PT->Prop)->Prop
 | .nil,K=>K .nil
 | .bad,K=>K .bad
 | .fin,K=>K .fin
 | .q i t,K=>Ei i λi=>C3 t λt=>K (.q i t)
 | .g i t,K=>Ei i λi=>C3 t λt=>K (.g i t)
 | .al i t,K=>Ei i λi=>C3 t λt=>K (.al i t)
 | .br i t r,K=>Ei i λi=>C3 t λt=>C3 r λr=>K (.br i t r)
 | .Nq i t r,K=>Ei i λi=>C3 t λt=>C3 r λr=>K (.Nq i t r)
theorem sG (i:Nat) (K:Nat->Prop):Ei i K=K i:=by cases i<;>rfl
theorem qd:∀ (t:PT) (K:PT->Prop),C3 t K=K t
 | .nil,_=>rfl
 | .bad,_=>rfl
 | .fin,_=>rfl
 | .q i t,K=>by simp only [C3,sG,qd t]
 | .g i t,K=>by simp only [C3,sG,qd t]
 | .al i t,K=>by simp only [C3,sG,qd t]
 | .br i t r,K=>by simp only [C3,sG,qd t,qd r]
 | .Nq i t r,K=>by simp only [C3,sG,qd t,qd r]
def runN (P:Program) (ak:cK) (all:Array Oper):PT->St->(St->Prop)->Prop
 | .nil,S,K=>Eg S K
 | .bad,_,_=>False
 | .fin,_,_=>True
 | .q i t,S,K=>match all[i]? with
  | some o=>Az P ak all o S λS'=>runN P ak all t S' K
  | none=>False
 | .g i t,S,K=>match all[i]? with
  | some o=>zw P ak all o S λS'=>runN P ak all t S' K
  | none=>False
 | .al i t,⟨fr,bx,E⟩,K=>match all[i]? with
  | some o=>TP P ak o.op fr bx E λs bA E'=>runN P ak all t (Eh fr bA E' o.dst s) K
  | none=>False
 | .br i t rest,S,K=>(match all[i]? with
  | some o=>Az P ak all o S λS'=>runN P ak all t S' K
  | none=>False)/\runN P ak all rest S K
 | .Nq i t rest,S,K=>(match all[i]? with
  | some o=>zw P ak all o S λS'=>runN P ak all t S' K
  | none=>False)/\runN P ak all rest S K
theorem mX (P:Program) (ak:cK) (all:Array Oper):∀ (t:PT) (S:St) (K:St->Prop),runN P ak all t S K=gN P ak all t S K
 | .nil,S,K=>lX S K
 | .bad,_,_=>rfl
 | .fin,_,_=>rfl
 | .q i t,S,K=>by simp only [runN,gN,wA,mX P ak all t];rfl
 | .g i t,S,K=>by simp only [runN,gN,yu,mX P ak all t];rfl
 | .al i t,⟨fr,bx,E⟩,K=>by
  simp only [runN,gN,mX P ak all t]
  cases all[i]? with
  | none=>rfl
  | some o=>exact Ns P ak o.op ⟨fr,bx,E⟩ _
 | .br i t r,S,K=>by simp only [runN,gN,wA,mX P ak all t,mX P ak all r];rfl
 | .Nq i t r,S,K=>by simp only [runN,gN,yu,mX P ak all t,mX P ak all r];rfl
def F8 (P:Program) (ak:cK) (all:Array Oper) (tail:List Nat) (n:Nat) (listed:Array Bool) (S:St) (K:St->Prop):Prop:=
 C3 (nP (jo P) all tail n listed) λt=>Eg (S.forget (jH P all)) λS=>runN P ak all t S K
theorem F9 (P:Program) (ak:cK) (all:Array Oper) (tail:List Nat) (n:Nat) (listed:Array Bool) (S:St) (K:St->Prop):F8 P ak all tail n listed S K=CY P ak all tail n listed S K:=by unfold F8 CY;rw [qd,lX,mX]
def kr (P:Program) (ak:cK) (inl:Op->Bool) (un:Bn):Code->(Ex->St->Prop)->St->Prop
 | .skip,Q,S=>Q .normal S
 | .region _ ops false,Q,S=>JN P ak ops ops.toList S (Q .normal)
 | .region _ ops true,Q,S=>bif un.vJ&& !oy ops then False else if Region.noSelect ops then F8 P ak ops (F7 inl ops) ops.size (Array.replicate ops.size false) S (Q .normal) else False
 | .seq x y,Q,S=>kr P ak inl un x (λe S'=>match e with | .normal=>(bif cutAt un y&& !un.vJ then Eg S' (rE P un.om un.base y Q) else kr P ak inl un y Q S')| .exit id=>Q (.exit id) S'| .ret=>Q .ret S') S
 | .cond c x y,Q,S=>match jh S c with
  | some (.raw (.bool b))=>cond b (bif JL un x then Eg S (rE P un.om un.base x Q) else kr P ak inl un x Q S) (kr P ak inl un y Q S)
  | _=>False
 | .block id body,Q,S=>kr P ak inl un body (λe S'=>match e with | .normal=>Q .normal S'| .exit i=>if i=id then Q .normal S' else Q (.exit i) S'| .ret=>Q .ret S') S
 | .loop body,Q,S=>bif un.vJ then False else CZ (kr P ak inl un body) (λQ S=>Eg (S.forget (pY un body)) (kM P un.om un.base body Q)) un.cq Q S
 | .exit id,Q,S=>Q (.exit id) S
 | .ret,Q,S=>Q .ret S
 | .rangeFunc g ps assign body,Q,S=>bif un.vJ then False else Eg S (rE P un.om un.base (.rangeFunc g ps assign body) Q)
 | _,_,_=>False
theorem jv (P:Program) (ak:cK) (inl:Op->Bool) (un:Bn):∀ (c:Code),kr P ak inl un c=gP P ak inl un c
 | .skip=>rfl
 | .region _ ops false=>by funext Q S;simp only [kr,gP,C2]
 | .region _ ops true=>by funext Q S;simp only [kr,gP,F9]
 | .seq x y=>by funext Q S;simp only [kr,gP,jv P ak inl un x,jv P ak inl un y,lX];rfl
 | .cond c x y=>by funext Q S;simp only [kr,gP,jv P ak inl un x,jv P ak inl un y,lX];rfl
 | .block id body=>by funext Q S;simp only [kr,gP,jv P ak inl un body];rfl
 | .loop body=>by funext Q S;simp only [kr,gP,jv P ak inl un body,lX]
 | .exit id=>rfl
 | .ret=>rfl
 | .rangeFunc .. =>by funext Q S;simp only [kr,gP,lX]
 | .scope .. =>rfl
 | .label .. =>rfl
 | .refuse .. =>rfl
 | .goto _=>rfl
def gW (P:Program) (ak:cK) (inl:Op->Bool) (un:Bn):Code->List Nat->(Ex->St->Prop)->(Ex->St->Prop)
 | _,[],Q=>Q
 | .seq x y,0::p,Q=>gW P ak inl un x p (λe S'=>match e with | .normal=>(bif cutAt un y&& !un.vJ then Eg S' (rE P un.om un.base y Q) else kr P ak inl un y Q S')| .exit id=>Q (.exit id) S'| .ret=>Q .ret S')
 | .seq _ y,_::p,Q=>gW P ak inl un y p Q
 | .cond _ x _,0::p,Q=>gW P ak inl un x p Q
 | .cond _ _ y,_::p,Q=>gW P ak inl un y p Q
 | .block id x,_::p,Q=>gW P ak inl un x p (λe S'=>match e with | .normal=>Q .normal S'| .exit i=>if i=id then Q .normal S' else Q (.exit i) S'| .ret=>Q .ret S')
 | .loop x,_::p,Q=>gW P ak inl un x p (λe S'=>match e with | .normal=>Eg (S'.forget (pY un x)) (kM P un.om un.base x Q)| .exit id=>Q (.exit id) S'| .ret=>Q .ret S')
 | _,_,Q=>Q
theorem lY (P:Program) (ak:cK) (inl:Op->Bool) (un:Bn):∀ (c:Code) (p:List Nat) (Q:Ex->St->Prop),gW P ak inl un c p Q=jn P ak inl un c p Q
 | c,[],Q=>by cases c<;>rfl
 | .seq x y,0::p,Q=>by simp only [gW,jn,lY P ak inl un x p,jv,lX];rfl
 | .seq _ y,(_+1)::p,Q=>by simp only [gW,jn,lY P ak inl un y p]
 | .cond _ x _,0::p,Q=>by simp only [gW,jn,lY P ak inl un x p]
 | .cond _ _ y,(_+1)::p,Q=>by simp only [gW,jn,lY P ak inl un y p]
 | .block id x,_::p,Q=>by simp only [gW,jn,lY P ak inl un x p];rfl
 | .loop x,_::p,Q=>by simp only [gW,jn,lY P ak inl un x p,lX];rfl
 | .skip,_::_,_=>by simp only [gW,jn]
 | .region ..,_::_,_=>by simp only [gW,jn]
 | .rangeFunc ..,_::_,_=>by simp only [gW,jn]
 | .exit _,_::_,_=>by simp only [gW,jn]
 | .scope _,_::_,_=>by simp only [gW,jn]
 | .label _,_::_,_=>by simp only [gW,jn]
 | .goto _,_::_,_=>by simp only [gW,jn]
 | .ret,_::_,_=>by simp only [gW,jn]
 | .refuse _,_::_,_=>by simp only [gW,jn]
def Nt (P:Program) (fn:Func) (S:St) (K:KT):Prop:=
 match S with
 | ⟨fr,bx,E⟩=>match qF P ⟨fr,bx,E⟩ fn.results.toList with
  | some [s]=>C1 3 s λs=>K s bx E
  | some ss=>pZ (C1 3) ss λss=>K (.bB ss) bx E
  | none=>False
theorem JO (P:Program) (fn:Func) (S:St) (K:KT):Nt P fn S K=Ee P fn S K:=by cases S;unfold Nt Ee;simp only [qc,nQ (qc 3)];rfl
def ri (P:Program) (fn:Func) (K:KT):Ex->St->Prop
 | .normal,S| .ret,S=>Nt P fn S K
 | .exit _,_=>False
theorem AA (P:Program) (fn:Func) (K:KT):ri P fn K=C0 P fn K:=by
 funext e S
 cases e<;>simp only [ri,C0,JO]
def wB (P:Program) (ak:cK) (inl:Op->Bool) (un:Bn) (fn:Func) (args:List SV) (bx:List aR) (E:Mem) (K:KT):Prop:=
 match fn.body with
 | some c=>if (args.length<=fn.ntmps/\(un.om.isNone||fn.results.toList.isEmpty)=true) then Eg { fr:=args.map some++List.replicate (fn.ntmps-args.length) none,bx:=bx,E:=E } (kr P ak inl { un with base:=bx.length,vJ:=false } c (ri P fn K)) else False
 | none=>False
theorem tN (P:Program) (ak:cK) (inl:Op->Bool) (un:Bn) (fn:Func) (args:List SV) (bx:List aR) (E:Mem) (K:KT):wB P ak inl un fn args bx E K=wy P ak inl un fn args bx E K:=by unfold wB wy;simp only [lX,jv,AA];rfl
def lZ (C:Cx):Nat->cK
 | 0=>λf args bx E K=>pZ (C1 3) args λargs=>Jj bx λbx=>Ef C f args bx E K
 | n+1=>λf args bx E K=>
  if (C.inl f&&f !=LG)=true then
   match C.P.funcs[f]? with
   | some fn=>wB C.P (lZ C.FD n) C.eo { C.opt with vq:=[],om:=none } fn args bx E K
   | none=>False
  else pZ (C1 3) args λargs=>Jj bx λbx=>Ef C f args bx E K
theorem qe (C:Cx):∀ n,lZ C n=rf C n
 | 0=>by funext f args bx E K;simp only [lZ,rf,nQ (qc 3),wz]
 | n+1=>by funext f args bx E K;simp only [lZ,rf,qe C.FD n,tN,nQ (qc 3),wz];rfl
end Go.Sx
namespace Go.Sx
open Go.RowKit (Below)
variable {a:Act} {v:Value} {o:Oper} {w:World} {P:Program} {G:Prop}
theorem di {s:Sem Value}
  (hx:execOp a.eval o=(do pure (Next.value (← s)))) (hr:s.run P w= .ok v w):(execOp a.eval o).run P w= .ok (.value v) w:=by
 rw [hx];simp only [Sem.run_bind,hr,Result.andThen_ok,Sem.run_pure]
section
variable {P:Program} {ak:cK} {S:St} {a:Act} {w0 w1:World} {mu:Fm} {ρ:Env} {K:KT}
def QF (P:Program) (o:Oper) (S:St) (a:Act) (w0:World) (mu:Fm) (ρ:Env) (K:KT) (G:Prop):Prop:=
 ∀ (s:SV) (v:Value) (E':Mem),s.den ρ=some v->Mem.le S.E E'->(∀ w,Rel w0 mu S.bx S.E ρ w->Rel w0 mu S.bx E' ρ w)->(∀ v cs,E' v cs->cs≠[]->∃ v0 jQ,S.E v0 jQ/\jQ≠[]/\pP v=pP v0)->K s S.bx E'->
  (∀ w,(jY o.op=true->Rel w0 mu S.bx S.E ρ w)->(execOp a.eval o).run P w= .ok (.value v) w)->G
theorem oz {op:Op} {dst:Option Tmp} {type:TypeId} {pos:String} {after:Array Edge} {guard:Option (Nat×Bool)} {s:Sem Value}
  (hx:execOp a.eval ⟨dst,op,type,pos,after,guard⟩=(do pure (Next.value (← s)))) (h:kf P s λr=>K r S.bx S.E) (hk:QF P ⟨dst,op,type,pos,after,guard⟩ S a w0 mu ρ K G):G:=by
 obtain ⟨v,h1,h2⟩:=vT h;exact hk _ v S.E rfl (Mem.le_refl _) (λ_ g=>g) (λv cs g hne=>⟨v,cs,g,hne,rfl⟩) h2 (λw _=>di hx (h1 w))
set_option maxHeartbeats 1000000 in
theorem BR (mO:lF o.op=true) (JP:Rel w0 mu S.bx S.E ρ w1) (hF:cV ρ S.fr a.tmps) (h:kg P ak o.op S K) (hk:QF P o S a w0 mu ρ K G):G:=by
 obtain ⟨dst,op,type,pos,after,guard⟩:=o;have fin:∀ {s:SV} {x:Value},s.den ρ=some x->K s S.bx S.E->(∀ w,(jY op=true->Rel w0 mu S.bx S.E ρ w)->(execOp a.eval ⟨dst,op,type,pos,after,guard⟩).run P w= .ok (.value x) w)->G:=
  λ{s x} h1 h2 h3=>hk s x S.E h1 (Mem.le_refl _) (λ_ g=>g) (λv cs g hne=>⟨v,cs,g,hne,rfl⟩) h2 h3
 cases op with
 | move x=>
  simp only [kg] at h;split at h
  ·rename_i s hs;exact fin (aO hF hs) h (λw _=>rfl)
  ·exact h.elim
 | assign x=>
  simp only [kg] at h;split at h
  ·rename_i s hs;exact fin (aO hF hs) h (λw _=>rfl)
  ·exact h.elim
 | pick c x y=>
  simp only [kg] at h;have hb:∀ {t:Bool},jh S c=some (.raw (.bool t))->a.eval c= .bool t:=λhc=>by have:=aO hF hc;simpa [SV.den] using this.symm
  split at h
  ·rename_i t b1 b2 hc h1 h2;have e1:a.eval x= .bool b1:=by have:=aO hF h1;simpa [SV.den] using this.symm
   have e2:a.eval y= .bool b2:=by have:=aO hF h2;simpa [SV.den] using this.symm
   have :∀ w,(execOp a.eval ⟨dst,.pick c x y,type,pos,after,guard⟩).run P w= .ok (.value (.bool (cond t b1 b2))) w:=by
    intro w
    cases t<;>simp [execOp,hb hc,asBool,e1,e2]
   exact fin (s:=.raw (.bool (cond t b1 b2))) rfl h (λw _=>this w)
  ·rename_i t s1 s2 _ hc h1 h2
   cases t with
   | true=>
    have :∀ w,(execOp a.eval ⟨dst,.pick c x y,type,pos,after,guard⟩).run P w= .ok (.value (a.eval x)) w:=by intro w;simp [execOp,hb hc,asBool]
    exact fin (aO hF h1) h (λw _=>this w)
   | false=>
    have :∀ w,(execOp a.eval ⟨dst,.pick c x y,type,pos,after,guard⟩).run P w= .ok (.value (a.eval y)) w:=by intro w;simp [execOp,hb hc,asBool]
    exact fin (aO hF h2) h (λw _=>this w)
  ·rename_i s1 hc h1 h2;have :∀ w,(execOp a.eval ⟨dst,.pick c x y,type,pos,after,guard⟩).run P w= .ok (.value (a.eval x)) w:=by intro w;simp [execOp,hb hc,asBool]
   exact fin (aO hF h1) h (λw _=>this w)
  ·rename_i s1 hc h1 h2;have :∀ w,(execOp a.eval ⟨dst,.pick c x y,type,pos,after,guard⟩).run P w= .ok (.value (a.eval y)) w:=by intro w;simp [execOp,hb hc,asBool]
   exact fin (aO hF h2) h (λw _=>this w)
  ·exact h.elim
 | build T ps=>
  simp only [kg] at h;have hp:∀ {ss},parts S ps.toList=some ss->lS ρ ss (ps.map λ(i,x)=>(i,a.eval x)).toList:=λhs=>by simpa using qD hF hs
  split at h
  ·rename_i i fs ss hi hu hs;split at h;case h_2=>exact h.elim
   rename_i z places hz Nd;split at h;case h_2=>exact h.elim
   rename_i zs hzs;split at h;case h_2=>exact h.elim
   rename_i cs hcs;obtain ⟨F0,rfl⟩:=mS hzs;obtain ⟨ws,h1,h2⟩:=nM (hp hs) (bU (ρ:=ρ) z.cells.toList) hcs;refine fin (s:=.agg cs) (by simp only [SV.den,h1,Option.map_some]) h (λw _=>di (s:=Instr.build T (ps.map λ(i,x)=>(i,a.eval x))) rfl (run_build w T _ ws.toArray ?_));simp only [Program.built,hi,hu,hz,Nd];simpa using h2
  ·rename_i i n e ss hi hu hs;split at h;case h_2=>exact h.elim
   rename_i z ie hz U9;split at h;case h_2=>exact h.elim
   rename_i zs hzs;split at h;case h_2=>exact h.elim
   rename_i cs hcs;obtain ⟨F0,rfl⟩:=mS hzs;obtain ⟨ws,h1,h2⟩:=nM (hp hs) (bU (ρ:=ρ) z.cells.toList) hcs;refine fin (s:=.agg cs) (by simp only [SV.den,h1,Option.map_some]) h (λw _=>di (s:=Instr.build T (ps.map λ(i,x)=>(i,a.eval x))) rfl (run_build w T _ ws.toArray ?_));simp only [Program.built,hi,hu,hz,U9];simpa using h2
  ·exact h.elim
 | load T x=>
  simp only [kg] at h;split at h
  ·rename_i b off hs;split at h;case h_2=>exact h.elim
   rename_i y hy;have hl:gS ρ b off=some (a.eval x):=by simpa [SV.den] using aO hF hs
   have go:∀ r,iB P T y.cells off=some r->K r S.bx S.E->G:=by intro r hr h;obtain ⟨v,h1,h2⟩:=lT (P:=P) JP hy hr hl;refine fin h1 h (λw hR=>?_);obtain ⟨v',g1,g2⟩:=lT (P:=P) (hR rfl) hy hr hl;rw [h1] at g1;cases g1;exact di (s:=Instr.loadAt T (a.eval x)) rfl g2
   split at h
   ·rename_i cells hc;split at h;case h_2=>exact h.elim
    rename_i r hr;exact go r (by simpa [aR.cells,hc,Row.cells] using hr) h
   ·rename_i us hc;obtain ⟨r,hl,h⟩:=lJ h;exact go r (by simpa [aR.cells,hc,Row.cells,gA] using hl) h
  ·rename_i v off hs;obtain ⟨r,hl,h⟩:=lJ h;have hl':pF v off=some (a.eval x):=by simpa [SV.den] using aO hF hs
   obtain ⟨v,h1,h2⟩:=pV (P:=P) JP hl hl';refine fin h1 h (λw hR=>?_);obtain ⟨v',g1,g2⟩:=pV (P:=P) (hR rfl) hl hl';rw [h1] at g1;cases g1;exact di (s:=Instr.loadAt T (a.eval x)) rfl g2
  ·exact h.elim
 | nilCheck x=>
  simp only [kg] at h;split at h
  ·rename_i b off hs;have hd:=aO hF hs;simp only [SV.den] at hd;obtain ⟨c,hc,e⟩:=eK hd;have :∀ w,(execOp a.eval ⟨dst,.nilCheck x,type,pos,after,guard⟩).run P w= .ok (.value (a.eval x)) w:=by
    intro w;simp [execOp,e]
   exact fin (aO hF hs) h (λw _=>this w)
  ·rename_i v off hs;have hd:=aO hF hs;simp only [SV.den] at hd;obtain ⟨c,_,_,_,e,_⟩:=iE hd;have :∀ w,(execOp a.eval ⟨dst,.nilCheck x,type,pos,after,guard⟩).run P w= .ok (.value (a.eval x)) w:=by
    intro w;simp [execOp,e]
   exact fin (aO hF hs) h (λw _=>this w)
  ·rename_i f m l hs;have hd:=aO hF hs;have e:∃ us vs,a.eval x= .func (.func f) us vs:=by
    simp only [SV.den] at hd;split at hd
    ·simp only [Option.some.injEq] at hd;exact ⟨_,_,hd.symm⟩
    ·cases hd
   obtain ⟨us,vs,e⟩:=e;have :∀ w,(execOp a.eval ⟨dst,.nilCheck x,type,pos,after,guard⟩).run P w= .ok (.value (a.eval x)) w:=by intro w;simp [execOp,e]
   exact fin (aO hF hs) h (λw _=>this w)
  ·rename_i t v hs;have hd:=aO hF hs;simp only [SV.den,Option.map_eq_some_iff] at hd;obtain ⟨vs,_,e⟩:=hd;have :∀ w,(execOp a.eval ⟨dst,.nilCheck x,type,pos,after,guard⟩).run P w= .ok (.value (a.eval x)) w:=by
    intro w;simp [execOp,← e]
   exact fin (aO hF hs) h (λw _=>this w)
  ·rename_i n T v hs;split at h;case h_2=>exact h.elim
   rename_i g pt hm hu;have hd:=aO hF hs;obtain ⟨u,e⟩:=CX hd;have :∀ w,(execOp a.eval ⟨dst,.nilCheck x,type,pos,after,guard⟩).run P w= .ok (.value (a.eval x)) w:=by intro w;have:=sF hm hu u (P.types.size+Made.depth) (by unfold Made.depth;omega) w;simp [execOp,e,this]
   exact fin (aO hF hs) h (λw _=>this w)
  ·exact h.elim
 | binOp op T x y yt=>
  simp only [kg] at h;split at h;case h_2=>exact h.elim
  rename_i s t hs ht;have es:=aO hF hs;have et:=aO hF ht;have hx:execOp a.eval ⟨dst,.binOp op T x y yt,type,pos,after,guard⟩=(do pure (Next.value (← (do eqGuard op T x y (a.eval x) (a.eval y);binOp op T (a.eval x) (a.eval y))))):=rfl
  have lB:∀ {r},nL s t=some r->∀ {e},P.underlying T=some (.pointer e)->r=false/\∀ w,(eqGuard op T x y (a.eval x) (a.eval y)).run P w= .ok () w/\(Op.equal T (a.eval x) (a.eval y)).run P w= .ok false w:=by
   intro r hr e he;obtain ⟨h1,h2⟩:=tK hr es et;refine ⟨h1,λw=>?_⟩;rcases h2 with ⟨b,e1,e2⟩|⟨b,e1,e2⟩<;>rw [e1,e2]
   ·exact ⟨by cases op<;>rfl,(mT he 9999 b w).1⟩
   ·exact ⟨by cases op<;>rfl,(mT he 9999 b w).2⟩
  split at h
  ·rename_i r e hr he;obtain ⟨rfl,hw⟩:=lB hr he;refine fin (s:=.raw (.bool false)) rfl h (λw hR=>di hx ?_);have hb:binOp .eql T (a.eval x) (a.eval y)=(do pure (.bool (← Op.equal T (a.eval x) (a.eval y)))):=by
    obtain ⟨_,h2⟩:=tK hr es et;rcases h2 with ⟨b,e1,e2⟩|⟨b,e1,e2⟩<;>rw [e1,e2]<;>rfl
   simp only [Sem.run_bind,(hw w).1,Result.andThen_ok,hb,(hw w).2,Sem.run_pure]
  ·rename_i r e hr he;obtain ⟨rfl,hw⟩:=lB hr he;refine fin (s:=.raw (.bool true)) rfl h (λw hR=>di hx ?_);have hb:binOp .neq T (a.eval x) (a.eval y)=(do pure (.bool (!(← Op.equal T (a.eval x) (a.eval y))))):=by
    obtain ⟨_,h2⟩:=tK hr es et;rcases h2 with ⟨b,e1,e2⟩|⟨b,e1,e2⟩<;>rw [e1,e2]<;>rfl
   simp only [Sem.run_bind,(hw w).1,Result.andThen_ok,hb,(hw w).2,Sem.run_pure,Bool.not_false]
  ·rename_i e hr he;obtain ⟨r,h,g1,_,g2,_⟩:=kF (P:=P) (ρ:=ρ) he h es et;refine fin (s:=.raw (.bool r)) rfl h (λw hR=>di hx ?_);simp only [Sem.run_bind,g1,Result.andThen_ok,g2]
  ·rename_i e hr he;obtain ⟨r,h,_,g1,_,g2⟩:=kF (P:=P) (ρ:=ρ) he h es et;refine fin (s:=.raw (.bool !r)) rfl h (λw hR=>di hx ?_);simp only [Sem.run_bind,g1,Result.andThen_ok,g2]
  ·rename_i e hr he;split at h;case isFalse=>exact h.elim
   rename_i hg;split at h;case h_2=>exact h.elim
   rename_i r hr;obtain ⟨g1,_,g2,_⟩:=jX (P:=P) (ρ:=ρ) he hg hr es et;refine fin (s:=.raw (.bool r)) rfl h (λw hR=>di hx ?_);simp only [Sem.run_bind,g1,Result.andThen_ok,g2]
  ·rename_i e hr he;split at h;case isFalse=>exact h.elim
   rename_i hg;split at h;case h_2=>exact h.elim
   rename_i r hr;obtain ⟨_,g1,_,g2⟩:=jX (P:=P) (ρ:=ρ) he hg hr es et;refine fin (s:=.raw (.bool !r)) rfl h (λw hR=>di hx ?_);simp only [Sem.run_bind,g1,Result.andThen_ok,g2]
  ·split at h;case h_2=>exact h.elim
   rename_i v u hv hu;have e1:=SV.gx ρ s hv;have e2:=SV.gx ρ t hu;rw [es] at e1;rw [et] at e2
   cases e1;cases e2;obtain ⟨_,rfl,h⟩:=yh h;exact oz hx h hk
 | unOp op T x=>
  simp only [kg] at h;split at h;case h_2=>exact h.elim
  rename_i v hs;have es:=aO hF hs;simp only [SV.den,Option.some.injEq] at es;subst es;exact oz rfl h hk
 | convert src d x=>
  simp only [kg] at h;split at h;case h_2=>exact h.elim
  rename_i s hs;split at h
  case h_2=>
   have hne:src≠d:=by simpa [lF] using mO
   unfold JF at h;split at h;case h_2=>exact h.elim
   split at h;case h_2=>exact h.elim
   split at h;case h_2=>exact h.elim
   rw [if_neg hne] at h;exact h.elim
  rename_i v hv;have es:=aO hF hs;rw [SV.gx ρ s hv] at es;cases es;exact oz rfl h hk
 | makeInterface T x=>
  simp only [kg] at h;split at h
  ·exact h.elim
  ·rename_i s d hne hs hu;have es:=aO hF hs;refine fin (s:=.cr T s) (x:=.iface T (a.eval x)) (by simp only [SV.den,es,Option.map_some]) h (λw hR=>di (s:=Instr.makeInterface T (a.eval x)) rfl ?_);unfold Instr.makeInterface;simp only [Sem.run_bind,run_underlying hu,Result.andThen_ok]
   cases d<;>first|rfl|exact (hne _ rfl).elim
  ·exact h.elim
 | makeFunc fn first jL=>
  cases fn with
  | func f=>
   simp only [kg] at h;split at h
   ·rename_i m l hm hl;have el:=jU hF hl;have em:=jU hF hm;refine fin (s:=.fM f m l) (x:=.func (.func f) (first.map a.eval) (jL.map a.eval)) ?_ h (λw _=>di (s:=Instr.makeFunc (.func f) (first.map a.eval) (jL.map a.eval)) rfl (by simp [Instr.makeFunc]))
    simp only [SV.den,el,em];congr 2<;>(apply Array.ext';simp)
   ·exact h.elim
  | method n=>
   simp only [kg] at h;split at h;case h_2=>exact h.elim
   rename_i T v hm hl;have em:=jU hF hm;exact fin (s:=.vm n (.cr T v)) (x:=.func (.method n) (first.map a.eval) (jL.map a.eval)) (F3 em hl) h (λw _=>di (s:=Instr.makeFunc (.method n) (first.map a.eval) (jL.map a.eval)) rfl (by simp [Instr.makeFunc]))
  | _=>exact h.elim
 | slice T x lo hi mx=>
  simp only [kg] at h;have hx:execOp a.eval ⟨dst,.slice T x lo hi mx,type,pos,after,guard⟩=(do pure (Next.value (← Instr.sliceAt T (a.eval x) (lo.map a.eval) (hi.map a.eval) (mx.map a.eval)))):=rfl
  split at h
  ·rename_i b off l hh m n e hs h1 h2 h3 hu;split at h;case h_2=>exact h.elim
   rename_i z hz;simp only [eJ,Option.map_eq_some_iff] at hz;obtain ⟨i,hi',rfl⟩:=hz;have es:=aO hF hs;simp only [SV.den] at es;obtain ⟨c,hc,e1⟩:=eK es;have hr:=λw=>(eH (P:=P) hF h1 h2 h3 h false w).1;have hK:=(eH (P:=P) hF h1 h2 h3 h false w1).2;refine fin (x:=.slice (some (c.add (if toN m n=toN l 0 then off else off+toN l 0*i.size))) (toN hh n-toN l 0) (toN m n-toN l 0)) ?_ hK (λw hR=>di hx ?_)
   rotate_left
   ·unfold Instr.sliceAt;simp only [Sem.run_bind,run_underlying hu,Result.andThen_ok,e1,Instr.sureAddr,Sem.run_pure,hr,bY hi'];congr 3;split
    ·rfl
    ·rw [iQ (JP.spot hc)]
   ·simp only [SV.den,eu,hc]
  ·rename_i b off len cap l hh m e hs h1 h2 h3 hu;split at h;case h_2=>exact h.elim
   rename_i z hz;simp only [eJ,Option.map_eq_some_iff] at hz;obtain ⟨i,hi',rfl⟩:=hz;have es:=aO hF hs;simp only [SV.den] at es;have hr:=λw=>(eH (P:=P) hF h1 h2 h3 h true w).1;have hK:=(eH (P:=P) hF h1 h2 h3 h true w1).2;rcases cN es with ⟨c,hc,e1⟩|⟨hc,rfl,rfl,rfl,e1⟩
   ·refine fin (x:=.slice (some (c.add (if toN m cap=toN l 0 then off else off+toN l 0*i.size))) (toN hh len-toN l 0) (toN m cap-toN l 0)) ?_ hK (λw hR=>di hx ?_)
    rotate_left
    ·unfold Instr.sliceAt Instr.slice;simp only [Sem.run_bind,run_underlying hu,Result.andThen_ok,e1,hr,bY hi',Sem.run_pure];congr 2;split
     ·rfl
     ·simp only [Option.map_some];rw [iQ (JP.spot hc)]
    ·simp only [SV.den,eu,hc]
   ·obtain ⟨_,g1,g2,g3,_⟩:=gI h;have z3:toN m 0=0:=by
     cases m with
     | none=>rfl
     | some j=>have:=g1 j rfl;simp only [toN];omega
    have z2:toN hh 0=0:=by
     cases hh with
     | none=>rfl
     | some j=>have:=g2 j rfl;rw [z3] at this;simp only [toN];omega
    have z1:toN l 0=0:=by
     cases l with
     | none=>rfl
     | some j=>have:=g3 j rfl;rw [z2] at this;simp only [toN];omega
    rw [z1,z2,z3] at hK;simp only [z1,z2,z3] at hr;refine fin (x:=.slice none 0 0) ?_ hK (λw hR=>di hx ?_)
    rotate_left
    ·unfold Instr.sliceAt Instr.slice;simp only [Sem.run_bind,run_underlying hu,Result.andThen_ok,e1,hr,bY hi',Sem.run_pure];rfl
    ·simp only [SV.den,eu,hc];rfl
  ·rename_i base len cap l hh m e hs h1 h2 h3 hu;split at h;case h_2=>exact h.elim
   rename_i z hz;simp only [eJ,Option.map_eq_some_iff] at hz;obtain ⟨i,hi',rfl⟩:=hz;have es:=aO hF hs;simp only [SV.den,Option.some.injEq] at es;obtain ⟨hlc,h⟩:=dX h;have hr:=λw=>(eH (P:=P) hF h1 h2 h3 h true w).1;have hK:=(eH (P:=P) hF h1 h2 h3 h true w1).2
   let v':Value:=.slice (if toN m cap=toN l 0 then base else base.map (·.add (toN l 0*i.size))) (toN hh len-toN l 0) (toN m cap-toN l 0)
   let E':Mem:=λv cs=>S.E v cs\/∃ jQ,S.E (.slice base len cap) jQ/\v=v'/\cs=(jQ.drop (toN l 0*i.size)).take ((toN hh len-toN l 0)*i.size);have hE:=hK (if toN m cap=toN l 0 then base else base.map (·.add (toN l 0*i.size))) E' (λ_ _ g=>.inl g) (λcs g=>.inr ⟨cs,g,rfl,rfl⟩)
   obtain ⟨_,g1,g2,g3,_⟩:=gI h;have hle:toN m cap=toN l 0->toN hh len-toN l 0=0:=by
    intro e0;have a1:toN hh len<=toN m cap\/hh=none:=by
     cases hh with
     | none=>exact .inr rfl
     | some j=>have:=g2 j rfl;left;simp only [toN] at *;omega
    rcases a1 with a1|rfl
    ·omega
    ·cases m with
     | none=>simp only [toN] at *;omega
     | some j=>have h0:=(gI h).1 rfl;cases h0
   have hrow:∀ w,Rel w0 mu S.bx S.E ρ w->∀ jQ,S.E (.slice base len cap) jQ->dV w v' ((jQ.drop (toN l 0*i.size)).take ((toN hh len-toN l 0)*i.size)):=by
    intro w hR jQ g;by_cases e0:toN m cap=toN l 0
    ·left;rw [hle e0];simp
    ·rcases hR.hold _ _ g with rfl|⟨c,len',cap',e2,hsp,hcell⟩
     ·left;simp
     ·cases e2;right;refine ⟨c.add (toN l 0*i.size),toN hh len-toN l 0,toN m cap-toN l 0,by simp only [v',if_neg e0,Option.map_some],by rw [add_eq hsp],λj x hj=>?_⟩;rw [add_eq hsp];simp only;have hj':j<(toN hh len-toN l 0)*i.size:=by
       rcases Nat.lt_or_ge j ((toN hh len-toN l 0)*i.size) with q|q
       ·exact q
       ·rw [List.getElem?_eq_none (by simp;omega)] at hj;cases hj
      rw [List.getElem?_take_of_lt hj',List.getElem?_drop] at hj;rw [Nat.add_assoc];exact hcell _ _ hj
   have iT:∀ w,Rel w0 mu S.bx S.E ρ w->Rel w0 mu S.bx E' ρ w:=λw hR=>hR.D4 (λv cs g=>by
     rcases g with g|⟨jQ,g,rfl,rfl⟩
     ·exact hR.hold v cs g
     ·exact hrow w hR jQ g) (λv cs g hne=>by
     rcases g with g|⟨jQ,g,rfl,rfl⟩
     ·exact .inl g
     ·right;intro j b c b1 b2 b3;have pK:jQ≠[]:=by rintro rfl;simp at hne
      have:=(hR.sep j b c b1 b2 b3).2.2 _ _ g pK;have e0:¬ toN m cap=toN l 0:=by intro e0;rw [hle e0] at hne;simp at hne
      rcases hR.hold _ _ g with rfl|⟨c',len',cap',e2,hsp,_⟩
      ·exact absurd rfl pK
      ·cases e2;simp only [v',if_neg e0,Option.map_some,pP] at this ⊢;rw [add_eq hsp];exact this) (λv cs g hne=>by
     rcases g with g|⟨jQ,g,rfl,rfl⟩
     ·exact hR.src _ _ g hne
     ·have pK:jQ≠[]:=by rintro rfl;simp at hne
      have e0:¬ toN m cap=toN l 0:=by intro e0;rw [hle e0] at hne;simp at hne
      have:=hR.src _ _ g pK;rcases hR.hold _ _ g with rfl|⟨c',len',cap',e2,hsp,_⟩
      ·exact absurd rfl pK
      ·cases e2;simp only [v',if_neg e0,Option.map_some,pP] at this ⊢;rw [add_eq hsp];exact this)
   have hsub:∀ v cs,E' v cs->cs≠[]->∃ v0 jQ,S.E v0 jQ/\jQ≠[]/\pP v=pP v0:=λv cs g hne=>by
    rcases g with g|⟨jQ,g,rfl,rfl⟩
    ·exact ⟨v,cs,g,hne,rfl⟩
    ·have pK:jQ≠[]:=by rintro rfl;simp at hne
     have e0:¬ toN m cap=toN l 0:=by intro e0;rw [hle e0] at hne;simp at hne
     refine ⟨_,jQ,g,pK,?_⟩;rcases JP.hold _ _ g with rfl|⟨c',len',cap',e2,hsp,_⟩
     ·exact absurd rfl pK
     ·cases e2;simp only [v',if_neg e0,Option.map_some,pP];rw [add_eq hsp]
   refine hk (.raw v') v' E' rfl (λ_ _ g=>.inl g) iT hsub (hE (by split<;>simp)) (λw hR=>di hx ?_);unfold Instr.sliceAt Instr.slice;simp only [Sem.run_bind,run_underlying hu,Result.andThen_ok,← es,hr,bY hi',Sem.run_pure];rfl
  ·exact h.elim
 | fieldAddr T x f=>
  simp only [kg] at h;split at h;case h_2=>exact h.elim
  rename_i fs hu;split at h;case h_2=>exact h.elim
  rename_i xU hf;have key:∀ {n off:Nat} {c:Addr},eJ P xU.type=some n->n≠0->c.spot=none->a.eval x= .pointer (some (c.add off))->
    ∀ w,(Instr.fieldAt T (a.eval x) f).run P w= .ok (.pointer (some (c.add (off+xU.offset)))) w:=by
   intro n off c hn h0 hc e1 w;simp only [eJ,Option.map_eq_some_iff] at hn;obtain ⟨i,hi',rfl⟩:=hn;unfold Instr.fieldAt;simp only [Sem.run_bind,run_underlying hu,Result.andThen_ok,hf,e1,Instr.sureAddr,Sem.run_pure];unfold fieldPlace;simp only [Sem.run_bind,bY hi',Result.andThen_ok,if_neg h0,Sem.run_pure,iQ hc]
  split at h
  ·rename_i n b off hn hs;split at h;case isTrue=>exact h.elim
   rename_i h0;have es:=aO hF hs;simp only [SV.den] at es;obtain ⟨c,hc,e1⟩:=eK es;exact fin (by simp only [SV.den,gS,hc]) h (λw hR=>di (s:=Instr.fieldAt T (a.eval x) f) rfl (key hn h0 (JP.spot hc) e1 w))
  ·rename_i n v off hn hs;split at h;case isTrue=>exact h.elim
   rename_i h0;have es:=aO hF hs;simp only [SV.den] at es;obtain ⟨c,len,cap,rfl,e1,hsp⟩:=iE es;exact fin (by simp only [SV.den,pF,hsp,if_true]) h (λw hR=>di (s:=Instr.fieldAt T (a.eval x) f) rfl (key hn h0 hsp e1 w))
  ·exact h.elim
 | field T x f=>
  simp only [kg] at h;split at h;case h_2=>exact h.elim
  rename_i fs hu;split at h;case h_2=>exact h.elim
  rename_i xU s hf hs;split at h;case h_2=>exact h.elim
  rename_i cs hcs;split at h;case h_2=>exact h.elim
  rename_i r hr;obtain ⟨vs,e1,e2⟩:=gV hcs (aO hF hs);obtain ⟨v,e3,e4⟩:=kK (P:=P) (w:=w1) hr e2;refine fin e3 h (λw hR=>di (s:=Instr.field T (a.eval x) f) rfl ?_);obtain ⟨v',g3,g4⟩:=kK (P:=P) (w:=w) hr e2;rw [e3] at g3;cases g3;unfold Instr.field;simp only [Sem.run_bind,run_underlying hu,Result.andThen_ok,hf,e1,asAgg,Sem.run_pure,g4]
 | extract x i=>
  simp only [kg] at h;split at h
  ·rename_i l hs;split at h;case h_2=>exact h.elim
   rename_i s hl;have es:=aO hF hs;simp only [SV.den,Option.map_eq_some_iff] at es;obtain ⟨vs,e1,e2⟩:=es;obtain ⟨v,e3,e4⟩:=kJ e1 hl;refine fin e4 h (λw hR=>di (s:=Instr.extract (a.eval x) i) rfl ?_);rw [← e2];simp [Instr.extract,e3]
  ·rename_i vs hs;split at h;case h_2=>exact h.elim
   rename_i v hl;have es:=aO hF hs;simp only [SV.den,Option.some.injEq] at es;refine fin rfl h (λw hR=>di (s:=Instr.extract (a.eval x) i) rfl ?_);rw [← es];have :vs[i]? =some v:=by simpa using hl
   simp [Instr.extract,this]
  ·exact h.elim
 | typeAssert x T U ok=>
  simp only [kg] at h;split at h;case h_2=>exact h.elim
  rename_i s hs;split at h;case h_2=>exact h.elim
  rename_i v hv;have es:=aO hF hs;rw [SV.gx ρ s hv] at es;cases es;exact oz rfl h hk
 | indexAddr T x i=>
  simp only [kg] at h;have hx:execOp a.eval ⟨dst,.indexAddr T x i,type,pos,after,guard⟩=(do pure (Next.value (← Instr.indexAt T (a.eval x) (a.eval i)))):=rfl
  split at h
  ·rename_i b off k n len e hs hi hu;split at h;case h_2=>exact h.elim
   rename_i z hz;obtain ⟨hn,h⟩:=dX h;simp only [eJ,Option.map_eq_some_iff] at hz;obtain ⟨inf,hi',rfl⟩:=hz;have es:=aO hF hs;have ei:=aO hF hi;simp only [SV.den,Option.some.injEq] at es ei;obtain ⟨c,hc,e1⟩:=eK es;refine fin (x:=.pointer (some (c.add (off+n.toNat*inf.size)))) (by simp only [SV.den,gS,hc]) h (λw hR=>di hx ?_);unfold Instr.indexAt;simp only [← ei,asIntOf,Sem.run_bind,Sem.run_pure,Result.andThen_ok,run_underlying hu,e1,Instr.sureAddr];simp only [if_pos hn,Sem.run_bind,bY hi',Result.andThen_ok,Sem.run_pure,iQ (JP.spot hc)]
  ·rename_i v off k n len e hs hi hu;split at h;case h_2=>exact h.elim
   rename_i z hz;obtain ⟨hn,h⟩:=dX h;simp only [eJ,Option.map_eq_some_iff] at hz;obtain ⟨inf,hi',rfl⟩:=hz;have es:=aO hF hs;have ei:=aO hF hi;simp only [SV.den,Option.some.injEq] at es ei;obtain ⟨c,l',cap',rfl,e1,hsp⟩:=iE es;refine fin (x:=.pointer (some (c.add (off+n.toNat*inf.size)))) (by simp only [SV.den,pF,hsp,if_true]) h (λw hR=>di hx ?_);unfold Instr.indexAt;simp only [← ei,asIntOf,Sem.run_bind,Sem.run_pure,Result.andThen_ok,run_underlying hu,e1,Instr.sureAddr];simp only [if_pos hn,Sem.run_bind,bY hi',Result.andThen_ok,Sem.run_pure,iQ hsp]
  ·rename_i b off len cap k n e hs hi hu;split at h;case h_2=>exact h.elim
   rename_i z hz;obtain ⟨hn,h⟩:=dX h;simp only [eJ,Option.map_eq_some_iff] at hz;obtain ⟨inf,hi',rfl⟩:=hz;have es:=aO hF hs;have ei:=aO hF hi;simp only [SV.den,Option.some.injEq] at es ei;rcases cN es with ⟨c,hc,e1⟩|⟨hc,rfl,rfl,rfl,e1⟩
   ·refine fin (x:=.pointer (some (c.add (off+n.toNat*inf.size)))) (by simp only [SV.den,gS,hc]) h (λw hR=>di hx ?_);unfold Instr.indexAt;simp only [← ei,asIntOf,Sem.run_bind,Sem.run_pure,Result.andThen_ok,run_underlying hu,e1];simp only [if_pos hn,Sem.run_bind,bY hi',Result.andThen_ok,Sem.run_pure,iQ (JP.spot hc)]
   ·omega
  ·rename_i base len cap k n e hs hi hu;split at h;case h_2=>exact h.elim
   rename_i z hz;obtain ⟨hn,⟨cs,hE,hne⟩,h⟩:=dX h;simp only [eJ,Option.map_eq_some_iff] at hz;obtain ⟨inf,hi',rfl⟩:=hz;have es:=aO hF hs;have ei:=aO hF hi;simp only [SV.den,Option.some.injEq] at es ei;rcases JP.hold _ _ hE with rfl|⟨c,l',cap',e2,hsp,_⟩
   ·exact absurd rfl hne
   ·cases e2;refine fin (x:=.pointer (some (c.add (n.toNat*inf.size)))) (by simp only [SV.den,pF,hsp,if_true]) h (λw hR=>di hx ?_);unfold Instr.indexAt;simp only [← ei,asIntOf,Sem.run_bind,Sem.run_pure,Result.andThen_ok,run_underlying hu,← es];simp only [if_pos hn,Sem.run_bind,bY hi',Result.andThen_ok,Sem.run_pure]
  ·exact h.elim
 | index T x i=>
  simp only [kg] at h;have hx:execOp a.eval ⟨dst,.index T x i,type,pos,after,guard⟩=(do pure (Next.value (← Instr.index T (a.eval x) (a.eval i)))):=rfl
  split at h
  ·rename_i s k n len e hs hi hu;split at h;case h_2=>exact h.elim
   rename_i cs z hcs hz;obtain ⟨hn,h2⟩:=dX h;clear h;split at h2;case h_2=>exact h2.elim
   rename_i r hr;simp only [eJ,Option.map_eq_some_iff] at hz;obtain ⟨inf,hi',rfl⟩:=hz;have ei:=aO hF hi;simp only [SV.den,Option.some.injEq] at ei;obtain ⟨vs,e1,e2⟩:=gV hcs (aO hF hs);obtain ⟨v,e3,e4⟩:=kK (P:=P) (w:=w1) hr e2;refine fin e3 h2 (λw hR=>di hx ?_);obtain ⟨v',g3,g4⟩:=kK (P:=P) (w:=w) hr e2;rw [e3] at g3;cases g3;unfold Instr.index;simp only [← ei,asIntOf,Sem.run_bind,Sem.run_pure,Result.andThen_ok,run_underlying hu,e1];simp only [if_pos hn,Sem.run_bind,bY hi',Result.andThen_ok,g4]
  ·rename_i v j hs hi _;have es:=aO hF hs;have ei:=aO hF hi;simp only [SV.den,Option.some.injEq] at es ei;rw [es,ei] at h;exact oz hx h hk
  ·exact h.elim
 | call c=>
  simp only [kg] at h;split at h;case h_2=>exact h.elim
  rename_i args hargs;have ea:=jU hF hargs;have Ai:∀ vs:Lv,SV.bF ρ args=some vs->c.args.map a.eval=vs.toArray:=by intro vs hv;rw [ea] at hv;cases hv;apply Array.ext';simp
  split at h
  ·rename_i f hf;obtain ⟨TQ,args',types⟩:=c;simp only at hf;subst hf;simp [lF] at mO
  ·rename_i r name hr;obtain ⟨TQ,args',types⟩:=c;simp only at hr;subst hr;simp [lF] at mO
  ·rename_i hc;have hx:execOp a.eval ⟨dst,.call c,type,pos,after,guard⟩=(do pure (Next.value (← Builtin.len_ c.argTypes type (c.args.map a.eval)))):=by
    simp only [execOp,resolve,hc];rfl
   have ht:∀ {d},(c.argTypes[0]?).bind P.underlying=some d->∃ t,c.argTypes[0]? =some t/\P.underlying t=some d:=λ{d} e=>by simpa [Option.bind_eq_some_iff] using e
   split at h
   ·rename_i base n cap e hu;obtain ⟨t,wv,wx⟩:=ht hu;have ev:c.args.map a.eval= #[.slice base n cap]:=Ai _ rfl;refine fin (x:=.int .i64 n) rfl h (λw hR=>di hx ?_);unfold Builtin.len_;simp [ev,wv,run_underlying wx,goInt]
   ·rename_i b off n cap e hu;obtain ⟨t,wv,wx⟩:=ht hu;refine fin (x:=.int .i64 n) rfl h (λw hR=>di hx ?_);have hd:∃ base,c.args.map a.eval= #[.slice base n cap]:=by
     have zo:=ea;simp only [SV.bF,SV.den] at zo
     cases wg:eu ρ b off n cap with
     | none=>rw [wg] at zo;simp at zo
     | some v=>
      rw [wg] at zo;have:=Ai [v] (by simp only [SV.bF,SV.den,wg]);rcases cN wg with ⟨c',_,rfl⟩|⟨_,rfl,rfl,rfl,rfl⟩
      ·exact ⟨_,this⟩
      ·exact ⟨_,this⟩
    obtain ⟨base,ev⟩:=hd;unfold Builtin.len_;simp [ev,wv,run_underlying wx,goInt]
   ·rename_i s hu;obtain ⟨t,wv,wx⟩:=ht hu;have ev:c.args.map a.eval= #[.string s]:=Ai _ rfl;refine fin (x:=.int .i64 s.size) rfl h (λw hR=>di hx ?_);unfold Builtin.len_;simp [ev,wv,run_underlying wx,goInt]
   ·rename_i s0 n e hu;obtain ⟨t,wv,wx⟩:=ht hu;refine fin (x:=.int .i64 n) rfl h (λw hR=>di hx ?_);have hd:∃ x,c.args.map a.eval= #[x]:=by
     have hl:=bN ea;have hsz:(c.args.map a.eval).size=1:=by simpa using hl
     refine ⟨(c.args.map a.eval)[0],?_⟩;apply Array.ext<;>simp [hsz];intro i h1;have :i=0:=by omega
     subst this;simp
    obtain ⟨x,ev⟩:=hd;unfold Builtin.len_;simp [ev,wv,run_underlying wx,goInt]
   ·exact h.elim
  ·rename_i hc;have hx:execOp a.eval ⟨dst,.call c,type,pos,after,guard⟩=(do pure (Next.value (← Builtin.cap_ c.argTypes type (c.args.map a.eval)))):=by
    simp only [execOp,resolve,hc];rfl
   have ht:∀ {d},(c.argTypes[0]?).bind P.underlying=some d->∃ t,c.argTypes[0]? =some t/\P.underlying t=some d:=λ{d} e=>by simpa [Option.bind_eq_some_iff] using e
   split at h
   ·rename_i base n cap e hu;obtain ⟨t,wv,wx⟩:=ht hu;have ev:c.args.map a.eval= #[.slice base n cap]:=Ai _ rfl;refine fin (x:=.int .i64 cap) rfl h (λw hR=>di hx ?_);unfold Builtin.cap_;simp [ev,wv,run_underlying wx,goInt]
   ·rename_i b off n cap e hu;obtain ⟨t,wv,wx⟩:=ht hu;refine fin (x:=.int .i64 cap) rfl h (λw hR=>di hx ?_);have hd:∃ base,c.args.map a.eval= #[.slice base n cap]:=by
     have zo:=ea;simp only [SV.bF,SV.den] at zo
     cases wg:eu ρ b off n cap with
     | none=>rw [wg] at zo;simp at zo
     | some v=>
      rw [wg] at zo;have:=Ai [v] (by simp only [SV.bF,SV.den,wg]);rcases cN wg with ⟨c',_,rfl⟩|⟨_,rfl,rfl,rfl,rfl⟩
      ·exact ⟨_,this⟩
      ·exact ⟨_,this⟩
    obtain ⟨base,ev⟩:=hd;unfold Builtin.cap_;simp [ev,wv,run_underlying wx,goInt]
   ·exact h.elim
  ·rename_i hc;obtain ⟨TQ,args',types⟩:=c;simp only at hc;subst hc;simp [lF] at mO
  ·rename_i hc;obtain ⟨TQ,args',types⟩:=c;simp only at hc;subst hc;simp [lF] at mO
  ·rename_i hc;obtain ⟨TQ,args',types⟩:=c;simp only at hc;subst hc;simp [lF] at mO
  ·rename_i hc;split at h;case h_2=>exact h.elim
   rename_i vs hv;have hx:execOp a.eval ⟨dst,.call c,type,pos,after,guard⟩=(do pure (Next.value (← Builtin.min_ #[] 0 vs.toArray))):=by have:=Ai vs (SV.dR ρ args hv);simp only [execOp,resolve,hc,this];rfl
   exact oz hx h hk
  ·rename_i hc;split at h;case h_2=>exact h.elim
   rename_i vs hv;have hx:execOp a.eval ⟨dst,.call c,type,pos,after,guard⟩=(do pure (Next.value (← Builtin.max_ #[] 0 vs.toArray))):=by have:=Ai vs (SV.dR ρ args hv);simp only [execOp,resolve,hc,this];rfl
   exact oz hx h hk
  ·exact h.elim
 | _=>simp [lF] at mO
end
end Go.Sx
namespace Go.Sx
open Go.RowKit (Below)
variable {i j k:Nat} {a:Act} {v:Value} {o:Oper} {w w0:World} {listed:Array Bool} {bx:List aR} {E' E:Mem} {ρ:Env} {mu:Fm} {G:Prop} {S:St} {M:St->Prop} {b:aR} {P:Program} {fr:List (Option SV)} {tmps:Array Value} {ops:Array Oper} {ro:Option Nat}
section
variable {P:Program} {ops:Array Oper} {Q:Exit->Act->World->Prop} {T D:Nat->Bool}
theorem YieldsIf.wC {S:World->Prop} (hi:ops[i]? =some o) (hy:YieldsIf P ops S o v a)
  {K:Act->World->Prop} (hS:S w) (h:K (a.put o.dst v) w):wpOpIn Fence.wide 0 P ops Q i K a w:=by
 unfold wpOpIn;simp only [hi];rcases hy with ⟨hw,hv⟩|⟨hw,rfl⟩
 ·simp only [hw,if_true];refine ⟨λ_ _=>trivial,?_⟩;show o.uponIn Fence.wide 0 P a K Q ((execOp a.eval o).run P w);rw [hv w hS];exact h
 ·simp only [hw,Bool.false_eq_true,if_false];exact ⟨λ_ _=>trivial,h⟩
theorem zx {S:World->Prop} {oi oj:Oper} (hj:ops[j]? =some oj) (hap:oi.apart ops oj=true)
  (hsi:∀ cs b,oi.op≠.select cs b) (hsj:∀ cs b,oj.op≠.select cs b)
  (hQ:∀ c a w,Q (.panic c) (a.put oi.dst v) w->Q (.panic c) a w) {K:Act->World->Prop}
  (hy:YieldsIf P ops S oi v a) (h:wpOpIn Fence.wide 0 P ops Q j K (a.put oi.dst v) w):
  wpOpIn Fence.wide 0 P ops Q j (λa' w'=>YieldsIf P ops S oi v a'/\K (a'.put oi.dst v) w') a w:=by
 obtain ⟨h1,h2,h3⟩:=Oper.apart_spec hap;have kp:∀ (b:Act),YieldsIf P ops S oi v b->∀ u,YieldsIf P ops S oi v (b.put oj.dst u):=λb hb u=>
  hb.of_same (execOp_put oi hsi b oj.dst u h3) (wanted_put oi b oj.dst u h3)
 have kd:∀ d,YieldsIf P ops S oi v { a with defers:=d::a.defers }:=λd=>hy.of_same rfl rfl;unfold wpOpIn at *;simp only [hj] at *;rw [wanted_put oj a oi.dst v h1] at h;split
 ·rename_i hw;simp only [hw,if_true] at h;refine ⟨λ_ _=>trivial,?_⟩;have h:=h.2;replace h:oj.uponIn Fence.wide 0 P (a.put oi.dst v) K Q ((execOp (a.put oi.dst v).eval oj).run P w):=h;show oj.uponIn Fence.wide 0 P a _ Q ((execOp a.eval oj).run P w);rw [execOp_put oj hsj a oi.dst v h1] at h;generalize (execOp a.eval oj).run P w=r at *
  cases r with
  | ok n w'=>
   cases n<;>simp only [Oper.uponIn] at h ⊢;case value u=>exact ⟨kp a hy u,by rw [← Act.put_comm a v u h2];exact h⟩
   case skip=>exact ⟨kp a hy _,by rw [← Act.put_comm a v undef h2];exact h⟩
   case defer d=>
    refine ⟨kp _ (kd d) _,?_⟩;rw [← Act.put_comm _ v undef h2,← Act.put_defers];exact h
   case enter f args=>
    refine ⟨h.1,h.2.mono λe w'' he=>?_⟩
    cases e with
    | returned u=>exact ⟨kp a hy u,by rw [← Act.put_comm a v u h2];exact he⟩
    | panicked c=>exact hQ _ _ _ he
    | outgrown=>exact he
   case round l f tmps assign body=>
    refine ⟨h.1,h.2.mono λe w'' he=>?_⟩
    cases e with
    | returned u=>exact ⟨kp a hy u,by rw [← Act.put_comm a v u h2];exact he⟩
    | panicked c=>exact hQ _ _ _ he
    | outgrown=>exact he
   case row row args=>exact ⟨h.1,h.2.mono λu w'' he=>⟨kp a hy u,by rw [← Act.put_comm a v u h2];exact he⟩⟩
  | halt x w'=>
   cases x<;>simp only [Oper.uponIn] at h ⊢;case panic u=>exact hQ _ _ _ h
 ·rename_i hw;simp only [hw] at h;exact ⟨λ_ _=>trivial,kp a hy _,by rw [← Act.put_comm a v undef h2];exact h.2⟩
def zy (P:Program) (ops:Array Oper) (Q:Exit->Act->World->Prop) (T D:Nat->Bool) (S:World->Prop):Nat->Array Bool->Act->World->Prop
 | 0,listed,a,w=>Region.ready .any ops listed=[]/\Q .normal a w
 | n+1,listed,a,w=>(Region.ready .any ops listed=[]->Q .normal a w)/\
  ∀ i∈Region.ready .any ops listed,wpOpIn Fence.wide 0 P ops Q i (λa' w'=>(T i=true->S w')/\(D i=true->w'=w)/\zy P ops Q T D S n (listed.setIfInBounds i true) a' w') a w
theorem C4 {S:World->Prop}:∀ (n:Nat) (listed:Array Bool) (a:Act) (w:World),zy P ops Q T D S n listed a w->wpAnyIn Fence.wide 0 P .any ops Q n listed a w
 | 0,_,_,_,h=>h
 | n+1,_,_,_,h=>⟨h.1,λi hi=>wpOpIn_mono (λa' w' h'=>C4 n _ a' w' h'.2.2) (h.2 i hi)⟩
theorem kN {S S':World->Prop} (hS:∀ w,S w->S' w):∀ (n:Nat) (listed:Array Bool) (a:Act) (w:World),zy P ops Q T D S n listed a w->zy P ops Q T D S' n listed a w
 | 0,_,_,_,h=>h
 | n+1,_,_,_,h=>⟨h.1,λi hi=>wpOpIn_mono (λa' w' h'=>⟨λt=>hS w' (h'.1 t),h'.2.1,kN hS n _ a' w' h'.2.2⟩) (h.2 i hi)⟩
theorem bK (h:i∈Region.ready .any ops listed):listed.getD i true=false:=by simpa using (mem_ready.1 h).1
theorem getD_set_true (h:(listed.setIfInBounds i true).getD j true=false):listed.getD j true=false:=by
 by_cases hij:i=j
 ·subst hij;rcases Nat.lt_or_ge i listed.size with h'|h'
  ·simp [h'] at h
  ·simp at h
 ·rw [getD_set_ne true hij] at h;exact h
theorem qf {S S':World->Prop}:∀ (n:Nat) (listed:Array Bool) (a:Act) (w:World),(∀ j,listed.getD j true=false->T j=false)->zy P ops Q T D S n listed a w->zy P ops Q T D S' n listed a w
 | 0,_,_,_,_,h=>h
 | n+1,listed,_,_,ht,h=>⟨h.1,λi hi=>wpOpIn_mono (λa' w' h'=>⟨λt=>absurd t (by rw [ht i (bK hi)];simp),h'.2.1,qf n _ a' w' (λj hj=>ht j (getD_set_true hj)) h'.2.2⟩) (h.2 i hi)⟩
theorem yw {S S1:World->Prop} {oi:Oper} {B:List Nat} (hi:ops[i]? =some oi) (hsel:∀ (j:Nat) (o:Oper) cs b,ops[j]? =some o->o.op≠.select cs b)
  (hQ:∀ c a w,Q (.panic c) (a.put oi.dst v) w->Q (.panic c) a w) (P4:T i=false) (hS1:∀ w,S w->S1 w)
  (hBe:∀ j∈B,∃ oj,ops[j]? =some oj/\∃ e∈oj.after,Region.binds .any e=true/\(e.on=i\/e.on∈B)):
  ∀ (fuel:Nat) (listed:Array Bool) (a:Act) (w:World),
   (∀ j oj,ops[j]? =some oj->j≠i->listed.getD j true=false->(∀ e∈oj.after,Region.binds .any e=true->e.on≠i)->oi.apart ops oj=true)->
   ((∀ w,S1 w)\/∀ j,listed.getD j true=false->T j=false->D j=false->j≠i->j∈B)->(∀ j∈B,listed.getD j true=false)->
   i∈Region.ready .any ops listed->YieldsIf P ops S1 oi v a->S1 w->
   zy P ops Q T D S fuel (listed.setIfInBounds i true) (a.put oi.dst v) w->zy P ops Q T D S (fuel+1) listed a w:=by
 intro fuel
 induction fuel with
 | zero=>
  intro listed a w _ _ _ hr hy hS H;refine ⟨λh=>(by rw [h] at hr;cases hr),λj hj=>?_⟩;by_cases hji:j=i
  ·subst hji;exact YieldsIf.wC hi hy hS ⟨λt=>(by rw [P4] at t;cases t),λ_=>rfl,H⟩
  ·have:=ready_mono hj hji;rw [H.1] at this
   cases this
 | succ fuel ih=>
  intro listed a w yx hT hBu hr hy hS H;refine ⟨λh=>(by rw [h] at hr;cases hr),λj hj=>?_⟩;by_cases hji:j=i
  ·subst hji;exact YieldsIf.wC hi hy hS ⟨λt=>(by rw [P4] at t;cases t),λ_=>rfl,H⟩
  ·have h1:=H.2 j (ready_mono hj hji);obtain ⟨U',oj,LP,hall⟩:=mem_ready.1 hj;have rF:=bK hr;have contra:∀ k,listed.getD k true=false->listed.getD k false=true->False:=by
    intro k h1 h0;rcases Nat.lt_or_ge k listed.size with h'|h'
    ·simp [h'] at h0 h1;rw [h0] at h1;cases h1
    ·simp [Array.getElem?_eq_none h'] at h1
   have QG:∀ e∈oj.after,Region.binds .any e=true->e.on≠i:=λe he hb heq=>by have h2:=hall e he hb;rw [heq] at h2;exact contra i rF h2
   have hjB:j ∉ B:=by
    intro hB;obtain ⟨oj',h2,e,he,hb,Jk⟩:=hBe j hB;rw [LP] at h2;cases h2;have h3:=hall e he hb;rcases Jk with Jk|Jk
    ·exact QG e he hb Jk
    ·exact contra _ (hBu _ Jk) h3
   have Nu:(∀ w,S1 w)\/T j=true\/D j=true:=by
    rcases hT with hT|hT
    ·exact .inl hT
    ·cases hT':T j with
     | true=>exact .inr (.inl rfl)
     | false=>
      cases hD':D j with
      | true=>exact .inr (.inr rfl)
      | false=>exact absurd (hT j (bK hj) hT' hD' hji) hjB
   have h2:=zx LP (yx j oj LP hji U' QG) (λcs b=>hsel i oi cs b hi) (λcs b=>hsel j oj cs b LP) hQ hy h1;have Nv:∀ k ok,ops[k]? =some ok->k≠i->(listed.setIfInBounds j true).getD k true=false->
     (∀ e∈ok.after,Region.binds .any e=true->e.on≠i)->oi.apart ops ok=true:=λk ok hk Qy hun hno=>by
    exact yx k ok hk Qy (getD_set_true hun) hno
   refine wpOpIn_mono (λa' w' h3=>?_) h2;have TR:S1 w':=by
    rcases Nu with t|t|t
    ·exact t w'
    ·exact hS1 _ (h3.2.1 t)
    ·rw [h3.2.2.1 t];exact hS
   refine ⟨h3.2.1,h3.2.2.1,ih (listed.setIfInBounds j true) a' w' Nv (hT.imp id λhT k hk hTk hDk Qy=>hT k (getD_set_true hk) hTk hDk Qy) (λk hk=>?_) (ready_mono hr (Ne.symm hji)) h3.1 TR ?_⟩
   ·rw [getD_set_ne true (by rintro rfl;exact hjB hk)];exact hBu k hk
   ·rw [Array.setIfInBounds_comm _ _ hji];exact h3.2.2.2
theorem Ej {oj:Oper} (hj:ops[j]? =some oj) {K:Act->World->Prop} (h:wpOpIn Fence.wide 0 P ops Q j K a w):
  wpOpIn Fence.wide 0 P ops Q j (λa' w'=>K a' w'/\∀ t:Nat,oj.dst≠some t->a'.tmps[t]? =a.tmps[t]?) a w:=by
 have put:∀ (b:Act) (v:Value),b.tmps=a.tmps->∀ t:Nat,oj.dst≠some t->(b.put oj.dst v).tmps[t]? =a.tmps[t]?:=by
  intro b v hb t ht;unfold Act.put
  cases hd:oj.dst with
  | none=>simp only [hb]
  | some d=>
   have :d≠t:=by rintro rfl;exact ht hd
   simp only [hb,Array.getElem?_setIfInBounds_ne this]
 unfold wpOpIn at *;simp only [hj] at *;split
 ·rename_i hw;simp only [hw,if_true] at h;refine ⟨λ_ _=>trivial,?_⟩;have h:=h.2;replace h:oj.uponIn Fence.wide 0 P a K Q ((execOp a.eval oj).run P w):=h;show oj.uponIn Fence.wide 0 P a _ Q ((execOp a.eval oj).run P w);generalize (execOp a.eval oj).run P w=r at *
  cases r with
  | ok n w'=>
   cases n<;>simp only [Oper.uponIn] at h ⊢;case value u=>exact ⟨h,put a u rfl⟩
   case skip=>exact ⟨h,put a _ rfl⟩
   case defer d=>exact ⟨h,put _ _ rfl⟩
   case enter f args=>
    refine ⟨h.1,h.2.mono λe w'' he=>?_⟩
    cases e with
    | returned u=>exact ⟨he,put a u rfl⟩
    | panicked c=>exact he
    | outgrown=>exact he
   case round l f tmps assign body=>
    refine ⟨h.1,h.2.mono λe w'' he=>?_⟩
    cases e with
    | returned u=>exact ⟨he,put a u rfl⟩
    | panicked c=>exact he
    | outgrown=>exact he
   case row row args=>exact ⟨h.1,h.2.mono λu w'' he=>⟨he,put a u rfl⟩⟩
  | halt x w'=>
   cases x<;>simp only [Oper.uponIn] at h ⊢;case panic u=>exact h
 ·rename_i hw;simp only [hw] at h;exact ⟨λ_ _=>trivial,h.2,put a _ rfl⟩
end
theorem oA {ops:Array Oper} {listed:Array Bool} {k:Nat}:∀ (n:Nat) (acc:List Nat),
  ((∀ j∈acc,listed.getD j true=false/\∃ oj,ops[j]? =some oj/\∃ e∈oj.after,Region.binds .any e=true/\(e.on=k\/e.on∈acc)))->
  ∀ j∈jZ ops listed k n acc,listed.getD j true=false/\∃ oj,ops[j]? =some oj/\∃ e∈oj.after,Region.binds .any e=true/\(e.on=k\/e.on∈jZ ops listed k n acc)
 | 0,acc,h=>by simpa [jZ] using h
 | n+1,acc,h=>by
  simp only [jZ];split
  ·rename_i j hj;refine oA n (j::acc) ?_;have hp:=List.find?_some hj;simp only [Bool.and_eq_true,Bool.not_eq_true'] at hp;obtain ⟨⟨⟨h1,h2⟩,h3⟩,h4⟩:=hp;intro m hm;rcases List.mem_cons.1 hm with rfl|hm
   ·refine ⟨h1,?_⟩
    cases ho:ops[m]? with
    | none=>rw [ho] at h4;simp at h4
    | some oj=>
     rw [ho] at h4;simp only [Option.map_some,Option.getD_some,Array.any_eq_true] at h4;obtain ⟨i,hi,h4⟩:=h4;simp only [Bool.and_eq_true,Bool.or_eq_true,beq_iff_eq,List.contains_iff_mem] at h4;exact ⟨oj,rfl,_,Array.getElem_mem hi,h4.1,h4.2.imp id (λx=>List.mem_cons_of_mem _ x)⟩
   ·obtain ⟨g1,oj,g2,e,g3,g4,g5⟩:=h m hm;exact ⟨g1,oj,g2,e,g3,g4,g5.imp id (λx=>List.mem_cons_of_mem _ x)⟩
  ·exact h
theorem Rel.wD {bA:List aR} {ρ':Env} {w':World} (h:Rel w0 mu bx E ρ w) (hp:ρ<+:ρ') (hb:bx<+:bA) (hE:Mem.le E E') (h':Rel w0 mu bA E' ρ' w'):Rel w0 mu bx E ρ w' where
 keep:=h'.keep
 len:=h.len
 box i b oa h1 h2:=by
  have hx:=h'.box i b oa (gv hb h1) (gv hp h2);have h0:=h.box i b oa h1 h2
  cases oa with
  | none=>exact hx
  | some a=>
   obtain ⟨g1,vs,g2,g3⟩:=hx;obtain ⟨_,vs0,k2,_⟩:=h0;have:=SV.iK hp _ k2;rw [g2] at this;cases this;exact ⟨g1,vs,k2,g3⟩
 sep i b a h1 h2 h3:=by obtain ⟨t1,t2,t3⟩:=h'.sep i b a (gv hb h1) h2 (gv hp h3);exact ⟨t1,λj b' a' hji g1 g2 g3=>t2 j b' a' hji (gv hb g1) g2 (gv hp g3),λv cs g hne=>t3 v cs (hE v cs g) hne⟩
 hold v cs g:=h'.hold v cs (hE v cs g)
 jM i b a h1 h2 h3:=h'.jM i b a (gv hb h1) h2 (gv hp h3)
 src v cs g hne:=h'.src v cs (hE v cs g) hne
section
variable {Ω:Option Rc} {P:Program} {ak:cK} {all:Array Oper} {tail:List Nat} {w0:World} {mu:Fm} {dr:Env} {K:St->Prop} {Q:Exit->Act->World->Prop}
theorem mg (mO:lF o.op=true) (hR:Rel w0 mu S.bx S.E ρ w) (hF:cV ρ S.fr a.tmps) (h:kj P ak all o S M)
  (key:∀ (v:Value) (S':St),S'.bx=S.bx->Mem.le S.E S'.E->(∀ w,Rel w0 mu S.bx S.E ρ w->Rel w0 mu S.bx S'.E ρ w)->(∀ v cs,S'.E v cs->cs≠[]->∃ v0 jQ,S.E v0 jQ/\jQ≠[]/\pP v=pP v0)->cV ρ S'.fr (a.put o.dst v).tmps->(∀ t:Nat,o.dst≠some t->S.fr[t]? =some none->S'.fr[t]? =some none)->
   YieldsIf P all (λw=>jY o.op=true->Rel w0 mu S.bx S.E ρ w) o v a->M S'->G):G:=by
 have hput:∀ (S1:St) (s:SV) (t:Nat),o.dst≠some t->S1.fr[t]? =some none->(S1.put o.dst s).fr[t]? =some none:=by
  intro S1 s t ht h1;unfold St.put
  cases hd:o.dst with
  | none=>exact h1
  | some d=>
   have :d≠t:=by rintro rfl;exact ht hd
   simp only [List.getElem?_set_ne this];exact h1
 have hex:∀ S1:St,S1.bx=S.bx->S1.E=S.E->(∀ t:Nat,S.fr[t]? =some none->S1.fr[t]? =some none)->cV ρ S1.fr a.tmps->Region.wanted o (yielded all a.tmps)=true->
   (kg P ak o.op S1 λs bx E=>M (({ S1 with bx:=bx,E:=E }:St).put o.dst s))->G:=by
  intro S1 e1 e2 e3 TT hw hop;refine BR (S:=S1) (w0:=w0) (mu:=mu) (ρ:=ρ) (w1:=w) mO (by rw [e1,e2];exact hR) TT hop (λs v E' g1 g2 g3 g6 g4 g5=>?_);rw [e2] at g2 g6;rw [e1,e2] at g3;rw [e1,e2] at g5;refine key v _ ?_ ?_ ?_ ?_ ?_ ?_ (.inl ⟨hw,g5⟩) g4
  ·rw [St.nC];exact e1
  ·rw [St.mV];exact g2
  ·rw [St.mV];exact g3
  ·rw [St.mV];exact g6
  ·exact cV.put (S:={ S1 with bx:=S1.bx,E:=E' }) TT o.dst g1
  ·exact λt ht hs=>hput { S1 with bx:=S1.bx,E:=E' } s t ht (e3 t hs)
 have F6:∀ S1:St,S1.bx=S.bx->S1.E=S.E->(∀ t:Nat,S.fr[t]? =some none->S1.fr[t]? =some none)->cV ρ S1.fr a.tmps->Region.wanted o (yielded all a.tmps)=false->M (S1.put o.dst (.raw undef))->G:=by
  intro S1 e1 e2 e3 TT hw Ga;refine key undef _ ?_ ?_ ?_ ?_ ?_ ?_ (.inr ⟨hw,rfl⟩) Ga
  ·rw [St.nC];exact e1
  ·rw [St.mV,e2];exact Mem.le_refl _
  ·rw [St.mV,e2];exact λ_ g=>g
  ·rw [St.mV,e2];exact λv cs g hne=>⟨v,cs,g,hne,rfl⟩
  ·exact cV.put TT o.dst rfl
  ·exact λt ht hs=>hput S1 _ t ht (e3 t hs)
 unfold kj ou at h;split at h
 ·rename_i hg;exact hex S rfl rfl (λ_ x=>x) hF (by simp [Region.wanted,hg]) h
 ·rename_i j want hg;split at h
  ·exact h.elim
  ·rename_i d hj;split at h
   ·rename_i b hb;obtain ⟨v,h1,h2⟩:=hF.2 d _ hb;simp only [SV.den,Option.some.injEq] at h2;subst h2;have hy:yielded all a.tmps j=some b:=by simp [yielded,hj,h1]
    have iz:∀ c:Bool,b=c->cV ρ (S.put (some d) (.raw (.bool c))).fr a.tmps:=λc e=>cV.lit hF h1 e;have LJ:∀ c:Bool,∀ t:Nat,S.fr[t]? =some none->(S.put (some d) (.raw (.bool c))).fr[t]? =some none:=by
     intro c t ht;have :d≠t:=by rintro rfl;rw [hb] at ht;cases ht
     simp only [St.put,List.getElem?_set_ne this];exact ht
    cases want<;>cases b<;>simp only [cond] at h
    ·exact hex (S.put (some d) (.raw (.bool false))) rfl rfl (LJ false) (iz false rfl) (by simp [Region.wanted,hg,hy]) h
    ·exact F6 (S.put (some d) (.raw (.bool true))) rfl rfl (LJ true) (iz true rfl) (by simp [Region.wanted,hg,hy]) h
    ·exact F6 (S.put (some d) (.raw (.bool false))) rfl rfl (LJ false) (iz false rfl) (by simp [Region.wanted,hg,hy]) h
    ·exact hex (S.put (some d) (.raw (.bool true))) rfl rfl (LJ true) (iz true rfl) (by simp [Region.wanted,hg,hy]) h
   ·rename_i vs hb;obtain ⟨v,h1,h2⟩:=hF.2 d _ hb;simp only [SV.den,Option.some.injEq] at h2;subst h2;have hy:yielded all a.tmps j=none:=by simp [yielded,hj,h1]
    exact F6 S rfl rfl (λ_ x=>x) hF (by simp [Region.wanted,hg,hy]) h
   ·exact h.elim
def Jl (bx:List aR) (ρ:Env):List Nat:=(List.range bx.length).filterMap λj=>match bx[j]?,ρ[j]? with
 | some b,some (some a)=>if b.live=true then some a.block else none
 | _,_=>none
theorem C5 {a:Addr} (h1:bx[j]? =some b) (h2:ρ[j]? =some (some a)) (h3:b.live=true):a.block∈Jl bx ρ:=by refine List.mem_filterMap.2 ⟨j,List.mem_range.2 (eC h1),?_⟩;simp only [h1,h2,h3,if_true]
theorem BS {g:Nat} (h:g∈Jl bx ρ):∃ (j:Nat) (b:aR) (a:Addr),bx[j]? =some b/\ρ[j]? =some (some a)/\b.live=true/\a.block=g:=by
 obtain ⟨j,_,hj⟩:=List.mem_filterMap.1 h;split at hj
 ·rename_i b a h1 h2;split at hj
  ·rename_i hl;simp only [Option.some.injEq] at hj;exact ⟨j,b,a,h1,h2,hl,hj⟩
  ·cases hj
 ·cases hj
theorem Rel.here {om:Option Rc} {ds:List Deferred} (h:Rel w0 mu bx E ρ w):Rel w ⟨Jl bx ρ,E,om,ds⟩ bx E ρ w:=
 ⟨lA.refl _ _,h.len,h.box,λi b a h1 ho h2=>⟨.inr (C5 h1 h2 (by simp [aR.live,ho])),(h.sep i b a h1 ho h2).2⟩,h.hold,λi b a h1 hl h2=>.inr (C5 h1 h2 hl),λv cs g hne=>.inr ⟨v,cs,g,hne,rfl⟩⟩
theorem Rel.compose {bA:List aR} {ρ':Env} {w':World} {om:Option Rc} {ds:List Deferred} (h:Rel w0 mu bx E ρ w) (h':Rel w ⟨Jl bx ρ,E,om,ds⟩ bA E' ρ' w'):Rel w0 mu bA E' ρ' w':=by
 have hsrc:∀ g,g∈Jl bx ρ->w0.heap.size<=g\/g∈mu.mu:=by intro g hg;obtain ⟨j,b,a,h1,h2,h3,rfl⟩:=BS hg;exact h.jM j b a h1 h3 h2
 have wi:∀ g,(w.heap.size<=g\/g∈Jl bx ρ)->w0.heap.size<=g\/g∈mu.mu:=by
  rintro g (hg|hg)
  ·exact .inl (Nat.le_trans h.keep.size hg)
  ·exact hsrc g hg
 have hk:=h'.keep;refine ⟨⟨hk.os.trans h.keep.os,hk.tape.trans h.keep.tape,hk.output.trans h.keep.output,Nat.le_trans h.keep.size hk.size,λk h1 h2=>?_⟩,h'.len,h'.box,?_,h'.hold,?_,?_⟩
 ·rw [hk.block k (Nat.lt_of_lt_of_le h1 h.keep.size) (λhg=>by
   rcases hsrc k hg with q|q
   ·omega
   ·exact h2 q)]
  exact h.keep.block k h1 h2
 ·intro i b a h1 ho h2;obtain ⟨t1,t2,t3⟩:=h'.sep i b a h1 ho h2;exact ⟨wi _ t1,t2,t3⟩
 ·intro i b a h1 hl h2;exact wi _ (h'.jM i b a h1 hl h2)
 ·intro v cs g hne;rcases h'.src v cs g hne with ⟨b,e1,e2⟩|⟨v0,jQ,e1,e2,e3⟩
  ·exact .inl ⟨b,e1,wi b e2⟩
  ·rw [e3];exact h.src v0 jQ e1 e2
structure Hid (P:Program) (all:Array Oper) (w0:World) (bx:List aR) (E:Mem) (ρ:Env) (a:Act) (w:World) (r g:Nat):Prop where
 op:∃ d T type pos after i z,all[r]? =some ⟨some d,.alloc T,type,pos,after,none⟩/\P.info? T=some i/\i.zero=some z/\gH (.raw z)=true/\w.heap[g]? =some (.cells z.cells T (0,0))/\(a.tmps[d]? =some (.pointer (some ⟨g,0,none⟩))\/a.tmps[d]? =none)
 new:w0.heap.size<=g
 apart:(∀ (j:Nat) b' a',bx[j]? =some b'->b'.live=true->ρ[j]? =some (some a')->a'.block≠g)/\(∀ v cs,E v cs->cs≠[]->pP v≠some g)
theorem iG {xK:TypeId->Bool} {r:Nat} (h:gj xK all r=true):∃ d T type pos after,all[r]? =some ⟨some d,.alloc T,type,pos,after,none⟩/\xK T=true/\∀ k o,all[k]? =some o->k≠r->o.dst≠some d:=by
 unfold gj at h;split at h
 ·rename_i d T type pos after ho;simp only [Bool.and_eq_true,List.all_eq_true,List.mem_range,Bool.or_eq_true,beq_iff_eq,decide_eq_true_eq] at h;refine ⟨d,T,type,pos,after,ho,h.1,λk o hk hne=>?_⟩;have hks:k<all.size:=(Array.getElem?_eq_some_iff.1 hk).1;rcases h.2 k hks with q|q
  ·exact absurd q hne
  ·rw [hk] at q;exact q
 ·cases h
theorem Ek {T:TypeId} (h:jo P T=true):∃ i z,P.info? T=some i/\i.zero=some z/\gH (.raw z)=true:=by
 unfold jo at h;split at h
 ·rename_i i hi;split at h
  ·rename_i z hz;exact ⟨i,z,hi,hz,h⟩
  ·cases h
 ·cases h
theorem j0:∀ (l:List Nat) (listed:Array Bool) (k:Nat),(kG listed l).getD k true=(listed.getD k true||l.contains k)
 | [],listed,k=>by simp [kG]
 | i::l,listed,k=>by
  rw [kG,j0 l];by_cases D8:i=k
  ·subst D8;rcases Nat.lt_or_ge i listed.size with h'|h'
   ·simp [h']
   ·simp [h']
  ·rw [getD_set_ne true D8];simp [Ne.symm D8]
theorem oC:∀ (l:List Nat) (listed:Array Bool),(kG listed l).size=listed.size
 | [],_=>rfl
 | i::l,listed=>by rw [kG,oC l];simp
theorem pI {l:Array Bool} (h:k<l.size):l.getD k false=l.getD k true:=by simp [h]
theorem mh {l l':Array Bool} (hs:l.size=l'.size) (h:∀ k,l.getD k true=true->l'.getD k true=true) (hk:k∈Region.ready .any all l) (hu:l'.getD k true=false):k∈Region.ready .any all l':=by
 obtain ⟨_,o,ho,hall⟩:=mem_ready.1 hk;refine mem_ready.2 ⟨by simpa using hu,o,ho,λe he hb=>?_⟩;have h1:=hall e he hb;have hsz:e.on<l.size:=by
  rcases Nat.lt_or_ge e.on l.size with q|q
  ·exact q
  ·simp [q] at h1
 rw [pI hsz] at h1;rw [pI (by omega)];exact h _ h1
def sH (S S':St) (dst:Option Tmp):Prop:=∀ t:Nat,dst≠some t->S.fr[t]? =some none\/S.fr[t]? =none->S'.fr[t]? =some none\/S'.fr[t]? =none
theorem qh (S S1:St) (o:Option Tmp) (s:SV) (h:∀ t:Nat,S.fr[t]? =some none\/S.fr[t]? =none->S1.fr[t]? =some none\/S1.fr[t]? =none):sH S (S1.put o s) o:=by
 intro t ht hs;have h1:=h t hs;unfold St.put
 cases o with
 | none=>exact h1
 | some d=>
  have :d≠t:=by rintro rfl;exact ht rfl
  simp only [List.getElem?_set_ne this];exact h1
theorem yy {exec skip LQ LR:St->Prop}
  (he:∀ S1:St,(∀ t:Nat,S.fr[t]? =some none\/S.fr[t]? =none->S1.fr[t]? =some none\/S1.fr[t]? =none)->exec S1=LQ S1)
  (hs:∀ S1:St,(∀ t:Nat,S.fr[t]? =some none\/S.fr[t]? =none->S1.fr[t]? =some none\/S1.fr[t]? =none)->skip S1=LR S1):ou all o S exec skip=ou all o S LQ LR:=by
 unfold ou;split
 ·exact he S (λ_ x=>x)
 ·split
  ·rfl
  ·rename_i d hj;split
   ·rename_i b hb;have hn:∀ c:Bool,∀ t:Nat,S.fr[t]? =some none\/S.fr[t]? =none->(S.put (some d) (.raw (.bool c))).fr[t]? =some none\/(S.put (some d) (.raw (.bool c))).fr[t]? =none:=by
     intro c t ht;have :d≠t:=by rintro rfl;rw [hb] at ht;rcases ht with q|q<;>cases q
     simp only [St.put,List.getElem?_set_ne this];exact ht
    rw [he _ (hn true),he _ (hn false),hs _ (hn true),hs _ (hn false)]
   ·exact hs S (λ_ x=>x)
   ·rfl
theorem AB:kj P ak all o S M=kj P ak all o S (λS'=>sH S S' o.dst/\M S'):=by
 unfold kj;refine yy (λS1 h1=>?_) (λS1 h1=>?_)
 ·congr 1;funext s bx E;exact propext ⟨λx=>⟨qh S { S1 with bx:=bx,E:=E } o.dst s h1,x⟩,λx=>x.2⟩
 ·exact propext ⟨λx=>⟨qh S S1 o.dst _ h1,x⟩,λx=>x.2⟩
theorem tO:nB P ak all o S M=nB P ak all o S (λS'=>sH S S' o.dst/\M S'):=by
 unfold nB;refine yy (λS1 h1=>?_) (λS1 h1=>?_)
 ·congr 1;congr 1;funext s bx E;exact propext ⟨λx=>⟨qh S { S1 with bx:=bx,E:=E } o.dst s h1,x⟩,λx=>x.2⟩
 ·exact propext ⟨λx=>⟨qh S S1 o.dst _ h1,x⟩,λx=>x.2⟩
theorem nF {α β:Type} {f:α->β}:∀ {l:List α},(l.map f).Nodup->∀ {x y:α},x∈l->y∈l->f x=f y->x=y
 | [],_,_,_,h,_,_=>by cases h
 | z::l,hn,x,y,hx,hy,e=>by
  simp only [List.map_cons,List.nodup_cons] at hn;rcases List.mem_cons.1 hx with rfl|hx
  ·rcases List.mem_cons.1 hy with rfl|hy
   ·rfl
   ·exact absurd (List.mem_map.2 ⟨y,hy,e.symm⟩) hn.1
  ·rcases List.mem_cons.1 hy with e2|hy
   ·rw [e2] at e;exact absurd (List.mem_map.2 ⟨x,hx,e⟩) hn.1
   ·exact nF hn.2 hx hy e
theorem nR:∀ {H:List (Nat×Nat)},(H.map (·.1)).Nodup->∀ {z:Nat×Nat},z∈H->(H.filter λy=>y.1 !=z.1).length+1=H.length
 | [],_,_,h=>by cases h
 | y::H,hn,z,hz=>by
  simp only [List.map_cons,List.nodup_cons] at hn;rcases List.mem_cons.1 hz with rfl|hz
  ·have :(z::H).filter (λy=>y.1 !=z.1)=H:=by
    rw [List.filter_cons_of_neg (by simp)];refine List.filter_eq_self.2 λu hu=>?_;simp only [bne_iff_ne];intro e;exact hn.1 (List.mem_map.2 ⟨u,hu,e⟩)
   rw [this];rfl
  ·have hne:y.1≠z.1:=λe=>hn.1 (List.mem_map.2 ⟨z,hz,e.symm⟩);rw [List.filter_cons_of_pos (by simpa using hne)];simp only [List.length_cons];have:=nR hn.2 hz;omega
theorem cV.QH (h:cV ρ fr tmps) (d:Nat) {s:SV} (hv:s.den ρ=some v) (ht:tmps[d]? =some v):cV ρ (fr.set d (some s)) tmps:=by
 refine ⟨by simp [h.1],λi t hi=>?_⟩;by_cases LF:d=i
 ·subst LF;rw [List.getElem?_set_self'] at hi
  cases hf:fr[d]? with
  | none=>simp [hf] at hi
  | some o=>simp [hf] at hi;subst hi;exact ⟨v,ht,hv⟩
 ·rw [List.getElem?_set_ne LF] at hi;exact h.2 i t hi
theorem cV.skip (h:cV ρ fr tmps) (d:Nat) (v:Value) (hd:fr[d]? =some none\/fr[d]? =none):cV ρ fr (tmps.setIfInBounds d v):=by
 refine ⟨by simp [h.1],λi t hi=>?_⟩;have LF:d≠i:=by rintro rfl;rcases hd with q|q<;>rw [q] at hi<;>cases hi
 obtain ⟨u,h1,h2⟩:=h.2 i t hi;exact ⟨u,by rw [Array.getElem?_setIfInBounds_ne LF];exact h1,h2⟩
theorem getD_inj {l l':Array Bool} (hs:l.size=l'.size) (h:∀ k,l.getD k true=l'.getD k true):l=l':=by apply Array.ext hs;intro i h1 h2;have:=h i;simpa [h1,h2] using this
theorem j6 {l:Array Bool}:(l.setIfInBounds i true).getD k true=(l.getD k true||decide (i=k)):=by
 by_cases D8:i=k
 ·subst D8;rcases Nat.lt_or_ge i l.size with h'|h'<;>simp [h']
 ·rw [getD_set_ne true D8];simp [D8]
theorem ku (dP:ja Ω P ak) (pN:mu.om=Ω/\xJ Ω dr) (hsel:Region.noSelect all=true) (hQ:∀ a w,gz w0 mu dr K a w->Q .normal a w) (wE:∀ c a w,¬ Q (.panic c) a w)
  (m n:Nat) (listed lc:Array Bool) (H:List (Nat×Nat)) (S:St) (ρ:Env) (a:Act) (w:World) (h:gN P ak all (ko (jo P) all tail m listed) S K) (hls:listed.size=all.size) (hlc:lc.size=all.size)
  (iz:∀ k,lc.getD k true=(listed.getD k true||(H.map (·.1)).contains k)) (hH:∀ x∈H,x.1∈Region.ready .any all listed/\gj (jo P) all x.1=true/\Hid P all w0 S.bx S.E ρ a w x.1 x.2) (QI:∀ x∈H,tail.contains x.1=false) (hnd:(H.map (·.1)).Nodup/\(H.map (·.2)).Nodup)
  (hfr:∀ r d,gj (jo P) all r=true->listed.getD r true=false->(all[r]?).bind (·.dst)=some d->S.fr[d]? =some none\/S.fr[d]? =none)
  (hm:m=n+H.length) (hU:∃ U:List Nat,(∀ k,lc.getD k true=false->k∈U)/\U.length<=n) (hd:a.defers=mu.ds/\mL w0 mu) (hp:dr<+:ρ) (hR:Rel w0 mu S.bx S.E ρ w) (hF:cV ρ S.fr a.tmps):
   zy P all Q (λj=> !tail.contains j&& !cR all j) (λj=> !tail.contains j&&cR all j) (λw=>Rel w0 mu S.bx S.E ρ w) n lc a w:=by
 have hsz:∀ (l:Array Bool) i,l.size=all.size->(l.setIfInBounds i true).size=all.size:=λl i hl=>by simpa using hl
 -- what is hidden is not listed
 have hHu:∀ x∈H,listed.getD x.1 true=false:=λx hx=>bK (hH x hx).1;have Gb:∀ x∈H,x.2<w.heap.size:=λx hx=>by obtain ⟨_,_,_,_,_,_,_,_,_,_,_,hg,_⟩:=(hH x hx).2.2.op;exact (Array.getElem?_eq_some_iff.1 hg).1
 -- nothing hidden: as it stands
 have lB:H=[]->lc=listed:=λe=>getD_inj (by rw [hls,hlc]) (λk=>by rw [iz,e];simp)
 -- the count of what is left
 have sJ:∀ i,lc.getD i true=false->∃ n',n=n'+1/\∃ U:List Nat,(∀ k,(lc.setIfInBounds i true).getD k true=false->k∈U)/\U.length<=n':=by
  intro i hi;obtain ⟨U,h1,h2⟩:=hU;have LS:=h1 i hi;have hpos:0<U.length:=List.length_pos_of_mem LS;refine ⟨n-1,by omega,U.erase i,λk hk=>?_,?_⟩
  ·rw [j6] at hk;simp only [Bool.or_eq_false_iff,decide_eq_false_iff_not] at hk;exact (List.mem_erase_of_ne (Ne.symm hk.2)).2 (h1 k hk.1)
  ·rw [List.length_erase_of_mem LS];omega
 -- a step that the plan takes: what is hidden stays hidden
 have Gc:∀ (i:Nat) (oi:Oper),all[i]? =some oi->i∈Region.ready .any all listed->(∀ x∈H,x.1≠i)->∀ (S':St) (ρ':Env) (a':Act) (w':World),
   (∀ t:Nat,oi.dst≠some t->a'.tmps[t]? =a.tmps[t]?)->(∀ x∈H,w'.heap[x.2]? =w.heap[x.2]?)->
   (∀ x∈H,(∀ (j:Nat) b' a',S'.bx[j]? =some b'->b'.live=true->ρ'[j]? =some (some a')->a'.block≠x.2)/\(∀ v cs,S'.E v cs->cs≠[]->pP v≠some x.2))->
   ∀ x∈H,x.1∈Region.ready .any all (listed.setIfInBounds i true)/\gj (jo P) all x.1=true/\Hid P all w0 S'.bx S'.E ρ' a' w' x.1 x.2:=by
  intro i oi Gd hi hne S' ρ' a' w' ht hh hap x hx;obtain ⟨h1,h2,h3⟩:=hH x hx;refine ⟨ready_mono h1 (hne x hx),h2,?_⟩;obtain ⟨d,T,type,pos,after,ii,z,e1,e2,e3,e4,e5,e6⟩:=h3.op;refine ⟨⟨d,T,type,pos,after,ii,z,e1,e2,e3,e4,by rw [hh x hx];exact e5,?_⟩,h3.new,hap x hx⟩;obtain ⟨d',T',type',pos',after',f1,_,f3⟩:=iG h2;rw [e1] at f1;simp only [Option.some.injEq,Oper.mk.injEq] at f1;obtain ⟨rfl,_⟩:=f1;rw [ht d (f3 i oi Gd (λe=>hne x hx e.symm))];exact e6
 have AD:∀ i,(∀ x∈H,x.1≠i)->∀ k,(lc.setIfInBounds i true).getD k true=((listed.setIfInBounds i true).getD k true||(H.map (·.1)).contains k):=by
  intro i _ k;rw [j6,j6,iz]
  cases listed.getD k true<;>cases (H.map (·.1)).contains k<;>cases decide (i=k)<;>rfl
 have oD:∀ (i:Nat) (oi:Oper) (S':St),all[i]? =some oi->(∀ t:Nat,oi.dst≠some t->S.fr[t]? =some none\/S.fr[t]? =none->S'.fr[t]? =some none\/S'.fr[t]? =none)->
   ∀ r d,gj (jo P) all r=true->(listed.setIfInBounds i true).getD r true=false->(all[r]?).bind (·.dst)=some d->S'.fr[d]? =some none\/S'.fr[d]? =none:=by
  intro i oi S' Gd hS r d hr hl wF;rw [j6] at hl;simp only [Bool.or_eq_false_iff,decide_eq_false_iff_not] at hl;obtain ⟨d',T',type',pos',after',f1,_,f3⟩:=iG hr;rw [f1] at wF;simp only [Option.bind_some,Option.some.injEq] at wF;subst wF;exact hS d' (f3 i oi Gd hl.2) (hfr r d' hr hl.1 (by rw [f1];rfl))
 -- one more is hidden
 have QJ:∀ i,i∈Region.ready .any all listed->gj (jo P) all i=true->tail.contains i=false->(∀ x∈H,x.1≠i)->∀ n',n=n'+1->(∃ U:List Nat,(∀ k,(lc.setIfInBounds i true).getD k true=false->k∈U)/\U.length<=n')->
   wpOpIn Fence.wide 0 P all Q i (λa' w'=>((λj=> !tail.contains j&& !cR all j) i=true->Rel w0 mu S.bx S.E ρ w')/\((λj=> !tail.contains j&&cR all j) i=true->w'=w)/\
    zy P all Q (λj=> !tail.contains j&& !cR all j) (λj=> !tail.contains j&&cR all j) (λw=>Rel w0 mu S.bx S.E ρ w) n' (lc.setIfInBounds i true) a' w') a w:=by
  intro i hi PZ P5 hne n' hn' C6;obtain ⟨d,T,type,pos,after,ho,hok,QK⟩:=iG PZ;obtain ⟨ii,z,hi1,P6,hi3⟩:=Ek hok;have hrun:(execOp a.eval ⟨some d,.alloc T,type,pos,after,none⟩).run P w= .ok (.value (.pointer (some ⟨w.heap.size,0,none⟩))) (w.alloc (.cells z.cells T)):=by
   show Sem.run P (do pure (Next.value (← Instr.alloc T true (.tuple #[])))) w=_
   simp only [Instr.alloc,Sem.run_bind,jV hi1 P6,Result.andThen_ok,pU,Sem.run_pure]
  have Va:cR all i=false:=by simp [cR,ho,lF]
  have hgrow:Rel w0 mu S.bx S.E ρ (w.alloc (.cells z.cells T)):=hR.grow (lA.alloc [] w _);unfold wpOpIn;rw [ho];dsimp only;rw [if_pos (by simp [Region.wanted])];refine ⟨λ_ _=>trivial,?_⟩;rw [Oper.semAt_eq _ _ _ (by intro c e;cases e),hrun,Oper.uponIn_value];refine ⟨λ_=>hgrow,λe=>(by rw [Va] at e;simp at e),?_⟩;have hdn:=hfr i d PZ (bK hi) (by rw [ho];rfl);have Vb:∀ (t:Nat),d≠t->(a.put (some d) (.pointer (some ⟨w.heap.size,0,none⟩))).tmps[t]? =a.tmps[t]?:=λt ht=>by simp only [Act.put,Array.getElem?_setIfInBounds_ne ht]
  refine ku dP pN hsel hQ wE m n' listed (lc.setIfInBounds i true) ((i,w.heap.size)::H) S ρ _ _ h hls (hsz _ _ hlc) ?_ ?_ (by intro x hx;rcases List.mem_cons.1 hx with rfl|hx;exact P5;exact QI x hx) ?_ hfr (by simp only [List.length_cons];omega) C6 (by rw [put_defers];exact hd) hp hgrow ?_
  ·intro k;rw [j6,iz];simp only [List.map_cons,List.contains_cons];by_cases D8:i=k
   ·subst D8;simp
   ·have :(k==i)=false:=by simpa using Ne.symm D8
    simp [D8,this]
  ·intro x hx;rcases List.mem_cons.1 hx with rfl|hx
   ·refine ⟨hi,PZ,⟨⟨d,T,type,pos,after,ii,z,ho,hi1,P6,hi3,heap_alloc_new w _,?_⟩,hR.keep.size,?_,?_⟩⟩
    ·rcases Nat.lt_or_ge d a.tmps.size with Vc|Vc
     ·left;simp [Act.put,Vc]
     ·right;simp [Act.put,Vc]
    ·intro j b' a' g1 g2 g3;have:=(hR.box j b' _ g1 g3).lt g2;simp only;omega
    ·intro v cs hE hcs hb;obtain ⟨b2,q1,q2⟩:=(hR.hold v cs hE).lt hcs;rw [hb] at q1;cases q1;exact absurd q2 (Nat.lt_irrefl _)
   ·obtain ⟨h1,h2,h3⟩:=hH x hx;refine ⟨h1,h2,?_⟩;obtain ⟨d2,T2,type2,pos2,Nw,ii2,z2,e1,e2,e3,e4,e5,e6⟩:=h3.op;refine ⟨⟨d2,T2,type2,pos2,Nw,ii2,z2,e1,e2,e3,e4,by rw [heap_alloc_old w _ _ (Gb x hx)];exact e5,?_⟩,h3.new,h3.apart⟩;have hdd:d≠d2:=by
     intro e;exact QK x.1 _ e1 (hne x hx) (by rw [e])
    rw [Vb d2 hdd];exact e6
  ·refine ⟨?_,?_⟩
   ·simp only [List.map_cons,List.nodup_cons];refine ⟨λhm=>?_,hnd.1⟩;obtain ⟨x,hx,e⟩:=List.mem_map.1 hm;exact hne x hx e
   ·simp only [List.map_cons,List.nodup_cons];refine ⟨λhm=>?_,hnd.2⟩;obtain ⟨x,hx,e⟩:=List.mem_map.1 hm;have:=Gb x hx;omega
  ·exact cV.skip hF d _ hdn
 cases m with
 | zero=>
  have TN:n=0:=by omega
  have Nx:H=[]:=List.eq_nil_of_length_eq_zero (by omega);subst TN;rw [lB Nx];simp only [ko] at h;split at h
  ·rename_i hr;exact ⟨hr,hQ a w ⟨hd,S,ρ,hp,hR,hF,h⟩⟩
  ·exact h.elim
 | succ m=>
  simp only [ko] at h;split at h
  ·rename_i hr;have Nx:H=[]:=by
    cases H with
    | nil=>rfl
    | cons x H=>have:=(hH x (by simp)).1;rw [hr] at this;cases this
   subst Nx;rw [lB rfl];simp only [List.length_nil,Nat.add_zero] at hm;subst hm;exact ⟨λ_=>hQ a w ⟨hd,S,ρ,hp,hR,hF,h⟩,λi hi=>by rw [hr] at hi;cases hi⟩
  ·rename_i r rs hr;split at h
   ·-- a quiet operation is taken first
    rename_i i hfind;simp only [gN] at h;split at h;case h_2=>exact h.elim
    rename_i o ho;have P7:=List.find?_some hfind;simp only [ox,Bool.and_eq_true,Bool.not_eq_true',cR,ho,Option.map_some,Option.getD_some,Bool.or_eq_true] at P7;obtain ⟨⟨⟨mO,hnt⟩,yx⟩,Ge⟩:=P7;have yz:i∈Region.ready .any all listed:=by rw [hr];exact List.mem_of_find?_eq_some hfind
    have Ny:∀ x∈H,x.1≠i:=by rintro x hx rfl;obtain ⟨d,T,type,pos,after,f1,_,_⟩:=iG (hH x hx).2.1;rw [f1] at ho;cases ho;simp [lF] at mO
    have rF:lc.getD i true=false:=by rw [iz,bK yz];simp only [Bool.false_or,List.contains_eq_mem,decide_eq_false_iff_not];intro hm;obtain ⟨x,hx,e⟩:=List.mem_map.1 hm;exact Ny x hx e
    have Vd:i∈Region.ready .any all lc:=mh (by rw [hls,hlc]) (λk hk=>by rw [iz,hk];rfl) yz rF;obtain ⟨n',rfl,C6⟩:=sJ i rF;have hB:=oA (ops:=all) (listed:=listed) (k:=i) all.size [] (by simp);have Ve:∀ j∈jZ all listed i all.size [],lc.getD j true=false:=by
     intro j hj;obtain ⟨q1,oj,q2,e,q3,q4,q5⟩:=hB j hj
     cases hq:lc.getD j true with
     | false=>rfl
     | true=>
      exfalso;rw [iz,q1] at hq;simp only [Bool.false_or,List.contains_eq_mem,decide_eq_true_eq] at hq;obtain ⟨x,hx,rfl⟩:=List.mem_map.1 hq;obtain ⟨_,o2,g2,hall⟩:=mem_ready.1 (hH x hx).1;rw [q2] at g2;cases g2;have Jk:=hall e q3 q4;have hfalse:listed.getD e.on true=false:=by
       rcases q5 with q5|q5
       ·rw [q5];exact bK yz
       ·exact (hB _ q5).1
      rcases Nat.lt_or_ge e.on listed.size with h'|h'
      ·simp [h'] at hfalse Jk;rw [hfalse] at Jk;cases Jk
      ·simp [h'] at Jk
    refine mg mO hR hF h (λv S' e1 hle zz hsub mM hnone hy mi=>?_);have kO:=ku dP pN hsel hQ wE m n' (listed.setIfInBounds i true) (lc.setIfInBounds i true) H S' ρ (a.put o.dst v) w mi (hsz _ _ hls) (hsz _ _ hlc) (AD i Ny)
     (Gc i o ho yz Ny S' ρ _ w (λt ht=>by
      unfold Act.put
      cases hdo:o.dst with
      | none=>rfl
      | some d0=>
       have :d0≠t:=by rintro rfl;exact ht hdo
       simp only [Array.getElem?_setIfInBounds_ne this]) (λ_ _=>rfl) (λx hx=>by
      rw [e1];refine ⟨(hH x hx).2.2.apart.1,λv cs hE hne=>?_⟩;obtain ⟨v0,jQ,q1,q2,q3⟩:=hsub v cs hE hne;rw [q3];exact (hH x hx).2.2.apart.2 v0 jQ q1 q2)) QI hnd
     (oD i o S' ho (λt ht hs=>hs.imp (λq=>hnone t ht q) (λq=>by
      have JQ:=hF.1;have Jh:=mM.1;have hput:(a.put o.dst v).tmps.size=a.tmps.size:=by unfold Act.put;split<;>simp
      rw [List.getElem?_eq_none_iff] at q ⊢;omega))) (by omega) C6 (by rw [put_defers];exact hd) hp (by rw [e1];exact zz w hR) mM
    refine yw (S1:=λw=>jY o.op=true->Rel w0 mu S.bx S.E ρ w) (B:=if jY o.op=true then jZ all listed i all.size [] else []) ho (Region.noSelect_spec hsel) (λc a w hq=>(wE _ _ _ hq).elim) (by simp [cR,ho,mO]) (λw hw _=>hw) ?_ n' lc a w ?_ ?_ ?_ Vd hy (λ_=>hR) ?_
    ·intro j hj;by_cases zA:jY o.op=true
     ·rw [if_pos zA] at hj ⊢;exact (hB j hj).2
     ·rw [if_neg zA] at hj;cases hj
    ·intro j oj LP hji hun hno;exact Region.free_spec ho yx j oj LP hji (by
      cases hq:listed.getD j true with
      | false=>rfl
      | true=>rw [iz,hq] at hun;simp at hun) hno
    ·by_cases zA:jY o.op=true
     ·right;intro j hj Nu QL hji;rw [if_pos zA];have hmem:j∈tail:=by
       cases hc:tail.contains j with
       | true=>simpa using hc
       | false=>
        rw [hc] at Nu QL
        cases Vf:cR all j<;>simp [Vf] at Nu QL
      rcases Ge with hq|hq
      ·simp [zq,ho,zA] at hq
      ·have:=List.all_eq_true.1 hq j hmem;have PY:listed.getD j true=false:=by
        cases hx:listed.getD j true with
        | false=>rfl
        | true=>rw [iz,hx] at hj;simp at hj
       rw [PY] at this;simpa using this
     ·left;intro w hw;exact absurd hw zA
    ·intro j hj;by_cases zA:jY o.op=true
     ·rw [if_pos zA] at hj;exact Ve j hj
     ·rw [if_neg zA] at hj;cases hj
    ·refine kN (λw' hw'=>?_) n' _ _ _ kO;rw [e1] at hw';exact hw'.CR hle
   ·rename_i hfind;have LU:∀ x∈H,x.1∈(r::rs).filter (gj (jo P) all):=λx hx=>List.mem_filter.2 ⟨by rw [← hr];exact (hH x hx).1,(hH x hx).2.1⟩;split at h
    ·-- what is left changes no memory, or lies behind what does: every order
     rename_i hall;have Nx:H=[]:=by
      cases H with
      | nil=>rfl
      | cons x H=>
       exfalso;have h1:=(hH x (by simp)).1;have h2:=QI x (by simp);have h3:=(hH x (by simp)).2.1;have hl:=bK h1;have hlt:x.1<all.size:=by
        rcases Nat.lt_or_ge x.1 all.size with q|q
        ·exact q
        ·obtain ⟨d,T,type,pos,after,e1,_⟩:=iG h3;rw [Array.getElem?_eq_none_iff.2 q] at e1;cases e1
       have h4:=List.all_eq_true.1 hall x.1 (List.mem_range.2 hlt);obtain ⟨d,T,type,pos,after,e1,_⟩:=iG h3;have h5:cR all x.1=false:=by simp [cR,e1,lF]
       rw [hl,h2,h5] at h4
       cases h4
     subst Nx;have Nz:=lB rfl;subst Nz;simp only [List.length_nil,Nat.add_zero] at hm;subst hm;have hno:∀ x∈([]:List (Nat×Nat)),x.1≠(0:Nat)->False:=by simp
     have ya:∀ (i:Nat) (oi:Oper) (S':St) (ρ':Env) (a':Act) (w':World),all[i]? =some oi->lc.getD i true=false->gN P ak all (ko (jo P) all tail m (lc.setIfInBounds i true)) S' K->(a'.defers=mu.ds/\mL w0 mu)->dr<+:ρ'->Rel w0 mu S'.bx S'.E ρ' w'->cV ρ' S'.fr a'.tmps->
       (∀ t:Nat,oi.dst≠some t->S.fr[t]? =some none\/S.fr[t]? =none->S'.fr[t]? =some none\/S'.fr[t]? =none)->
       zy P all Q (λj=> !tail.contains j&& !cR all j) (λj=> !tail.contains j&&cR all j) (λw=>Rel w0 mu S'.bx S'.E ρ' w) m (lc.setIfInBounds i true) a' w':=by
      intro i oi S' ρ' a' w' Gd rF mi tD qZ iT mM Gf;obtain ⟨n',hn',C6⟩:=sJ i rF;have :n'=m:=by omega
      subst this;exact ku dP pN hsel hQ wE n' n' (lc.setIfInBounds i true) (lc.setIfInBounds i true) [] S' ρ' a' w' mi (hsz _ _ hls) (hsz _ _ hls) (λk=>by simp) (by simp) (by simp) (by simp) (oD i oi S' Gd Gf) (by simp) C6 tD qZ iT mM
     refine ⟨λe=>(by rw [hr] at e;cases e),λi hi=>?_⟩;rw [hr] at hi;obtain ⟨o,ho,h1⟩:=nD h i hi;have hT:∀ j,lc.getD j true=false->(!tail.contains j&& !cR all j)=false:=by
      intro j hj;by_cases Vg:j<all.size
      ·have:=List.all_eq_true.1 hall j (List.mem_range.2 Vg);rw [hj] at this;simp only [Bool.false_or,Bool.or_eq_true] at this;rcases this with q|q
       ·rw [q];rfl
       ·rw [q];simp
      ·exfalso;have :¬ j<lc.size:=by omega
       simp [Array.getElem?_eq_none (Nat.le_of_not_lt this)] at hj
     have yz:i∈Region.ready .any all lc:=by rw [hr];exact hi
     have P4:=hT i (bK yz);by_cases NA:(!tail.contains i&&cR all i)=true
     ·-- a quiet one
      have mO:lF o.op=true:=by simp only [Bool.and_eq_true,cR,ho,Option.map_some,Option.getD_some] at NA;exact NA.2
      refine mg mO hR hF h1 (λv S' e1 hle zz hsub mM hnone hy mi=>?_);refine YieldsIf.wC ho hy (λ_=>hR) ⟨λ_=>hR,λ_=>rfl,?_⟩;have kO:=ya i o S' ρ (a.put o.dst v) w ho (bK yz) mi (by rw [put_defers];exact hd) hp (by rw [e1];exact zz w hR) mM (λt ht hs=>hs.imp (λq=>hnone t ht q) (λq=>by
       have JQ:=hF.1;have Jh:=mM.1;have hput:(a.put o.dst v).tmps.size=a.tmps.size:=by unfold Act.put;split<;>simp
       rw [List.getElem?_eq_none_iff] at q ⊢;omega))
      exact qf m _ _ _ (λj hj=>hT j (getD_set_true hj)) kO
     ·rw [AB] at h1;have hst:=mW (P:=P) (all:=all) (Q:=Q) dP (o:=o) (K:=λS'=>sH S S' o.dst/\gN P ak all (ko (jo P) all tail m (lc.setIfInBounds i true)) S' K) (w0:=w0) (mu:=mu) (dr:=ρ) (a:=a) (w:=w) (ro:=none) ⟨pN.1,pN.2.mono hp⟩ ⟨hd,S,ρ,List.prefix_refl _,hR,hF,h1⟩;have lG:∀ a' w',gz w0 mu ρ (λS'=>sH S S' o.dst/\gN P ak all (ko (jo P) all tail m (lc.setIfInBounds i true)) S' K) a' w'->
        ((!tail.contains i&& !cR all i)=true->Rel w0 mu S.bx S.E ρ w')/\((!tail.contains i&&cR all i)=true->w'=w)/\
        zy P all Q (λj=> !tail.contains j&& !cR all j) (λj=> !tail.contains j&&cR all j) (λw=>Rel w0 mu S.bx S.E ρ w) m (lc.setIfInBounds i true) a' w':=by
       intro a' w' hl;obtain ⟨tD,S',ρ',qZ,iT,mM,hfo,Ga⟩:=hl;refine ⟨λe=>(by rw [P4] at e;cases e),λe=>absurd e NA,?_⟩;exact qf (S:=λw=>Rel w0 mu S'.bx S'.E ρ' w) m _ a' w' (λj hj=>hT j (getD_set_true hj)) (ya i o S' ρ' a' w' ho (bK yz) Ga tD (hp.trans qZ) iT mM hfo)
      unfold wpOpIn;rw [ho];dsimp only;split
      ·rename_i hw;rw [if_pos hw] at hst;exact Oper.wpIn_mono lG hst
      ·rename_i hw;rw [if_neg hw] at hst;exact ⟨λ_ _=>trivial,lG _ _ hst⟩
    split at h
    ·-- no variable waits to be made
     rename_i Gg;have Nx:H=[]:=by
      cases H with
      | nil=>rfl
      | cons x H=>have:=LU x (by simp);rw [Gg] at this;cases this
     subst Nx;have Nz:=lB rfl;subst Nz;simp only [List.length_nil,Nat.add_zero] at hm;subst hm;have hno:∀ x∈([]:List (Nat×Nat)),x.1≠(0:Nat)->False:=by simp
     have ya:∀ (i:Nat) (oi:Oper) (S':St) (ρ':Env) (a':Act) (w':World),all[i]? =some oi->lc.getD i true=false->gN P ak all (ko (jo P) all tail m (lc.setIfInBounds i true)) S' K->(a'.defers=mu.ds/\mL w0 mu)->dr<+:ρ'->Rel w0 mu S'.bx S'.E ρ' w'->cV ρ' S'.fr a'.tmps->
       (∀ t:Nat,oi.dst≠some t->S.fr[t]? =some none\/S.fr[t]? =none->S'.fr[t]? =some none\/S'.fr[t]? =none)->
       zy P all Q (λj=> !tail.contains j&& !cR all j) (λj=> !tail.contains j&&cR all j) (λw=>Rel w0 mu S'.bx S'.E ρ' w) m (lc.setIfInBounds i true) a' w':=by
      intro i oi S' ρ' a' w' Gd rF mi tD qZ iT mM Gf;obtain ⟨n',hn',C6⟩:=sJ i rF;have :n'=m:=by omega
      subst this;exact ku dP pN hsel hQ wE n' n' (lc.setIfInBounds i true) (lc.setIfInBounds i true) [] S' ρ' a' w' mi (hsz _ _ hls) (hsz _ _ hls) (λk=>by simp) (by simp) (by simp) (by simp) (oD i oi S' Gd Gf) (by simp) C6 tD qZ iT mM
     split at h;case h_2=>exact h.elim
     split at h
     ·exact h.elim
     rename_i htd;simp only [gN] at h;split at h;case h_2=>exact h.elim
     rename_i o ho;refine ⟨λe=>(by rw [hr] at e;cases e),λi hi=>?_⟩;have yz:=hi;rw [hr] at hi;simp only [List.mem_singleton] at hi;subst hi;have Gh:(!tail.contains i&&cR all i)=false:=by simp only [Bool.or_eq_true,not_or,Bool.not_eq_true] at htd;simp [htd.2]
     rw [tO] at h;have hst:=ow (P:=P) (all:=all) (Q:=Q) dP (o:=o) (K:=λS'=>sH S S' o.dst/\gN P ak all (ko (jo P) all tail m (lc.setIfInBounds i true)) S' K) (w0:=w0) (mu:=mu) (dr:=ρ) (a:=a) (w:=w) (ro:=none) ⟨pN.1,pN.2.mono hp⟩ hd (List.prefix_refl _) hR hF h;have lG:∀ a' w',gz w0 mu ρ (λS'=>(S.bx<+:S'.bx/\Mem.le S.E S'.E)/\sH S S' o.dst/\gN P ak all (ko (jo P) all tail m (lc.setIfInBounds i true)) S' K) a' w'->
       ((!tail.contains i&& !cR all i)=true->Rel w0 mu S.bx S.E ρ w')/\((!tail.contains i&&cR all i)=true->w'=w)/\
       zy P all Q (λj=> !tail.contains j&& !cR all j) (λj=> !tail.contains j&&cR all j) (λw=>Rel w0 mu S.bx S.E ρ w) m (lc.setIfInBounds i true) a' w':=by
      intro a' w' hl;obtain ⟨tD,S',ρ',qZ,iT,mM,⟨hb,hE⟩,hfo,Ga⟩:=hl;exact ⟨λ_=>hR.wD qZ hb hE iT,λe=>(by rw [Gh] at e;cases e),kN (λw2 Gi=>hR.wD qZ hb hE Gi) m _ a' w' (ya i o S' ρ' a' w' ho (bK yz) Ga tD (hp.trans qZ) iT mM hfo)⟩
     unfold wpOpIn;rw [ho];dsimp only;split
     ·rename_i hw;rw [if_pos hw] at hst;exact Oper.wpIn_mono lG hst
     ·rename_i hw;rw [if_neg hw] at hst;exact ⟨λ_ _=>trivial,lG _ _ hst⟩
    ·rename_i x xs Gg;have yA:∀ y∈x::xs,y∈Region.ready .any all listed/\gj (jo P) all y=true:=λy hy=>by
      rw [← Gg] at hy;have:=List.mem_filter.1 hy;exact ⟨by rw [hr];exact this.1,this.2⟩
     have Vh:∀ z∈H,z.1∈x::xs:=λz hz=>by rw [← Gg];exact LU z hz
     split at h
     ·-- variables alone are ready
      split at h;case isFalse=>exact h.elim
      rename_i lD;simp only [gN] at h;split at h;case h_2=>exact h.elim
      rename_i o ho;simp only [List.all_eq_true,Bool.and_eq_true,Bool.not_eq_true',beq_iff_eq] at lD;have Vi:=(yA x (by simp)).1;by_cases Vj:∃ z∈H,z.1=x
      ·-- it has been made already
       obtain ⟨⟨x',g⟩,hz,rfl⟩:=Vj;obtain ⟨h1,h2,h3⟩:=hH _ hz;obtain ⟨d,T,type,pos,after,ii,zv,e1,e2,e3,e4,e5,e6⟩:=h3.op;simp only at e1 e5 e6 h1 h2 Vi ho h Gg lD yA Vh;rw [ho] at e1;simp only [Option.some.injEq] at e1;subst e1;simp only [kg,e2,e3,if_pos e4] at h;have iT:=hR.zm ⟨T,.ae (cG (.raw zv)),(cG (.raw zv)).length,true⟩ (some ⟨g,0,none⟩) (λρ' _=>by
        have hv:=iZ (ρ:=ρ') e4 (v:=zv) rfl;refine ⟨rfl,zv.cells.toList,hv,?_⟩;simp only [if_true];refine ⟨trivial,[],?_,by simpa using bN hv⟩;simpa using e5) (λad ha=>by
        cases ha;exact ⟨.inl h3.new,h3.apart.1,h3.apart.2⟩)
       have Nk:ρ<+:ρ++[some ⟨g,0,none⟩]:=List.prefix_append _ _;refine kN (S:=λw2=>Rel w0 mu (S.bx++[⟨T,.ae (cG (.raw zv)),(cG (.raw zv)).length,true⟩]) S.E (ρ++[some ⟨g,0,none⟩]) w2) (λw2 Gi=>hR.wD Nk (List.prefix_append _ _) (Mem.le_refl _) Gi) n lc a w ?_;have hinj:∀ y∈H,y.1=x'->y=(x',g):=λy hy e=>nF (f:=λz:Nat×Nat=>z.1) hnd.1 hy hz e;have QM:∀ y∈H,y.2=g->y=(x',g):=λy hy e=>nF (f:=λz:Nat×Nat=>z.2) hnd.2 hy hz e;refine ku dP pN hsel hQ wE m n (listed.setIfInBounds x' true) lc (H.filter λy=>y.1 !=x') _ (ρ++[some ⟨g,0,none⟩]) a w h (hsz _ _ hls) hlc ?_ ?_ (λy hy=>QI y (List.mem_filter.1 hy).1) ?_ (oD x' _ _ ho (qh S _ (some d) _ (λ_ q=>q))) ?_ hU hd (hp.trans Nk) (by rw [St.nC,St.mV];exact iT) ?_
       ·intro k;rw [j6,iz];by_cases hk:x'=k
        ·subst hk;have :(H.map (·.1)).contains x'=true:=by simp only [List.contains_eq_mem,decide_eq_true_eq];exact List.mem_map.2 ⟨_,hz,rfl⟩
         rw [this];simp
        ·have :(H.map (·.1)).contains k=((H.filter λy=>y.1 !=x').map (·.1)).contains k:=by
          rw [Bool.eq_iff_iff];simp only [List.contains_eq_mem,decide_eq_true_eq,List.mem_map,List.mem_filter,bne_iff_ne];constructor
          ·rintro ⟨y,hy,rfl⟩;exact ⟨y,⟨hy,Ne.symm hk⟩,rfl⟩
          ·rintro ⟨y,⟨hy,_⟩,rfl⟩;exact ⟨y,hy,rfl⟩
         rw [this];simp [hk]
       ·intro y hy;have hy':=List.mem_filter.1 hy;have hne:y.1≠x':=by simpa using hy'.2
        obtain ⟨q1,q2,q3⟩:=hH y hy'.1;refine ⟨ready_mono q1 hne,q2,⟨q3.op,q3.new,?_,?_⟩⟩
        ·intro j b' ad g1 g2 g3;rw [St.nC] at g1;rcases cO g1 with ⟨gi,g1⟩|⟨rfl,rfl⟩
         ·rcases cO g3 with ⟨_,g3⟩|⟨q,_⟩
          ·exact q3.apart.1 j b' ad g1 g2 g3
          ·have:=hR.len;omega
         ·rcases cO g3 with ⟨q,_⟩|⟨_,q⟩
          ·have:=hR.len;omega
          ·cases q;intro e;exact hne (by rw [QM y hy'.1 e.symm])
        ·rw [St.mV];exact q3.apart.2
       ·exact ⟨hnd.1.sublist (List.filter_sublist.map _),hnd.2.sublist (List.filter_sublist.map _)⟩
       ·have:=nR hnd.1 hz;simp only at this;omega
       ·have JQ:=hF.1;have ju:SV.den (ρ++[some ⟨g,0,none⟩]) (.loc S.bx.length 0)=some (.pointer (some ⟨g,0,none⟩)):=by
         simp only [SV.den,gS,← hR.len,List.getElem?_append_right (Nat.le_refl _),Nat.sub_self,List.getElem?_cons_zero];rfl
        rcases e6 with e6|e6
        ·exact cV.QH (hF.mono Nk) d ju e6
        ·have :S.fr.length<=d:=by rw [JQ];exact Array.getElem?_eq_none_iff.1 e6
         show cV _ (S.fr.set d _) a.tmps;rw [List.set_eq_of_length_le this];exact hF.mono Nk
      ·-- one of them is made now
       have hxu:lc.getD x true=false:=by rw [iz,bK Vi];simp only [Bool.false_or,List.contains_eq_mem,decide_eq_false_iff_not];intro hm;obtain ⟨z,hz,e⟩:=List.mem_map.1 hm;exact Vj ⟨z,hz,e⟩
       obtain ⟨n',rfl,C6⟩:=sJ x hxu;refine ⟨λe=>?_,λi hi=>?_⟩
       ·have:=mh (by rw [hls,hlc]) (λk hk=>by rw [iz,hk];rfl) Vi hxu;rw [e] at this;cases this
       have rF:=bK hi;have El:i∈x::xs:=by
        by_cases El:i∈x::xs
        ·exact El
        ·have:=(lD x (by simp)).2 i (mh (by rw [oC,hls,hlc]) (λk hk=>?_) hi ?_)
         ·rw [this];simp
         ·rw [j0];rw [iz] at hk;simp only [Bool.or_eq_true] at hk ⊢;rcases hk with q|q
          ·exact .inl q
          ·right;simp only [List.contains_eq_mem,decide_eq_true_eq] at q ⊢;obtain ⟨z,hz,rfl⟩:=List.mem_map.1 q;refine List.mem_filter.2 ⟨Vh z hz,?_⟩;simp only [bne_iff_ne];intro e;exact Vj ⟨z,hz,e⟩
         ·rw [j0];rw [iz] at rF;simp only [Bool.or_eq_false_iff] at rF ⊢;refine ⟨rF.1,?_⟩;simp only [List.contains_eq_mem,decide_eq_false_iff_not];intro hm;exact El (List.mem_filter.1 hm).1
       have Ny:∀ z∈H,z.1≠i:=by
        rintro z hz rfl;rw [iz] at rF;have :(H.map (·.1)).contains z.1=true:=by simp only [List.contains_eq_mem,decide_eq_true_eq];exact List.mem_map.2 ⟨z,hz,rfl⟩
        rw [this] at rF;simp at rF
       obtain ⟨n2,Vk,Vl⟩:=sJ i rF;have :n2=n':=by omega
       subst this;exact QJ i (yA i El).1 (yA i El).2 (lD i El).1 Ny n2 rfl Vl
     ·-- one other operation is ready
      rename_i g hg;split at h;case isFalse=>exact h.elim
      rename_i lD;simp only [gN] at h;split at h;case h_2=>exact h.elim
      rename_i o ho;simp only [Bool.and_eq_true,Bool.not_eq_true',Bool.or_eq_false_iff,List.all_eq_true,beq_iff_eq] at lD;obtain ⟨⟨⟨hgt,hgd⟩,P5⟩,NB⟩:=lD;have LW:g∈(r::rs).filter (λi=> !gj (jo P) all i):=by rw [hg];simp
      have QE:g∈Region.ready .any all listed:=by rw [hr];exact (List.mem_filter.1 LW).1
      have QN:gj (jo P) all g=false:=by simpa using (List.mem_filter.1 LW).2
      have Vm:∀ z∈H,z.1≠g:=by rintro z hz rfl;rw [(hH z hz).2.1] at QN;cases QN
      have hgu:lc.getD g true=false:=by rw [iz,bK QE];simp only [Bool.false_or,List.contains_eq_mem,decide_eq_false_iff_not];intro hm;obtain ⟨z,hz,e⟩:=List.mem_map.1 hm;exact Vm z hz e
      obtain ⟨n',rfl,C6⟩:=sJ g hgu;refine ⟨λe=>?_,λi hi=>?_⟩
      ·have:=mh (by rw [hls,hlc]) (λk hk=>by rw [iz,hk];rfl) QE hgu;rw [e] at this;cases this
      -- what may come up
      have QO:i=g\/(i∈x::xs/\∀ z∈H,z.1≠i):=by
       have rF:=bK hi;by_cases El:i∈x::xs
       ·refine .inr ⟨El,?_⟩;rintro z hz rfl;rw [iz] at rF;have :(H.map (·.1)).contains z.1=true:=by
         simp only [List.contains_eq_mem,decide_eq_true_eq];exact List.mem_map.2 ⟨z,hz,rfl⟩
        rw [this] at rF;simp at rF
       ·left;refine NB i (mh (by rw [oC,hls,hlc]) (λk hk=>?_) hi ?_)
        ·rw [j0];rw [iz] at hk;simp only [Bool.or_eq_true] at hk ⊢;rcases hk with q|q
         ·exact .inl q
         ·right;simp only [List.contains_eq_mem,decide_eq_true_eq] at q ⊢;obtain ⟨z,hz,rfl⟩:=List.mem_map.1 q;exact Vh z hz
        ·rw [j0];rw [iz] at rF;simp only [Bool.or_eq_false_iff] at rF ⊢;refine ⟨rF.1,?_⟩;simp only [List.contains_eq_mem,decide_eq_false_iff_not];exact El
      rcases QO with rfl|⟨El,Ny⟩
      ·have Gh:(!tail.contains i&&cR all i)=false:=by rw [hgd];simp
       rw [tO] at h;have hst:=ow (P:=P) (all:=all) (Q:=Q) dP (o:=o) (K:=λS'=>sH S S' o.dst/\gN P ak all (ko (jo P) all tail m (listed.setIfInBounds i true)) S' K) (w0:=w) (mu:=⟨Jl S.bx ρ,S.E,Ω,mu.ds⟩) (dr:=ρ) (a:=a) (w:=w) (ro:=none) ⟨rfl,pN.2.mono hp⟩ ⟨hd.1,pN.1 ▸ mL.at (E:=S.E) (ds:=mu.ds) hd.2 hR.keep (λg hg=>by obtain ⟨j,b,ad,q1,q2,q3,rfl⟩:=BS hg;exact hR.jM j b ad q1 q3 q2)⟩ (List.prefix_refl _) hR.here hF h
       have lG:∀ a' w',(gz w ⟨Jl S.bx ρ,S.E,Ω,mu.ds⟩ ρ (λS'=>(S.bx<+:S'.bx/\Mem.le S.E S'.E)/\sH S S' o.dst/\gN P ak all (ko (jo P) all tail m (listed.setIfInBounds i true)) S' K) a' w'/\∀ t:Nat,o.dst≠some t->a'.tmps[t]? =a.tmps[t]?)->
         ((!tail.contains i&& !cR all i)=true->Rel w0 mu S.bx S.E ρ w')/\((!tail.contains i&&cR all i)=true->w'=w)/\
         zy P all Q (λj=> !tail.contains j&& !cR all j) (λj=> !tail.contains j&&cR all j) (λw=>Rel w0 mu S.bx S.E ρ w) n' (lc.setIfInBounds i true) a' w':=by
        rintro a' w' ⟨hl,Vb⟩;obtain ⟨tD,S',ρ',qZ,Bm,mM,⟨hb,hE⟩,hfo,Ga⟩:=hl;have iT:=hR.compose Bm;have NC:∀ z∈H,z.2 ∉ Jl S.bx ρ:=λz hz hm=>by obtain ⟨j,b,ad,q1,q2,q3,q4⟩:=BS hm;exact (hH z hz).2.2.apart.1 j b ad q1 q3 q2 q4
        refine ⟨λ_=>hR.wD qZ hb hE iT,λe=>(by rw [Gh] at e;cases e),kN (λw2 Gi=>hR.wD qZ hb hE Gi) n' _ a' w' ?_⟩;refine ku dP pN hsel hQ wE m n' (listed.setIfInBounds i true) (lc.setIfInBounds i true) H S' ρ' a' w' Ga (hsz _ _ hls) (hsz _ _ hlc) (AD i Vm) (Gc i o ho QE Vm S' ρ' a' w' Vb (λz hz=>Bm.keep.block _ (Gb z hz) (NC z hz)) (λz hz=>⟨λj b' ad q1 q2 q3=>?_,λv cs q1 q2=>?_⟩)) QI hnd (oD i o S' ho hfo) (by omega) C6 ⟨tD.1,hd.2⟩ (hp.trans qZ) iT mM
        ·rcases Bm.jM j b' ad q1 q2 q3 with q|q
         ·have:=Gb z hz;omega
         ·rintro e;rw [e] at q;exact NC z hz q
        ·rcases Bm.src v cs q1 q2 with ⟨bb,e1,e2⟩|⟨v0,jQ,e1,e2,e3⟩
         ·rw [e1];rintro e;simp only [Option.some.injEq] at e;rcases e2 with q|q
          ·have:=Gb z hz;omega
          ·rw [e] at q;exact NC z hz q
         ·rw [e3];exact (hH z hz).2.2.apart.2 v0 jQ e1 e2
       have hw0:wpOpIn Fence.wide 0 P all Q i (gz w ⟨Jl S.bx ρ,S.E,Ω,mu.ds⟩ ρ (λS'=>(S.bx<+:S'.bx/\Mem.le S.E S'.E)/\sH S S' o.dst/\gN P ak all (ko (jo P) all tail m (listed.setIfInBounds i true)) S' K)) a w:=by
        unfold wpOpIn;rw [ho];dsimp only;split
        ·rename_i hw;rw [if_pos hw] at hst;exact hst
        ·rename_i hw;rw [if_neg hw] at hst;exact ⟨λ_ _=>trivial,hst⟩
       exact wpOpIn_mono lG (Ej ho hw0)
      ·have rF:=bK hi;obtain ⟨n2,Vk,Vl⟩:=sJ i rF;have :n2=n':=by omega
       subst this;exact QJ i (yA i El).1 (yA i El).2 (P5 i El) Ny n2 rfl Vl
     ·exact h.elim
termination_by m+n
theorem yB (dP:ja Ω P ak) (pN:mu.om=Ω/\xJ Ω dr) (hsel:Region.noSelect all=true) (hQ:∀ a w,gz w0 mu dr K a w->Q .normal a w) (wE:∀ c a w,¬ Q (.panic c) a w)
  (n:Nat) (listed:Array Bool) (S:St) (ρ:Env) (a:Act) (w:World) (h:gN P ak all (nP (jo P) all tail n listed) S K) (hls:listed.size=all.size)
  (hfr:∀ r d,gj (jo P) all r=true->listed.getD r true=false->(all[r]?).bind (·.dst)=some d->S.fr[d]? =some none\/S.fr[d]? =none)
  (hU:∃ U:List Nat,(∀ k,listed.getD k true=false->k∈U)/\U.length<=n) (hd:a.defers=mu.ds/\mL w0 mu) (hp:dr<+:ρ) (hR:Rel w0 mu S.bx S.E ρ w) (hF:cV ρ S.fr a.tmps):
   zy P all Q (λj=> !tail.contains j&& !cR all j) (λj=> !tail.contains j&&cR all j) (λw=>Rel w0 mu S.bx S.E ρ w) n listed a w:=by
 have hsz:∀ (l:Array Bool) i,l.size=all.size->(l.setIfInBounds i true).size=all.size:=λl i hl=>by simpa using hl
 have sJ:∀ i,listed.getD i true=false->∃ n',n=n'+1/\∃ U:List Nat,(∀ k,(listed.setIfInBounds i true).getD k true=false->k∈U)/\U.length<=n':=by
  intro i hi;obtain ⟨U,h1,h2⟩:=hU;have LS:=h1 i hi;have hpos:0<U.length:=List.length_pos_of_mem LS;refine ⟨n-1,by omega,U.erase i,λk hk=>?_,?_⟩
  ·rw [j6] at hk;simp only [Bool.or_eq_false_iff,decide_eq_false_iff_not] at hk;exact (List.mem_erase_of_ne (Ne.symm hk.2)).2 (h1 k hk.1)
  ·rw [List.length_erase_of_mem LS];omega
 have oD:∀ (i:Nat) (oi:Oper) (S':St),all[i]? =some oi->(∀ t:Nat,oi.dst≠some t->S.fr[t]? =some none\/S.fr[t]? =none->S'.fr[t]? =some none\/S'.fr[t]? =none)->
   ∀ r d,gj (jo P) all r=true->(listed.setIfInBounds i true).getD r true=false->(all[r]?).bind (·.dst)=some d->S'.fr[d]? =some none\/S'.fr[d]? =none:=by
  intro i oi S' Gd hS r d hr hl wF;rw [j6] at hl;simp only [Bool.or_eq_false_iff,decide_eq_false_iff_not] at hl;obtain ⟨d',T',type',pos',after',f1,_,f3⟩:=iG hr;rw [f1] at wF;simp only [Option.bind_some,Option.some.injEq] at wF;subst wF;exact hS d' (f3 i oi Gd hl.2) (hfr r d' hr hl.1 (by rw [f1];rfl))
 cases n with
 | zero=>
  simp only [nP] at h;split at h
  ·rename_i hr;exact ⟨hr,hQ a w ⟨hd,S,ρ,hp,hR,hF,h⟩⟩
  ·exact h.elim
 | succ m=>
  have h0:=h;simp only [nP] at h;split at h
  ·rename_i hr;exact ⟨λ_=>hQ a w ⟨hd,S,ρ,hp,hR,hF,h⟩,λi hi=>by rw [hr] at hi;cases hi⟩
  ·rename_i r rs hr;have ya:∀ (i:Nat) (oi:Oper) (S':St) (ρ':Env) (a':Act) (w':World),all[i]? =some oi->listed.getD i true=false->gN P ak all (nP (jo P) all tail m (listed.setIfInBounds i true)) S' K->(a'.defers=mu.ds/\mL w0 mu)->dr<+:ρ'->Rel w0 mu S'.bx S'.E ρ' w'->cV ρ' S'.fr a'.tmps->
     (∀ t:Nat,oi.dst≠some t->S.fr[t]? =some none\/S.fr[t]? =none->S'.fr[t]? =some none\/S'.fr[t]? =none)->
     zy P all Q (λj=> !tail.contains j&& !cR all j) (λj=> !tail.contains j&&cR all j) (λw=>Rel w0 mu S'.bx S'.E ρ' w) m (listed.setIfInBounds i true) a' w':=by
    intro i oi S' ρ' a' w' Gd rF mi tD qZ iT mM Gf;obtain ⟨n',hn',C6⟩:=sJ i rF;have :n'=m:=by omega
    subst this;exact yB dP pN hsel hQ wE n' (listed.setIfInBounds i true) S' ρ' a' w' mi (hsz _ _ hls) (oD i oi S' Gd Gf) C6 tD qZ iT mM
   have Vn:∀ (o:Oper) (v:Value) (S':St),cV ρ S'.fr (a.put o.dst v).tmps->(∀ t:Nat,o.dst≠some t->S.fr[t]? =some none->S'.fr[t]? =some none)->
     (∀ t:Nat,o.dst≠some t->S.fr[t]? =some none\/S.fr[t]? =none->S'.fr[t]? =some none\/S'.fr[t]? =none):=λo v S' mM hnone t ht hs=>hs.imp (λq=>hnone t ht q) (λq=>by
    have JQ:=hF.1;have Jh:=mM.1;have hput:(a.put o.dst v).tmps.size=a.tmps.size:=by unfold Act.put;split<;>simp
    rw [List.getElem?_eq_none_iff] at q ⊢;omega)
   split at h
   ·-- a quiet operation is taken first
    rename_i i hfind;simp only [gN] at h;split at h;case h_2=>exact h.elim
    rename_i o ho;have P7:=List.find?_some hfind;simp only [ox,Bool.and_eq_true,Bool.not_eq_true',cR,ho,Option.map_some,Option.getD_some,Bool.or_eq_true] at P7;obtain ⟨⟨⟨mO,hnt⟩,yx⟩,Ge⟩:=P7;have yz:i∈Region.ready .any all listed:=by rw [hr];exact List.mem_of_find?_eq_some hfind
    have rF:=bK yz;have hB:=oA (ops:=all) (listed:=listed) (k:=i) all.size [] (by simp);have Ve:∀ j∈jZ all listed i all.size [],listed.getD j true=false:=λj hj=>(hB j hj).1;refine mg mO hR hF h (λv S' e1 hle zz hsub mM hnone hy mi=>?_);have kO:=ya i o S' ρ (a.put o.dst v) w ho rF mi (by rw [put_defers];exact hd) hp (by rw [e1];exact zz w hR) mM (Vn o v S' mM hnone);refine yw (S1:=λw=>jY o.op=true->Rel w0 mu S.bx S.E ρ w) (B:=if jY o.op=true then jZ all listed i all.size [] else []) ho (Region.noSelect_spec hsel) (λc a w hq=>(wE _ _ _ hq).elim) (by simp [cR,ho,mO]) (λw hw _=>hw) ?_ m listed a w ?_ ?_ ?_ yz hy (λ_=>hR) ?_
    ·intro j hj;by_cases zA:jY o.op=true
     ·rw [if_pos zA] at hj ⊢;exact (hB j hj).2
     ·rw [if_neg zA] at hj;cases hj
    ·intro j oj LP hji hun hno;exact Region.free_spec ho yx j oj LP hji hun hno
    ·by_cases zA:jY o.op=true
     ·right;intro j hj Nu QL hji;rw [if_pos zA];have hmem:j∈tail:=by
       cases hc:tail.contains j with
       | true=>simpa using hc
       | false=>
        rw [hc] at Nu QL
        cases Vf:cR all j<;>simp [Vf] at Nu QL
      rcases Ge with hq|hq
      ·simp [zq,ho,zA] at hq
      ·have:=List.all_eq_true.1 hq j hmem;rw [hj] at this;simpa using this
     ·left;intro w hw;exact absurd hw zA
    ·intro j hj;by_cases zA:jY o.op=true
     ·rw [if_pos zA] at hj;exact Ve j hj
     ·rw [if_neg zA] at hj;cases hj
    ·refine kN (λw' hw'=>?_) m _ _ _ kO;rw [e1] at hw';exact hw'.CR hle
   ·rename_i hfind;split at h
    ·-- what is left changes no memory, or lies behind what does: every order
     rename_i hall;refine ⟨λe=>(by rw [hr] at e;cases e),λi hi=>?_⟩;rw [hr] at hi;obtain ⟨o,ho,h1⟩:=nD h i hi;have hT:∀ j,listed.getD j true=false->(!tail.contains j&& !cR all j)=false:=by
      intro j hj;by_cases Vg:j<all.size
      ·have:=List.all_eq_true.1 hall j (List.mem_range.2 Vg);rw [hj] at this;simp only [Bool.false_or,Bool.or_eq_true] at this;rcases this with q|q
       ·rw [q];rfl
       ·rw [q];simp
      ·exfalso;have :¬ j<listed.size:=by omega
       simp [Array.getElem?_eq_none (Nat.le_of_not_lt this)] at hj
     have yz:i∈Region.ready .any all listed:=by rw [hr];exact hi
     have P4:=hT i (bK yz);by_cases NA:(!tail.contains i&&cR all i)=true
     ·-- a quiet one
      have mO:lF o.op=true:=by simp only [Bool.and_eq_true,cR,ho,Option.map_some,Option.getD_some] at NA;exact NA.2
      refine mg mO hR hF h1 (λv S' e1 hle zz hsub mM hnone hy mi=>?_);refine YieldsIf.wC ho hy (λ_=>hR) ⟨λ_=>hR,λ_=>rfl,?_⟩;have kO:=ya i o S' ρ (a.put o.dst v) w ho (bK yz) mi (by rw [put_defers];exact hd) hp (by rw [e1];exact zz w hR) mM (Vn o v S' mM hnone);exact qf m _ _ _ (λj hj=>hT j (getD_set_true hj)) kO
     ·rw [AB] at h1;have hst:=mW (P:=P) (all:=all) (Q:=Q) dP (o:=o) (K:=λS'=>sH S S' o.dst/\gN P ak all (nP (jo P) all tail m (listed.setIfInBounds i true)) S' K) (w0:=w0) (mu:=mu) (dr:=ρ) (a:=a) (w:=w) (ro:=none) ⟨pN.1,pN.2.mono hp⟩ ⟨hd,S,ρ,List.prefix_refl _,hR,hF,h1⟩;have lG:∀ a' w',gz w0 mu ρ (λS'=>sH S S' o.dst/\gN P ak all (nP (jo P) all tail m (listed.setIfInBounds i true)) S' K) a' w'->
        ((!tail.contains i&& !cR all i)=true->Rel w0 mu S.bx S.E ρ w')/\((!tail.contains i&&cR all i)=true->w'=w)/\
        zy P all Q (λj=> !tail.contains j&& !cR all j) (λj=> !tail.contains j&&cR all j) (λw=>Rel w0 mu S.bx S.E ρ w) m (listed.setIfInBounds i true) a' w':=by
       intro a' w' hl;obtain ⟨tD,S',ρ',qZ,iT,mM,hfo,Ga⟩:=hl;refine ⟨λe=>(by rw [P4] at e;cases e),λe=>absurd e NA,?_⟩;exact qf (S:=λw=>Rel w0 mu S'.bx S'.E ρ' w) m _ a' w' (λj hj=>hT j (getD_set_true hj)) (ya i o S' ρ' a' w' ho (bK yz) Ga tD (hp.trans qZ) iT mM hfo)
      unfold wpOpIn;rw [ho];dsimp only;split
      ·rename_i hw;rw [if_pos hw] at hst;exact Oper.wpIn_mono lG hst
      ·rename_i hw;rw [if_neg hw] at hst;exact ⟨λ_ _=>trivial,lG _ _ hst⟩
    split at h
    ·-- every order of what only adds
     rename_i lD;simp only [Bool.and_eq_true,List.all_eq_true,Bool.not_eq_true'] at lD;refine ⟨λe=>(by rw [hr] at e;cases e),λi hi=>?_⟩;have yz:=hi;rw [hr] at hi;have hnt:tail.contains i=false:=lD.1 i hi;obtain ⟨o,ho,h1,h2⟩:=lW h i hi
     cases hD:cR all i with
     | true=>
      have mO:lF o.op=true:=by simp only [cR,ho,Option.map_some,Option.getD_some] at hD;exact hD
      refine mg mO hR hF (h1 hD) (λv S' e1 hle zz hsub mM hnone hy mi=>?_);refine YieldsIf.wC ho hy (λ_=>hR) ⟨λ_=>hR,λ_=>rfl,?_⟩;have kO:=ya i o S' ρ (a.put o.dst v) w ho (bK yz) mi (by rw [put_defers];exact hd) hp (by rw [e1];exact zz w hR) mM (Vn o v S' mM hnone);refine kN (λw' hw'=>?_) m _ _ _ kO;rw [e1] at hw';exact hw'.CR hle
     | false=>
      have h2:=h2 hD;have Gh:(!tail.contains i&&cR all i)=false:=by rw [hD];simp
      rw [tO] at h2;have hst:=ow (P:=P) (all:=all) (Q:=Q) dP (o:=o) (K:=λS'=>sH S S' o.dst/\gN P ak all (nP (jo P) all tail m (listed.setIfInBounds i true)) S' K) (w0:=w0) (mu:=mu) (dr:=ρ) (a:=a) (w:=w) (ro:=none) ⟨pN.1,pN.2.mono hp⟩ hd (List.prefix_refl _) hR hF h2;have lG:∀ a' w',gz w0 mu ρ (λS'=>(S.bx<+:S'.bx/\Mem.le S.E S'.E)/\sH S S' o.dst/\gN P ak all (nP (jo P) all tail m (listed.setIfInBounds i true)) S' K) a' w'->
        ((!tail.contains i&& !cR all i)=true->Rel w0 mu S.bx S.E ρ w')/\((!tail.contains i&&cR all i)=true->w'=w)/\
        zy P all Q (λj=> !tail.contains j&& !cR all j) (λj=> !tail.contains j&&cR all j) (λw=>Rel w0 mu S.bx S.E ρ w) m (listed.setIfInBounds i true) a' w':=by
       intro a' w' hl;obtain ⟨tD,S',ρ',qZ,iT,mM,⟨hb,hE⟩,hfo,Ga⟩:=hl;exact ⟨λ_=>hR.wD qZ hb hE iT,λe=>(by rw [Gh] at e;cases e),kN (λw2 Gi=>hR.wD qZ hb hE Gi) m _ a' w' (ya i o S' ρ' a' w' ho (bK yz) Ga tD (hp.trans qZ) iT mM hfo)⟩
      unfold wpOpIn;rw [ho];dsimp only;split
      ·rename_i hw;rw [if_pos hw] at hst;exact Oper.wpIn_mono lG hst
      ·rename_i hw;rw [if_neg hw] at hst;exact ⟨λ_ _=>trivial,lG _ _ hst⟩
    ·exact ku dP pN hsel hQ wE (m+1) (m+1) listed listed [] S ρ a w h hls hls (λk=>by simp) (by simp) (by simp) (by simp) hfr (by simp) hU hd hp hR hF
theorem oF (ds:List Nat):∀ (k:Nat) (l:List (Option SV)) (i:Nat) (s:SV),(iU ds k l)[i]? =some (some s)->l[i]? =some (some s)/\(k+i) ∉ ds
 | _,[],i,s,h=>by simp [iU] at h
 | k,o::l,0,s,h=>by
  simp only [iU,List.getElem?_cons_zero,Option.some.injEq] at h ⊢;split at h
  ·cases h
  ·rename_i hc;exact ⟨h,by simpa using hc⟩
 | k,o::l,i+1,s,h=>by
  simp only [iU,List.getElem?_cons_succ] at h ⊢;have:=oF ds (k+1) l i s h
  rwa [show k+1+i=k+(i+1) by omega] at this
theorem qi (ds:List Nat):∀ (k:Nat) (l:List (Option SV)),(iU ds k l).length=l.length
 | _,[]=>rfl
 | k,_::l=>by simp [iU,qi ds (k+1) l]
theorem wC {Q:Exit->Act->World->Prop} (hnd:∀ (o:Oper),ops[i]? =some o->∀ c,o.op≠.defer c) {K K':Act->World->Prop} (hK:∀ a w,K a w->K' a w)
  (h:wpOpIn Fence.wide 0 P ops Q i K a w):wpOpIn (fW ro) 0 P ops Q i K' a w:=by
 unfold wpOpIn at *;split
 ·rename_i ho;rw [ho] at h;exact hK _ _ h
 ·rename_i o ho;rw [ho] at h;simp only at h;split
  ·rename_i hw;rw [if_pos hw] at h;have h:=Oper.wpIn_mono hK h;unfold Oper.wpIn at *;refine ⟨λ_ _=>trivial,?_⟩;have h2:=h.2;rw [Oper.semAt_eq _ _ _ (hnd o ho)] at h2 ⊢;exact h2
  ·rename_i hw;rw [if_neg hw] at h;exact ⟨λ_ _=>trivial,hK _ _ h.2⟩
theorem Gj {ro:Option Nat} {ops:Array Oper} {Q:Exit->Act->World->Prop} (hnd:∀ (i:Nat) (o:Oper),ops[i]? =some o->∀ c,o.op≠.defer c):∀ (n:Nat) (listed:Array Bool) (a:Act) (w:World),wpAnyIn Fence.wide 0 P .any ops Q n listed a w->wpAnyIn (fW ro) 0 P .any ops Q n listed a w
 | 0,_,_,_,h=>h
 | n+1,_,_,_,h=>⟨h.1,λi hi=>wC (hnd i) (λa w x=>Gj hnd n _ a w x) (h.2 i hi)⟩
theorem zB (h:oy ops=true) (i:Nat) (o:Oper) (ho:ops[i]? =some o) (c:Call):o.op≠.defer c:=by intro e;have h1:=List.all_eq_true.1 h o (List.mem_of_getElem? (by rw [Array.getElem?_toList];exact ho));rw [e] at h1;cases h1
theorem AE (dP:ja Ω P ak) (pN:mu.om=Ω/\xJ Ω dr) (hm:P.follows .mixedOrders=true) (hsel:Region.noSelect all=true) (hnd:ro≠none->oy all=true) {id:Nat} (hQ:∀ a w,gz w0 mu dr K a w->Q .normal a w)
  (h:gz w0 mu dr (λS=>CY P ak all tail all.size (Array.replicate all.size false) S K) a w):(Code.region id all true).wpIn (fW ro) 0 P Q a w:=by
 obtain ⟨hd,S,ρ,hp,hR,hF,h⟩:=h;have mM:cV ρ (S.forget (jH P all)).fr a.tmps:=⟨by rw [← hF.1];exact qi _ _ _,λi s hs=>hF.2 i s (oF _ 0 _ i s hs).1⟩;have hfr:∀ r d,gj (jo P) all r=true->(Array.replicate all.size false).getD r true=false->(all[r]?).bind (·.dst)=some d->(S.forget (jH P all)).fr[d]? =some none\/(S.forget (jH P all)).fr[d]? =none:=by
  intro r d hr _ wF;have LX:r<all.size:=by
   rcases Nat.lt_or_ge r all.size with q|q
   ·exact q
   ·rw [Array.getElem?_eq_none q] at wF;cases wF
  have hmem:d∈jH P all:=List.mem_filterMap.2 ⟨r,List.mem_range.2 LX,by rw [if_pos hr];exact wF⟩
  cases hx:(S.forget (jH P all)).fr[d]? with
  | none=>exact .inr rfl
  | some o=>
   cases o with
   | none=>exact .inl rfl
   | some s=>
    have:=(oF _ 0 _ d s hx).2;rw [Nat.zero_add] at this;exact absurd hmem this
 have h1:(Code.region id all true).wpIn (fW ro) 0 P (λe a w=>match e with | .normal=>gz w0 mu dr K a w|_=>False) a w:=by
  refine wpIn_region_any hm ?_;have h2:wpAnyIn Fence.wide 0 P .any all (λe a w=>match e with | .normal=>gz w0 mu dr K a w|_=>False) all.size (Array.replicate all.size false) a { w with drawn:=w.drawn+1 }:=C4 _ _ _ _ (yB dP pN hsel (λa w x=>x) (λc a w x=>x) all.size (Array.replicate all.size false) (S.forget (jH P all)) ρ a _ h (by simp) hfr ⟨List.range all.size,λk hk=>by
   rcases Nat.lt_or_ge k all.size with q|q
   ·exact List.mem_range.2 q
   ·simp [Nat.not_lt.2 q] at hk,by simp⟩ hd hp (hR.drew _) mM)
  cases ro with
  | none=>exact h2
  | some l=>exact Gj (zB (hnd (λe=>by cases e))) _ _ _ _ h2
 exact Code.wpIn_mono (λe a w x=>by cases e<;>first|exact hQ a w x|exact x.elim) h1
end
end Go.Sx
namespace Go.Sx
open Go.RowKit (Below)
variable {dr:Env} {w0 w:World} {a:Act} {mu:Fm} {N:Act->World->Prop} {M:St->Prop} {R:Exit->Act->World->Prop} {body:Code} {n0:Nat} {S:St} {Ω:Option Rc} {b:aR} {inl:Op->Bool} {un:Bn}
section
variable {P:Program} {ak:cK}
theorem yo.base {w1:World} {pL:Fm} (hb:vp w0 mu w1 pL) (ho:mL w0 mu) (h:yo w1 pL dr a w):yo w0 mu dr a w:=
 let ⟨c,h1,_,w2,P2,h2,h3⟩:=h;⟨c,hb.om ▸ h1,ho,w2,P2,hb.trans h2,h3⟩
theorem rG {w1:World} {pL:Fm} {Q:Ex->St->Prop} (hb:vp w0 mu w1 pL) (ho:mL w0 mu):∀ (e:Exit) (a:Act) (w:World),lE w1 pL dr Q e a w->lE w0 mu dr Q e a w
 | .normal,_,_,x=>jb.base hb x
 | .exit _,_,_,x=>jb.base hb x
 | .ret,_,_,x=>x.imp (jb.base hb) (yo.base hb ho)
 | .panic _,_,_,x=>x
 | .goto _,_,_,x=>x
 | .outgrown,_,_,x=>x
theorem Gk {Q:Ex->St->Prop} (hN:∀ a w,jb w0 mu dr M a w->N a w):
  ∀ (e:Exit) (a:Act) (w:World),lE w0 mu dr (λe S'=>match e with | .normal=>M S'| .exit id=>Q (.exit id) S'| .ret=>Q .ret S') e a w->Exit.then N (lE w0 mu dr Q) e a w
 | .normal,a,w,x=>hN a w x
 | .exit _,_,_,x=>x
 | .ret,_,_,x=>x
 | .panic _,_,_,x=>x
 | .goto _,_,_,x=>x
 | .outgrown,_,_,x=>x
theorem yC {N':Act->World->Prop} (h:∀ a w,N a w->N' a w):∀ (e:Exit) (a:Act) (w:World),Exit.then N R e a w->Exit.then N' R e a w
 | .normal,a,w,x=>h a w x
 | .exit _,_,_,x=>x
 | .ret,_,_,x=>x
 | .panic _,_,_,x=>x
 | .goto _,_,_,x=>x
 | .outgrown,_,_,x=>x
theorem BT {R':Exit->Act->World->Prop} (h:∀ e a w,R e a w->R' e a w):∀ (e:Exit) (a:Act) (w:World),Exit.then N R e a w->Exit.then N R' e a w
 | .normal,_,_,x=>x
 | .exit _,_,_,x=>h _ _ _ x
 | .ret,_,_,x=>h _ _ _ x
 | .panic _,_,_,x=>h _ _ _ x
 | .goto _,_,_,x=>h _ _ _ x
 | .outgrown,_,_,x=>h _ _ _ x
theorem fA.fold (h:body.wpIn Fence.wide 0 P (Exit.then (fA P body R) R) a w):fA P body R a w:=
 λI hI=>hI a w (Code.wpIn_mono (yC λ_ _ x=>x I hI) h)
theorem fA.unfold (h:fA P body R a w):body.wpIn Fence.wide 0 P (Exit.then (fA P body R) R) a w:=
 h (λa w=>body.wpIn Fence.wide 0 P (Exit.then (fA P body R) R) a w) λ_ _ x=>Code.wpIn_mono (yC λ_ _ y=>fA.fold y) x
theorem fA.mono {R':Exit->Act->World->Prop} (hR:∀ e a w,R e a w->R' e a w) (h:fA P body R a w):fA P body R' a w:=
 λI hI=>h I λa w x=>hI a w (Code.wpIn_mono (BT hR) x)
theorem rj {I:Act->World->Prop}
  (hI:∀ a w,I a w->∀ (b:Frame) (k:List Item) (cs:List Frame),∃ e a' w',R e a' w'/\Arrives P (lone (b.at a (.inLoop body::k)) cs w) b k cs e a' w')
  (h:body.wp P (Exit.then I R) a w) (b:Frame) (k:List Item) (cs:List Frame):
  ∃ e a' w',R e a' w'/\Arrives P (lone (b.at a (.code body::.inLoop body::k)) cs w) b k cs e a' w':=by
 obtain ⟨e,a₁,w₁,hq,xV⟩:=h b (.inLoop body::k) cs
 cases e with
 | normal=>
  obtain ⟨e₂,a₂,w₂,QR,JR⟩:=hI _ _ hq b k cs;exact ⟨e₂,a₂,w₂,QR,.of_steps xV JR⟩
 | exit id=>exact ⟨_,a₁,w₁,hq,.pass (x:=.inLoop body) rfl (λ_ _=>.inl (by simp)) xV⟩
 | goto l=>exact ⟨_,a₁,w₁,hq,.pass (x:=.inLoop body) rfl (λ_ _=>.inl (by simp)) xV⟩
 | ret=>exact ⟨_,a₁,w₁,hq,.pass (x:=.inLoop body) rfl (λ_ _=>.inl (by simp)) xV⟩
 | panic ch=>exact ⟨_,a₁,w₁,hq,.pass (x:=.inLoop body) rfl (λ_ _=>.inl (by simp)) xV⟩
 | outgrown=>exact ⟨_,a₁,w₁,hq,.pass (x:=.inLoop body) rfl (λ_ _=>.inl (by simp)) xV⟩
theorem fA.wp (h:fA P body R a w):(Code.loop body).wpIn Fence.wide 0 P R a w:=by
 have key:∀ a w,fA P body R a w->∀ (b:Frame) (k:List Item) (cs:List Frame),∃ e a' w',R e a' w'/\Arrives P (lone (b.at a (.inLoop body::k)) cs w) b k cs e a' w':=by intro a w h;refine h (λa w=>∀ (b:Frame) (k:List Item) (cs:List Frame),∃ e a' w',R e a' w'/\Arrives P (lone (b.at a (.inLoop body::k)) cs w) b k cs e a' w') ?_;intro a w hb b k cs;obtain ⟨e,a',w',h1,h2⟩:=rj (I:=λa w=>∀ (b:Frame) (k:List Item) (cs:List Frame),∃ e a' w',R e a' w'/\Arrives P (lone (b.at a (.inLoop body::k)) cs w) b k cs e a' w') (λ_ _ x=>x) (wpIn_wide.1 hb) b k cs;exact ⟨e,a',w',h1,.of_steps (.one step_inLoop) h2⟩
 refine wpIn_wide.2 λb k cs=>?_;obtain ⟨e,a',w',h1,h2⟩:=rj key (wpIn_wide.1 h.unfold) b k cs;exact ⟨e,a',w',h1,.of_steps (.one step_loop) h2⟩
def St.JS (S T:St):Prop:=S.bx=T.bx/\Mem.le T.E S.E/\S.fr.length=T.fr.length/\∀ (i:Nat) s,T.fr[i]? =some (some s)->S.fr[i]? =some (some s)
structure P8 (n0:Nat) (Φ:World->Fm->Env->Act->World->Prop) (S:St):Prop where
 out:∀ w0 mu (dr:Env) a w,dr.length<=n0->gz w0 mu dr (λS'=>S'=S) a w->Φ w0 mu dr a w
theorem Gl {Φ:World->Fm->Env->Act->World->Prop} {T:St} (hw:S.JS T) (h:P8 n0 Φ T):P8 n0 Φ S:=by
 refine ⟨λw0 mu dr a w hn hl=>?_⟩;obtain ⟨hd,S',ρ,hp,hR,hF,rfl⟩:=hl;obtain ⟨h1,h2,h3,h4⟩:=hw;refine h.out w0 mu dr a w hn ⟨hd,T,ρ,hp,?_,?_,rfl⟩
 ·rw [← h1];exact hR.CR h2
 ·exact ⟨h3 ▸ hF.1,λi s hs=>hF.2 i s (h4 i s hs)⟩
theorem rH {Q:Ex->St->Prop} {T:St} (hw:S.JS T) (h:kM P Ω n0 body Q T):kM P Ω n0 body Q S:=
 ⟨(Gl (Φ:=λw0 mu dr a w=>mu.om=Ω/\xJ Ω dr->fA P body (lE w0 mu dr Q) a w) hw ⟨h.out⟩).out⟩
abbrev vK:=List (Option Nat)
def Em (τ:vK) (N:Nat):List Nat:=τ.map (·.getD N)
def TU (τ:vK) (N:Nat) (s t:SV):Prop:=
 s=t.cD (Em τ N) N\/(s= .raw (.slice none 0 0)/\match t with
  | .bH j 0 0 0=>τ[j]? =some none
  | _=>False)
def BU (τ:vK) (N:Nat):List (Option SV)->List (Option SV)->Prop
 | [],[]=>True
 | _::xs,none::ys=>BU τ N xs ys
 | some x::xs,some y::ys=>TU τ N x y/\BU τ N xs ys
 | _,_=>False
def vL (τ:vK) (N:Nat):List SV->List SV->Prop
 | [],[]=>True
 | x::xs,y::ys=>TU τ N x y/\vL τ N xs ys
 | _,_=>False
def wG (τ:vK) (N:Nat) (r q:Row):Prop:=
 match q with
 | .vals vs=>r.cells=vs.map .raw
 | .ae l=>vL τ N r.cells l
def mj (b:aR):Bool:=
 match b.own,b.row,b.total with
 | false,.ae [],0=>true
 | _,_,_=>false
def Gm (τ:vK) (N:Nat) (QS:List aR):Nat->List aR->Prop
 | _,[]=>True
 | j,b::l=>(match τ[j]? with
  | some (some k)=>match mj b with
   | true=>k<N
   | false=>match QS[k]? with
    | some c=>c.elem=b.elem/\c.total=b.total/\c.own=b.own/\wG τ N c.row b.row
    | none=>False
  | some none=>b.row.cells=[]/\b.total=0
  | none=>False)/\Gm τ N QS (j+1) l
def ij:vK->List aR->List Nat
 | some k::τ,b::l=>match mj b with
  | true=>ij τ l
  | false=>k::ij τ l
 | _::τ,_::l=>ij τ l
 | _,_=>[]
structure St.wk (n0:Nat) (τ:vK) (S T:St):Prop where
 base:n0<=S.bx.length/\n0<=τ.length/\∀ j,j<n0->τ[j]? =some (some j)
 len:T.bx.length=τ.length
 fr:BU τ S.bx.length S.fr T.fr
 bx:Gm τ S.bx.length S.bx 0 T.bx
 live:(ij τ T.bx).Nodup
 E:Mem.le T.E S.E
mutual
theorem sK {ρ ρ':Env} {σ:List Nat} {n:Nat} (h:∀ i x,ρ[dW σ n i]? =some x->ρ'[i]? =some x):∀ (s:SV) {v:Value},(s.cD σ n).den ρ=some v->s.den ρ'=some v
 | .raw v,_,e=>by simpa only [SV.cD,SV.den] using e
 | .loc b off,v,e=>by simp only [SV.cD,SV.den] at e ⊢;obtain ⟨a,h1,rfl⟩:=eK e;simp only [gS,h _ _ h1]
 | .bH b off len cap,v,e=>by
  simp only [SV.cD,SV.den] at e ⊢;rcases cN e with ⟨c,h1,rfl⟩|⟨h1,rfl,rfl,rfl,rfl⟩
  ·simp only [eu,h _ _ h1]
  ·simp [eu,h _ _ h1]
 | .rp v off,_,e=>by simpa only [SV.cD,SV.den] using e
 | .agg l,v,e=>by simp only [SV.cD,SV.den,Option.map_eq_some_iff] at e ⊢;obtain ⟨vs,h1,h2⟩:=e;exact ⟨vs,nS h l h1,h2⟩
 | .bB l,v,e=>by simp only [SV.cD,SV.den,Option.map_eq_some_iff] at e ⊢;obtain ⟨vs,h1,h2⟩:=e;exact ⟨vs,nS h l h1,h2⟩
 | .fM f m l,v,e=>by
  simp only [SV.cD,SV.den] at e;split at e
  ·rename_i us vs h1 h2;simp only [SV.den,nS h m h1,nS h l h2];exact e
  ·cases e
 | .cr t x,v,e=>by simp only [SV.cD,SV.den,Option.map_eq_some_iff] at e ⊢;obtain ⟨vs,h1,h2⟩:=e;exact ⟨vs,sK h x h1,h2⟩
 | .vm t x,v,e=>by simp only [SV.cD,SV.den,Option.map_eq_some_iff] at e ⊢;obtain ⟨vs,h1,h2⟩:=e;exact ⟨vs,sK h x h1,h2⟩
theorem nS {ρ ρ':Env} {σ:List Nat} {n:Nat} (h:∀ i x,ρ[dW σ n i]? =some x->ρ'[i]? =some x):∀ (l:List SV) {vs:Lv},SV.bF ρ (SV.dL σ n l)=some vs->SV.bF ρ' l=some vs
 | [],_,e=>by simpa only [SV.dL,SV.bF] using e
 | x::l,vs,e=>by
  simp only [SV.dL,SV.bF] at e;split at e
  ·rename_i v ws h1 h2;simp only [SV.bF,sK h x h1,nS h l h2];exact e
  ·cases e
end
theorem wH {τ:vK} {N:Nat}:∀ {xs ys:List (Option SV)},BU τ N xs ys->xs.length=ys.length/\∀ (i:Nat) t,ys[i]? =some (some t)->∃ s,xs[i]? =some (some s)/\TU τ N s t
 | [],[],_=>⟨rfl,λi s h=>by simp at h⟩
 | x::xs,none::ys,h=>by
  have h':BU τ N xs ys:=by cases x<;>exact h
  obtain ⟨h1,h2⟩:=wH h';exact ⟨by simp [h1],λi s hs=>by cases i with
   | zero=>simp at hs
   | succ i=>simpa using h2 i s (by simpa using hs)⟩
 | some x::xs,some y::ys,h=>by
  obtain ⟨hv,h'⟩:=h;obtain ⟨h1,h2⟩:=wH h';exact ⟨by simp [h1],λi s hs=>by cases i with
   | zero=>simp at hs;subst hs;exact ⟨x,by simp,hv⟩
   | succ i=>simpa using h2 i s (by simpa using hs)⟩
 | [],_::_,h=>h.elim
 | none::_,some _::_,h=>h.elim
 | _::_,[],h=>by rename_i x _;cases x<;>exact h.elim
theorem AF {τ:vK} {N:Nat} {QS:List aR}:∀ {l:List aR} {j:Nat},Gm τ N QS j l->∀ (i:Nat) b,l[i]? =some b->
  (∃ k,τ[j+i]? =some (some k)/\((mj b=true/\k<N)\/(mj b=false/\∃ c,QS[k]? =some c/\c.elem=b.elem/\c.total=b.total/\c.own=b.own/\wG τ N c.row b.row)))\/
  (τ[j+i]? =some none/\b.row.cells=[]/\b.total=0)
 | [],_,_,i,b,h=>by simp at h
 | y::l,j,h,0,b,hb=>by
  simp only [List.getElem?_cons_zero,Option.some.injEq] at hb;subst hb;have h1:=h.1;rw [Nat.add_zero];split at h1
  ·rename_i k hk;left;refine ⟨k,hk,?_⟩;split at h1
   ·rename_i hd;exact .inl ⟨hd,h1⟩
   ·rename_i hd;split at h1
    ·rename_i c hc;exact .inr ⟨hd,c,hc,h1⟩
    ·exact h1.elim
  ·rename_i hk;exact .inr ⟨hk,h1⟩
  ·exact h1.elim
 | y::l,j,h,i+1,b,hb=>by
  simp only [List.getElem?_cons_succ] at hb;have:=AF h.2 i b hb
  rwa [show j+1+i=j+(i+1) by omega] at this
theorem qj:∀ {τ:vK} {l:List aR} (i k:Nat) (b:aR),τ[i]? =some (some k)->l[i]? =some b->mj b=false->k∈ij τ l
 | [],_,i,k,b,h,_,_=>by simp at h
 | _::_,[],i,k,b,_,h,_=>by simp at h
 | o::τ,y::l,0,k,b,h1,h2,h3=>by simp only [List.getElem?_cons_zero,Option.some.injEq] at h1 h2;subst h1;subst h2;simp [ij,h3]
 | o::τ,y::l,i+1,k,b,h1,h2,h3=>by
  simp only [List.getElem?_cons_succ] at h1 h2;have:=qj i k b h1 h2 h3
  cases o with
  | none=>simpa [ij] using this
  | some k'=>
   simp only [ij];split
   ·exact this
   ·exact List.mem_cons_of_mem _ this
theorem ux:∀ {τ:vK} {l:List aR},(ij τ l).Nodup->∀ (i j k:Nat) (b c:aR),τ[i]? =some (some k)->l[i]? =some b->mj b=false->τ[j]? =some (some k)->l[j]? =some c->mj c=false->i=j
 | [],_,_,i,j,k,b,c,h,_,_,_,_,_=>by simp at h
 | _::_,[],_,i,j,k,b,c,_,h,_,_,_,_=>by simp at h
 | o::τ,y::l,hn,i,j,k,b,c,h1,h2,h3,g1,g2,g3=>by
  have hn':(ij τ l).Nodup:=by
   cases o with
   | none=>simpa [ij] using hn
   | some k'=>
    simp only [ij] at hn;split at hn
    ·exact hn
    ·exact (List.nodup_cons.1 hn).2
  cases i with
  | zero=>
   cases j with
   | zero=>rfl
   | succ j=>
    simp only [List.getElem?_cons_zero,List.getElem?_cons_succ,Option.some.injEq] at h1 h2 g1 g2;subst h1;subst h2;have:=qj j k c g1 g2 g3;simp only [ij,h3] at hn;exact absurd this (List.nodup_cons.1 hn).1
  | succ i=>
   cases j with
   | zero=>
    simp only [List.getElem?_cons_zero,List.getElem?_cons_succ,Option.some.injEq] at h1 h2 g1 g2;subst g1;subst g2;have:=qj i k b h1 h2 h3;simp only [ij,g3] at hn;exact absurd this (List.nodup_cons.1 hn).1
   | succ j=>
    simp only [List.getElem?_cons_succ] at h1 h2 g1 g2;rw [ux hn' i j k b c h1 h2 h3 g1 g2 g3]
theorem mY (h:mj b=true):b.own=false/\b.cells=[]/\b.total=0:=by
 obtain ⟨e,r,t,o⟩:=b;unfold mj at h;split at h
 ·rename_i h1 h2 h3;simp only at h1 h2 h3;subst h1;subst h2;subst h3;exact ⟨rfl,rfl,rfl⟩
 ·cases h
theorem uy {τ:vK} {N:Nat}:∀ {xs ys:List SV},vL τ N xs ys->xs.length=ys.length
 | [],[],_=>rfl
 | x::xs,y::ys,h=>by simp [uy h.2]
 | [],_::_,h=>h.elim
 | _::_,[],h=>h.elim
theorem BV {τ:vK} {Φ:World->Fm->Env->Act->World->Prop} {T:St} (hw:S.wk n0 τ T) (h:P8 n0 Φ T):P8 n0 Φ S:=by
 refine ⟨λw0 mu dr a w hn hl=>?_⟩;obtain ⟨hd,S',ρ,hp,hR,hF,rfl⟩:=hl;obtain ⟨⟨ND,D2,P9⟩,hlen,hfr,qR,mQ,hE⟩:=hw;have Ax:=hR.len
 let src:Option Nat->Oa:=λo=>match o with
  | some k=>(ρ[k]?).getD none
  | none=>none
 let JT:Env:=τ.map src;have En:∀ j:Nat,JT[j]? =(τ[j]?).map src:=λj=>List.getElem?_map;have wI:∀ (j k:Nat) o,τ[j]? =some (some k)->ρ[k]? =some o->JT[j]? =some o:=by intro j k o h1 h2;rw [En,h1];simp [src,h2]
 have hpre:dr<+:JT:=by obtain ⟨t,rfl⟩:=hp;refine List.prefix_iff_getElem?.2 λi hi=>?_;refine wI i i _ (P9 i (by omega)) ?_;rw [List.getElem?_append_left hi,List.getElem?_eq_getElem hi]
 have JI:∀ i x,ρ[dW (Em τ S'.bx.length) S'.bx.length i]? =some x->JT[i]? =some x:=by
  intro i x hx;unfold dW at hx
  cases hi:τ[i]? with
  | none=>
   have h1:(Em τ S'.bx.length)[i]? =none:=by simp [Em,hi]
   rw [h1] at hx;simp only at hx;rw [List.getElem?_eq_none (by omega)] at hx;cases hx
  | some o=>
   have h1:(Em τ S'.bx.length)[i]? =some (o.getD S'.bx.length):=by simp [Em,hi]
   rw [h1] at hx;simp only at hx
   cases o with
   | none=>simp only [Option.getD_none] at hx;rw [List.getElem?_eq_none (by omega)] at hx;cases hx
   | some k=>exact wI i k x hi hx
 have QT:∀ {s t:SV} {v:Value},TU τ S'.bx.length s t->s.den ρ=some v->t.den JT=some v:=by
  intro s t v hv hs;rcases hv with rfl|⟨rfl,ht⟩
  ·exact sK JI t hs
  ·simp only [SV.den,Option.some.injEq] at hs;subst hs;split at ht
   ·rename_i j;simp only [SV.den,eu,En,ht,Option.map_some,src];simp
   ·exact ht.elim
 have Vo:∀ {xs ys:List SV} {vs:Lv},vL τ S'.bx.length xs ys->SV.bF ρ xs=some vs->SV.bF JT ys=some vs:=by
  intro xs
  induction xs with
  | nil=>
   intro ys vs hc hs
   cases ys with
   | nil=>exact hs
   | cons=>exact hc.elim
  | cons x xs ih=>
   intro ys vs hc hs
   cases ys with
   | nil=>exact hc.elim
   | cons y ys=>
    simp only [SV.bF] at hs;split at hs
    ·rename_i v ws h1 h2;simp only [SV.bF,QT hc.1 h1,ih hc.2 h2];exact hs
    ·cases hs
 have hrow:∀ {r q:Row} {vs:Lv},wG τ S'.bx.length r q->SV.bF ρ r.cells=some vs->SV.bF JT q.cells=some vs:=by
  intro r q vs hr hs
  cases q with
  | vals us=>
   simp only [wG] at hr;rw [hr,bU] at hs;exact (bU us).trans hs
  | ae l=>exact Vo hr hs
 have LY:∀ {r q:Row},wG τ S'.bx.length r q->r.cells.length=q.cells.length:=by
  intro r q hr
  cases q with
  | vals us=>simp only [wG] at hr;rw [hr];rfl
  | ae l=>exact uy hr
 -- a box of the later state
 have qY:∀ (j:Nat) b,T.bx[j]? =some b->(∃ k,τ[j]? =some (some k)/\k<ρ.length/\mj b=true)\/
   (∃ k c,τ[j]? =some (some k)/\mj b=false/\S'.bx[k]? =some c/\c.elem=b.elem/\c.total=b.total/\c.own=b.own/\wG τ S'.bx.length c.row b.row/\c.live=b.live)\/
   (τ[j]? =some none/\b.row.cells=[]/\b.total=0):=by
  intro j b hj;have:=AF qR j b hj;rw [Nat.zero_add] at this;rcases this with ⟨k,h1,⟨h2,h3⟩|⟨h2,c,h3,h4,h5,h6,h7⟩⟩|h1
  ·exact .inl ⟨k,h1,by omega,h2⟩
  ·refine .inr (.inl ⟨k,c,h1,h2,h3,h4,h5,h6,h7,?_⟩);have:=LY h7;simp only [aR.live,aR.cells,h6]
   cases hc:c.row.cells<;>cases hb:b.row.cells<;>simp_all
  ·exact .inr (.inr h1)
 refine h.out w0 mu dr a w hn ⟨hd,T,JT,hpre,?_,?_,rfl⟩
 ·refine ⟨hR.keep,by simp [JT,hlen],?_,?_,λv cs g=>hR.hold v cs (hE v cs g),?_,λv cs g hne=>hR.src v cs (hE v cs g) hne⟩
  ·intro j b oa h1 h2;rcases qY j b h1 with ⟨k,g1,g2,g3⟩|⟨k,c,g1,g2,g3,g4,g5,g6,g7,g8⟩|⟨g1,g2,g3⟩
   ·obtain ⟨d1,d2⟩:=mY g3;have hk:ρ[k]? =some ρ[k]:=List.getElem?_eq_getElem g2;rw [wI j k _ g1 hk] at h2;simp only [Option.some.injEq] at h2;have hkb:k<S'.bx.length:=by omega
    have gG:=hR.box k _ _ (List.getElem?_eq_getElem hkb) hk
    cases oa with
    | none=>
     exact d2
    | some ad=>
     rw [h2] at gG;refine ⟨gG.1,[],by rw [d2.1];rfl,?_⟩;rw [d1];simp
   ·have hk:k<ρ.length:=by rw [Ax];exact eC g3
    have hk':ρ[k]? =some ρ[k]:=List.getElem?_eq_getElem hk;rw [wI j k _ g1 hk'] at h2;simp only [Option.some.injEq] at h2;rw [h2] at hk';have gG:=hR.box k c oa g3 hk'
    cases oa with
    | none=>
     have:=LY g7;refine ⟨List.eq_nil_of_length_eq_zero ?_,by rw [← g5];exact gG.2⟩;rw [show b.cells.length=b.row.cells.length from rfl,← this,show c.row.cells=[] from gG.1];rfl
    | some ad=>
     obtain ⟨q1,vs,q2,q3⟩:=gG;refine ⟨q1,vs,hrow g7 q2,?_⟩;rw [← g6,← g4,← g5];exact q3
   ·rw [En,g1] at h2;simp only [Option.map_some,src,Option.some.injEq] at h2;subst h2;exact ⟨g2,g3⟩
  ·intro j b ad h1 ho h2;rcases qY j b h1 with ⟨k,g1,g2,g3⟩|⟨k,c,g1,g2,g3,g4,g5,g6,g7,g8⟩|⟨g1,g2,g3⟩
   ·rw [(mY g3).1] at ho;cases ho
   ·have hk:k<ρ.length:=by rw [Ax];exact eC g3
    have hk':ρ[k]? =some ρ[k]:=List.getElem?_eq_getElem hk;rw [wI j k _ g1 hk'] at h2;simp only [Option.some.injEq] at h2;rw [h2] at hk';obtain ⟨t1,t2,t3⟩:=hR.sep k c ad g3 (g6.trans ho) hk';refine ⟨t1,?_,λv cs g=>t3 v cs (hE v cs g)⟩;intro j' b' a' hne pG hl nJ;rcases qY j' b' pG with ⟨k',q1,q2,q3⟩|⟨k',c',q1,q2,q3,q4,q5,q6,q7,q8⟩|⟨q1,q2,q3⟩
    ·obtain ⟨d1,d2⟩:=mY q3;simp [aR.live,d1,d2.1] at hl
    ·have hkk:k'<ρ.length:=by rw [Ax];exact eC q3
     have NF:ρ[k']? =some ρ[k']:=List.getElem?_eq_getElem hkk;rw [wI j' k' _ q1 NF] at nJ;simp only [Option.some.injEq] at nJ;rw [nJ] at NF;refine t2 k' c' a' ?_ q3 (q8.trans hl) NF;rintro rfl;exact hne (ux mQ j' j k' b' b q1 pG q2 g1 h1 g2)
    ·rw [En,q1] at nJ;simp [src] at nJ
   ·rw [En,g1] at h2;simp [src] at h2
  ·intro j b ad h1 hl h2;rcases qY j b h1 with ⟨k,g1,g2,g3⟩|⟨k,c,g1,g2,g3,g4,g5,g6,g7,g8⟩|⟨g1,g2,g3⟩
   ·obtain ⟨d1,d2⟩:=mY g3;simp [aR.live,d1,d2.1] at hl
   ·have hk:k<ρ.length:=by rw [Ax];exact eC g3
    have hk':ρ[k]? =some ρ[k]:=List.getElem?_eq_getElem hk;rw [wI j k _ g1 hk'] at h2;simp only [Option.some.injEq] at h2;rw [h2] at hk';exact hR.jM k c ad g3 (g8.trans hl) hk'
   ·rw [En,g1] at h2;simp [src] at h2
 ·obtain ⟨f1,f2⟩:=wH hfr;refine ⟨by rw [← f1];exact hF.1,λi t ht=>?_⟩;obtain ⟨s,hs,hv⟩:=f2 i t ht;obtain ⟨v,v1,v2⟩:=hF.2 i s hs;exact ⟨v,v1,QT hv v2⟩
theorem Gn {τ:vK} {Q:Ex->St->Prop} {T:St} (hw:S.wk n0 τ T) (h:kM P Ω n0 body Q T):kM P Ω n0 body Q S:=
 ⟨(BV (Φ:=λw0 mu dr a w=>mu.om=Ω/\xJ Ω dr->fA P body (lE w0 mu dr Q) a w) hw ⟨h.out⟩).out⟩
theorem JU {τ:vK} {c:Code} {Q:Ex->St->Prop} {T:St} (hw:S.wk n0 τ T) (h:rE P Ω n0 c Q T):rE P Ω n0 c Q S:=
 ⟨(BV (Φ:=λw0 mu dr a w=>mu.om=Ω/\xJ Ω dr->c.wpIn Fence.wide 0 P (lE w0 mu dr Q) a w) hw ⟨h.out⟩).out⟩
theorem uz (ds:List Nat):∀ (k:Nat) (l:List (Option SV)),(iU ds k l).length=l.length
 | _,[]=>rfl
 | k,_::l=>by simp [iU,uz ds (k+1) l]
theorem uA (ds:List Nat):∀ (k:Nat) (l:List (Option SV)) (i:Nat) (s:SV),(iU ds k l)[i]? =some (some s)->l[i]? =some (some s)
 | _,[],i,s,h=>by simp [iU] at h
 | k,o::l,0,s,h=>by
  simp only [iU,List.getElem?_cons_zero,Option.some.injEq] at h ⊢;split at h
  ·cases h
  ·exact h
 | k,o::l,i+1,s,h=>by simp only [iU,List.getElem?_cons_succ] at h ⊢;exact uA ds (k+1) l i s h
theorem St.uB (S:St) (ds:List Nat):S.JS (S.forget ds):=
 ⟨rfl,Mem.le_refl _,(uz ds 0 S.fr).symm,λi s h=>uA ds 0 S.fr i s h⟩
theorem AG {ds:List Nat} (Ay:(Ex->St->Prop)->St->Prop)
  (hb:∀ (Q:Ex->St->Prop) w0 mu (dr:Env) a w,dr.length<=n0->mu.om=Ω/\xJ Ω dr->gz w0 mu dr (λS=>Ay Q S) a w->body.wpIn Fence.wide 0 P (lE w0 mu dr Q) a w):
  ∀ (n:Nat) (Q:Ex->St->Prop) w0 mu (dr:Env) a w,dr.length<=n0->mu.om=Ω/\xJ Ω dr->gz w0 mu dr (λS=>CZ Ay (λQ S=>kM P Ω n0 body Q (S.forget ds)) n Q S) a w->fA P body (lE w0 mu dr Q) a w:=by
 intro n
 induction n with
 | zero=>
  intro Q w0 mu dr a w hn ho h;obtain ⟨hd,S,ρ,hp,hR,hF,h⟩:=h;exact (rH (St.uB S ds) h).out w0 mu dr a w hn ⟨hd,S,ρ,hp,hR,hF,rfl⟩ ho
 | succ n ih=>
  intro Q w0 mu dr a w hn ho h;refine fA.fold (Code.wpIn_mono (Gk λa w hl=>?_) (hb _ w0 mu dr a w hn ho h));obtain ⟨w1,pL,hB,hl⟩:=hl;exact fA.mono (rG hB h.1.2) (ih Q w1 pL dr a w hn ⟨hB.om.trans ho.1,ho.2⟩ hl)
theorem NG {Q:Ex->St->Prop} {id:Nat}:
  ∀ (e:Exit) (a:Act) (w:World),lE w0 mu dr (λe S'=>match e with | .normal=>Q .normal S'| .exit i=>if i=id then Q .normal S' else Q (.exit i) S'| .ret=>Q .ret S') e a w->Exit.inBlock id (lE w0 mu dr Q) e a w
 | .normal,_,_,x=>x
 | .exit i,a,w,x=>by
  simp only [Exit.inBlock];by_cases hi:i=id
  ·rw [if_pos hi];exact jb.mono x λS h=>by simpa [hi] using h
  ·rw [if_neg hi];exact jb.mono x λS h=>by simpa [hi] using h
 | .ret,_,_,x=>x
 | .panic _,_,_,x=>x
 | .goto _,_,_,x=>x
 | .outgrown,_,_,x=>x
theorem gz.no {K:St->Prop} {p:Prop} (h:gz w0 mu dr K a w) (hk:∀ S,¬ K S):p:=by obtain ⟨_,S,_,_,_,_,h⟩:=h;exact (hk S h).elim
theorem gX {un:Bn} (dP:ja un.om P ak) (hm:P.follows .mixedOrders=true) {inl:Op->Bool} {ro:Option Nat} (hro:un.vJ=false->ro=none):∀ (c:Code) (Q:Ex->St->Prop) (w0:World) (mu:Fm) (dr:Env) (a:Act) (w:World),dr.length<=un.base->mu.om=un.om/\xJ un.om dr->
  gz w0 mu dr (λS=>gP P ak inl un c Q S) a w->c.wpIn (fW ro) 0 P (lE w0 mu dr Q) a w
 | .skip,Q,w0,mu,dr,a,w,hn,ho,h=>wpIn_skip (jb.of h)
 | .region id ops false,Q,w0,mu,dr,a,w,hn,ho,h=>wpIn_region_list (rC dP ho (λa w x=>jb.of x) _ a w h)
 | .region id ops true,Q,w0,mu,dr,a,w,hn,ho,h=>by
  by_cases hr:(un.vJ&& !oy ops)=true
  ·exact h.no λS x=>by simp only [gP,hr,cond] at x
  ·by_cases hs:Region.noSelect ops=true
   ·have hr':(un.vJ&& !oy ops)=false:=by simpa using hr
    simp only [gP,hr',hs,if_true,cond] at h;exact AE (ro:=ro) dP ho hm hs (λe=>by
     cases hu:un.vJ with
     | false=>exact absurd (hro hu) e
     | true=>rw [hu] at hr';simpa using hr') (λa w x=>jb.of x) h
   ·exact h.no λS x=>by
     have hr':(un.vJ&& !oy ops)=false:=by simpa using hr
     simp [gP,hr',hs] at x
 | .seq x y,Q,w0,mu,dr,a,w,hn,ho,h=>wpIn_seq (Code.wpIn_mono (Gk λa w hl=>by
   obtain ⟨w1,pL,hB,hl⟩:=hl;have Qa:pL.om=un.om/\xJ un.om dr:=⟨hB.om.trans ho.1,ho.2⟩;refine Code.wpIn_mono (rG hB h.1.2) ?_
   cases hc:(cutAt un y&& !un.vJ) with
   | true=>
    have hr:un.vJ=false:=by simp at hc;exact hc.2
    rw [hc] at hl;obtain ⟨hd,S,ρ,hp,hR,hF,hl⟩:=hl;rw [hro hr];exact hl.out w1 pL dr a w hn ⟨hd,S,ρ,hp,hR,hF,rfl⟩ Qa
   | false=>
    rw [hc] at hl;exact gX dP hm hro y Q w1 pL dr a w hn Qa hl) (gX dP hm hro x _ w0 mu dr a w hn ho h))
 | .cond c x y,Q,w0,mu,dr,a,w,hn,ho,h=>by
  obtain ⟨hd,S,ρ,hp,hR,hF,h⟩:=h;simp only [gP] at h;split at h;case h_2=>exact h.elim
  rename_i b hb;have he:a.eval c= .bool b:=by have:=aO hF hb;simpa [SV.den] using this.symm
  refine wpIn_cond he ?_
  cases b with
  | true=>
   simp only [cond_true] at h
   cases hc:JL un x with
   | true=>
    rw [hc] at h;simp only [cond_true] at h;have hr:un.vJ=false:=by simp [JL] at hc;exact hc.1.2
    rw [hro hr];exact h.out w0 mu dr a w hn ⟨hd,S,ρ,hp,hR,hF,rfl⟩ ho
   | false=>
    rw [hc] at h;exact gX dP hm hro x Q w0 mu dr a w hn ho ⟨hd,S,ρ,hp,hR,hF,h⟩
  | false=>exact gX dP hm hro y Q w0 mu dr a w hn ho ⟨hd,S,ρ,hp,hR,hF,h⟩
 | .block id body,Q,w0,mu,dr,a,w,hn,ho,h=>wpIn_block (Code.wpIn_mono NG (gX dP hm hro body _ w0 mu dr a w hn ho h))
 | .loop body,Q,w0,mu,dr,a,w,hn,ho,h=>by
  cases hr:un.vJ with
  | true=>exact h.no λS x=>by simp only [gP,hr,cond] at x
  | false=>
   simp only [gP,hr,cond] at h;have:=hro hr;subst this;exact (AG (gP P ak inl un body) (λQ w0 mu dr a w hn ho h=>gX dP hm hro body Q w0 mu dr a w hn ho h) un.cq Q w0 mu dr a w hn ho h).wp
 | .exit id,Q,w0,mu,dr,a,w,hn,ho,h=>wpIn_exit (jb.of h)
 | .ret,Q,w0,mu,dr,a,w,hn,ho,h=>wpIn_ret (.inl (jb.of h))
 | .rangeFunc g ps assign body,Q,w0,mu,dr,a,w,hn,ho,h=>by
  cases hr:un.vJ with
  | true=>exact h.no λS x=>by simp only [gP,hr,cond] at x
  | false=>
   simp only [gP,hr,cond] at h;rw [hro hr];obtain ⟨hd,S,ρ,hp,hR,hF,h⟩:=h;exact h.out w0 mu dr a w hn ⟨hd,S,ρ,hp,hR,hF,rfl⟩ ho
 | .scope ..,_,_,_,_,_,_,_,_,h=>h.no λ_ x=>x
 | .label ..,_,_,_,_,_,_,_,_,h=>h.no λ_ x=>x
 | .goto ..,_,_,_,_,_,_,_,_,h=>h.no λ_ x=>x
 | .refuse ..,_,_,_,_,_,_,_,_,h=>h.no λ_ x=>x
theorem AH (dP:ja un.om P ak) (hm:P.follows .mixedOrders=true) {Q:Ex->St->Prop}
  (h:gP P ak inl un body (λe S'=>match e with | .normal=>kM P un.om un.base body Q (S'.forget (pY un body))| .exit id=>Q (.exit id) S'| .ret=>Q .ret S') S):kM P un.om un.base body Q S:=by
 refine ⟨λw0 mu dr a w hn hl ho=>?_⟩;have hoo:=hl.1.2;refine fA.fold (Code.wpIn_mono (Gk (M:=λS'=>kM P un.om un.base body Q (S'.forget (pY un body))) λa w hl=>?_) (gX (ro:=none) dP hm (λ_=>rfl) (inl:=inl) (un:=un) body _ w0 mu dr a w hn ho (hl.mono λS' e=>e ▸ h)));obtain ⟨w1,pL,hB,hl⟩:=hl;obtain ⟨hd,S',ρ,hp,hR,hF,hL⟩:=hl;exact fA.mono (rG hB hoo) ((rH (St.uB S' _) hL).out w1 pL dr a w hn ⟨hd,S',ρ,hp,hR,hF,rfl⟩ ⟨hB.om.trans ho.1,ho.2⟩)
theorem wJ (dP:ja un.om P ak) (hm:P.follows .mixedOrders=true) {c:Code} {Q:Ex->St->Prop} (h:gP P ak inl un c Q S):rE P un.om un.base c Q S:=
 ⟨λw0 mu dr a w hn ⟨hd,S',ρ,hp,hR,hF,e⟩ ho=>gX (ro:=none) dP hm (λ_=>rfl) c Q w0 mu dr a w hn ho ⟨hd,S',ρ,hp,hR,hF,e ▸ h⟩⟩
theorem Eo (dP:ja un.om P ak) (hm:P.follows .mixedOrders=true) {Q:Ex->St->Prop} {ι:Type} (Sh:ι->St) (μ:ι->Nat)
  (h:∀ i,(∀ j,μ j<μ i->kM P un.om un.base body Q (Sh j))->gP P ak inl un body (λe S'=>match e with | .normal=>kM P un.om un.base body Q (S'.forget (pY un body))| .exit id=>Q (.exit id) S'| .ret=>Q .ret S') (Sh i)):∀ i,kM P un.om un.base body Q (Sh i):=by
 have key:∀ n i,μ i=n->kM P un.om un.base body Q (Sh i):=by
  intro n
  induction n using Nat.strongRecOn with
  | _ n ih=>
   intro i hi;exact AH dP hm (h i λj hj=>ih (μ j) (hi ▸ hj) j rfl)
 exact λi=>key _ i rfl
end
end Go.Sx
namespace Go.Sx
open Go.RowKit (Below)
variable {S:St} {ρ:Env} {w0 w:World} {a:Act} {mu:Fm} {fn:Func} {b:aR} {v:Value} {cs:Lv} {bx:List aR} {E:Mem} {f:FuncId} {args:List SV} {un:Bn} {inl:Op->Bool} {C:Cx} {n n0:Nat} {p:List Nat}
section
variable {P:Program} {ak:cK}
def yD (tmps:Array Value):ResultVar->Sem Value
 | .tmp t=>pure (tmps.getD t undef)
 | .cell t T=>do loadVar T (← asAddr (tmps.getD t undef))
theorem BW (hR:Rel w0 mu S.bx S.E ρ w) (hF:cV ρ S.fr a.tmps) {x:ResultVar} {s:SV} (h:BO P S x=some s):
  ∃ v,s.den ρ=some v/\(yD a.tmps x).run P w= .ok v w:=by
 cases x with
 | tmp t=>exact ⟨_,aO hF (x:=.tmp t) h,rfl⟩
 | cell t T=>
  simp only [BO] at h;split at h;case h_2=>cases h
  rename_i b off hs;split at h;case h_2=>cases h
  rename_i y hy;have hd:=aO hF hs;simp only [SV.den] at hd;obtain ⟨c,hc,e⟩:=eK hd;obtain ⟨v,h1,h2⟩:=lT (P:=P) hR hy h hd;refine ⟨v,h1,?_⟩;have e':a.tmps.getD t undef= .pointer (some (c.add off)):=e;simp only [yD,e',asAddr,Sem.run_bind,Sem.run_pure,Result.andThen_ok];simp only [Instr.loadAt,Instr.sureAddr,Sem.run_bind] at h2;rw [show a.eval (.tmp t)= .pointer (some (c.add off)) from e] at h2;simpa using h2
theorem ql {S:St} {a:Act} {w w0:World} {mu:Fm} {ρ:Env} (hR:Rel w0 mu S.bx S.E ρ w) (hF:cV ρ S.fr a.tmps):∀ {l:List ResultVar} {ss:List SV},qF P S l=some ss->
  ∃ vs,SV.bF ρ ss=some vs/\(l.mapM (yD a.tmps)).run P w= .ok vs w
 | [],_,h=>by simp only [qF,Option.some.injEq] at h;subst h;exact ⟨[],rfl,by simp⟩
 | x::l,_,h=>by
  simp only [qF] at h;split at h;case h_2=>cases h
  rename_i s ss h1 h2;simp only [Option.some.injEq] at h;subst h;obtain ⟨v,h3,h4⟩:=BW (P:=P) hR hF h1;obtain ⟨vs,h5,h6⟩:=ql hR hF h2;refine ⟨v::vs,by simp only [SV.bF,h3,h5],?_⟩;simp only [List.mapM_cons,Sem.run_bind,h4,h6,Result.andThen_ok,Sem.run_pure]
theorem BX {K:KT} (hR:Rel w0 mu S.bx S.E ρ w) (hF:cV ρ S.fr a.tmps) (h:Ee P fn S K):
  ∃ v s,(results fn a.tmps).run P w= .ok v w/\s.den ρ=some v/\K s S.bx S.E:=by
 have hres:∀ {vs:Lv},(fn.results.toList.mapM (yD a.tmps)).run P w= .ok vs w->
   (results fn a.tmps).run P w= .ok (if h:vs.toArray.size=1 then vs.toArray[0] else .tuple vs.toArray) w:=by
  intro vs hvs;have hm:(fn.results.mapM (yD a.tmps)).run P w= .ok vs.toArray w:=by rw [Array.mapM_eq_mapM_toList];simp only [Sem.run_map,hvs,Result.andThen_ok]
  have he:results fn a.tmps=(do
    let vs ← fn.results.mapM (yD a.tmps)
    pure (if h:vs.size=1 then vs[0] else .tuple vs)):=by
   unfold results;congr 1
   try congr 1
   try (funext x;cases x<;>rfl)
  rw [he,Sem.run_bind,hm];rfl
 unfold Ee at h;split at h
 ·rename_i s hs;obtain ⟨vs,h1,h2⟩:=ql (P:=P) hR hF hs;have h3:=hres h2;have hl:=bN h1
  match vs,hl,h1,h3 with
  | [v],_,h1,h3=>
   refine ⟨v,s,by simpa using h3,?_,h⟩;simp only [SV.bF] at h1;split at h1
   ·rename_i x ys e1 e2;simp only [Option.some.injEq,List.cons.injEq] at e2 h1;rw [e1,h1.1]
   ·cases h1
 ·rename_i ss hne hs;obtain ⟨vs,h1,h2⟩:=ql (P:=P) hR hF hs;have h3:=hres h2;have hl:=bN h1;have hsz:vs.toArray.size≠1:=by
   intro e;simp only [List.size_toArray] at e;rw [hl] at e
   match ss,e with
   | [s],_=>exact hne s rfl
  rw [dif_neg hsz] at h3;exact ⟨_,.bB ss,h3,by simp only [SV.den,h1,Option.map_some],h⟩
 ·exact h.elim
def Obj.flat:Obj->Bool
 | .cells _ _ _=>false
 | _=>true
theorem yE {l:Nat} {o:Obj} (h:w.heap[l]? =some o) (ho:Obj.flat o=true) (off:Nat):w.cell? ⟨l,off,none⟩=none:=by
 unfold World.cell?;simp only [h]
 cases o<;>first|rfl|cases ho
theorem iA.flat {a:Addr} (h:iA w ρ (some a) b) (hl:b.live=true) {l:Nat} {o:Obj} (hw:w.heap[l]? =some o) (ho:Obj.flat o=true):a.block≠l:=by
 rintro rfl;obtain ⟨h1,vs,h2,h3⟩:=h;by_cases hb:b.own=true
 ·rw [if_pos hb] at h3;obtain ⟨_,bZ,h4,_⟩:=h3;rw [hw] at h4;cases h4;cases ho
 ·rw [if_neg hb] at h3;have hne:b.cells≠[]:=by
   intro e;simp [aR.live,hb,e] at hl
  have hlen:=bN h2
  cases vs with
  | nil=>exact hne (List.eq_nil_of_length_eq_zero hlen.symm)
  | cons x vs=>
   have:=h3 0 x rfl;rw [yE hw ho] at this;cases this
theorem dV.flat (h:dV w v cs) (hne:cs≠[]) {l:Nat} {o:Obj} (hw:w.heap[l]? =some o) (ho:Obj.flat o=true):pP v≠some l:=by
 rcases h with h|⟨a,len,cap,rfl,hs,h⟩
 ·exact absurd h hne
 ·intro e;simp only [pP,Option.some.injEq] at e
  cases cs with
  | nil=>exact hne rfl
  | cons x cs=>
   have:=h 0 x rfl;rw [e,yE hw ho] at this;cases this
theorem Rel.putObj (h:Rel w0 mu bx E ρ w) {l:Nat} {o:Obj} (hw:w.heap[l]? =some o) (ho:Obj.flat o=true) (hl:w0.heap.size<=l) (o':Obj):Rel w0 mu bx E ρ (w.putObj l o'):=by
 have hk:=h.keep;refine ⟨⟨hk.os,hk.tape,hk.output,by rw [World.putObj_size];exact hk.size,λk h1 h2=>?_⟩,h.len,λi b oa h1 h2=>(h.box i b oa h1 h2).js λa ha hl'=>?_,h.sep,λv cs hE=>(h.hold v cs hE).js λb hne hb=>?_,h.jM,h.src⟩
 ·rw [World.putObj_heap_other (by omega)];exact hk.block k h1 h2
 ·subst ha;exact World.putObj_heap_other ((h.box i b _ h1 h2).flat hl' hw ho)
 ·refine World.putObj_heap_other ?_;rintro rfl;exact (h.hold v cs hE).flat hne hw ho hb
theorem oG {fn:Func} {tmps:Array Value} {R:Ending->World->Prop} {w0:World} {mu:Fm} {bx:List aR} {E:Mem} {ρ:Env}
  (hR:∀ w,Rel w0 mu bx E ρ w->∃ v,(results fn tmps).run P w= .ok v w/\R (.returned v) w):
  ∀ (ds:List Deferred) (w:World),ds.Nodup->(∀ d∈ds,∃ D,d={ target:=.collected D,args:=#[] }/\w.heap[D]? =some (.deferred (some []))/\w0.heap.size<=D)->Rel w0 mu bx E ρ w->
   LeavesInM Fence.wide 0 P fn tmps R ds .returning w
 | [],w,_,_,h=>hR w h
 | d::ds,w,hn,hd,h=>by
  obtain ⟨D,rfl,h1,h2⟩:=hd d (by simp);refine ⟨(λe=>by cases e),.inl ⟨D,_,rfl,run_takeDeferred h1,?_⟩⟩;refine oG hR ds _ (List.nodup_cons.1 hn).2 (λd' tD=>?_) (h.putObj h1 rfl h2 _);obtain ⟨D',rfl,g1,g2⟩:=hd d' (List.mem_cons_of_mem _ tD);refine ⟨D',rfl,?_,g2⟩;rw [World.putObj_heap_other]
  ·exact g1
  ·rintro rfl;exact (List.nodup_cons.1 hn).1 tD
theorem AI {K:KT} (Jm:mu.ds=[]) (hres:mu.om.isSome=true->fn.results.toList=[]) (e:Exit) (a:Act) (w:World) (h:lE w0 mu ρ (C0 P fn K) e a w):
  bodyPostM Fence.wide 0 P fn (λe w=>kL w0 mu ρ K e w\/nN mu.om w0 mu ρ e w) e a w:=by
 have key:jb w0 mu ρ (λS=>Ee P fn S K) a w->LeavesInM Fence.wide 0 P fn a.tmps (λe w=>kL w0 mu ρ K e w\/nN mu.om w0 mu ρ e w) a.defers .returning w:=by
  rintro ⟨w1,pL,hB,hd,S,ρ',hp,hR,hF,h⟩;have hD:=hB.mark ⟨by rw [Jm];exact List.nodup_nil,by rw [Jm];simp⟩;have Vp:=hB.back _ _ _ _ hR;refine oG (λw' iT=>?_) a.defers w (by rw [hd.1];exact hD.1) (λd NH=>?_) Vp
  ·obtain ⟨v,s,h1,h2,h3⟩:=BX iT hF h;exact ⟨v,h1,.inl ⟨v,s,S.bx,S.E,ρ',rfl,hp,h2,iT,h3⟩⟩
  ·rw [hd.1] at NH;obtain ⟨D,e1,e2,e3⟩:=hD.2 d NH;refine ⟨D,e1,?_,?_⟩
   ·rw [hR.keep.block D (Array.getElem?_eq_some_iff.1 e2).1 e3];exact e2
   ·rcases hB.fresh d NH with q|⟨D',q1,q2⟩
    ·rw [Jm] at q;cases q
    ·rw [e1] at q1;cases q1;exact q2
 have Vq:yo w0 mu ρ a w->LeavesInM Fence.wide 0 P fn a.tmps (λe w=>kL w0 mu ρ K e w\/nN mu.om w0 mu ρ e w) a.defers .returning w:=by
  rintro ⟨c,hc,ho,w1,pL,hB,hd,bx,E,ρ',hp,hR,hq⟩;have hD:=hB.mark ⟨by rw [Jm];exact List.nodup_nil,by rw [Jm];simp⟩;have Vp:=hB.F5 c _ _ _ _ _ hc ho hR;have Qa:=hB.TO ho;unfold mL at Qa;rw [hB.om.trans hc] at Qa;have LX:=hres (by rw [hc];rfl);refine oG (λw' iT=>?_) a.defers w (by rw [hd];exact hD.1) (λd NH=>?_) Vp
  ·refine ⟨.tuple #[],?_,.inr ⟨c,hc,_,bx,E,ρ',rfl,hp,iT,hq⟩⟩;have hr:fn.results= #[]:=by rw [← Array.toList_inj];exact LX
   unfold results;rw [hr];simp
  ·rw [hd] at NH;obtain ⟨D,e1,e2,e3⟩:=hD.2 d NH;have hne:D≠c.l:=by
    rintro rfl;rw [Qa.1] at e2;cases e2
   refine ⟨D,e1,?_,?_⟩
   ·rw [hR.keep.block D (by rw [World.putObj_size];exact (Array.getElem?_eq_some_iff.1 e2).1) e3,World.putObj_heap_other hne];exact e2
   ·rw [World.putObj_size];rcases hB.fresh d NH with q|⟨D',q1,q2⟩
    ·rw [Jm] at q;cases q
    ·rw [e1] at q1;cases q1;exact q2
 cases e with
 | normal=>exact key h
 | ret=>exact h.elim key Vq
 | exit _=>obtain ⟨_,_,_,_,_,_,_,_,_,h⟩:=h;exact h.elim
 | goto _=>exact h.elim
 | panic _=>exact h.elim
 | outgrown=>exact h.elim
def yb (fn : Func) : Prop := (fn.name == "runtime.NumGoroutine") = false ∧ fn.body.isNone = false
theorem oH (dP:ja un.om P ak) (hm:P.follows .mixedOrders=true) (hf:P.funcs[f]? =some fn) (hok:yb fn)
  {K:KT} (h:wy P ak inl un fn args bx E K):pT un.om P f args bx E K:=by
 refine ⟨⟨fn,hf,hok.1,hok.2⟩,?_⟩;intro w0 uC ρ w vs QC hR hd;have hR:=Rel.cast (mu:=uC) (TH:=⟨uC.mu,uC.E0,uC.om,[]⟩) rfl rfl hR;have hpost:∀ e w',kL w0 ⟨uC.mu,uC.E0,uC.om,[]⟩ ρ K e w'\/nN uC.om w0 ⟨uC.mu,uC.E0,uC.om,[]⟩ ρ e w'->kL w0 uC ρ K e w'\/nN un.om w0 uC ρ e w':=by
  rintro e w' (⟨v,s,bA,E',ρ',rfl,h1,h2,h3,h4⟩|⟨c,q,v,bA,E',ρ',rfl,h1,h2,h3⟩)
  ·exact .inl ⟨v,s,bA,E',ρ',rfl,h1,h2,Rel.cast (mu:=⟨uC.mu,uC.E0,uC.om,[]⟩) rfl rfl h3,h4⟩
  ·exact .inr ⟨c,QC.1.1 ▸ q,v,bA,E',ρ',rfl,h1,Rel.cast (mu:=⟨uC.mu,uC.E0,uC.om,[]⟩) rfl rfl h2,h3⟩
 refine Calls.mono ?_ hpost;have hO:mL w0 ⟨uC.mu,uC.E0,uC.om,[]⟩:=QC.2;have pN:=QC.1;generalize Jm:(⟨uC.mu,uC.E0,uC.om,[]⟩:Fm)=mu at *;have hds:mu.ds=[]:=by rw [← Jm]
 have hmo:uC.om=mu.om:=by rw [← Jm]
 rw [hmo];have QU:mu.om=un.om/\xJ un.om ρ:=by rw [← Jm];exact pN
 unfold wy at h;split at h;case h_2=>exact h.elim
 rename_i c hc;split at h;case isFalse=>exact h.elim
 rename_i hle;have LX:mu.om.isSome=true->fn.results.toList=[]:=λq=>by
  have h2:=hle.2;rw [QU.1] at q
  cases ho:un.om with
  | none=>rw [ho] at q;cases q
  | some c=>rw [ho] at h2;simpa using h2
 have hle:=hle.1;refine (callsIn_wide (n:=0)).1 (callsIn_of_wp_marks hf hc trivial (Code.wpIn_mono (AI hds LX) (gX (ro:=none) (inl:=inl) (un:={ un with base:=bx.length,vJ:=false }) dP hm (λ_=>rfl) c _ w0 mu ρ _ w (Nat.le_of_eq hR.len) QU ⟨⟨hds.symm,hO⟩,_,ρ,List.prefix_refl _,?_,?_,h⟩)))
 ·exact hR
 ·have hl:=bN hd;refine ⟨by simp;omega,λi s hs=>?_⟩;simp only at hs ⊢;by_cases hi:i<args.length
  ·rw [List.getElem?_append_left (by simpa using hi),List.getElem?_map] at hs
   cases Vr:args[i]? with
   | none=>rw [Vr] at hs;cases hs
   | some s'=>
    rw [Vr] at hs;simp only [Option.map_some,Option.some.injEq] at hs;subst hs;obtain ⟨v,h1,h2⟩:=kJ hd Vr;exact ⟨v,by rw [Array.getElem?_append_left (by simp;omega)];simpa using h1,h2⟩
  ·rw [List.getElem?_append_right (by simpa using Nat.le_of_not_lt hi)] at hs;have:=List.mem_of_getElem? hs;simp at this
structure bX (C:Cx):Prop where
 jN:jm C.P C.jN
 wide:C.P.follows .mixedOrders=true
 inl:∀ f fn,C.inl f=true->C.P.funcs[f]? =some fn->yb fn
 eY:∀ f args bx E K,C.eY f args bx E K->aj C.P f args bx E K
 JM:∀ c args bx E K,C.opt.om=some c->C.JM args bx E K->Ar (some c) C.P args bx E K:=by intro c args bx E K h;cases h
theorem wK (hC:bX C):ja C.opt.om C.P (Ef C):=by
 intro f args bx E K h;unfold Ef at h;split at h
 ·rename_i hf;rw [if_pos hf]
  cases hc:C.opt.om with
  | none=>rw [hc] at h;exact h.elim
  | some c=>rw [hc] at h;exact hC.JM c args bx E K hc h
 rename_i hf;rw [if_neg hf];split at h
 ·exact hC.eY f args bx E K h
 ·intro w0 mu ρ w vs hR hd;obtain ⟨args',FY,E2,h1,h2,h3⟩:=lV 16 args bx E vs h hR hd;exact (gy.call (bx:=FY) (hC.jN f args' E2 _ h3)) w0 mu ρ w vs h2 h1
theorem QV (C:Cx):C.FD.P=C.P:=by unfold Cx.FD;split<;>rfl
theorem NJ (C:Cx):C.FD.opt.om=none:=by unfold Cx.FD;split<;>simp_all
theorem bX.FD (hC:bX C):bX C.FD:=by
 unfold Cx.FD;split
 ·exact hC
 ·exact ⟨hC.jN,hC.wide,hC.inl,hC.eY,λc args bx E K h=>by cases h⟩
theorem jc:∀ (n:Nat) {C:Cx},bX C->ja C.opt.om C.P (rf C n)
 | 0,C,hC,f,args,bx,E,K,h=>wK hC f args bx E K h
 | n+1,C,hC,f,args,bx,E,K,h=>by
  unfold rf at h;split at h
  ·rename_i hi;simp only [Bool.and_eq_true,bne_iff_ne] at hi;split at h
   ·rename_i fn hf;have h1:ja none C.P (rf C.FD n):=by
     have:=jc n hC.FD;rw [QV,NJ] at this;exact this
    rw [if_neg hi.2];exact (oH (un:={ C.opt with vq:=[],om:=none }) h1 hC.wide hf (hC.inl f fn hi.1 hf) h).out
   ·exact h.elim
  ·exact wK hC f args bx E K h
def ej (C:Cx) (n:Nat) (fn:Func) (args:List SV) (bx:List aR) (E:Mem) (K:KT):Prop:=wB C.P (lZ C n) C.eo C.opt fn args bx E K
def mm (C:Cx) (n:Nat) (fn:Func) (args:List SV) (E:Mem) (K:SV->Mem->Prop):Prop:=wB C.P (lZ C n) C.eo C.opt fn args [] E (aW E K)
def Lp (C:Cx) (n:Nat) (fn:Func) (p:List Nat) (n0:Nat) (K:KT) (S:St):Prop:=
 kM C.P C.opt.om n0 (sub (jq fn) (p++[0])) (gW C.P (lZ C n) C.eo { C.opt with base:=n0 } (jq fn) p (ri C.P fn K)) S
def jO (C:Cx) (n:Nat) (fn:Func) (p:List Nat) (n0:Nat) (K:KT) (S:St):Prop:=
 kr C.P (lZ C n) C.eo { C.opt with base:=n0 } (sub (jq fn) (p++[0])) (λe S'=>match e with
  | .normal=>Eg (S'.forget (pY C.opt (sub (jq fn) (p++[0])))) (Lp C n fn p n0 K)
  | .exit id=>gW C.P (lZ C n) C.eo { C.opt with base:=n0 } (jq fn) p (ri C.P fn K) (.exit id) S'
  | .ret=>gW C.P (lZ C n) C.eo { C.opt with base:=n0 } (jq fn) p (ri C.P fn K) .ret S') S
def Ct (C:Cx) (n:Nat) (fn:Func) (p:List Nat) (n0:Nat) (K:KT) (S:St):Prop:=
 rE C.P C.opt.om n0 (sub (jq fn) p) (gW C.P (lZ C n) C.eo { C.opt with base:=n0 } (jq fn) p (ri C.P fn K)) S
def Pc (C:Cx) (n:Nat) (fn:Func) (p:List Nat) (n0:Nat) (K:KT) (S:St):Prop:=
 kr C.P (lZ C n) C.eo { C.opt with base:=n0 } (sub (jq fn) p) (gW C.P (lZ C n) C.eo { C.opt with base:=n0 } (jq fn) p (ri C.P fn K)) S
theorem ej.Vs (hC:bX C) (hf:C.P.funcs[f]? =some fn) (hok:yb fn) {K:KT}
  (h:ej C n fn args bx E K):pT C.opt.om C.P f args bx E K:=by
 unfold ej at h;rw [tN,qe] at h;exact oH (jc n hC) hC.wide hf hok h
theorem ej.sem (hC:bX C) (hf:C.P.funcs[f]? =some fn) (hok:yb fn) {K:KT}
  (h:ej C n fn args bx E K) (ho:C.opt.om=none:=by rfl):aj C.P f args bx E K:=by
 have:=ej.Vs hC hf hok h;rw [ho] at this;exact this.out
theorem mm.sem (hC:bX C) (hf:C.P.funcs[f]? =some fn) (hok:yb fn) {vs:Lv} {K:SV->Mem->Prop}
  (hv:SV.fY args=some vs) (h:mm C n fn args E K) (ho:C.opt.om=none:=by rfl):gy C.P f args E K:=by
 unfold mm at h;rw [tN,qe] at h;have:=oH (jc n hC) hC.wide hf hok h;rw [ho] at this;exact gy.intro hv this
theorem cu (hC:bX C) {K:KT} {ι:Type} (Sh:ι->St) (μ:ι->Nat)
  (h:∀ i,(∀ j,μ j<μ i->Lp C n fn p n0 K (Sh j))->jO C n fn p n0 K (Sh i)):∀ i,Lp C n fn p n0 K (Sh i):=by
 simp only [Lp,jO,lY,qe,AA,jv,lX] at h ⊢;exact Eo (jc n hC) hC.wide (inl:=C.eo) (un:={ C.opt with base:=n0 }) Sh μ h
theorem eE (hC:bX C) {K:KT} (h:Pc C n fn p n0 K S):Ct C n fn p n0 K S:=by
 unfold Pc at h;rw [jv] at h;have h2:gP C.P (rf C n) C.eo { C.opt with base:=n0 } (sub (jq fn) p) (gW C.P (lZ C n) C.eo { C.opt with base:=n0 } (jq fn) p (ri C.P fn K)) S:=by rw [qe C n] at h ⊢;exact h
 exact wJ (jc n hC) hC.wide (inl:=C.eo) (un:={ C.opt with base:=n0 }) h2
theorem QW {K:KT} {T:St} (τ:vK) (hw:S.wk n0 τ T) (h:Ct C n fn p n0 K T):Ct C n fn p n0 K S:=JU hw h
theorem JV {K:KT} {T:St} (hw:S.JS T) (h:Lp C n fn p n0 K T):Lp C n fn p n0 K S:=rH hw h
theorem QX {K:KT} {T:St} (τ:vK) (hw:S.wk n0 τ T) (h:Lp C n fn p n0 K T):Lp C n fn p n0 K S:=Gn hw h
theorem same {p q:Prop} (e:p=q) (h:q):p:=e.mpr h
attribute [irreducible] mm ej Lp jO Ct Pc
end
end Go.Sx
namespace Go.Sx
open Go
variable {C:Cx}
section
variable {P:Program} {ak:cK}
end
theorem bX.four (h1:jm C.P C.jN) (h2:C.P.follows .mixedOrders=true) (h3:∀ f fn,C.inl f=true->C.P.funcs[f]? =some fn->yb fn) (h4:∀ f args bx E K,C.eY f args bx E K->aj C.P f args bx E K) (ho:C.opt.om=none:=by rfl):bX C:=
 ⟨h1,h2,h3,h4,λc args bx E K h=>by rw [ho] at h;cases h⟩
end Go.Sx
namespace Go.Sx
open Go.RowKit (Below)
open Go.ChangeShapes
variable {n:Nat} {f:FuncId} {fn:Func}
def kI (P:Program) (W:World):Nat->TypeId->Lv->Prop
 | 0,_,_=>True
 | n+1,T,cs=>
  match P.underlying T with
  | some (.int k)=>∃ z:Int,cs=[.int k z]/\(Lit.int k z).wf=true
  | some .bool=>∃ b:Bool,cs=[.bool b]
  | some .string=>∃ s:ByteArray,cs=[.string s]/\s.size<=maxLen
  | some (.slice e)=>∃ (base:Oa) (len cap:Nat) (rows:List Lv),cs=[.slice base len cap]/\len<=cap/\cap<=maxLen/\(base=none->cap=0)/\rows.length=cap/\
    dV W (.slice base len cap) rows.flatten/\∀ r∈rows,r.length=P.cellsOf e/\kI P W n e r
  | some (.struct fs)=>cs.length=P.cellsOf T/\∀ f∈fs.toList,kI P W n f.type ((cs.drop f.offset).take (P.cellsOf f.type))
  | some (.array k e)=>cs.length=P.cellsOf T/\∀ i,i<k->kI P W n e ((cs.drop (i*P.cellsOf e)).take (P.cellsOf e))
  | _=>True
section
variable {H:Type} {enc:TypeId×Value->H} {P:Program} {W:World} {base b0:Nat} {held:Bool}
theorem wL {a:Addr} {r:Lv} (h:W.cells? base a n=some r):r.length=n/\∀ i x,r[i]? =some x->W.cell? (a.add i)=some x:=by
 unfold World.cells? at h;split at h;case isFalse=>cases h
 have hl:=mapM_some_length h;simp at hl;refine ⟨hl,λi x hx=>?_⟩;have hi:i<n:=by
  rw [← hl];rcases Nat.lt_or_ge i r.length with h'|h'
  ·exact h'
  ·rw [List.getElem?_eq_none h'] at hx;cases hx
 rw [mapM_some_get h i i (by simp [hi]),hx]
theorem JW (a:Addr) (i j:Nat):(a.add i).add j=a.add (i+j):=by
 cases a with
 | mk b o s=>
  unfold Addr.add;split<;>split<;>simp_all<;>omega
theorem zC {a:Addr} {x:Value} (h:W.cell? a=some x):a.spot=none:=by
 unfold World.cell? at h;split at h
 ·split at h
  ·cases h
  ·rename_i hs;simpa using hs
 ·cases h
theorem uD {m:Nat}:∀ {rows:List Lv} (_:∀ r∈rows,r.length=m) {i:Nat} {x:Value},rows.flatten[i]? =some x->∃ r j,rows[i / m]? =some r/\j=i % m/\r[j]? =some x
 | [],_,i,x,h=>by simp at h
 | r::rows,hm,i,x,h=>by
  have hr:r.length=m:=hm r (by simp);rw [List.flatten_cons] at h;by_cases hi:i<m
  ·rw [List.getElem?_append_left (by omega)] at h;exact ⟨r,i,by rw [Nat.div_eq_of_lt hi];rfl,(Nat.mod_eq_of_lt hi).symm,h⟩
  ·rw [List.getElem?_append_right (by omega),hr] at h;obtain ⟨r',j,h1,h2,h3⟩:=uD (λr h=>hm r (by simp [h])) h;have hm0:0<m:=by
    rcases Nat.eq_zero_or_pos m with e|e
    ·subst e;exfalso;have hz:rows.flatten=[]:=by
      rw [List.flatten_eq_nil_iff];intro q hq;exact List.eq_nil_of_length_eq_zero (hm q (by simp [hq]))
     rw [hz] at h;simp at h
    ·exact e
   refine ⟨r',j,?_,?_,h3⟩
   ·rw [Nat.div_eq_sub_div hm0 (by omega),List.getElem?_cons_succ];exact h1
   ·rw [h2];exact (Nat.mod_eq_sub_mod (by omega)).symm
theorem sL:∀ (n fuel:Nat) (T:TypeId) (cs:Lv) (x:DataW H×List MemPlace),DataW.trod enc P W base (λ_=>true) held fuel T cs=some x->kI P W n T cs
 | 0,_,_,_,_,_=>trivial
 | n+1,fuel,T,cs,x,h=>by
  unfold kI;split
  ·rename_i k ht;obtain ⟨z,h1,_,h2⟩:=DataW.trod_int ht h;exact ⟨z,h1,h2⟩
  ·rename_i ht;obtain ⟨b,h1,_⟩:=DataW.trod_bool ht h;exact ⟨b,h1⟩
  ·rename_i ht;obtain ⟨s,h1,_,h2⟩:=DataW.trod_string ht h;exact ⟨s,h1,h2⟩
  ·rename_i e ht;rcases DataW.trod_slice ht h with ⟨h1,_⟩|⟨a,len,cap,elems,rest,m,_,h1,_,hb,hl,hm,hlen,hel,hsp,_⟩
   ·exact ⟨none,0,0,[],h1,Nat.le_refl _,Nat.zero_le _,λ_=>rfl,rfl,.inl rfl,by simp⟩
   ·obtain ⟨hrl,hre⟩:=hsp rfl;have each:∀ i,i<cap->∃ r,W.cells? base (a.add (i*P.cellsOf e)) (P.cellsOf e)=some r/\∃ y,DataW.trod enc P W base (λ_=>true) held m e r=some y:=by
     intro i hi;have :∃ y,(W.cells? base (a.add (i*P.cellsOf e)) (P.cellsOf e)).bind (DataW.trod enc P W base (λ_=>true) held m e)=some y:=by
      by_cases P6:i<len
      ·exact ⟨_,by rw [hel i P6,List.getElem?_eq_getElem (by omega)]⟩
      ·obtain ⟨j,rfl⟩:∃ j,i=len+j:=⟨i-len,by omega⟩;exact ⟨_,by rw [hre j (by omega),List.getElem?_eq_getElem (by omega)]⟩
     obtain ⟨y,hy⟩:=this;simp only [Option.bind_eq_some_iff] at hy;obtain ⟨r,h2,h3⟩:=hy;exact ⟨r,h2,y,h3⟩
    let row (i:Nat):Lv:=(W.cells? base (a.add (i*P.cellsOf e)) (P.cellsOf e)).getD [];have hrow:∀ r∈(List.range cap).map row,r.length=P.cellsOf e/\∃ i,i<cap/\W.cells? base (a.add (i*P.cellsOf e)) (P.cellsOf e)=some r:=by
     intro r hr;obtain ⟨i,hi,rfl⟩:=List.mem_map.mp hr;simp at hi;obtain ⟨r,h2,_⟩:=each i hi;have :row i=r:=by simp only [row,h2,Option.getD_some]
     rw [this];exact ⟨(wL h2).1,i,hi,h2⟩
    refine ⟨some a,len,cap,(List.range cap).map row,h1,hl,hm,(λh=>by cases h),by simp,?_,?_⟩
    ·have hcell:∀ i x,((List.range cap).map row).flatten[i]? =some x->W.cell? (a.add i)=some x:=by
      intro i x hx;obtain ⟨r,j,h2,h3,h4⟩:=uD (m:=P.cellsOf e) (λr hr=>(hrow r hr).1) hx;have hi:i / P.cellsOf e<cap:=by
       rcases Nat.lt_or_ge (i / P.cellsOf e) cap with h'|h'
       ·exact h'
       ·rw [List.getElem?_eq_none (by simpa using h')] at h2;cases h2
      obtain ⟨r',h5,_⟩:=each _ hi;have :r=r':=by simp [hi] at h2;rw [← h2];simp only [row,h5,Option.getD_some]
      subst this;have:=(wL h5).2 j x h4;rw [JW,h3] at this;rw [show i / P.cellsOf e*P.cellsOf e+i % P.cellsOf e=i by rw [Nat.mul_comm];exact Nat.div_add_mod i _] at this;exact this
     rcases hf:((List.range cap).map row).flatten with _|⟨x,xs⟩
     ·exact .inl rfl
     ·rw [← hf];have h0:=hcell 0 x (by rw [hf];rfl);have hs:a.spot=none:=by
       have:=zC h0
       cases a with
       | mk b o s=>
        unfold Addr.add at this;split at this<;>simp_all
      exact .inr ⟨a,len,cap,rfl,hs,λi x hx=>by rw [← add_eq hs];exact hcell i x hx⟩
    ·intro r hr;obtain ⟨h2,i,hi,h3⟩:=hrow r hr;obtain ⟨r',h4,y,h5⟩:=each i hi;rw [h3] at h4;cases h4;exact ⟨h2,sL n m e r y h5⟩
  ·rename_i fs ht;obtain ⟨xs,m,_,_,hl,hlen,hf⟩:=DataW.trod_struct ht h;refine ⟨hl,λf hfm=>?_⟩;obtain ⟨i,hi,he⟩:=List.getElem_of_mem hfm;have hi':i<fs.size:=by simpa using hi
   have:=hf i f (by rw [Array.getElem?_eq_getElem hi'];simpa using he);rw [List.getElem?_eq_getElem (by omega)] at this;exact sL n m _ _ _ this
  ·rename_i k e ht;obtain ⟨xs,m,_,_,hl,hlen,hf⟩:=DataW.trod_array ht h;refine ⟨hl,λi hi=>?_⟩;have:=hf i hi;rw [List.getElem?_eq_getElem (by omega)] at this;exact sL n m _ _ _ this
  ·trivial
def Aj (P:Program) (W:World):Nat->TypeId->(Lv->Prop)->Prop
 | 0,_,_=>False
 | n+1,T,K=>
  match P.underlying T with
  | some (.int k)=>∀ z:Int,(Lit.int k z).wf=true->K [.int k z]
  | some .bool=>∀ b:Bool,K [.bool b]
  | some .string=>∀ s:ByteArray,s.size<=maxLen->K [.string s]
  | some (.slice e)=>match P.underlying e with
   | some (.int k)=>∀ (base:Oa) (len cap:Nat) (zs:Li),len<=cap->cap<=maxLen->(base=none->cap=0)->zs.length=cap->(∀ z∈zs,(Lit.int k z).wf=true)->
     dV W (.slice base len cap) (zs.map (.int k))->K [.slice base len cap]
   | _=>∀ (base:Oa) (len cap:Nat) (rows:List Lv),len<=cap->cap<=maxLen->(base=none->cap=0)->rows.length=cap->
     dV W (.slice base len cap) rows.flatten->(∀ r∈rows,r.length=P.cellsOf e/\kI P W 12 e r)->K [.slice base len cap]
  | some (.struct fs)=>Gp (λt=>Aj P W n t) 0 (P.cellsOf T) fs.toList K
  | some (.array k e)=>if P.cellsOf T=k*P.cellsOf e then elts (λt=>Aj P W n t) e k K else False
  | _=>∀ cs,K cs
where
 Gp (r:TypeId->(Lv->Prop)->Prop):Nat->Nat->List Field->(Lv->Prop)->Prop
  | off,tot,[],K=>if off=tot then K [] else False
  | off,tot,f::fs,K=>if f.offset=off then r f.type λc=>Gp r (off+P.cellsOf f.type) tot fs λcs=>K (c++cs) else False
 elts (r:TypeId->(Lv->Prop)->Prop) (e:TypeId):Nat->(Lv->Prop)->Prop
  | 0,K=>K []
  | k+1,K=>r e λc=>elts r e k λcs=>K (c++cs)
theorem sM {W:World} {e:TypeId} {k:IntKind} (he:P.underlying e=some (.int k)):∀ {rows:List Lv} (_:∀ r∈rows,kI P W 1 e r),∃ zs:Li,rows.flatten=zs.map (.int k)/\zs.length=rows.length/\∀ z∈zs,(Lit.int k z).wf=true
 | [],_=>⟨[],rfl,rfl,by simp⟩
 | r::rows,h=>by
  obtain ⟨zs,h1,h2,h3⟩:=sM he (rows:=rows) (λr hr=>h r (by simp [hr]));have:=h r (by simp);simp only [kI,he] at this;obtain ⟨z,rfl,hz⟩:=this;exact ⟨z::zs,by simp [h1],by simp [h2],λy hy=>by
   rcases List.mem_cons.mp hy with rfl|hy
   ·exact hz
   ·exact h3 y hy⟩
theorem wM {n:Nat} {cs:Lv} (ih:∀ T K c,Aj P W n T K->(∀ m,kI P W m T c)->K c):∀ (fs:List Field) (off:Nat) (K:Lv->Prop),
  (∀ f∈fs,∀ m,kI P W m f.type ((cs.drop f.offset).take (P.cellsOf f.type)))->Aj.Gp P (λt=>Aj P W n t) off cs.length fs K->K (cs.drop off)
 | [],off,K,_,h=>by
  simp only [Aj.Gp] at h;split at h
  ·subst_vars;simpa using h
  ·exact h.elim
 | f::fs,off,K,hs,h=>by
  simp only [Aj.Gp] at h;split at h;case isFalse=>exact h.elim
  rename_i ho;subst ho;have h1:=ih _ _ _ h (hs f (by simp));have h2:=wM ih fs _ _ (λg hg=>hs g (by simp [hg])) h1;rw [← List.drop_drop,List.take_append_drop] at h2;exact h2
theorem wN {n:Nat} {e:TypeId} {cs:Lv} (ih:∀ T K c,Aj P W n T K->(∀ m,kI P W m T c)->K c):∀ (k i:Nat) (K:Lv->Prop),
  cs.length=(i+k)*P.cellsOf e->(∀ j,j<k->∀ m,kI P W m e ((cs.drop ((i+j)*P.cellsOf e)).take (P.cellsOf e)))->Aj.elts (λt=>Aj P W n t) e k K->K (cs.drop (i*P.cellsOf e))
 | 0,i,K,hl,_,h=>by simp only [Aj.elts] at h;rw [List.drop_eq_nil_of_le (by rw [hl];simp)];exact h
 | k+1,i,K,hl,hs,h=>by simp only [Aj.elts] at h;have h1:=ih _ _ _ h (hs 0 (by omega));have h2:=wN ih k (i+1) _ (by rw [hl];congr 1;omega) (λj hj=>by have:=hs (j+1) (by omega);rwa [show i+(j+1)=i+1+j by omega] at this) h1;rw [Nat.add_zero,Nat.add_mul,Nat.one_mul,← List.drop_drop,List.take_append_drop] at h2;exact h2
theorem qG:∀ (n:Nat) (T:TypeId) (K:Lv->Prop) (cs:Lv),Aj P W n T K->(∀ m,kI P W m T cs)->K cs
 | 0,_,_,_,h,_=>h.elim
 | n+1,T,K,cs,h,hs=>by
  obtain ⟨k0,Vt⟩:∃ k0,k0=12:=⟨_,rfl⟩;have h0:=hs (k0+1);unfold Aj at h
  try rw [← Vt] at h
  simp only [kI] at h0;split at h
  ·rename_i k ht;simp only [ht] at h0;obtain ⟨z,rfl,hz⟩:=h0;exact h z hz
  ·rename_i ht;simp only [ht] at h0;obtain ⟨z,rfl⟩:=h0;exact h z
  ·rename_i ht;simp only [ht] at h0;obtain ⟨z,rfl,hz⟩:=h0;exact h z hz
  ·rename_i e ht;simp only [ht] at h0;obtain ⟨base,len,cap,rows,rfl,h1,h2,h3,h4,h5,h6⟩:=h0;split at h
   ·rename_i k he;subst Vt;obtain ⟨zs,g1,g2,g3⟩:=sM (W:=W) he (rows:=rows) (λr hr=>by
     have :kI P W (11+1) e r:=(h6 r hr).2;unfold kI at this ⊢;rw [he] at this ⊢;exact this)
    rw [g1] at h5;exact h base len cap zs h1 h2 h3 (by omega) g3 h5
   ·subst Vt;exact h base len cap rows h1 h2 h3 h4 h5 h6
  ·rename_i fs ht;simp only [ht] at h0;rw [← h0.1] at h;have:=wM (cs:=cs) (qG n) fs.toList 0 K (λf hf m=>by
    have:=hs (m+1);simp only [kI,ht] at this;exact this.2 f hf) h
   simpa using this
  ·rename_i k e ht;simp only [ht] at h0;split at h;case isFalse=>exact h.elim
   rename_i hsz;have:=wN (cs:=cs) (qG n) k 0 K (by rw [h0.1,hsz];simp) (λj hj m=>by have:=hs (m+1);simp only [kI,ht] at this;rw [Nat.zero_add];exact this.2 j hj) h
   simpa using this
  ·exact h cs
def mq (P:Program) (W:World):List TypeId->(List SV->Prop)->Prop
 | [],K=>K []
 | T::Ts,K=>
  match P.underlying T with
  | some (.struct _)|some (.array ..)=>Aj P W 12 T λcs=>mq P W Ts λss=>K (.agg (cs.map .raw)::ss)
  | some .bool|some (.int _)|some .string|some (.slice _)=>Aj P W 12 T λcs=>match cs with
   | [v]=>mq P W Ts λss=>K (.raw v::ss)
   | _=>False
  | _=>∀ v,mq P W Ts λss=>K (.raw v::ss)
theorem qH:∀ (cs:Lv),SV.fY (cs.map .raw)=some cs
 | []=>rfl
 | c::cs=>by simp [SV.fY,SV.val,qH cs]
theorem sN:∀ {Ts:List TypeId} {vs:Lv} {ds:List (DataW H)} {ps:List MemPlace} {K:List SV->Prop},DataW.TrodAll enc P W base (λ_=>true) held Ts vs ds ps->
  (∀ (j:Nat) t v,Ts[j]? =some t->vs[j]? =some v->Value.okWide P W .any b0 t v)->mq P W Ts K->∃ ss,SV.fY ss=some vs/\K ss
 | [],vs,ds,ps,K,h,_,hk=>by obtain ⟨rfl,rfl,rfl⟩:=trodAll_nil h;exact ⟨[],rfl,hk⟩
 | T::Ts,vs,ds,ps,K,h,hok,hk=>by
  obtain ⟨v,vs,d,ds,p,q,rfl,rfl,rfl,⟨fuel,h1⟩,h2⟩:=trodAll_cons h;have Ep:∀ m,kI P W m T v.cells.toList:=λm=>sL m _ _ _ _ h1;have hv:=hok 0 T v rfl rfl;have kO:∀ K',mq P W Ts K'->∃ ss,SV.fY ss=some vs/\K' ss:=λK' hk'=>sN h2 (λj t v ht hv=>hok (j+1) t v (by simpa using ht) (by simpa using hv)) hk';have Er:(∃ cs,v= .agg cs)->(Aj P W 12 T λcs=>mq P W Ts λss=>K (.agg (cs.map .raw)::ss))->∃ ss,SV.fY ss=some (v::vs)/\K ss:=by rintro ⟨cs,rfl⟩ hk;have:=qG 12 T _ _ hk Ep;obtain ⟨ss,h3,h4⟩:=kO _ this;exact ⟨_,by simp [SV.fY,SV.val,qH,h3,Value.cells],h4⟩
  have hone:v.cells= #[v]->(Aj P W 12 T λcs=>match cs with
   | [v]=>mq P W Ts λss=>K (.raw v::ss)
   | _=>False)->∃ ss,SV.fY ss=some (v::vs)/\K ss:=by
   intro hc hk;have:=qG 12 T _ _ hk Ep;rw [hc] at this;obtain ⟨ss,h3,h4⟩:=kO _ this;exact ⟨_,by simp [SV.fY,SV.val,h3],h4⟩
  simp only [mq] at hk;simp only [Value.okWide] at hv;split at hk
  ·rename_i fs ht;simp only [ht] at hv;exact Er ⟨_,hv.choose_spec.1⟩ hk
  ·rename_i n e ht;simp only [ht] at hv;exact Er ⟨_,hv.choose_spec.1⟩ hk
  ·rename_i ht;simp only [ht,Cell.okWide,Cell.ok] at hv;refine hone ?_ hk;clear hk hone Er kO Ep h1 h2 hok
   cases v<;>simp_all [Value.cells]
  ·rename_i k ht;simp only [ht,Cell.okWide,Cell.ok] at hv;refine hone ?_ hk;clear hk hone Er kO Ep h1 h2 hok
   cases v<;>simp_all [Value.cells]
  ·rename_i ht;simp only [ht,Cell.okWide,Cell.ok] at hv;refine hone ?_ hk;clear hk hone Er kO Ep h1 h2 hok
   cases v<;>simp_all [Value.cells]
  ·rename_i e ht;simp only [ht,Cell.okWide,Cell.ok] at hv;refine hone ?_ hk;clear hk hone Er kO Ep h1 h2 hok
   cases v<;>simp_all [Value.cells]
  ·obtain ⟨ss,h3,h4⟩:=kO _ (hk v);exact ⟨_,by simp [SV.fY,SV.val,h3],h4⟩
theorem rq {W':World} (hl:laidOutB P=true) (hb:Below W.heap.size W W'):∀ {Ts:List TypeId} {vs:Lv} {ds:List (DataW H)} {ps:List MemPlace},(Ts.all λt=>P.readableRec t&&decide (t<P.types.size))=true->
  DataW.TrodAll enc P W 0 (λ_=>true) true Ts vs ds ps->DataW.TrodAll enc P W' 0 (λb=>decide (b<W.heap.size)) true Ts vs ds ps
 | [],vs,ds,ps,_,h=>by obtain ⟨rfl,rfl,rfl⟩:=trodAll_nil h;exact trodAll_mk0
 | T::Ts,vs,ds,ps,hr,h=>by
  obtain ⟨v,vs,d,ds,p,q,rfl,rfl,rfl,h1,h2⟩:=trodAll_cons h;simp only [List.all_cons,Bool.and_eq_true,decide_eq_true_eq] at hr;have lt:∀ x∈p,x.block<W.heap.size:=by obtain ⟨m,hm⟩:=h1;exact DataW.trod_lt m _ _ _ hm
  exact trodAll_cons_mk (Below.trod hl hr.1.1 hr.1.2 h1 hb lt) (rq hl hb (by simpa using hr.2) h2)
theorem uE:∀ {Ts:List TypeId} {vs:Lv} {ds:List (DataW H)} {ps:List MemPlace} {sp:Nat->Bool},DataW.TrodAll enc P W base sp held Ts vs ds ps->ds.length=Ts.length
 | [],_,_,_,_,h=>by obtain ⟨_,rfl,_⟩:=trodAll_nil h;rfl
 | T::Ts,_,_,_,_,h=>by obtain ⟨_,_,_,_,_,_,_,rfl,_,_,h2⟩:=trodAll_cons h;simp [uE h2]
end
theorem Es {C:Checked} {os:Os} {s:ChangeSpec} {conds:List PathCond} {H:Type} {enc:TypeId×Value->H}
  (own:ownKnob C.prog.godebug=none) (lay:laidOutB C.prog=true) (started:os.Started) (noInit:C.prog.inits.idxOf? f=none) (hfn:C.prog.funcs[f]? =some fn)
  (witness:∃ (w:World) (tape:Tape) (i:Input),w.os=os/\(w.forCall tape i).Shaped C.prog/\i.vars=[]/\Input.okWide C.prog (w.forCall tape i) .any w.heap.size f i/\
   s.pre6 enc C.prog fn conds false (w.forCall tape i).memory i.args/\({}:Assume).holds C.prog (lone (Frame.enter C.prog f i.args .normal) [] (w.forCall tape i)))
  {Tb:TypeId} (hres:fn.resultTypes= #[Tb]) (hTb:C.prog.underlying Tb=some .bool) (QY:(fn.params.toList.all λt=>C.prog.readableRec t&&decide (t<C.prog.types.size))=true)
  (hvars:s.vars=[]) (QZ:∀ (ds:List (DataW H)),ds.length=fn.params.toList.length->(s.fn H ds).results=[.lit (.bool true)]/\(s.fn H ds).args=ds/\(s.fn H ds).vars=[])
  (sem:∀ W,mq C.prog W fn.params.toList λss=>gy C.prog f ss (λv cs=>dV W v cs) λr _=>r= .raw (.bool true)):
  ReturnsInHanded {} C os f .any (s.pre6 enc C.prog fn conds false) (s.post enc C.prog fn false true false false):=by
 refine returnsInHanded_of_change own started noInit hfn witness ?_;intro W base args ds gs before hval hW _ _;have hW':=hW;obtain ⟨p,q,hA,hV,rfl,hfz,hnd⟩:=hW;rw [hvars] at hV;obtain ⟨rfl,rfl⟩:=trodVars_none hV;obtain ⟨ss,h1,h2⟩:=sN (b0:=base) hA (λj t v ht hv=>hval j t v (by simpa using ht) (by simpa using hv)) (sem W);obtain ⟨TK,vs,h3,h4⟩:=h2;rw [h1] at h3;obtain rfl:=Option.some.inj h3;refine (h4 W (λv cs h=>h)).mono λe W' he=>?_;obtain ⟨v,r,E',rfl,hr,hk,_,_,_,rfl⟩:=he;simp only [SV.val,Option.some.injEq] at hr;subst hr;obtain ⟨e1,e2,e3⟩:=QZ (ds++[]) (by simpa using uE hA);refine ⟨_,rfl,ds,[],_,[],p,[],hW',?_,?_,?_,hk.below.frame _,λh=>by cases h⟩
 ·rw [e1,hres];exact trodAll_mk1 (Go.RowKit.shut_bool hTb true)
 ·rw [e2,List.append_nil];exact rq lay hk.below QY hA
 ·rw [e3,hvars];rfl
end Go.Sx
namespace Go.Sx
variable {P:Program} {bx:List aR} {E' E:Mem} {n n0:Nat} {fn:Func} {p:List Nat} {C:Cx} {fr:List (Option SV)} {x:SV} {l args:List SV} {f:FuncId}
abbrev I (n:Int):SV:=.raw (.int .i64 n)
abbrev B (b:Bool):SV:=.raw (.bool b)
abbrev L (b:Oa) (l c:Nat):SV:=.raw (.slice b l c)
theorem wrap_i64 {x:Int} (h: -9223372036854775808<=x/\x<=9223372036854775807):IntKind.wrap .i64 x=x:=Go.IntWalk.i64_in x h
def NK (P:Program) (l:List FuncId):Bool:=l.all λf=>match P.funcs[f]? with
 | some fn => !(fn.name == "runtime.NumGoroutine") && !fn.body.isNone
 | none=>true
theorem dN {l:List FuncId} (h:NK P l=true) (f:FuncId) (fn:Func) (hf:(λf=>l.contains f) f=true) (hfn:P.funcs[f]? =some fn):yb fn:=by
 have hm:f∈l:=by simpa using hf
 have:=List.all_eq_true.mp h f hm;rw [hfn] at this;simpa [yb] using this
def wO:List (Option SV)->List (Option SV)->Prop
 | [],[]=>True
 | _::xs,none::ys=>wO xs ys
 | some x::xs,some y::ys=>x=y/\wO xs ys
 | _,_=>False
theorem oJ:∀ {xs ys:List (Option SV)},wO xs ys->xs.length=ys.length/\∀ (i:Nat) s,ys[i]? =some (some s)->xs[i]? =some (some s)
 | [],[],_=>⟨rfl,λi s h=>by simp at h⟩
 | x::xs,none::ys,h=>by
  have h':wO xs ys:=by cases x<;>exact h
  obtain ⟨h1,h2⟩:=oJ h';exact ⟨by simp [h1],λi s hs=>by cases i with
   | zero=>simp at hs
   | succ i=>simpa using h2 i s (by simpa using hs)⟩
 | some x::xs,some y::ys,h=>by
  obtain ⟨rfl,h'⟩:=h;obtain ⟨h1,h2⟩:=oJ h';exact ⟨by simp [h1],λi s hs=>by cases i with
   | zero=>simpa using hs
   | succ i=>simpa using h2 i s (by simpa using hs)⟩
 | [],_::_,h=>h.elim
 | none::_,some _::_,h=>h.elim
 | _::_,[],h=>by rename_i x _;cases x<;>exact h.elim
theorem qI {K:KT} {fr':List (Option SV)} (hw:wO fr fr') (h:Lp C n fn p n0 K ⟨fr',bx,E'⟩):Lp C n fn p n0 K ⟨fr,bx,E'⟩:=
 JV (S:=⟨fr,bx,E'⟩) (T:=⟨fr',bx,E'⟩) ⟨rfl,Mem.le_refl _,(oJ hw).1,(oJ hw).2⟩ h
def dI (x:SV) (k:Int->Prop):Prop:=match x with
 | .raw (.int .i64 n)=>k n
 | _=>False
theorem bQ {k:Int->Prop} (h:dI x k):∃ n,x=I n/\k n:=by
 unfold dI at h;split at h
 ·exact ⟨_,rfl,h⟩
 ·exact h.elim
def dS (x:SV) (k:Oa->Nat->Nat->Prop):Prop:=match x with
 | .raw (.slice b l c)=>k b l c
 | _=>False
theorem eZ {k:Oa->Nat->Nat->Prop} (h:dS x k):∃ b l c,x=L b l c/\k b l c:=by
 unfold dS at h;split at h
 ·exact ⟨_,_,_,rfl,h⟩
 ·exact h.elim
def dC (x:SV) (k:List SV->Prop):Prop:=match fN x with
 | some l=>k l
 | none=>False
theorem C7 {k:List SV->Prop} (h:dC x k):∃ l,fN x=some l/\k l:=by
 unfold dC at h;split at h
 ·exact ⟨_,by assumption,h⟩
 ·exact h.elim
theorem uF (h:fN x=some l):x.val=SV.val (.agg l):=by
 unfold fN at h;split at h
 ·simp only [Option.some.injEq] at h;subst h;rfl
 ·rename_i cs;simp only [Option.some.injEq] at h;subst h;simp only [SV.val,qH,Option.map_some]
 ·cases h
theorem gy.congr {args':List SV} {K:SV->Mem->Prop} (e:SV.fY args=SV.fY args') (h:gy P f args' E K):gy P f args E K:=
 ⟨h.1,let ⟨vs,h1,h2⟩:=h.2;⟨vs,e.trans h1,h2⟩⟩
theorem fH {y:SV} {m:List SV} (h:x.val=y.val) (h':SV.fY l=SV.fY m):SV.fY (x::l)=SV.fY (y::m):=by simp only [SV.fY,h,h']
def Hyp (p:Prop):Prop:=p
def d1 (l:List SV) (k:SV->Prop):Prop:=match l with
 | [a0]=>k a0
 | _=>False
theorem fO {k:SV->Prop} (h:d1 l k):∃ a0,l=[a0]/\k a0:=by
 unfold d1 at h;split at h
 ·exact ⟨_,rfl,h⟩
 ·exact h.elim
def d2 (l:List SV) (k:SV->SV->Prop):Prop:=match l with
 | [a0,a1]=>k a0 a1
 | _=>False
theorem ck {k:SV->SV->Prop} (h:d2 l k):∃ a0 a1,l=[a0,a1]/\k a0 a1:=by
 unfold d2 at h;split at h
 ·exact ⟨_,_,rfl,h⟩
 ·exact h.elim
def d3 (l:List SV) (k:SV->SV->SV->Prop):Prop:=match l with
 | [a0,a1,a2]=>k a0 a1 a2
 | _=>False
theorem qJ {k:SV->SV->SV->Prop} (h:d3 l k):∃ a0 a1 a2,l=[a0,a1,a2]/\k a0 a1 a2:=by
 unfold d3 at h;split at h
 ·exact ⟨_,_,_,rfl,h⟩
 ·exact h.elim
def d4 (l:List SV) (k:SV->SV->SV->SV->Prop):Prop:=match l with
 | [a0,a1,a2,a3]=>k a0 a1 a2 a3
 | _=>False
theorem ik {k:SV->SV->SV->SV->Prop} (h:d4 l k):∃ a0 a1 a2 a3,l=[a0,a1,a2,a3]/\k a0 a1 a2 a3:=by
 unfold d4 at h;split at h
 ·exact ⟨_,_,_,_,rfl,h⟩
 ·exact h.elim
inductive bp where
 | l
 | n (a b:bp)
def Alike:bp->Prop->Prop
 | .l,p=>p
 | .n a b,p=>Alike a p/\Alike b p
theorem alike {p:Prop} (h:p):∀ {t:bp},Alike t p
 | .l=>h
 | .n _ _=>⟨alike h,alike h⟩
end Go.Sx
namespace Go.Sx
open Go
variable {P:Program} {W:World} {v:Value} {S:St} {n n0:Nat} {fn:Func} {p:List Nat} {C:Cx}
def sO (P:Program):Nat->TypeId->Option (List TypeId)
 | 0,_=>none
 | n+1,T=>match P.underlying T with
  | some (.struct fs)=>match wP P (sO P n) 0 fs.toList with
   | some ts=>if ts.length=P.cellsOf T then some ts else none
   | none=>none
  | some (.array ..)=>none
  | _=>if P.cellsOf T=1 then some [T] else none
where
 wP (P:Program) (r:TypeId->Option (List TypeId)):Nat->List Field->Option (List TypeId)
  | _,[]=>some []
  | k,f::fs=>if f.offset=k then match r f.type with
    | some ts=>if ts.length=P.cellsOf f.type then match wP P r (k+ts.length) fs with
     | some us=>some (ts++us)
     | none=>none else none
    | none=>none else none
def gJ (P:Program) (W:World):List TypeId->Lv->Prop
 | [],[]=>True
 | t::ts,v::vs=>(∃ m,kI P W (m+1) t [v])/\gJ P W ts vs
 | _,_=>False
theorem gJ.app:∀ {ts us:List TypeId} {vs ws:Lv},gJ P W ts vs->gJ P W us ws->gJ P W (ts++us) (vs++ws)
 | [],_,[],_,_,h=>h
 | _::_,_,_::_,_,h,k=>⟨h.1,h.2.app k⟩
 | [],_,_::_,_,h,_=>h.elim
 | _::_,_,[],_,h,_=>h.elim
theorem sP {P:Program} {W:World} {n:Nat} (ih:∀ T ts cs,sO P n T=some ts->cs.length=P.cellsOf T->kI P W n T cs->gJ P W ts cs):
  ∀ (fs:List Field) (k:Nat) (ts:List TypeId) (cs:Lv),sO.wP P (sO P n) k fs=some ts->cs.length=k+ts.length->(∀ f∈fs,kI P W n f.type ((cs.drop f.offset).take (P.cellsOf f.type)))->gJ P W ts (cs.drop k)
 | [],k,ts,cs,h,hl,_=>by simp only [sO.wP,Option.some.injEq] at h;subst h;rw [List.drop_eq_nil_of_le (by simpa using Nat.le_of_eq hl)];exact True.intro
 | f::fs,k,ts,cs,h,hl,hs=>by
  simp only [sO.wP] at h;split at h;case isFalse=>cases h
  rename_i ho;split at h;case h_2=>cases h
  rename_i us iX;split at h;case isFalse=>cases h
  rename_i hc;split at h;case h_2=>cases h
  rename_i vs hvs;simp only [Option.some.injEq] at h;subst h;simp only [List.length_append] at hl;have h1:=hs f (by simp);rw [ho] at h1;have h2:=ih f.type us _ iX (by simp only [List.length_take,List.length_drop];omega) h1;have h3:=sP ih fs (k+us.length) vs cs hvs (by omega) (λg hg=>hs g (by simp [hg]));have h4:=h2.app h3
  rwa [← hc,← List.drop_drop,List.take_append_drop] at h4
theorem qm {P:Program} {W:World}:∀ (n:Nat) (T:TypeId) (ts:List TypeId) (cs:Lv),sO P n T=some ts->cs.length=P.cellsOf T->kI P W n T cs->gJ P W ts cs
 | 0,_,_,_,h,_,_=>by cases h
 | n+1,T,ts,cs,h,hl,hs=>by
  unfold sO at h;split at h
  ·rename_i fs hu;unfold kI at hs;rw [hu] at hs;split at h;case h_2=>cases h
   rename_i us iX;split at h;case isFalse=>cases h
   rename_i hc;simp only [Option.some.injEq] at h;subst h;have:=sP (qm n) fs.toList 0 us cs iX (by omega) hs.2;simpa using this
  ·cases h
  ·split at h;case isFalse=>cases h
   rename_i hc;simp only [Option.some.injEq] at h;subst h;rw [hc] at hl
   match cs,hl with
   | [v],_=>exact ⟨⟨n,hs⟩,True.intro⟩
theorem AJ {m:Nat} {T:TypeId} {k:IntKind} (hu:P.underlying T=some (.int k)) (h:kI P W (m+1) T [v]):∃ z:Int,v= .int k z/\(Lit.int k z).wf=true:=by unfold kI at h;rw [hu] at h;obtain ⟨z,hz,hw⟩:=h;exact ⟨z,by simpa using hz,hw⟩
theorem bz {K:KT} {T:St} (τ:vK) (h:Lp C n fn p n0 K T) (hw:S.wk n0 τ T):Lp C n fn p n0 K S:=QX τ hw h
theorem iC {K:KT} {T:St} (τ:vK) (h:Ct C n fn p n0 K T) (hw:S.wk n0 τ T):Ct C n fn p n0 K S:=QW τ hw h
end Go.Sx
