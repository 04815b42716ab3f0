/- Walks and plain laws. Conditions: none. -/
import Derived.Test.YtdaakdbkmjgloaaGreatProg
import Derived.Test.YtdaakdbkmjgloaaGreatSyBB
import Derived.Lib.Bytes
import Derived.Lib.Walk
import Derived.Lib.Strings
namespace Go.Proofs.YtdaakdbkmjgloaaGreat.CustodyOwn
open Go Go.Sx
set_option maxRecDepth 100000
set_option maxHeartbeats 4000000
set_option linter.all false
variable {E:Mem} {K:SV->Mem->Prop}
variable {E E0:Mem} {f:FuncId} {vs:List Value} {args:List SV} {bx:List Box} {x s n0 a1 a5 n:Int} {ms ns:List (Int×List Int)} {c k a m dc tot c4 dl l3 l c3 i l7 c8 bp ch l2:Nat} {b b4 db b2 b6 b1:Option Addr} {zs zs0 ds ys:List Int} {rc:Rc} {KK:KT}
abbrev WI (x:Int):Int:=IntKind.wrap .i64 x
abbrev NI (n:Nat):Int:=(n:Int)
abbrev U8 (x:Int):Value:=.int .u8 x
abbrev VS (b:Option Addr) (l c:Nat):Value:=.slice b l c
abbrev nn (k:Nat):List (Option SV):=List.replicate k none
abbrev nE (E:Mem) (b:Option Addr) (l c:Nat):Prop:=∃ cs:List Value,E (.slice b l c) cs/\(cs=[]->False)
abbrev no2 (t:List (Option SV)):List (Option SV):=none::none::t
abbrev no4 (t:List (Option SV)):List (Option SV):=none::none::none::none::t
abbrev no8 (t:List (Option SV)):List (Option SV):=none::none::none::none::none::none::none::none::t
abbrev no16 (t:List (Option SV)):List (Option SV):=none::none::none::none::none::none::none::none::none::none::none::none::none::none::none::none::t
abbrev no32 (t:List (Option SV)):List (Option SV):=none::none::none::none::none::none::none::none::none::none::none::none::none::none::none::none::none::none::none::none::none::none::none::none::none::none::none::none::none::none::none::none::t
abbrev oI (x:Int):Option SV:=some (.raw (.int .i64 x))
abbrev oB (x:Bool):Option SV:=some (.raw (.bool x))
abbrev oL (b:Option Addr) (l c:Nat):Option SV:=some (.raw (.slice b l c))
abbrev oc (b o:Nat):Option SV:=some (.loc b o)
abbrev os (b o l c:Nat):Option SV:=some (.slc b o l c)
abbrev oU:Option SV:=some (.raw (.tuple #[]))
abbrev al2:AlikeT:=.n .l .l
theorem mr_:Mem.le E E:=Mem.le_refl E
theorem mt_ {F G:Mem} (h:Mem.le E F) (k:Mem.le F G):Mem.le E G:=Mem.le_trans h k
theorem sm_ {p q:Prop} (h:q) (e:p=q:=by kernel_rfl):p:=e.mpr h
theorem esm {C:Cx} (hC:CxOK C) {n:Nat} {fn:Func} (hf:C.P.funcs[f]? =some fn) {K:SV->Mem->Prop}
  (hv:SV.valL args=some vs) (h:Ent C n fn args E K) (hok:okFn fn:=by exact ⟨by kernel_rfl,by kernel_rfl⟩) (ho:C.opt.om=none:=by rfl):TabSem C.P f args E K:=Ent.sem hC hf hok hv h ho
theorem bsm {C:Cx} (hC:CxOK C) {n:Nat} {fn:Func} (hf:C.P.funcs[f]? =some fn) {K:KT}
  (h:EntB C n fn args bx E K) (hok:okFn fn:=by exact ⟨by kernel_rfl,by kernel_rfl⟩) (ho:C.opt.om=none:=by rfl):CallSem C.P f args bx E K:=EntB.sem hC hf hok h ho
def nodB:List Nat->Bool
 | []=>true
 | x::l=> !l.contains x&&nodB l
theorem nodB_ok:∀ {l:List Nat},nodB l=true->l.Nodup
 | [],_=>List.nodup_nil
 | x::l,h=>by
  simp only [nodB,Bool.and_eq_true,Bool.not_eq_true',List.contains_eq_mem,decide_eq_false_iff_not] at h
  exact List.nodup_cons.2 ⟨h.1,nodB_ok h.2⟩
theorem wkG {n0:Nat} {τ:Tau} {S T:St} (hE:Mem.le T.E S.E) (h1:n0<=S.bx.length:=by first|(simp;done)|(simp [St.pub];done)) (h2:n0<=τ.length:=by first|(simp;done)|(simp [St.pub];done))
  (h3:∀ j,j<n0->τ[j]? =some (some j):=by decide) (h4:T.bx.length=τ.length:=by rfl)
  (h5:wkFr τ S.bx.length S.fr T.fr:=by repeat' first|exact True.intro|refine And.intro (Or.inl rfl) ?_|refine And.intro (Or.inr ⟨rfl,rfl⟩) ?_)
  (h6:wkBx τ S.bx.length S.bx 0 T.bx:=by repeat' first|exact True.intro|exact rfl|exact Or.inl rfl|fail|refine And.intro ?_ ?_)
  (h7:nodB (liveSrc τ T.bx)=true:=by kernel_rfl):S.wk n0 τ T:=⟨⟨h1,h2,h3⟩,h4,h5,h6,nodB_ok h7,hE⟩
theorem wkH {n0:Nat} {τ:Tau} {S T:St} (hE:Mem.le T.E S.E) (h1:n0<=S.bx.length:=by first|(simp;done)|(simp [St.pub];done)) (h2:n0<=τ.length:=by first|(simp;done)|(simp [St.pub];done))
  (h3:∀ j,j<n0->τ[j]? =some (some j):=by decide) (h4:T.bx.length=τ.length:=by rfl)
  (h5:wkFr τ S.bx.length S.fr T.fr:=by repeat' first|exact True.intro|refine And.intro (Or.inl rfl) ?_|refine And.intro (Or.inr ⟨rfl,rfl⟩) ?_)
  (h6:wkBx τ S.bx.length S.bx 0 T.bx:=by repeat' first|exact True.intro|exact rfl|exact Or.inl rfl|exact Or.inr ⟨rfl,rfl⟩|refine And.intro ?_ ?_|exact Nat.le_of_ble_eq_true rfl)
  (h7:nodB (liveSrc τ T.bx)=true:=by kernel_rfl):S.wk n0 τ T:=⟨⟨h1,h2,h3⟩,h4,h5,h6,nodB_ok h7,hE⟩
noncomputable def F1:Cx:={ P:=Tryz.prog,inl:=fun f=>List.contains [] f,tab:=fun _ _ _ _=>False,isB:=fun _=>false,tabB:=fun _ _ _ _ _=>False,opt:={ unroll:=0,carry:=[],cuts:=[5] },muts:=mutsD }
theorem okF1:CxOK F1:=CxOK.four (fun _ _ _ _ h=>h.elim) (by kernel_rfl) (okInl (by kernel_rfl)) (fun _ _ _ _ _ h=>h.elim)
theorem condC {c:Bool} {p q:Prop} (h1:c=true->p) (h0:c=false->q):bif c then p else q:=by cases c;exact h0 rfl;exact h1 rfl
abbrev vB (l:List Int):List Value:=l.map (.int .u8)
theorem wu8 (h:0<=x/\x<=255):IntKind.wrap .u8 x=x:=by
 rw [show IntKind.wrap .u8 x=x % 256 from rfl];omega
theorem wu8b (x:Int):0<=IntKind.wrap .u8 x/\IntKind.wrap .u8 x<=255:=by
 rw [show IntKind.wrap .u8 x=x % 256 from rfl];omega
abbrev FRow:=Int×Option Addr×Nat×Nat
def rowV (r:FRow):List Value:=[.int .i64 r.1,.slice r.2.1 r.2.2.1 r.2.2.2]
def FLr (E:Mem) (rs:List FRow) (ms:List (Int×List Int)):Prop:=rs.length=ms.length/\∀ (i:Nat) r m,rs[i]? =some r->ms[i]? =some m->r.1=m.1/\Bs E r.2.1 r.2.2.1 r.2.2.2 m.2
theorem FLr.mono {E':Mem} {rs:List FRow} (h:FLr E rs ms) (he:Mem.le E E'):FLr E' rs ms:=⟨h.1,fun i r m h1 h2=>⟨(h.2 i r m h1 h2).1,(h.2 i r m h1 h2).2.mono he⟩⟩
theorem FLr.nil (E:Mem):FLr E [] []:=⟨rfl,fun i r m h=>by simp at h⟩
theorem FLr.snoc {rs:List FRow} (h:FLr E rs ms) {r:FRow} {m:Int×List Int} (h1:r.1=m.1) (h2:Bs E r.2.1 r.2.2.1 r.2.2.2 m.2):FLr E (rs++[r]) (ms++[m]):=by
 refine ⟨by simp [h.1],fun i r' m' g1 g2=>?_⟩
 have hl:=h.1
 by_cases hi:i<rs.length
 ·rw [List.getElem?_append_left hi] at g1
  rw [List.getElem?_append_left (by omega)] at g2
  exact h.2 i r' m' g1 g2
 ·rw [List.getElem?_append_right (by omega)] at g1
  rw [List.getElem?_append_right (by omega),← hl] at g2
  cases hk:i-rs.length with
  | zero=>rw [hk] at g1 g2;simp at g1 g2;subst g1;subst g2;exact ⟨h1,h2⟩
  | succ k=>rw [hk] at g1;simp at g1
theorem rows_len (rs:List FRow):(rs.flatMap rowV).length=rs.length*2:=by
 induction rs with
 | nil=>rfl
 | cons r rs ih=>simp only [List.flatMap_cons,List.length_append,ih,rowV,List.length_cons,List.length_nil];omega
theorem rows_snoc (rs:List FRow) (r:FRow):(rs++[r]).flatMap rowV=rs.flatMap rowV++rowV r:=by simp
def FL (E:Mem) (b:Option Addr) (n c:Nat) (ms:List (Int×List Int)):Prop:=∃ rs:List FRow,FLr E rs ms/\ms.length=n/\n<=c/\(n=0\/E (.slice b n c) (rs.flatMap rowV))/\(b=none->n=0)
theorem FL.mono {E':Mem} {n:Nat} (h:FL E b n c ms) (he:Mem.le E E'):FL E' b n c ms:=
 let ⟨rs,h1,h2,h3,h4,h5⟩:=h;⟨rs,h1.mono he,h2,h3,h4.imp_right (he _ _),h5⟩
theorem FL.nil (E:Mem):FL E none 0 0 []:=⟨[],FLr.nil E,rfl,Nat.le_refl _,.inl rfl,fun _=>rfl⟩
theorem FL.win {base:Option Addr} (h:WinE E base vs) {rs:List FRow} (e:vs=rs.flatMap rowV) (hr:FLr E rs ms) {n:Nat} (hn:ms.length=n) (hc:n<=c):FL E (base.map fun x=>x.add 0) n c ms:=by
 subst e
 have hl:(rs.flatMap rowV).length=n*2:=by rw [rows_len,hr.1,hn]
 have:=h.2 0 (rs.flatMap rowV).length n c (by simp)
 simp only [List.drop_zero] at this
 rw [List.take_of_length_le (Nat.le_refl _)] at this
 refine ⟨rs,hr,hn,hc,.inr this,fun e=>?_⟩
 cases base with
 | none=>have:=h.1 rfl;rw [this] at hl;simp at hl;omega
 | some a=>cases e
def stp (g:Nat->Int->Int) (a:Nat) (zs:List Int):Nat->List Int
 | 0=>zs
 | i+1=>(stp g a zs i).set (a+i) (g i ((stp g a zs i).getD (a+i) 0))
theorem stp_len (g:Nat->Int->Int) (a:Nat) (zs:List Int):∀ i,(stp g a zs i).length=zs.length
 | 0=>rfl
 | i+1=>by simp [stp,stp_len g a zs i]
theorem stp_byte {g:Nat->Int->Int} {a:Nat} {zs:List Int} (hz:∀ z∈zs,0<=z/\z<=255) (hg:∀ i x,0<=g i x/\g i x<=255):∀ i,∀ z∈stp g a zs i,0<=z/\z<=255
 | 0,z,h=>hz z h
 | i+1,z,h=>by
  rcases List.mem_or_eq_of_mem_set h with h|rfl
  ·exact stp_byte hz hg i z h
  ·exact hg _ _
def mems (s:Int) (g:Nat->Int->Int) (a:Nat) (zs:List Int) (n:Nat):List (Int×List Int):=(List.range n).map fun i=>(s,stp g a zs i)
theorem mems_succ (s:Int) (g:Nat->Int->Int) (a:Nat) (zs:List Int) (n:Nat):mems s g a zs (n+1)=mems s g a zs n++[(s,stp g a zs n)]:=by simp [mems,List.range_succ]
theorem mems_len (s:Int) (g:Nat->Int->Int) (a:Nat) (zs:List Int) (n:Nat):(mems s g a zs n).length=n:=by simp [mems]
def band8 (x y:Int):Int:=IntKind.wrap .u8 (((BitVec.ofInt (IntKind.bits .u8) x&&& BitVec.ofInt (IntKind.bits .u8) y).toNat:Nat):Int)
theorem layV_set {p:Nat} (h:p<zs.length) (x:Int):layV (vB zs) p [.int .u8 x]=vB (zs.set p x):=by
 unfold layV vB
 rw [← List.map_take,← List.map_drop,List.set_eq_take_append_cons_drop,if_pos h]
 simp
theorem loadV_byte {P:Program} {T:TypeId} (ht:P.underlying T=some (.int .u8)) {p:Nat} (h:p<zs.length):LoadV P T (vB zs) p (.raw (.int .u8 (zs.getD p 0))):=by
 unfold LoadV loadW
 rw [ht]
 simp [h]
theorem vB_one (zs:List Int):∀ x:Value,List.Mem x (vB zs)->x.oneCell'=true:=fun x hx=>by
 obtain ⟨z,_,rfl⟩:=List.mem_map.1 hx
 rfl
noncomputable def F2:Cx:={ P:=Tryz.prog,inl:=fun f=>List.contains [111,103,89] f,tab:=fun _ _ _ _=>False,isB:=fun _=>false,tabB:=fun _ _ _ _ _=>False,opt:={ unroll:=0,carry:=[7] },muts:=(fun o=>match o with | .call { callee:=.value (.tmp 20),.. }=>true| .call { callee:=.value (.func 89),.. }=>true| .call { callee:=.value (.tmp 40),.. }=>true|o=>mutsD o) }
theorem okF2:CxOK F2:=CxOK.four (fun _ _ _ _ h=>h.elim) (by kernel_rfl) (okInl (by kernel_rfl)) (fun _ _ _ _ _ h=>h.elim)
abbrev fr27 (n:Int):List (Option SV):=[some (.clo 110 [] [.loc 2 0,.loc 4 0,.loc 5 0,.loc 3 0]),oI n,none,none,oL none 0 0,oc 7 0,none,oI n,os 6 0 0 (Int.toNat n),
 some (.clo 110 [] [.loc 2 0,.loc 4 0,.loc 5 0,.loc 3 0]),none,none,none,none,none,none]
noncomputable def FY (n:Int) (c:Rc):Cx:=YCx F2 F1 6 (fr27 n) (sub (bodyOf Tryz.f104) [1,1,0,1,0]) c
def sh33 (s:Int) (a:Nat) (b db:Option Addr) (l c dl dc m:Nat) (rc:Rc) (i cap tot:Nat) (vs:List Value) (zs:List Int) (E:Mem):St:=⟨[some (.raw (.func (.yield rc.l) #[] #[])),oc 2 0,oc 4 0,oc 5 0,oc 3 0,none,oc 9 0,oI (i:Nat)]++nn 43,
 [⟨24,.lst [I s,L b l c],2,true⟩,⟨22,.lst [L db dl dc],1,true⟩,⟨24,.lst [I s,L b l c],2,true⟩,⟨3,.lst [I (a:Nat)],1,true⟩,⟨3,.lst [I (m:Nat)],1,true⟩,⟨145,.lst [.clo 111 [] [.loc 1 0]],1,true⟩]++[⟨24,.lst [],0,false⟩,⟨33,.lst [.slc 10 0 i cap],1,true⟩,⟨5,.vals (vB zs),l*1,true⟩,⟨24,.lst [I s,.slc 8 0 l l],2,true⟩,⟨24,.vals vs,tot,true⟩],E⟩
def sh5 (s:Int) (a:Nat) (b db:Option Addr) (l c dl dc m:Nat) (n cap tot:Nat) (vs:List Value) (E:Mem):St:=⟨[some (.clo 110 [] [.loc 2 0,.loc 4 0,.loc 5 0,.loc 3 0])]++nn 4++[oc 6 0]++nn 10,
 [⟨24,.lst [I s,L b l c],2,true⟩,⟨22,.lst [L db dl dc],1,true⟩,⟨24,.lst [I s,L b l c],2,true⟩,⟨3,.lst [I (a:Nat)],1,true⟩,⟨3,.lst [I (m:Nat)],1,true⟩,⟨145,.lst [.clo 111 [] [.loc 1 0]],1,true⟩]++[⟨33,.lst [.slc 7 0 n cap],1,true⟩,⟨24,.vals vs,tot,true⟩],E⟩
structure I33 (E0 E:Mem) (s:Int) (g:Nat->Int->Int) (a l m:Nat) (zs0:List Int) (i cap tot:Nat) (vs:List Value) (zs:List Int) (rs:List FRow):Prop where
 le:Mem.le E0 E
 lm:1<=l/\l<=16384/\a+m<=l
 len:zs0.length=l
 byte:∀ z∈zs0,0<=z/\z<=255
 im:i<=m
 cap:i<=cap/\cap*2<=tot
 vs:i*2<=vs.length/\List.take (i*2) vs=rs.flatMap rowV
 zs:zs=stp g a zs0 i
 rs:FLr E rs (mems s g a zs0 i)
def gP (ds:List Int):Nat->Int->Int:=fun i x=>band8 x (ds.getD i 0)
theorem cn27 {K:KT} {cap:Nat} {x8 x12:List Value} {t8 t12:Nat} {b3:Option Addr} {l4:Nat}
  (h:Ct F1 6 Tryz.f104 [1,1,1] 6 K (sh5 s a b db l c dl dc m k cap tot vs E)):
  Pn F1 6 Tryz.f104 [1,1,0,1,0] 6 K ⟨fr27 n0,[⟨24,.lst [I s,L b l c],2,true⟩,⟨22,.lst [L db dl dc],1,true⟩,⟨24,.lst [I s,L b l c],2,true⟩,⟨3,.lst [I (a:Nat)],1,true⟩,⟨3,.lst [I (m:Nat)],1,true⟩,⟨145,.lst [.clo 111 [] [.loc 1 0]],1,true⟩]++[⟨24,.lst [],0,false⟩,⟨33,.lst [.slc 15 0 k cap],1,true⟩,⟨5,.vals x8,t8,true⟩,⟨24,.lst [I s,.slc 8 0 l l],2,true⟩,⟨24,.lst [],0,false⟩,⟨5,.lst [],0,false⟩,⟨5,.vals x12,t12,false⟩,⟨24,.lst [I s,L b3 l3 c3],2,true⟩,⟨24,.lst [I s,L b4 l4 c4],2,true⟩,⟨24,.vals vs,tot,true⟩],E⟩:=by
 refine sm_ (?_:Ct F1 6 Tryz.f104 [1,1,1] 6 K { fr:=some (SV.clo 110 [] [SV.loc 2 0,SV.loc 4 0,SV.loc 5 0,SV.loc 3 0])::oI n0::none::none::oL none 0 0::oc 7 0::none::oI n0::os 6 0 0 (Int.toNat n0)::some (SV.clo 110 [] [SV.loc 2 0,SV.loc 4 0,SV.loc 5 0,SV.loc 3 0])::no4 (no2 []),bx:=[(⟨24,.lst [I s,L b l c],2,true⟩:Box),⟨22,.lst [L db dl dc],1,true⟩,⟨24,.lst [I s,L b l c],2,true⟩,⟨3,.lst [I (NI a)],1,true⟩,⟨3,.lst [I (NI m)],1,true⟩,⟨145,.lst [SV.clo 111 [] [SV.loc 1 0]],1,true⟩,⟨24,.lst [],0,false⟩,⟨33,.lst [SV.slc 15 0 k cap],1,true⟩,⟨5,.vals x8,t8,true⟩,⟨24,.lst [I s,SV.slc 8 0 l l],2,true⟩,⟨24,.lst [],0,false⟩,⟨5,.lst [],0,false⟩,⟨5,.vals x12,t12,false⟩,⟨24,.lst [I s,L b3 l3 c3],2,true⟩,⟨24,.lst [I s,L b4 l4 c4],2,true⟩,⟨24,.vals vs,tot,true⟩],E:=E:St })
 delta NI no2 no4
 exact Ct_re [some 0,some 1,some 2,some 3,some 4,some 5,some 7,some 15] h (wkG mr_)
theorem rnd33 {K:KT} {cap:Nat} {rs:List FRow} (hn:n0=((m+1:Nat):Int))
  (hI:I33 E0 E s (gP ds) a l m zs0 i cap tot vs zs rs) (hd:Bs E0 db dl dc ds) (hdl:m=dl)
  (hK:∀ (E':Mem) (rs:List FRow) (vs:List Value) (cap tot:Nat),Mem.le E0 E'->m+1<=cap->cap*2<=tot->vs=rs.flatMap rowV->FLr E' rs (mems s (gP ds) a zs0 (m+1))->Ct F1 6 Tryz.f104 [1,1,1] 6 K (sh5 s a b db l c dl dc m (m+1) cap tot vs E'))
  (ih:∀ (E':Mem) (cap tot:Nat) (vs:List Value) (zs:List Int) (rs:List FRow),i<m->I33 E0 E' s (gP ds) a l m zs0 (i+1) cap tot vs zs rs->
   Lp (FY n0 rc) 6 Tryz.f110 [1,1,1,0] 8 (fun _ bx E=>Cn F1 6 Tryz.f104 [1,1,0,1,0] 6 K { fr:=fr27 n0,bx:=bx,E:=E }) (sh33 s a b db l c dl dc m rc (i+1) cap tot vs zs E')):
  Rnd (FY n0 rc) 6 Tryz.f110 [1,1,1,0] 8 (fun _ bx E=>Cn F1 6 Tryz.f104 [1,1,0,1,0] 6 K { fr:=fr27 n0,bx:=bx,E:=E }) (sh33 s a b db l c dl dc m rc i cap tot vs zs E):=by
 refine sm_ (?_:Sx.Alike al2 (∀ (r:Bool),(r=true->Sx.Alike al2 (l=0))->bif r then rc.l=rc.l/\i*2<=List.length (Row.cells (Row.vals vs))/\cap*2<=tot/\i<=cap/\req ((i+1)*32<=140737488355328) (∀ (cap' tot':Nat),i+1<=cap'->cap'*2<=tot'->Sx.Alike al2 (bif bif true then decide ((NI i)<(NI m)) else false then req ((0:Int)<=WI ((NI a)+(NI i))/\WI ((NI a)+(NI i))<(NI l)) (∃ (n:Int),LoadV (FY n0 rc).P 5 (vB zs) (0+Int.toNat (WI ((NI a)+(NI i)))*1) (SV.raw (U8 n))/\Sx.Alike (AlikeT.n al2 (AlikeT.n al2 AlikeT.l)) (req (0<=(NI i)/\(NI i)<(NI dl)) (nE E db dl dc/\∃ (n_1:Int),LoadE (FY n0 rc).P E 5 (VS db dl dc) (Int.toNat (NI i)*1) (SV.raw (U8 n_1))/\req ((0:Int)<=WI ((NI a)+(NI i))/\WI ((NI a)+(NI i))<(NI l)) (0+Int.toNat (WI ((NI a)+(NI i)))*1+1<=List.length (vB zs)/\Lp (FY n0 rc) 6 Tryz.f110 [1,1,1,0] 8 (fun (x:SV) (bx:List Box) (E:Mem)=>Cn F1 6 Tryz.f104 [1,1,0,1,0] 6 K { fr:=fr27 n0,bx:=bx,E:=E:St }) { fr:=some (SV.raw (Value.func (Fn.yield rc.l) #[] #[]))::oc 2 0::oc 4 0::oc 5 0::oc 3 0::none::oc 9 0::oI (WI ((NI i)+1))::no32 (no8 (no2 (none::[]))),bx:=[(⟨24,.lst [I s,L b l c],2,true⟩:Box),⟨22,.lst [L db dl dc],1,true⟩,⟨24,.lst [I s,L b l c],2,true⟩,⟨3,.lst [I (NI a)],1,true⟩,⟨3,.lst [I (NI m)],1,true⟩,⟨145,.lst [SV.clo 111 [] [SV.loc 1 0]],1,true⟩,⟨24,.lst [],0,false⟩,⟨33,.lst [SV.slc 13 0 (i+1) cap'],1,true⟩,⟨5,.vals (layV (vB zs) (0+Int.toNat (WI ((NI a)+(NI i)))*1) [U8 (IntKind.wrap IntKind.u8 (NI (BitVec.toNat (BitVec.ofInt (IntKind.bits IntKind.u8) n&&& BitVec.ofInt (IntKind.bits IntKind.u8) n_1))))]),l*1,true⟩,⟨24,.lst [I s,SV.slc 8 0 l l],2,true⟩,⟨24,.lst [],0,false⟩,⟨24,.lst [I s,L none 0 0],2,true⟩,⟨24,.lst [I s,L none 0 0],2,true⟩,⟨24,.vals (List.take (i*2) vs++[Value.int IntKind.i64 s,VS none 0 0]),tot',true⟩],E:=E:St })))) else Cn F1 6 Tryz.f104 [1,1,0,1,0] 6 K { fr:=some (SV.clo 110 [] [SV.loc 2 0,SV.loc 4 0,SV.loc 5 0,SV.loc 3 0])::oI n0::none::none::oL none 0 0::oc 7 0::none::oI n0::os 6 0 0 (Int.toNat n0)::some (SV.clo 110 [] [SV.loc 2 0,SV.loc 4 0,SV.loc 5 0,SV.loc 3 0])::no4 (no2 []),bx:=[(⟨24,.lst [I s,L b l c],2,true⟩:Box),⟨22,.lst [L db dl dc],1,true⟩,⟨24,.lst [I s,L b l c],2,true⟩,⟨3,.lst [I (NI a)],1,true⟩,⟨3,.lst [I (NI m)],1,true⟩,⟨145,.lst [SV.clo 111 [] [SV.loc 1 0]],1,true⟩,⟨24,.lst [],0,false⟩,⟨33,.lst [SV.slc 13 0 (i+1) cap'],1,true⟩,⟨5,.vals (vB zs),l*1,true⟩,⟨24,.lst [I s,SV.slc 8 0 l l],2,true⟩,⟨24,.lst [],0,false⟩,⟨24,.lst [I s,L none 0 0],2,true⟩,⟨24,.lst [I s,L none 0 0],2,true⟩,⟨24,.vals (List.take (i*2) vs++[Value.int IntKind.i64 s,VS none 0 0]),tot',true⟩],E:=E:St })) else 0+l*1<=List.length (vB zs)/\(∀ (x:Value),List.Mem x (vB zs)->Value.oneCell' x=true)/\0<=0/\0<=0/\0<=0/\req ((0+l)*1<=140737488355328) (∀ (cap' tot':Nat),0+l<=cap'->cap'*1<=tot'->rc.l=rc.l/\∀ (base:Option Addr) (E':Mem),Mem.le E E'->WinE E' base ([]++List.take (l*1) (List.drop 0 (vB zs)))->i*2<=List.length (Row.cells (Row.vals vs))/\cap*2<=tot/\i<=cap/\req ((i+1)*32<=140737488355328) (∀ (cap'_1 tot'_1:Nat),i+1<=cap'_1->cap'_1*2<=tot'_1->Sx.Alike al2 (bif bif true then decide ((NI i)<(NI m)) else false then req ((0:Int)<=WI ((NI a)+(NI i))/\WI ((NI a)+(NI i))<(NI l)) (∃ (n:Int),LoadV (FY n0 rc).P 5 (vB zs) (0+Int.toNat (WI ((NI a)+(NI i)))*1) (SV.raw (U8 n))/\Sx.Alike (AlikeT.n al2 (AlikeT.n al2 AlikeT.l)) (req (0<=(NI i)/\(NI i)<(NI dl)) (nE E' db dl dc/\∃ (n_1:Int),LoadE (FY n0 rc).P E' 5 (VS db dl dc) (Int.toNat (NI i)*1) (SV.raw (U8 n_1))/\req ((0:Int)<=WI ((NI a)+(NI i))/\WI ((NI a)+(NI i))<(NI l)) (0+Int.toNat (WI ((NI a)+(NI i)))*1+1<=List.length (vB zs)/\Lp (FY n0 rc) 6 Tryz.f110 [1,1,1,0] 8 (fun (x:SV) (bx:List Box) (E:Mem)=>Cn F1 6 Tryz.f104 [1,1,0,1,0] 6 K { fr:=fr27 n0,bx:=bx,E:=E:St }) { fr:=some (SV.raw (Value.func (Fn.yield rc.l) #[] #[]))::oc 2 0::oc 4 0::oc 5 0::oc 3 0::none::oc 9 0::oI (WI ((NI i)+1))::no32 (no8 (no2 (none::[]))),bx:=[(⟨24,.lst [I s,L b l c],2,true⟩:Box),⟨22,.lst [L db dl dc],1,true⟩,⟨24,.lst [I s,L b l c],2,true⟩,⟨3,.lst [I (NI a)],1,true⟩,⟨3,.lst [I (NI m)],1,true⟩,⟨145,.lst [SV.clo 111 [] [SV.loc 1 0]],1,true⟩,⟨24,.lst [],0,false⟩,⟨33,.lst [SV.slc 15 0 (i+1) cap'_1],1,true⟩,⟨5,.vals (layV (vB zs) (0+Int.toNat (WI ((NI a)+(NI i)))*1) [U8 (IntKind.wrap IntKind.u8 (NI (BitVec.toNat (BitVec.ofInt (IntKind.bits IntKind.u8) n&&& BitVec.ofInt (IntKind.bits IntKind.u8) n_1))))]),l*1,true⟩,⟨24,.lst [I s,SV.slc 8 0 l l],2,true⟩,⟨24,.lst [],0,false⟩,⟨5,.lst [],0,false⟩,⟨5,.vals ([]++List.take (l*1) (List.drop 0 (vB zs))),tot',false⟩,⟨24,.lst [I s,L (Option.map (fun (x:Addr)=>Addr.add x 0) base) (0+l) cap'],2,true⟩,⟨24,.lst [I s,L (Option.map (fun (x:Addr)=>Addr.add x 0) base) (0+l) cap'],2,true⟩,⟨24,.vals (List.take (i*2) vs++[Value.int IntKind.i64 s,slcAs base 0 (0+l) cap']),tot'_1,true⟩],E:=E':St })))) else Cn F1 6 Tryz.f104 [1,1,0,1,0] 6 K { fr:=some (SV.clo 110 [] [SV.loc 2 0,SV.loc 4 0,SV.loc 5 0,SV.loc 3 0])::oI n0::none::none::oL none 0 0::oc 7 0::none::oI n0::os 6 0 0 (Int.toNat n0)::some (SV.clo 110 [] [SV.loc 2 0,SV.loc 4 0,SV.loc 5 0,SV.loc 3 0])::no4 (no2 []),bx:=[(⟨24,.lst [I s,L b l c],2,true⟩:Box),⟨22,.lst [L db dl dc],1,true⟩,⟨24,.lst [I s,L b l c],2,true⟩,⟨3,.lst [I (NI a)],1,true⟩,⟨3,.lst [I (NI m)],1,true⟩,⟨145,.lst [SV.clo 111 [] [SV.loc 1 0]],1,true⟩,⟨24,.lst [],0,false⟩,⟨33,.lst [SV.slc 15 0 (i+1) cap'_1],1,true⟩,⟨5,.vals (vB zs),l*1,true⟩,⟨24,.lst [I s,SV.slc 8 0 l l],2,true⟩,⟨24,.lst [],0,false⟩,⟨5,.lst [],0,false⟩,⟨5,.vals ([]++List.take (l*1) (List.drop 0 (vB zs))),tot',false⟩,⟨24,.lst [I s,L (Option.map (fun (x:Addr)=>Addr.add x 0) base) (0+l) cap'],2,true⟩,⟨24,.lst [I s,L (Option.map (fun (x:Addr)=>Addr.add x 0) base) (0+l) cap'],2,true⟩,⟨24,.vals (List.take (i*2) vs++[Value.int IntKind.i64 s,slcAs base 0 (0+l) cap']),tot'_1,true⟩],E:=E':St })))))
 delta WI NI U8 VS no2 no4 no8 no32
 obtain ⟨hle,⟨l1,l2,l3⟩,hlen,hbyte,him,⟨hc1,hc2⟩,⟨hv1,hv2⟩,hzs,hrs⟩:=hI
 have hzl:zs.length=l:=by rw [hzs,stp_len];exact hlen
 have hzb:∀ z∈zs,0<=z/\z<=255:=by rw [hzs];exact stp_byte hbyte (fun i x=>wu8b _) i
 have him2:i<=16384:=by omega
 have eai:IntKind.wrap .i64 ((a:Int)+(i:Int))=((a+i:Nat):Int):=by rw [wrap_i64 (by omega)];simp
 have ei1:IntKind.wrap .i64 ((i:Int)+1)=((i+1:Nat):Int):=by rw [wrap_i64 (by omega)];simp
 have hld:zs.length<=l:=Nat.le_of_eq hzl
 refine alike (fun r hr=>condC (fun h1=>by subst h1;exact absurd (show l=0 from (hr rfl).1) (by omega)) (fun _=>?_))
 refine ⟨by simp only [List.length_map,hzl];omega,vB_one zs,Nat.le_refl _,Nat.le_refl _,Nat.le_refl _,req_intro (by omega) (fun cap1 tot1 c1 c2=>⟨rfl,fun base E1 hE1 hW=>⟨?_,hc2,hc1,req_intro (by omega) (fun cap2 tot2 c3 c4=>?_)⟩⟩)⟩
 ·simp only [Row.cells,List.length_map];exact hv1
 have etk:[]++List.take (l*1) (List.drop 0 (vB zs))=vB zs:=by rw [List.nil_append,List.drop_zero,List.take_of_length_le (by simp only [List.length_map,hzl];omega)]
 rw [etk] at hW
 have hBs:Bs E1 (base.map fun x=>x.add 0) (0+l) cap1 zs:=Bs.win hW rfl (by omega) c1 hzb
 have hrs1:FLr E1 (rs++[(s,base.map fun x=>x.add 0,0+l,cap1)]) (mems s (gP ds) a zs0 (i+1)):=by
  rw [mems_succ];exact (hrs.mono hE1).snoc rfl (by rw [← hzs];exact hBs)
 have hvs1:List.take (i*2) vs++[Value.int IntKind.i64 s,slcAs base 0 (0+l) cap1]=(rs++[(s,base.map fun x=>x.add 0,0+l,cap1)]).flatMap rowV:=by
  rw [rows_snoc,hv2];rfl
 have hrl:rs.length=i:=by rw [hrs.1,mems_len]
 have hle1:Mem.le E0 E1:=mt_ hle hE1
 refine alike (condC (fun hlt=>?_) (fun hge=>?_))
 ·have hlt:i<m:=by simpa using hlt
  have hal:a+i<l:=by omega
  have hget:zs.getD (a+i) 0=zs[a+i]'(by omega):=by rw [List.getD_eq_getElem?_getD,List.getElem?_eq_getElem (by omega)];rfl
  refine req_intro (by rw [eai];omega) ⟨zs.getD (a+i) 0,?_,alike (req_intro (by omega) ⟨(hd.mono hle1).ne (i:=i) (by omega),ds.getD i 0,?_,req_intro (by rw [eai];omega) ⟨?_,?_⟩⟩)⟩
  ·rw [eai]
   show LoadV _ _ _ (0+((a+i:Nat):Int).toNat*1) _
   rw [show 0+((a+i:Nat):Int).toNat*1=a+i by omega]
   exact loadV_byte rfl (by omega)
  ·exact (hd.mono hle1).load (i:=i) rfl (by omega)
  ·rw [eai];simp only [List.length_map];omega
  ·have e1:0+Int.toNat (IntKind.wrap IntKind.i64 ((a:Int)+(i:Int)))*1=a+i:=by rw [eai];omega
   rw [e1,ei1,layV_set (by omega)]
   refine Lp_re [some 0,some 1,some 2,some 3,some 4,some 5,some 6,some 7,some 8,some 9,some 15] (ih E1 cap2 tot2 _ _ _ hlt ⟨hle1,⟨l1,l2,l3⟩,hlen,hbyte,by omega,⟨c3,c4⟩,⟨?_,?_⟩,?_,hrs1⟩) (wkG mr_ (h6:=(by repeat' first|exact True.intro|exact rfl|exact Or.inl rfl|exact (by decide:6<16)|refine And.intro ?_ ?_)))
   ·rw [hvs1,rows_len];simp [hrl]
   ·rw [hvs1,List.take_of_length_le (by rw [rows_len];simp [hrl])]
   ·rw [hzs];rfl
 ·have hge:i=m:=by simp at hge;omega
  subst hge
  subst hn
  exact Cn_intro (cn27 (hK E1 _ _ cap2 tot2 hle1 c3 c4 hvs1 hrs1))
abbrev Q27 (K:KT) (n0:Int):KT:=fun _ bx E=>Cn F1 6 Tryz.f104 [1,1,0,1,0] 6 K { fr:=fr27 n0,bx:=bx,E:=E }
theorem lp33 {K:KT} (hn:n0=((m+1:Nat):Int)) (hd:Bs E0 db dl dc ds) (hdl:m=dl) (hrc:CxOK (FY n0 rc))
  (hK:∀ (E':Mem) (rs:List FRow) (vs:List Value) (cap tot:Nat),Mem.le E0 E'->m+1<=cap->cap*2<=tot->vs=rs.flatMap rowV->FLr E' rs (mems s (gP ds) a zs0 (m+1))->Ct F1 6 Tryz.f104 [1,1,1] 6 K (sh5 s a b db l c dl dc m (m+1) cap tot vs E'))
  {cap:Nat} {rs:List FRow} (hI:I33 E0 E s (gP ds) a l m zs0 i cap tot vs zs rs):
  Lp (FY n0 rc) 6 Tryz.f110 [1,1,1,0] 8 (Q27 K n0) (sh33 s a b db l c dl dc m rc i cap tot vs zs E):=by
 have key:=Lp_ind hrc (n:=6) (fn:=Tryz.f110) (p:=[1,1,1,0]) (n0:=8) (K:=Q27 K n0)
  (fun x:{x:Mem×Nat×Nat×Nat×List Value×List Int×List FRow//I33 E0 x.1 s (gP ds) a l m zs0 x.2.1 x.2.2.1 x.2.2.2.1 x.2.2.2.2.1 x.2.2.2.2.2.1 x.2.2.2.2.2.2}=>sh33 s a b db l c dl dc m rc x.1.2.1 x.1.2.2.1 x.1.2.2.2.1 x.1.2.2.2.2.1 x.1.2.2.2.2.2.1 x.1.1)
  (fun x=>m-x.1.2.1) (fun x ih=>rnd33 hn x.2 hd hdl hK fun E' cap tot vs zs rs hlt h'=>ih ⟨⟨E',x.1.2.1+1,cap,tot,vs,zs,rs⟩,h'⟩ (by show m-(_+1)<m-_;omega))
 exact key ⟨⟨E,i,cap,tot,vs,zs,rs⟩,hI⟩
theorem ent33 {K:KT} (hn:n0=((m+1:Nat):Int)) (hd:Bs E db dl dc ds) (hdl:m=dl) (hrc:CxOK (FY n0 rc))
  (hz:Bs E b l c zs0) (hl:1<=l/\l<=16384/\a+m<=l)
  (hK:∀ (E':Mem) (rs:List FRow) (vs:List Value) (cap tot:Nat),Mem.le E E'->m+1<=cap->cap*2<=tot->vs=rs.flatMap rowV->FLr E' rs (mems s (gP ds) a zs0 (m+1))->Ct F1 6 Tryz.f104 [1,1,1] 6 K (sh5 s a b db l c dl dc m (m+1) cap tot vs E')):
  EntB (FY n0 rc) 6 Tryz.f110 [.raw (.func (.yield rc.l) #[] #[]),.loc 2 0,.loc 4 0,.loc 5 0,.loc 3 0]
  ([⟨24,.lst [I s,L b l c],2,true⟩,⟨22,.lst [L db dl dc],1,true⟩,⟨24,.lst [I s,L b l c],2,true⟩,⟨3,.lst [I (a:Nat)],1,true⟩,⟨3,.lst [I (m:Nat)],1,true⟩,⟨145,.lst [.clo 111 [] [.loc 1 0]],1,true⟩]++[⟨24,.vals (zerosV [.int .i64 0,.slice none 0 0] (Int.toNat n0)),Int.toNat n0*2,true⟩,⟨33,.lst [.slc 6 0 0 (Int.toNat n0)],1,true⟩]) E (Q27 K n0):=by
 refine sm_ (?_:req (0<=(NI l)/\(NI l)<=(NI l)) (req ((NI l)*1<=(140737488355328:Int)) (∃ (cs:List Value),(cs=[]\/E (VS b l c) cs)/\l*1<=List.length cs/\(∀ (x:Value),List.Mem x cs->Value.oneCell' x=true)/\0+Int.toNat (NI l)*1<=List.length (zerosV [U8 0] (Int.toNat (NI l)))/\Lp (FY n0 rc) 6 Tryz.f110 [1,1,1,0] 8 (Q27 K n0) { fr:=some (SV.raw (Value.func (Fn.yield rc.l) #[] #[]))::oc 2 0::oc 4 0::oc 5 0::oc 3 0::none::oc 9 0::oI 0::oc 2 0::oI s::oc 2 1::oL b l c::oI (NI l)::os 8 0 (Int.toNat (NI l)) (Int.toNat (NI l))::some (SV.agg [I s,SV.slc 8 0 (Int.toNat (NI l)) (Int.toNat (NI l))])::oc 9 1::os 8 0 (Int.toNat (NI l)) (Int.toNat (NI l))::oc 2 1::oL b l c::oI (NI (min l (Int.toNat (NI l))))::no16 (no8 (no4 (no2 (none::[])))),bx:=[(⟨24,.lst [I s,L b l c],2,true⟩:Box),⟨22,.lst [L db dl dc],1,true⟩,⟨24,.lst [I s,L b l c],2,true⟩,⟨3,.lst [I (NI a)],1,true⟩,⟨3,.lst [I (NI m)],1,true⟩,⟨145,.lst [SV.clo 111 [] [SV.loc 1 0]],1,true⟩,⟨24,.vals (zerosV [Value.int IntKind.i64 0,VS none 0 0] (Int.toNat n0)),Int.toNat n0*2,true⟩,⟨33,.lst [SV.slc 6 0 0 (Int.toNat n0)],1,true⟩,⟨5,.vals (layV (zerosV [U8 0] (Int.toNat (NI l))) 0 (List.take (min l (Int.toNat (NI l))*1) (List.take (l*1) cs))),Int.toNat (NI l)*1,true⟩,⟨24,.lst [I s,SV.slc 8 0 (Int.toNat (NI l)) (Int.toNat (NI l))],2,true⟩],E:=E:St })))
 delta NI U8 VS no2 no4 no8 no16
 obtain ⟨l1,l2,l3⟩:=hl
 obtain ⟨t1,t2,t3⟩:=hz.src
 have hzl:=hz.2.1
 refine req_intro (by omega) (req_intro (by simp;omega) ⟨_,t1,t2,t3,?_,?_⟩)
 ·simp [zerosV]
 have hn2:Int.toNat n0=m+1:=by omega
 have e1:layV (zerosV [Value.int IntKind.u8 0] (Int.toNat (l:Int))) 0 (List.take (min l (Int.toNat (l:Int))*1) (List.take (l*1) (zs0.map (Value.int .u8))))=vB zs0:=by
  rw [Int.toNat_natCast,Nat.min_self,List.take_of_length_le (l:=List.take _ _) (by simp only [List.length_take,List.length_map];omega),List.take_of_length_le (by simp;omega)]
  unfold layV
  rw [List.take_zero,List.nil_append,List.drop_eq_nil_of_le (by simp [zerosV];omega),List.append_nil]
 rw [e1,Int.toNat_natCast]
 exact Lp_re [some 0,some 1,some 2,some 3,some 4,some 5,some 6,some 7,some 8,some 9,some 6] (lp33 hn hd hdl hrc hK (i:=0) (cap:=Int.toNat n0) (tot:=Int.toNat n0*2) (vs:=zerosV [.int .i64 0,.slice none 0 0] (Int.toNat n0)) (zs:=zs0) (rs:=[]) ⟨mr_,⟨l1,l2,l3⟩,hzl,hz.2.2.2.1,Nat.zero_le _,⟨Nat.zero_le _,Nat.le_refl _⟩,⟨by simp,by simp⟩,rfl,FLr.nil _⟩) (wkG mr_ (h6:=(by repeat' first|exact True.intro|exact rfl|exact Or.inl rfl|exact (by decide:6<10)|refine And.intro ?_ ?_)))
theorem leaf27 {K:KT} (hn:n0=((m+1:Nat):Int)) (hd:Bs E db dl dc ds) (hdl:m=dl)
  (hz:Bs E b l c zs0) (hl:1<=l/\l<=16384/\a+m<=l)
  (hK:∀ (E':Mem) (rs:List FRow) (vs:List Value) (cap tot:Nat),Mem.le E E'->m+1<=cap->cap*2<=tot->vs=rs.flatMap rowV->FLr E' rs (mems s (gP ds) a zs0 (m+1))->Ct F1 6 Tryz.f104 [1,1,1] 6 K (sh5 s a b db l c dl dc m (m+1) cap tot vs E')):
  Ct F1 6 Tryz.f104 [1,1,0,1,0] 6 K ⟨fr27 n0,[⟨24,.lst [I s,L b l c],2,true⟩,⟨22,.lst [L db dl dc],1,true⟩,⟨24,.lst [I s,L b l c],2,true⟩,⟨3,.lst [I (a:Nat)],1,true⟩,⟨3,.lst [I (m:Nat)],1,true⟩,⟨145,.lst [.clo 111 [] [.loc 1 0]],1,true⟩]++[⟨24,.vals (zerosV [.int .i64 0,.slice none 0 0] (Int.toNat n0)),Int.toNat n0*2,true⟩,⟨33,.lst [.slc 6 0 0 (Int.toNat n0)],1,true⟩],E⟩:=
 RfY okF1 okF2 (by kernel_rfl) (by kernel_rfl) Tryz.func110 ⟨by kernel_rfl,by kernel_rfl⟩ (gf:=110) (gfn:=Tryz.f110) (first:=[]) (caps:=[.loc 2 0,.loc 4 0,.loc 5 0,.loc 3 0]) (m:=6) (fun rc hrc=>ent33 hn hd hdl hrc hz hl hK) rfl rfl
theorem pc5 {K:KT} {n cap:Nat} (h:K (.slc 7 0 n cap) (sh5 s a b db l c dl dc m n cap tot vs E).bx E):Pc F1 6 Tryz.f104 [1,1,1] 6 K (sh5 s a b db l c dl dc m n cap tot vs E):=by
 refine sm_ (?_:K (SV.slc 7 0 n cap) [⟨24,Row.lst [I s,L b l c],2,true⟩,⟨22,Row.lst [L db dl dc],1,true⟩,⟨24,Row.lst [I s,L b l c],2,true⟩,⟨3,Row.lst [I (↑a:Int)],1,true⟩,⟨3,Row.lst [I (↑m:Int)],1,true⟩,⟨145,Row.lst [SV.clo 111 [] [SV.loc 1 0]],1,true⟩,⟨33,Row.lst [SV.slc 7 0 n cap],1,true⟩,⟨24,Row.vals vs,tot,true⟩] E)
 exact h
theorem out27 {K:KT} {n cap:Nat} {rs:List FRow} (hr:FLr E rs ms) (hn:ms.length=n) (hc:n<=cap)
  (h:∀ (fb:Option Addr) (E':Mem),Mem.le E E'->FL E' fb n cap ms->K (L fb n cap) ([⟨24,.lst [I s,L b l c],2,true⟩,⟨22,.lst [L db dl dc],1,true⟩,⟨24,.lst [I s,L b l c],2,true⟩,⟨3,.lst [I (a:Nat)],1,true⟩,⟨3,.lst [I (m:Nat)],1,true⟩,⟨145,.lst [.clo 111 [] [.loc 1 0]],1,true⟩]) E'):pubB (cloK 6 K) (.slc 7 0 n cap) (sh5 s a b db l c dl dc m n cap tot (rs.flatMap rowV) E).bx E:=by
 refine same (q:=∀ (base:Option Addr) (E2:Mem),Mem.le E E2->WinE E2 base (rs.flatMap rowV)->cloK 6 K (.raw (slcAs base 0 n cap)) ([⟨24,.lst [I s,L b l c],2,true⟩,⟨22,.lst [L db dl dc],1,true⟩,⟨24,.lst [I s,L b l c],2,true⟩,⟨3,.lst [I (a:Nat)],1,true⟩,⟨3,.lst [I (m:Nat)],1,true⟩,⟨145,.lst [.clo 111 [] [.loc 1 0]],1,true⟩]++[⟨33,.lst [.raw (slcAs base 0 n cap)],1,true⟩,⟨24,.vals (rs.flatMap rowV),tot,false⟩]) E2) (by kernel_rfl) ?_
 intro base E2 h1 h2
 exact cloK_intro [some 0,some 1,some 2,some 3,some 4,some 5] (h _ E2 h1 (FL.win h2 rfl (hr.mono h1) hn hc)) (wkG mr_)
theorem s27 {K:KT} (hn:n0=((m+1:Nat):Int)) (hd:Bs E db dl dc ds) (hdl:m=dl)
  (hz:Bs E b l c zs0) (hl:1<=l/\l<=16384/\a+m<=l)
  (h:∀ (fb:Option Addr) (cap:Nat) (E':Mem),Mem.le E E'->FL E' fb (m+1) cap (mems s (gP ds) a zs0 (m+1))->K (L fb (m+1) cap) ([⟨24,.lst [I s,L b l c],2,true⟩,⟨22,.lst [L db dl dc],1,true⟩,⟨24,.lst [I s,L b l c],2,true⟩,⟨3,.lst [I (a:Nat)],1,true⟩,⟨3,.lst [I (m:Nat)],1,true⟩,⟨145,.lst [.clo 111 [] [.loc 1 0]],1,true⟩]) E'):
  EntB F1 6 Tryz.f104 [.clo 110 [] [.loc 2 0,.loc 4 0,.loc 5 0,.loc 3 0],I n0] ([⟨24,.lst [I s,L b l c],2,true⟩,⟨22,.lst [L db dl dc],1,true⟩,⟨24,.lst [I s,L b l c],2,true⟩,⟨3,.lst [I (a:Nat)],1,true⟩,⟨3,.lst [I (m:Nat)],1,true⟩,⟨145,.lst [.clo 111 [] [.loc 1 0]],1,true⟩]) E (pubB (cloK 6 K)):=by
 refine sm_ (?_:req ((0:Int)<=(0:Int)/\(0:Int)<=n0) (req (n0*(32:Int)<=(140737488355328:Int)) (Ct F1 6 Tryz.f104 [1,1,0,1,0] 6 (pubB (cloK 6 K)) { fr:=[some (SV.clo 110 [] [SV.loc 2 0,SV.loc 4 0,SV.loc 5 0,SV.loc 3 0]),oI n0,none,none,oL none 0 0,oc 7 0,none,oI n0,os 6 0 0 (Int.toNat n0),some (SV.clo 110 [] [SV.loc 2 0,SV.loc 4 0,SV.loc 5 0,SV.loc 3 0]),none,none,none,none,none,none],bx:=[(⟨24,Row.lst [I s,L b l c],2,true⟩:Box),⟨22,Row.lst [L db dl dc],1,true⟩,⟨24,Row.lst [I s,L b l c],2,true⟩,⟨3,Row.lst [I (↑a:Int)],1,true⟩,⟨3,Row.lst [I (↑m:Int)],1,true⟩,⟨145,Row.lst [SV.clo 111 [] [SV.loc 1 0]],1,true⟩,⟨24,Row.vals (zerosV [Value.int IntKind.i64 (0:Int),Value.slice none 0 0] (Int.toNat n0)),Int.toNat n0*2,true⟩,⟨33,Row.lst [SV.slc 6 0 0 (Int.toNat n0)],1,true⟩],E:=E:St })))
 refine req_intro (by omega) (req_intro (by omega) (leaf27 hn hd hdl hz hl fun E' rs vs cap tot h1 h2 h3 h4 h5=>?_))
 subst h4
 exact Ct_intro okF1 (pc5 (out27 h5 (by simp [mems_len]) h2 fun fb E2 g1 g2=>h fb cap E2 (mt_ h1 g1) g2))
theorem sem27 {K:KT} (hn:n0=((m+1:Nat):Int)) (hd:Bs E db dl dc ds) (hdl:m=dl)
  (hz:Bs E b l c zs0) (hl:1<=l/\l<=16384/\a+m<=l)
  (h:∀ (fb:Option Addr) (cap:Nat) (E':Mem),Mem.le E E'->FL E' fb (m+1) cap (mems s (gP ds) a zs0 (m+1))->K (L fb (m+1) cap) ([⟨24,.lst [I s,L b l c],2,true⟩,⟨22,.lst [L db dl dc],1,true⟩,⟨24,.lst [I s,L b l c],2,true⟩,⟨3,.lst [I (a:Nat)],1,true⟩,⟨3,.lst [I (m:Nat)],1,true⟩,⟨145,.lst [.clo 111 [] [.loc 1 0]],1,true⟩]) E'):
  CallSem Tryz.prog 104 [.clo 110 [] [.loc 2 0,.loc 4 0,.loc 5 0,.loc 3 0],I n0] ([⟨24,.lst [I s,L b l c],2,true⟩,⟨22,.lst [L db dl dc],1,true⟩,⟨24,.lst [I s,L b l c],2,true⟩,⟨3,.lst [I (a:Nat)],1,true⟩,⟨3,.lst [I (m:Nat)],1,true⟩,⟨145,.lst [.clo 111 [] [.loc 1 0]],1,true⟩]) E K:=
 (EntB.sem okF1 Tryz.func104 ⟨by kernel_rfl,by kernel_rfl⟩ (s27 hn hd hdl hz hl h)).pubB.clo
def gE:Nat->Int->Int:=fun _ _=>255
def sh33e (s:Int) (a:Nat) (b:Option Addr) (l c m:Nat) (rc:Rc) (i cap tot:Nat) (vs:List Value) (zs:List Int) (E:Mem):St:=⟨[some (.raw (.func (.yield rc.l) #[] #[])),oc 2 0,oc 4 0,oc 5 0,oc 3 0,none,oc 9 0,oI (i:Nat)]++nn 43,
 [⟨24,.lst [I s,L b l c],2,true⟩,⟨24,.lst [I s,L b l c],2,true⟩,⟨24,.lst [I s,L b l c],2,true⟩,⟨3,.lst [I (a:Nat)],1,true⟩,⟨3,.lst [I (m:Nat)],1,true⟩,⟨145,.lst [.clo 103 [] []],1,true⟩]++[⟨24,.lst [],0,false⟩,⟨33,.lst [.slc 10 0 i cap],1,true⟩,⟨5,.vals (vB zs),l*1,true⟩,⟨24,.lst [I s,.slc 8 0 l l],2,true⟩,⟨24,.vals vs,tot,true⟩],E⟩
def sh5e (s:Int) (a:Nat) (b:Option Addr) (l c m:Nat) (n cap tot:Nat) (vs:List Value) (E:Mem):St:=⟨[some (.clo 110 [] [.loc 2 0,.loc 4 0,.loc 5 0,.loc 3 0])]++nn 4++[oc 6 0]++nn 10,
 [⟨24,.lst [I s,L b l c],2,true⟩,⟨24,.lst [I s,L b l c],2,true⟩,⟨24,.lst [I s,L b l c],2,true⟩,⟨3,.lst [I (a:Nat)],1,true⟩,⟨3,.lst [I (m:Nat)],1,true⟩,⟨145,.lst [.clo 103 [] []],1,true⟩]++[⟨33,.lst [.slc 7 0 n cap],1,true⟩,⟨24,.vals vs,tot,true⟩],E⟩
theorem cn27e {K:KT} {cap:Nat} {x8 x12:List Value} {t8 t12:Nat} {b3:Option Addr} {l4:Nat}
  (h:Ct F1 6 Tryz.f104 [1,1,1] 6 K (sh5e s a b l c m k cap tot vs E)):
  Pn F1 6 Tryz.f104 [1,1,0,1,0] 6 K ⟨fr27 n0,[⟨24,.lst [I s,L b l c],2,true⟩,⟨24,.lst [I s,L b l c],2,true⟩,⟨24,.lst [I s,L b l c],2,true⟩,⟨3,.lst [I (a:Nat)],1,true⟩,⟨3,.lst [I (m:Nat)],1,true⟩,⟨145,.lst [.clo 103 [] []],1,true⟩]++[⟨24,.lst [],0,false⟩,⟨33,.lst [.slc 15 0 k cap],1,true⟩,⟨5,.vals x8,t8,true⟩,⟨24,.lst [I s,.slc 8 0 l l],2,true⟩,⟨24,.lst [],0,false⟩,⟨5,.lst [],0,false⟩,⟨5,.vals x12,t12,false⟩,⟨24,.lst [I s,L b3 l3 c3],2,true⟩,⟨24,.lst [I s,L b4 l4 c4],2,true⟩,⟨24,.vals vs,tot,true⟩],E⟩:=by
 refine sm_ (?_:Ct F1 6 Tryz.f104 [1,1,1] 6 K { fr:=some (SV.clo 110 [] [SV.loc 2 0,SV.loc 4 0,SV.loc 5 0,SV.loc 3 0])::oI n0::none::none::oL none 0 0::oc 7 0::none::oI n0::os 6 0 0 (Int.toNat n0)::some (SV.clo 110 [] [SV.loc 2 0,SV.loc 4 0,SV.loc 5 0,SV.loc 3 0])::no4 (no2 []),bx:=[(⟨24,.lst [I s,L b l c],2,true⟩:Box),⟨24,.lst [I s,L b l c],2,true⟩,⟨24,.lst [I s,L b l c],2,true⟩,⟨3,.lst [I (NI a)],1,true⟩,⟨3,.lst [I (NI m)],1,true⟩,⟨145,.lst [SV.clo 103 [] []],1,true⟩,⟨24,.lst [],0,false⟩,⟨33,.lst [SV.slc 15 0 k cap],1,true⟩,⟨5,.vals x8,t8,true⟩,⟨24,.lst [I s,SV.slc 8 0 l l],2,true⟩,⟨24,.lst [],0,false⟩,⟨5,.lst [],0,false⟩,⟨5,.vals x12,t12,false⟩,⟨24,.lst [I s,L b3 l3 c3],2,true⟩,⟨24,.lst [I s,L b4 l4 c4],2,true⟩,⟨24,.vals vs,tot,true⟩],E:=E:St })
 delta NI no2 no4
 exact Ct_re [some 0,some 1,some 2,some 3,some 4,some 5,some 7,some 15] h (wkG mr_)
theorem rnd33e {K:KT} {cap:Nat} {rs:List FRow} (hn:n0=((m+1:Nat):Int))
  (hI:I33 E0 E s (gE) a l m zs0 i cap tot vs zs rs)
  (hK:∀ (E':Mem) (rs:List FRow) (vs:List Value) (cap tot:Nat),Mem.le E0 E'->m+1<=cap->cap*2<=tot->vs=rs.flatMap rowV->FLr E' rs (mems s (gE) a zs0 (m+1))->Ct F1 6 Tryz.f104 [1,1,1] 6 K (sh5e s a b l c m (m+1) cap tot vs E'))
  (ih:∀ (E':Mem) (cap tot:Nat) (vs:List Value) (zs:List Int) (rs:List FRow),i<m->I33 E0 E' s (gE) a l m zs0 (i+1) cap tot vs zs rs->
   Lp (FY n0 rc) 6 Tryz.f110 [1,1,1,0] 8 (fun _ bx E=>Cn F1 6 Tryz.f104 [1,1,0,1,0] 6 K { fr:=fr27 n0,bx:=bx,E:=E }) (sh33e s a b l c m rc (i+1) cap tot vs zs E')):
  Rnd (FY n0 rc) 6 Tryz.f110 [1,1,1,0] 8 (fun _ bx E=>Cn F1 6 Tryz.f104 [1,1,0,1,0] 6 K { fr:=fr27 n0,bx:=bx,E:=E }) (sh33e s a b l c m rc i cap tot vs zs E):=by
 refine sm_ (?_:Sx.Alike al2 (∀ (r:Bool),(r=true->Sx.Alike al2 (l=0))->bif r then rc.l=rc.l/\i*2<=List.length (Row.cells (Row.vals vs))/\cap*2<=tot/\i<=cap/\req ((i+1)*32<=140737488355328) (∀ (cap' tot':Nat),i+1<=cap'->cap'*2<=tot'->Sx.Alike al2 (bif bif true then decide ((NI i)<(NI m)) else false then req ((0:Int)<=WI ((NI a)+(NI i))/\WI ((NI a)+(NI i))<(NI l)) (∃ (n:Int),LoadV (FY n0 rc).P 5 (vB zs) (0+Int.toNat (WI ((NI a)+(NI i)))*1) (SV.raw (U8 n))/\Sx.Alike (AlikeT.n al2 (AlikeT.n al2 AlikeT.l)) (Mem.le E E/\req ((0:Int)<=WI ((NI a)+(NI i))/\WI ((NI a)+(NI i))<(NI l)) (0+Int.toNat (WI ((NI a)+(NI i)))*1+1<=List.length (vB zs)/\Lp (FY n0 rc) 6 Tryz.f110 [1,1,1,0] 8 (fun (x:SV) (bx:List Box) (E:Mem)=>Cn F1 6 Tryz.f104 [1,1,0,1,0] 6 K { fr:=fr27 n0,bx:=bx,E:=E:St }) { fr:=some (SV.raw (Value.func (Fn.yield rc.l) #[] #[]))::oc 2 0::oc 4 0::oc 5 0::oc 3 0::none::oc 9 0::oI (WI ((NI i)+1))::no32 (no8 (no2 (none::[]))),bx:=[(⟨24,.lst [I s,L b l c],2,true⟩:Box),⟨24,.lst [I s,L b l c],2,true⟩,⟨24,.lst [I s,L b l c],2,true⟩,⟨3,.lst [I (NI a)],1,true⟩,⟨3,.lst [I (NI m)],1,true⟩,⟨145,.lst [SV.clo 103 [] []],1,true⟩,⟨24,.lst [],0,false⟩,⟨33,.lst [SV.slc 13 0 (i+1) cap'],1,true⟩,⟨5,.vals (layV (vB zs) (0+Int.toNat (WI ((NI a)+(NI i)))*1) [U8 255]),l*1,true⟩,⟨24,.lst [I s,SV.slc 8 0 l l],2,true⟩,⟨24,.lst [],0,false⟩,⟨24,.lst [I s,L none 0 0],2,true⟩,⟨24,.lst [I s,L none 0 0],2,true⟩,⟨24,.vals (List.take (i*2) vs++[Value.int IntKind.i64 s,VS none 0 0]),tot',true⟩],E:=E:St }))) else Cn F1 6 Tryz.f104 [1,1,0,1,0] 6 K { fr:=some (SV.clo 110 [] [SV.loc 2 0,SV.loc 4 0,SV.loc 5 0,SV.loc 3 0])::oI n0::none::none::oL none 0 0::oc 7 0::none::oI n0::os 6 0 0 (Int.toNat n0)::some (SV.clo 110 [] [SV.loc 2 0,SV.loc 4 0,SV.loc 5 0,SV.loc 3 0])::no4 (no2 []),bx:=[(⟨24,.lst [I s,L b l c],2,true⟩:Box),⟨24,.lst [I s,L b l c],2,true⟩,⟨24,.lst [I s,L b l c],2,true⟩,⟨3,.lst [I (NI a)],1,true⟩,⟨3,.lst [I (NI m)],1,true⟩,⟨145,.lst [SV.clo 103 [] []],1,true⟩,⟨24,.lst [],0,false⟩,⟨33,.lst [SV.slc 13 0 (i+1) cap'],1,true⟩,⟨5,.vals (vB zs),l*1,true⟩,⟨24,.lst [I s,SV.slc 8 0 l l],2,true⟩,⟨24,.lst [],0,false⟩,⟨24,.lst [I s,L none 0 0],2,true⟩,⟨24,.lst [I s,L none 0 0],2,true⟩,⟨24,.vals (List.take (i*2) vs++[Value.int IntKind.i64 s,VS none 0 0]),tot',true⟩],E:=E:St })) else 0+l*1<=List.length (vB zs)/\(∀ (x:Value),List.Mem x (vB zs)->Value.oneCell' x=true)/\0<=0/\0<=0/\0<=0/\req ((0+l)*1<=140737488355328) (∀ (cap' tot':Nat),0+l<=cap'->cap'*1<=tot'->rc.l=rc.l/\∀ (base:Option Addr) (E':Mem),Mem.le E E'->WinE E' base ([]++List.take (l*1) (List.drop 0 (vB zs)))->i*2<=List.length (Row.cells (Row.vals vs))/\cap*2<=tot/\i<=cap/\req ((i+1)*32<=140737488355328) (∀ (cap'_1 tot'_1:Nat),i+1<=cap'_1->cap'_1*2<=tot'_1->Sx.Alike al2 (bif bif true then decide ((NI i)<(NI m)) else false then req ((0:Int)<=WI ((NI a)+(NI i))/\WI ((NI a)+(NI i))<(NI l)) (∃ (n:Int),LoadV (FY n0 rc).P 5 (vB zs) (0+Int.toNat (WI ((NI a)+(NI i)))*1) (SV.raw (U8 n))/\Sx.Alike (AlikeT.n al2 (AlikeT.n al2 AlikeT.l)) (Mem.le E' E'/\req ((0:Int)<=WI ((NI a)+(NI i))/\WI ((NI a)+(NI i))<(NI l)) (0+Int.toNat (WI ((NI a)+(NI i)))*1+1<=List.length (vB zs)/\Lp (FY n0 rc) 6 Tryz.f110 [1,1,1,0] 8 (fun (x:SV) (bx:List Box) (E:Mem)=>Cn F1 6 Tryz.f104 [1,1,0,1,0] 6 K { fr:=fr27 n0,bx:=bx,E:=E:St }) { fr:=some (SV.raw (Value.func (Fn.yield rc.l) #[] #[]))::oc 2 0::oc 4 0::oc 5 0::oc 3 0::none::oc 9 0::oI (WI ((NI i)+1))::no32 (no8 (no2 (none::[]))),bx:=[(⟨24,.lst [I s,L b l c],2,true⟩:Box),⟨24,.lst [I s,L b l c],2,true⟩,⟨24,.lst [I s,L b l c],2,true⟩,⟨3,.lst [I (NI a)],1,true⟩,⟨3,.lst [I (NI m)],1,true⟩,⟨145,.lst [SV.clo 103 [] []],1,true⟩,⟨24,.lst [],0,false⟩,⟨33,.lst [SV.slc 15 0 (i+1) cap'_1],1,true⟩,⟨5,.vals (layV (vB zs) (0+Int.toNat (WI ((NI a)+(NI i)))*1) [U8 255]),l*1,true⟩,⟨24,.lst [I s,SV.slc 8 0 l l],2,true⟩,⟨24,.lst [],0,false⟩,⟨5,.lst [],0,false⟩,⟨5,.vals ([]++List.take (l*1) (List.drop 0 (vB zs))),tot',false⟩,⟨24,.lst [I s,L (Option.map (fun (x:Addr)=>Addr.add x 0) base) (0+l) cap'],2,true⟩,⟨24,.lst [I s,L (Option.map (fun (x:Addr)=>Addr.add x 0) base) (0+l) cap'],2,true⟩,⟨24,.vals (List.take (i*2) vs++[Value.int IntKind.i64 s,slcAs base 0 (0+l) cap']),tot'_1,true⟩],E:=E':St }))) else Cn F1 6 Tryz.f104 [1,1,0,1,0] 6 K { fr:=some (SV.clo 110 [] [SV.loc 2 0,SV.loc 4 0,SV.loc 5 0,SV.loc 3 0])::oI n0::none::none::oL none 0 0::oc 7 0::none::oI n0::os 6 0 0 (Int.toNat n0)::some (SV.clo 110 [] [SV.loc 2 0,SV.loc 4 0,SV.loc 5 0,SV.loc 3 0])::no4 (no2 []),bx:=[(⟨24,.lst [I s,L b l c],2,true⟩:Box),⟨24,.lst [I s,L b l c],2,true⟩,⟨24,.lst [I s,L b l c],2,true⟩,⟨3,.lst [I (NI a)],1,true⟩,⟨3,.lst [I (NI m)],1,true⟩,⟨145,.lst [SV.clo 103 [] []],1,true⟩,⟨24,.lst [],0,false⟩,⟨33,.lst [SV.slc 15 0 (i+1) cap'_1],1,true⟩,⟨5,.vals (vB zs),l*1,true⟩,⟨24,.lst [I s,SV.slc 8 0 l l],2,true⟩,⟨24,.lst [],0,false⟩,⟨5,.lst [],0,false⟩,⟨5,.vals ([]++List.take (l*1) (List.drop 0 (vB zs))),tot',false⟩,⟨24,.lst [I s,L (Option.map (fun (x:Addr)=>Addr.add x 0) base) (0+l) cap'],2,true⟩,⟨24,.lst [I s,L (Option.map (fun (x:Addr)=>Addr.add x 0) base) (0+l) cap'],2,true⟩,⟨24,.vals (List.take (i*2) vs++[Value.int IntKind.i64 s,slcAs base 0 (0+l) cap']),tot'_1,true⟩],E:=E':St })))))
 delta WI NI U8 VS no2 no4 no8 no32
 obtain ⟨hle,⟨l1,l2,l3⟩,hlen,hbyte,him,⟨hc1,hc2⟩,⟨hv1,hv2⟩,hzs,hrs⟩:=hI
 have hzl:zs.length=l:=by rw [hzs,stp_len];exact hlen
 have hzb:∀ z∈zs,0<=z/\z<=255:=by rw [hzs];exact stp_byte hbyte (fun i x=>⟨(by decide:(0:Int)<=255),(by decide:(255:Int)<=255)⟩) i
 have him2:i<=16384:=by omega
 have eai:IntKind.wrap .i64 ((a:Int)+(i:Int))=((a+i:Nat):Int):=by rw [wrap_i64 (by omega)];simp
 have ei1:IntKind.wrap .i64 ((i:Int)+1)=((i+1:Nat):Int):=by rw [wrap_i64 (by omega)];simp
 have hld:zs.length<=l:=Nat.le_of_eq hzl
 refine alike (fun r hr=>condC (fun h1=>by subst h1;exact absurd (show l=0 from (hr rfl).1) (by omega)) (fun _=>?_))
 refine ⟨by simp only [List.length_map,hzl];omega,vB_one zs,Nat.le_refl _,Nat.le_refl _,Nat.le_refl _,req_intro (by omega) (fun cap1 tot1 c1 c2=>⟨rfl,fun base E1 hE1 hW=>⟨?_,hc2,hc1,req_intro (by omega) (fun cap2 tot2 c3 c4=>?_)⟩⟩)⟩
 ·simp only [Row.cells,List.length_map];exact hv1
 have etk:[]++List.take (l*1) (List.drop 0 (vB zs))=vB zs:=by rw [List.nil_append,List.drop_zero,List.take_of_length_le (by simp only [List.length_map,hzl];omega)]
 rw [etk] at hW
 have hBs:Bs E1 (base.map fun x=>x.add 0) (0+l) cap1 zs:=Bs.win hW rfl (by omega) c1 hzb
 have hrs1:FLr E1 (rs++[(s,base.map fun x=>x.add 0,0+l,cap1)]) (mems s (gE) a zs0 (i+1)):=by
  rw [mems_succ];exact (hrs.mono hE1).snoc rfl (by rw [← hzs];exact hBs)
 have hvs1:List.take (i*2) vs++[Value.int IntKind.i64 s,slcAs base 0 (0+l) cap1]=(rs++[(s,base.map fun x=>x.add 0,0+l,cap1)]).flatMap rowV:=by
  rw [rows_snoc,hv2];rfl
 have hrl:rs.length=i:=by rw [hrs.1,mems_len]
 have hle1:Mem.le E0 E1:=mt_ hle hE1
 refine alike (condC (fun hlt=>?_) (fun hge=>?_))
 ·have hlt:i<m:=by simpa using hlt
  have hal:a+i<l:=by omega
  have hget:zs.getD (a+i) 0=zs[a+i]'(by omega):=by rw [List.getD_eq_getElem?_getD,List.getElem?_eq_getElem (by omega)];rfl
  refine req_intro (by rw [eai];omega) ⟨zs.getD (a+i) 0,?_,alike ⟨mr_,req_intro (by rw [eai];omega) ⟨?_,?_⟩⟩⟩
  ·rw [eai]
   show LoadV _ _ _ (0+((a+i:Nat):Int).toNat*1) _
   rw [show 0+((a+i:Nat):Int).toNat*1=a+i by omega]
   exact loadV_byte rfl (by omega)
  ·rw [eai];simp only [List.length_map];omega
  ·have e1:0+Int.toNat (IntKind.wrap IntKind.i64 ((a:Int)+(i:Int)))*1=a+i:=by rw [eai];omega
   rw [e1,ei1,layV_set (by omega)]
   refine Lp_re [some 0,some 1,some 2,some 3,some 4,some 5,some 6,some 7,some 8,some 9,some 15] (ih E1 cap2 tot2 _ _ _ hlt ⟨hle1,⟨l1,l2,l3⟩,hlen,hbyte,by omega,⟨c3,c4⟩,⟨?_,?_⟩,?_,hrs1⟩) (wkG mr_ (h6:=(by repeat' first|exact True.intro|exact rfl|exact Or.inl rfl|exact (by decide:6<16)|refine And.intro ?_ ?_)))
   ·rw [hvs1,rows_len];simp [hrl]
   ·rw [hvs1,List.take_of_length_le (by rw [rows_len];simp [hrl])]
   ·rw [hzs];rfl
 ·have hge:i=m:=by simp at hge;omega
  subst hge
  subst hn
  exact Cn_intro (cn27e (hK E1 _ _ cap2 tot2 hle1 c3 c4 hvs1 hrs1))
theorem lp33e {K:KT} (hn:n0=((m+1:Nat):Int)) (hrc:CxOK (FY n0 rc))
  (hK:∀ (E':Mem) (rs:List FRow) (vs:List Value) (cap tot:Nat),Mem.le E0 E'->m+1<=cap->cap*2<=tot->vs=rs.flatMap rowV->FLr E' rs (mems s (gE) a zs0 (m+1))->Ct F1 6 Tryz.f104 [1,1,1] 6 K (sh5e s a b l c m (m+1) cap tot vs E'))
  {cap:Nat} {rs:List FRow} (hI:I33 E0 E s (gE) a l m zs0 i cap tot vs zs rs):
  Lp (FY n0 rc) 6 Tryz.f110 [1,1,1,0] 8 (Q27 K n0) (sh33e s a b l c m rc i cap tot vs zs E):=by
 have key:=Lp_ind hrc (n:=6) (fn:=Tryz.f110) (p:=[1,1,1,0]) (n0:=8) (K:=Q27 K n0)
  (fun x:{x:Mem×Nat×Nat×Nat×List Value×List Int×List FRow//I33 E0 x.1 s (gE) a l m zs0 x.2.1 x.2.2.1 x.2.2.2.1 x.2.2.2.2.1 x.2.2.2.2.2.1 x.2.2.2.2.2.2}=>sh33e s a b l c m rc x.1.2.1 x.1.2.2.1 x.1.2.2.2.1 x.1.2.2.2.2.1 x.1.2.2.2.2.2.1 x.1.1)
  (fun x=>m-x.1.2.1) (fun x ih=>rnd33e hn x.2 hK fun E' cap tot vs zs rs hlt h'=>ih ⟨⟨E',x.1.2.1+1,cap,tot,vs,zs,rs⟩,h'⟩ (by show m-(_+1)<m-_;omega))
 exact key ⟨⟨E,i,cap,tot,vs,zs,rs⟩,hI⟩
theorem ent33e {K:KT} (hn:n0=((m+1:Nat):Int)) (hrc:CxOK (FY n0 rc))
  (hz:Bs E b l c zs0) (hl:1<=l/\l<=16384/\a+m<=l)
  (hK:∀ (E':Mem) (rs:List FRow) (vs:List Value) (cap tot:Nat),Mem.le E E'->m+1<=cap->cap*2<=tot->vs=rs.flatMap rowV->FLr E' rs (mems s (gE) a zs0 (m+1))->Ct F1 6 Tryz.f104 [1,1,1] 6 K (sh5e s a b l c m (m+1) cap tot vs E')):
  EntB (FY n0 rc) 6 Tryz.f110 [.raw (.func (.yield rc.l) #[] #[]),.loc 2 0,.loc 4 0,.loc 5 0,.loc 3 0]
  ([⟨24,.lst [I s,L b l c],2,true⟩,⟨24,.lst [I s,L b l c],2,true⟩,⟨24,.lst [I s,L b l c],2,true⟩,⟨3,.lst [I (a:Nat)],1,true⟩,⟨3,.lst [I (m:Nat)],1,true⟩,⟨145,.lst [.clo 103 [] []],1,true⟩]++[⟨24,.vals (zerosV [.int .i64 0,.slice none 0 0] (Int.toNat n0)),Int.toNat n0*2,true⟩,⟨33,.lst [.slc 6 0 0 (Int.toNat n0)],1,true⟩]) E (Q27 K n0):=by
 refine sm_ (?_:req (0<=(NI l)/\(NI l)<=(NI l)) (req ((NI l)*1<=(140737488355328:Int)) (∃ (cs:List Value),(cs=[]\/E (VS b l c) cs)/\l*1<=List.length cs/\(∀ (x:Value),List.Mem x cs->Value.oneCell' x=true)/\0+Int.toNat (NI l)*1<=List.length (zerosV [U8 0] (Int.toNat (NI l)))/\Lp (FY n0 rc) 6 Tryz.f110 [1,1,1,0] 8 (Q27 K n0) { fr:=some (SV.raw (Value.func (Fn.yield rc.l) #[] #[]))::oc 2 0::oc 4 0::oc 5 0::oc 3 0::none::oc 9 0::oI 0::oc 2 0::oI s::oc 2 1::oL b l c::oI (NI l)::os 8 0 (Int.toNat (NI l)) (Int.toNat (NI l))::some (SV.agg [I s,SV.slc 8 0 (Int.toNat (NI l)) (Int.toNat (NI l))])::oc 9 1::os 8 0 (Int.toNat (NI l)) (Int.toNat (NI l))::oc 2 1::oL b l c::oI (NI (min l (Int.toNat (NI l))))::no16 (no8 (no4 (no2 (none::[])))),bx:=[(⟨24,.lst [I s,L b l c],2,true⟩:Box),⟨24,.lst [I s,L b l c],2,true⟩,⟨24,.lst [I s,L b l c],2,true⟩,⟨3,.lst [I (NI a)],1,true⟩,⟨3,.lst [I (NI m)],1,true⟩,⟨145,.lst [SV.clo 103 [] []],1,true⟩,⟨24,.vals (zerosV [Value.int IntKind.i64 0,VS none 0 0] (Int.toNat n0)),Int.toNat n0*2,true⟩,⟨33,.lst [SV.slc 6 0 0 (Int.toNat n0)],1,true⟩,⟨5,.vals (layV (zerosV [U8 0] (Int.toNat (NI l))) 0 (List.take (min l (Int.toNat (NI l))*1) (List.take (l*1) cs))),Int.toNat (NI l)*1,true⟩,⟨24,.lst [I s,SV.slc 8 0 (Int.toNat (NI l)) (Int.toNat (NI l))],2,true⟩],E:=E:St })))
 delta NI U8 VS no2 no4 no8 no16
 obtain ⟨l1,l2,l3⟩:=hl
 obtain ⟨t1,t2,t3⟩:=hz.src
 have hzl:=hz.2.1
 refine req_intro (by omega) (req_intro (by simp;omega) ⟨_,t1,t2,t3,?_,?_⟩)
 ·simp [zerosV]
 have hn2:Int.toNat n0=m+1:=by omega
 have e1:layV (zerosV [Value.int IntKind.u8 0] (Int.toNat (l:Int))) 0 (List.take (min l (Int.toNat (l:Int))*1) (List.take (l*1) (zs0.map (Value.int .u8))))=vB zs0:=by
  rw [Int.toNat_natCast,Nat.min_self,List.take_of_length_le (l:=List.take _ _) (by simp only [List.length_take,List.length_map];omega),List.take_of_length_le (by simp;omega)]
  unfold layV
  rw [List.take_zero,List.nil_append,List.drop_eq_nil_of_le (by simp [zerosV];omega),List.append_nil]
 rw [e1,Int.toNat_natCast]
 exact Lp_re [some 0,some 1,some 2,some 3,some 4,some 5,some 6,some 7,some 8,some 9,some 6] (lp33e hn hrc hK (i:=0) (cap:=Int.toNat n0) (tot:=Int.toNat n0*2) (vs:=zerosV [.int .i64 0,.slice none 0 0] (Int.toNat n0)) (zs:=zs0) (rs:=[]) ⟨mr_,⟨l1,l2,l3⟩,hzl,hz.2.2.2.1,Nat.zero_le _,⟨Nat.zero_le _,Nat.le_refl _⟩,⟨by simp,by simp⟩,rfl,FLr.nil _⟩) (wkG mr_ (h6:=(by repeat' first|exact True.intro|exact rfl|exact Or.inl rfl|exact (by decide:6<10)|refine And.intro ?_ ?_)))
theorem leaf27e {K:KT} (hn:n0=((m+1:Nat):Int))
  (hz:Bs E b l c zs0) (hl:1<=l/\l<=16384/\a+m<=l)
  (hK:∀ (E':Mem) (rs:List FRow) (vs:List Value) (cap tot:Nat),Mem.le E E'->m+1<=cap->cap*2<=tot->vs=rs.flatMap rowV->FLr E' rs (mems s (gE) a zs0 (m+1))->Ct F1 6 Tryz.f104 [1,1,1] 6 K (sh5e s a b l c m (m+1) cap tot vs E')):
  Ct F1 6 Tryz.f104 [1,1,0,1,0] 6 K ⟨fr27 n0,[⟨24,.lst [I s,L b l c],2,true⟩,⟨24,.lst [I s,L b l c],2,true⟩,⟨24,.lst [I s,L b l c],2,true⟩,⟨3,.lst [I (a:Nat)],1,true⟩,⟨3,.lst [I (m:Nat)],1,true⟩,⟨145,.lst [.clo 103 [] []],1,true⟩]++[⟨24,.vals (zerosV [.int .i64 0,.slice none 0 0] (Int.toNat n0)),Int.toNat n0*2,true⟩,⟨33,.lst [.slc 6 0 0 (Int.toNat n0)],1,true⟩],E⟩:=
 RfY okF1 okF2 (by kernel_rfl) (by kernel_rfl) Tryz.func110 ⟨by kernel_rfl,by kernel_rfl⟩ (gf:=110) (gfn:=Tryz.f110) (first:=[]) (caps:=[.loc 2 0,.loc 4 0,.loc 5 0,.loc 3 0]) (m:=6) (fun rc hrc=>ent33e hn hrc hz hl hK) rfl rfl
theorem pc5e {K:KT} {n cap:Nat} (h:K (.slc 7 0 n cap) (sh5e s a b l c m n cap tot vs E).bx E):Pc F1 6 Tryz.f104 [1,1,1] 6 K (sh5e s a b l c m n cap tot vs E):=by
 refine sm_ (?_:K (SV.slc 7 0 n cap) [⟨24,Row.lst [I s,L b l c],2,true⟩,⟨24,Row.lst [I s,L b l c],2,true⟩,⟨24,Row.lst [I s,L b l c],2,true⟩,⟨3,Row.lst [I (↑a:Int)],1,true⟩,⟨3,Row.lst [I (↑m:Int)],1,true⟩,⟨145,Row.lst [SV.clo 103 [] []],1,true⟩,⟨33,Row.lst [SV.slc 7 0 n cap],1,true⟩,⟨24,Row.vals vs,tot,true⟩] E)
 exact h
theorem out27e {K:KT} {n cap:Nat} {rs:List FRow} (hr:FLr E rs ms) (hn:ms.length=n) (hc:n<=cap)
  (h:∀ (fb:Option Addr) (E':Mem),Mem.le E E'->FL E' fb n cap ms->K (L fb n cap) ([⟨24,.lst [I s,L b l c],2,true⟩,⟨24,.lst [I s,L b l c],2,true⟩,⟨24,.lst [I s,L b l c],2,true⟩,⟨3,.lst [I (a:Nat)],1,true⟩,⟨3,.lst [I (m:Nat)],1,true⟩,⟨145,.lst [.clo 103 [] []],1,true⟩]) E'):pubB (cloK 6 K) (.slc 7 0 n cap) (sh5e s a b l c m n cap tot (rs.flatMap rowV) E).bx E:=by
 refine same (q:=∀ (base:Option Addr) (E2:Mem),Mem.le E E2->WinE E2 base (rs.flatMap rowV)->cloK 6 K (.raw (slcAs base 0 n cap)) ([⟨24,.lst [I s,L b l c],2,true⟩,⟨24,.lst [I s,L b l c],2,true⟩,⟨24,.lst [I s,L b l c],2,true⟩,⟨3,.lst [I (a:Nat)],1,true⟩,⟨3,.lst [I (m:Nat)],1,true⟩,⟨145,.lst [.clo 103 [] []],1,true⟩]++[⟨33,.lst [.raw (slcAs base 0 n cap)],1,true⟩,⟨24,.vals (rs.flatMap rowV),tot,false⟩]) E2) (by kernel_rfl) ?_
 intro base E2 h1 h2
 exact cloK_intro [some 0,some 1,some 2,some 3,some 4,some 5] (h _ E2 h1 (FL.win h2 rfl (hr.mono h1) hn hc)) (wkG mr_)
theorem s27e {K:KT} (hn:n0=((m+1:Nat):Int))
  (hz:Bs E b l c zs0) (hl:1<=l/\l<=16384/\a+m<=l)
  (h:∀ (fb:Option Addr) (cap:Nat) (E':Mem),Mem.le E E'->FL E' fb (m+1) cap (mems s (gE) a zs0 (m+1))->K (L fb (m+1) cap) ([⟨24,.lst [I s,L b l c],2,true⟩,⟨24,.lst [I s,L b l c],2,true⟩,⟨24,.lst [I s,L b l c],2,true⟩,⟨3,.lst [I (a:Nat)],1,true⟩,⟨3,.lst [I (m:Nat)],1,true⟩,⟨145,.lst [.clo 103 [] []],1,true⟩]) E'):
  EntB F1 6 Tryz.f104 [.clo 110 [] [.loc 2 0,.loc 4 0,.loc 5 0,.loc 3 0],I n0] ([⟨24,.lst [I s,L b l c],2,true⟩,⟨24,.lst [I s,L b l c],2,true⟩,⟨24,.lst [I s,L b l c],2,true⟩,⟨3,.lst [I (a:Nat)],1,true⟩,⟨3,.lst [I (m:Nat)],1,true⟩,⟨145,.lst [.clo 103 [] []],1,true⟩]) E (pubB (cloK 6 K)):=by
 refine sm_ (?_:req ((0:Int)<=(0:Int)/\(0:Int)<=n0) (req (n0*(32:Int)<=(140737488355328:Int)) (Ct F1 6 Tryz.f104 [1,1,0,1,0] 6 (pubB (cloK 6 K)) { fr:=[some (SV.clo 110 [] [SV.loc 2 0,SV.loc 4 0,SV.loc 5 0,SV.loc 3 0]),oI n0,none,none,oL none 0 0,oc 7 0,none,oI n0,os 6 0 0 (Int.toNat n0),some (SV.clo 110 [] [SV.loc 2 0,SV.loc 4 0,SV.loc 5 0,SV.loc 3 0]),none,none,none,none,none,none],bx:=[(⟨24,Row.lst [I s,L b l c],2,true⟩:Box),⟨24,Row.lst [I s,L b l c],2,true⟩,⟨24,Row.lst [I s,L b l c],2,true⟩,⟨3,Row.lst [I (↑a:Int)],1,true⟩,⟨3,Row.lst [I (↑m:Int)],1,true⟩,⟨145,Row.lst [SV.clo 103 [] []],1,true⟩,⟨24,Row.vals (zerosV [Value.int IntKind.i64 (0:Int),Value.slice none 0 0] (Int.toNat n0)),Int.toNat n0*2,true⟩,⟨33,Row.lst [SV.slc 6 0 0 (Int.toNat n0)],1,true⟩],E:=E:St })))
 refine req_intro (by omega) (req_intro (by omega) (leaf27e hn hz hl fun E' rs vs cap tot h1 h2 h3 h4 h5=>?_))
 subst h4
 exact Ct_intro okF1 (pc5e (out27e h5 (by simp [mems_len]) h2 fun fb E2 g1 g2=>h fb cap E2 (mt_ h1 g1) g2))
theorem sem27e {K:KT} (hn:n0=((m+1:Nat):Int))
  (hz:Bs E b l c zs0) (hl:1<=l/\l<=16384/\a+m<=l)
  (h:∀ (fb:Option Addr) (cap:Nat) (E':Mem),Mem.le E E'->FL E' fb (m+1) cap (mems s (gE) a zs0 (m+1))->K (L fb (m+1) cap) ([⟨24,.lst [I s,L b l c],2,true⟩,⟨24,.lst [I s,L b l c],2,true⟩,⟨24,.lst [I s,L b l c],2,true⟩,⟨3,.lst [I (a:Nat)],1,true⟩,⟨3,.lst [I (m:Nat)],1,true⟩,⟨145,.lst [.clo 103 [] []],1,true⟩]) E'):
  CallSem Tryz.prog 104 [.clo 110 [] [.loc 2 0,.loc 4 0,.loc 5 0,.loc 3 0],I n0] ([⟨24,.lst [I s,L b l c],2,true⟩,⟨24,.lst [I s,L b l c],2,true⟩,⟨24,.lst [I s,L b l c],2,true⟩,⟨3,.lst [I (a:Nat)],1,true⟩,⟨3,.lst [I (m:Nat)],1,true⟩,⟨145,.lst [.clo 103 [] []],1,true⟩]) E K:=
 (EntB.sem okF1 Tryz.func104 ⟨by kernel_rfl,by kernel_rfl⟩ (s27e hn hz hl h)).pubB.clo
def validF (s:Int) (l:Nat):Prop:=1<=s/\s<=1024/\s<=l/\l<=16384/\(l:Int) % s=0
instance (s:Int) (l:Nat):Decidable (validF s l):=by unfold validF;infer_instance
def progF (s:Int) (zs:List Int) (a:Int) (ds:List Int):List (Int×List Int)×Int:=
 if ¬ validF s zs.length\/a<0 then ([],1) else if a>zs.length\/(ds.length:Int)>zs.length-a then ([],3) else (mems s (gP ds) a.toNat zs (ds.length+1),0)
def erasF (s:Int) (zs:List Int) (k:Int):List (Int×List Int)×Int:=
 if ¬ validF s zs.length\/k<0\/k>=(zs.length:Int) / s then ([],1) else (mems s gE (k*s).toNat zs (s.toNat+1),0)
def tabP:CallT:=fun f args bx E K=>f=104/\∃ (s:Int) (a:Nat) (b db:Option Addr) (l c dl dc m:Nat) (zs0 ds:List Int) (n0:Int),args=[.clo 110 [] [.loc 2 0,.loc 4 0,.loc 5 0,.loc 3 0],I n0]/\bx=[⟨24,.lst [I s,L b l c],2,true⟩,⟨22,.lst [L db dl dc],1,true⟩,⟨24,.lst [I s,L b l c],2,true⟩,⟨3,.lst [I (a:Nat)],1,true⟩,⟨3,.lst [I (m:Nat)],1,true⟩,⟨145,.lst [.clo 111 [] [.loc 1 0]],1,true⟩]/\
 n0=((m+1:Nat):Int)/\Bs E db dl dc ds/\m=dl/\Bs E b l c zs0/\(1<=l/\l<=16384/\a+m<=l)/\(∀ (fb:Option Addr) (cap:Nat) (E':Mem),Mem.le E E'->FL E' fb (m+1) cap (mems s (gP ds) a zs0 (m+1))->K (L fb (m+1) cap) bx E')
theorem tabP_ok (f:FuncId) (args:List SV) (bx:List Box) (E:Mem) (K:KT) (h:tabP f args bx E K):CallSem Tryz.prog f args bx E K:=by
 obtain ⟨rfl,s,a,b,db,l,c,dl,dc,m,zs0,ds,n0,rfl,rfl,h1,h2,h3,h4,h5,h6⟩:=h
 exact sem27 h1 h2 h3 h4 h5 h6
def tabE:CallT:=fun f args bx E K=>f=104/\∃ (s:Int) (a:Nat) (b:Option Addr) (l c m:Nat) (zs0:List Int) (n0:Int),args=[.clo 110 [] [.loc 2 0,.loc 4 0,.loc 5 0,.loc 3 0],I n0]/\bx=[⟨24,.lst [I s,L b l c],2,true⟩,⟨24,.lst [I s,L b l c],2,true⟩,⟨24,.lst [I s,L b l c],2,true⟩,⟨3,.lst [I (a:Nat)],1,true⟩,⟨3,.lst [I (m:Nat)],1,true⟩,⟨145,.lst [.clo 103 [] []],1,true⟩]/\
 n0=((m+1:Nat):Int)/\Bs E b l c zs0/\(1<=l/\l<=16384/\a+m<=l)/\(∀ (fb:Option Addr) (cap:Nat) (E':Mem),Mem.le E E'->FL E' fb (m+1) cap (mems s gE a zs0 (m+1))->K (L fb (m+1) cap) bx E')
theorem tabE_ok (f:FuncId) (args:List SV) (bx:List Box) (E:Mem) (K:KT) (h:tabE f args bx E K):CallSem Tryz.prog f args bx E K:=by
 obtain ⟨rfl,s,a,b,l,c,m,zs0,n0,rfl,rfl,h1,h4,h5,h6⟩:=h
 exact sem27e h1 h4 h5 h6
noncomputable def F5:Cx:={ P:=Tryz.prog,inl:=fun f=>List.contains [] f,tab:=fun _ _ _ _=>False,isB:=fun _=>false,tabB:=fun _ _ _ _ _=>False,opt:={ unroll:=0,carry:=[] },muts:=mutsD }
theorem okF5:CxOK F5:=CxOK.four (fun _ _ _ _ h=>h.elim) (by kernel_rfl) (okInl (by kernel_rfl)) (fun _ _ _ _ _ h=>h.elim)
theorem validF_mod (h1:1<=s):(Int.tmod (l:Int) s==0)=decide ((l:Int) % s=0):=by
 rw [Int.tmod_eq_emod_of_nonneg (by omega)]
 by_cases h:(l:Int) % s=0<;>simp [h]
theorem validF_no (h:¬ validF s l):decide (validF s l)=false:=by simp [h]
theorem s18 (h:K (B (decide (validF a1 l3))) E):
  Ent F5 6 Tryz.f81 [.agg [I a1,L b2 l3 c4]] E K:=by
 refine sm_ (?_:bif decide (a1<(1:Int)) then Mem.le E E/\K (B false) E else bif bif false then true else decide (a1>(1024:Int)) then Mem.le E E/\K (B false) E else bif decide ((↑l3:Int)<a1) then Mem.le E E/\K (B false) E else bif bif false then true else decide ((↑l3:Int)>(16384:Int)) then Mem.le E E/\K (B false) E else (a1=(0:Int)->False)/\Mem.le E E/\K (B (Int.tmod (↑l3:Int) a1==(0:Int))) E)
 have bad:¬ validF a1 l3->Mem.le E E/\K (B false) E:=fun hn=>⟨mr_,by rw [validF_no hn] at h;exact h⟩
 unfold validF at bad
 refine condC (fun g=>bad (by simp at g;omega)) (fun g1=>?_)
 refine condC (fun g=>bad (by simp at g;omega)) (fun g2=>?_)
 refine condC (fun g=>bad (by simp at g;omega)) (fun g3=>?_)
 refine condC (fun g=>bad (by simp at g;omega)) (fun g4=>?_)
 have g1:1<=a1:=by simpa using g1
 have g2:a1<=1024:=by simpa using g2
 have g3:a1<=l3:=by simpa using g3
 have g4:l3<=16384:=by simp at g4;omega
 refine ⟨by omega,mr_,?_⟩
 rw [validF_mod g1]
 rw [show decide (validF a1 l3)=decide ((l3:Int) % a1=0) from by unfold validF;simp [g1,g2,g3,g4]] at h
 exact h
theorem s19 (h:K (B (decide (validF a1 l3))) E):
  Ent F5 6 Tryz.f62 [.agg [I a1,L b2 l3 c4]] E K:=by
 refine sm_ (?_:bif decide (a1>=(1:Int)) then bif bif true then decide (a1<=(1024:Int)) else false then bif bif true then decide ((↑l3:Int)>=a1) else false then bif bif true then decide ((↑l3:Int)<=(16384:Int)) else false then (a1=(0:Int)->False)/\Mem.le E E/\K (B (bif true then Int.tmod (↑l3:Int) a1==(0:Int) else false)) E else Mem.le E E/\K (B false) E else Mem.le E E/\K (B false) E else Mem.le E E/\K (B false) E else Mem.le E E/\K (B false) E)
 have bad:¬ validF a1 l3->Mem.le E E/\K (B false) E:=fun hn=>⟨mr_,by rw [validF_no hn] at h;exact h⟩
 unfold validF at bad
 refine condC (fun g1=>?_) (fun g=>bad (by simp at g;omega))
 refine condC (fun g2=>?_) (fun g=>bad (by simp at g;omega))
 refine condC (fun g3=>?_) (fun g=>bad (by simp at g;omega))
 refine condC (fun g4=>?_) (fun g=>bad (by simp at g;omega))
 have g1:1<=a1:=by simpa using g1
 have g2:a1<=1024:=by simpa using g2
 have g3:a1<=l3:=by simpa using g3
 have g4:l3<=16384:=by simp at g4;omega
 refine ⟨by omega,mr_,?_⟩
 show K (B (Int.tmod (l3:Int) a1==0)) E
 rw [validF_mod g1]
 rw [show decide (validF a1 l3)=decide ((l3:Int) % a1=0) from by unfold validF;simp [g1,g2,g3,g4]] at h
 exact h
noncomputable def tab18:FuncId->List SV->Mem->(SV->Mem->Prop)->Prop:=fun f args E K=>match f with
 | 81=>d1 args fun x0=>dC x0 fun l1=>d2 l1 fun x0_0 x0_1=>dI x0_0 fun a1=>dS x0_1 fun b2 l3 c4=>(K (B (decide (validF a1 l3))) E)
 | _=>False
theorem tab18_ok:TabOK Tryz.prog tab18:=by
 intro f args E K h
 unfold tab18 at h
 split at h
 ·replace h:=d1_elim h
  obtain ⟨x0,rfl,h⟩:=h
  replace h:=dC_elim h
  obtain ⟨l1,hl1,h⟩:=h
  replace h:=d2_elim h
  obtain ⟨x0_0,x0_1,rfl,h⟩:=h
  replace h:=dI_elim h
  obtain ⟨a1,rfl,h⟩:=h
  replace h:=dS_elim h
  obtain ⟨b2,l3,c4,rfl,h⟩:=h
  exact TabSem.congr (valL_cons (asCells_val hl1) rfl) (Ent.sem okF5 Tryz.func81 ⟨by kernel_rfl,by kernel_rfl⟩ rfl (s18 h))
 ·exact h.elim
noncomputable def F3:Cx:={ P:=Tryz.prog,inl:=fun f=>List.contains [105] f,tab:=tab18,isB:=fun f=>f==104,tabB:=tabP,opt:={ unroll:=0,carry:=[] },muts:=(fun o=>match o with | .call { callee:=.value (.func 105),.. }=>true| .call { callee:=.value (.func 104),.. }=>true|o=>mutsD o) }
theorem okF3:CxOK F3:=CxOK.four tab18_ok (by kernel_rfl) (okInl (by kernel_rfl)) tabP_ok
noncomputable def F4:Cx:={ P:=Tryz.prog,inl:=fun f=>List.contains [81,105] f,tab:=fun _ _ _ _=>False,isB:=fun f=>f==104,tabB:=tabE,opt:={ unroll:=0,carry:=[] },muts:=(fun o=>match o with | .call { callee:=.value (.func 105),.. }=>true| .call { callee:=.value (.func 104),.. }=>true|o=>mutsD o) }
theorem okF4:CxOK F4:=CxOK.four (fun _ _ _ _ h=>h.elim) (by kernel_rfl) (okInl (by kernel_rfl)) tabE_ok
theorem s14 (h0:Bs E b2 l3 c4 zs) (h1:Bs E b6 l7 c8 ds) (h:∀ (b':Option Addr) (l' c':Nat) (ms:List (Int×List Int)) (e:Int) (E':Mem),Mem.le E E'->Hyp (progF a1 zs a5 ds=(ms,e))->FL E' b' l' c' ms->K (.tup [L b' l' c',I e]) E'):
  Ent F3 6 Tryz.f106 [.agg [I a1,L b2 l3 c4],I a5,L b6 l7 c8] E K:=by
 refine sm_ (?_:Mem.le E E/\bif !decide (validF a1 l3) then Mem.le E E/\K (SV.tup [L none 0 0,I 1]) E else bif bif false then true else decide (a5<(0:Int)) then Mem.le E E/\K (SV.tup [L none 0 0,I 1]) E else bif decide (a5>(NI l3)) then Mem.le E E/\K (SV.tup [L none 0 0,I 3]) E else bif bif false then true else decide ((NI l7)>WI ((NI l3)-a5)) then Mem.le E E/\K (SV.tup [L none 0 0,I 3]) E else Sx.Alike al2 (104=104/\∃ (s:Int),∃ (a:Nat),∃ (b:Option Addr),∃ (db:Option Addr),∃ (l:Nat),∃ (c:Nat),∃ (dl:Nat),∃ (dc:Nat),∃ (m:Nat),∃ (zs0:List Int),∃ (ds:List Int),∃ (n0:Int),[SV.clo 110 [] [SV.loc 2 0,SV.loc 4 0,SV.loc 5 0,SV.loc 3 0],I (WI ((NI l7)+1))]=[SV.clo 110 [] [SV.loc 2 0,SV.loc 4 0,SV.loc 5 0,SV.loc 3 0],I n0]/\[(⟨24,.lst [I a1,L b2 l3 c4],2,true⟩:Box),⟨22,.lst [L b6 l7 c8],1,true⟩,⟨24,.lst [I a1,L b2 l3 c4],2,true⟩,⟨3,.lst [I a5],1,true⟩,⟨3,.lst [I (NI l7)],1,true⟩,⟨145,.lst [SV.clo 111 [] [SV.loc 1 0]],1,true⟩]=[(⟨24,.lst [I s,L b l c],2,true⟩:Box),⟨22,.lst [L db dl dc],1,true⟩,⟨24,.lst [I s,L b l c],2,true⟩,⟨3,.lst [I (NI a)],1,true⟩,⟨3,.lst [I (NI m)],1,true⟩,⟨145,.lst [SV.clo 111 [] [SV.loc 1 0]],1,true⟩]/\n0=(NI (m+1))/\Bs E db dl dc ds/\m=dl/\Bs E b l c zs0/\(1<=l/\l<=16384/\a+m<=l)/\∀ (fb:Option Addr) (cap:Nat) (E':Mem),Mem.le E E'->FL E' fb (m+1) cap (mems s (gP ds) a zs0 (m+1))->Mem.le E E'/\K (SV.tup [L fb (m+1) cap,I 0]) E'))
 delta WI NI
 have hz:=h0.2.1
 have hd:=h1.2.1
 have ex:∀ {ms:List (Int×List Int)} {e:Int},progF a1 zs a5 ds=(ms,e)->(∀ (b':Option Addr) (l' c':Nat) (E':Mem),Mem.le E E'->FL E' b' l' c' ms->K (.tup [L b' l' c',I e]) E'):=fun he b' l' c' E' hE hF=>h b' l' c' _ _ E' hE he hF
 unfold progF at ex
 rw [hz,hd] at ex
 refine ⟨mr_,condC (fun g=>?_) (fun g=>?_)⟩
 ·have g:¬ validF a1 l3:=by simpa using g
  exact ⟨mr_,ex (if_pos (.inl g)) none 0 0 E mr_ (FL.nil _)⟩
 have g:validF a1 l3:=by simpa using g
 have gl:=g
 unfold validF at gl
 refine condC (fun g1=>?_) (fun g1=>?_)
 ·exact ⟨mr_,ex (if_pos (.inr (by simpa using g1))) none 0 0 E mr_ (FL.nil _)⟩
 have g1:0<=a5:=by simpa using g1
 rw [if_neg (by simp only [not_or,Decidable.not_not];exact ⟨g,by omega⟩)] at ex
 refine condC (fun g2=>?_) (fun g2=>?_)
 ·exact ⟨mr_,ex (if_pos (.inl (by simpa using g2))) none 0 0 E mr_ (FL.nil _)⟩
 have g2:a5<=l3:=by simpa using g2
 rw [wrap_i64 (by omega)]
 refine condC (fun g3=>?_) (fun g3=>?_)
 ·exact ⟨mr_,ex (if_pos (.inr (by simpa using g3))) none 0 0 E mr_ (FL.nil _)⟩
 have g3:(l7:Int)<=l3-a5:=by simpa using g3
 rw [if_neg (by omega)] at ex
 obtain ⟨a,rfl⟩:∃ a:Nat,a5=a:=⟨a5.toNat,by omega⟩
 refine alike ⟨rfl,a1,a,b2,b6,l3,c4,l7,c8,l7,zs,ds,_,rfl,rfl,by rw [wrap_i64 (by omega)];simp,h1,rfl,h0,⟨by omega,by omega,by omega⟩,fun fb cap E' hE hF=>⟨hE,?_⟩⟩
 exact ex (by rw [Int.toNat_natCast]) fb _ cap E' hE hF
theorem s16 (h0:Bs E b2 l3 c4 zs) (h:∀ (b':Option Addr) (l' c':Nat) (ms:List (Int×List Int)) (e:Int) (E':Mem),Mem.le E E'->Hyp (erasF a1 zs a5=(ms,e))->FL E' b' l' c' ms->K (.tup [L b' l' c',I e]) E'):
  Ent F4 6 Tryz.f91 [.agg [I a1,L b2 l3 c4],I a5] E K:=by
 refine sm_ (?_:bif decide (a1<(1:Int)) then Mem.le E E/\Mem.le E E/\K (SV.tup [L none 0 0,I 1]) E else bif bif false then true else decide (a1>(1024:Int)) then Mem.le E E/\Mem.le E E/\K (SV.tup [L none 0 0,I 1]) E else bif decide ((NI l3)<a1) then Mem.le E E/\Mem.le E E/\K (SV.tup [L none 0 0,I 1]) E else bif bif false then true else decide ((NI l3)>16384) then Mem.le E E/\Mem.le E E/\K (SV.tup [L none 0 0,I 1]) E else (a1=(0:Int)->False)/\Mem.le E E/\bif !Int.tmod (NI l3) a1==(0:Int) then Mem.le E E/\K (SV.tup [L none 0 0,I 1]) E else bif bif false then true else decide (a5<(0:Int)) then Mem.le E E/\K (SV.tup [L none 0 0,I 1]) E else (a1=(0:Int)->False)/\bif bif false then true else decide (a5>=WI (Int.tdiv (NI l3) a1)) then Mem.le E E/\K (SV.tup [L none 0 0,I 1]) E else Sx.Alike al2 (104=104/\∃ (s:Int),∃ (a:Nat),∃ (b:Option Addr),∃ (l:Nat),∃ (c:Nat),∃ (m:Nat),∃ (zs0:List Int),∃ (n0:Int),[SV.clo 110 [] [SV.loc 2 0,SV.loc 4 0,SV.loc 5 0,SV.loc 3 0],I (WI (a1+(1:Int)))]=[SV.clo 110 [] [SV.loc 2 0,SV.loc 4 0,SV.loc 5 0,SV.loc 3 0],I n0]/\[(⟨24,.lst [I a1,L b2 l3 c4],2,true⟩:Box),⟨24,.lst [I a1,L b2 l3 c4],2,true⟩,⟨24,.lst [I a1,L b2 l3 c4],2,true⟩,⟨3,.lst [I (WI (a5*a1))],1,true⟩,⟨3,.lst [I a1],1,true⟩,⟨145,.lst [SV.clo 103 [] []],1,true⟩]=[(⟨24,.lst [I s,L b l c],2,true⟩:Box),⟨24,.lst [I s,L b l c],2,true⟩,⟨24,.lst [I s,L b l c],2,true⟩,⟨3,.lst [I (NI a)],1,true⟩,⟨3,.lst [I (NI m)],1,true⟩,⟨145,.lst [SV.clo 103 [] []],1,true⟩]/\n0=(NI (m+1))/\Bs E b l c zs0/\(1<=l/\l<=16384/\a+m<=l)/\∀ (fb:Option Addr) (cap:Nat) (E':Mem),Mem.le E E'->FL E' fb (m+1) cap (mems s gE a zs0 (m+1))->Mem.le E E'/\K (SV.tup [L fb (m+1) cap,I 0]) E'))
 delta WI NI
 have hz:=h0.2.1
 have ex:∀ {ms:List (Int×List Int)} {e:Int},erasF a1 zs a5=(ms,e)->(∀ (b':Option Addr) (l' c':Nat) (E':Mem),Mem.le E E'->FL E' b' l' c' ms->K (.tup [L b' l' c',I e]) E'):=fun he b' l' c' E' hE hF=>h b' l' c' _ _ E' hE he hF
 unfold erasF at ex
 rw [hz] at ex
 have bad:¬ validF a1 l3\/a5<0\/a5>=(l3:Int) / a1->K (.tup [L none 0 0,I 1]) E:=fun hb=>ex (if_pos hb) none 0 0 E mr_ (FL.nil _)
 have bad1:¬ validF a1 l3->Mem.le E E/\Mem.le E E/\K (.tup [L none 0 0,I 1]) E:=fun hb=>⟨mr_,mr_,bad (.inl hb)⟩
 unfold validF at bad1
 refine condC (fun g=>bad1 (by simp at g;omega)) (fun g1=>?_)
 refine condC (fun g=>bad1 (by simp at g;omega)) (fun g2=>?_)
 refine condC (fun g=>bad1 (by simp at g;omega)) (fun g3=>?_)
 refine condC (fun g=>bad1 (by simp at g;omega)) (fun g4=>?_)
 have g1:1<=a1:=by simpa using g1
 have g2:a1<=1024:=by simpa using g2
 have g3:a1<=l3:=by simpa using g3
 have g4:l3<=16384:=by simp at g4;omega
 refine ⟨by omega,mr_,condC (fun g=>?_) (fun g5=>?_)⟩
 ·rw [validF_mod g1] at g
  exact (bad1 (by simp at g;omega)).2
 have g5:(l3:Int) % a1=0:=by rw [validF_mod g1] at g5;simpa using g5
 have hv:validF a1 l3:=⟨g1,g2,g3,g4,g5⟩
 refine condC (fun g=>⟨mr_,bad (.inr (.inl (by simpa using g)))⟩) (fun g6=>?_)
 have g6:0<=a5:=by simpa using g6
 have hdv:Int.tdiv (l3:Int) a1=(l3:Int) / a1:=Int.tdiv_eq_ediv_of_nonneg (by omega)
 have hd1:(l3:Int) / a1<=l3:=Int.ediv_le_self _ (by omega)
 have hd0:0<=(l3:Int) / a1:=Int.ediv_nonneg (by omega) (by omega)
 refine ⟨by omega,?_⟩
 rw [hdv,wrap_i64 (x:=(l3:Int) / a1) (by omega)]
 refine condC (fun g=>⟨mr_,bad (.inr (.inr (by simpa using g)))⟩) (fun g7=>?_)
 have g7:a5<(l3:Int) / a1:=by simpa using g7
 rw [if_neg (fun q=>q.elim (fun q=>q hv) (fun q=>by omega))] at ex
 have h8:(a5+1)*a1<=l3:=by
  have:=Int.mul_le_mul_of_nonneg_right (show a5+1<=(l3:Int) / a1 by omega) (show 0<=a1 by omega)
  have h2:=Int.ediv_mul_le (l3:Int) (show a1≠0 by omega)
  omega
 have h9:0<=a5*a1:=Int.mul_nonneg g6 (by omega)
 rw [Int.add_mul,Int.one_mul] at h8
 obtain ⟨a,ha⟩:∃ a:Nat,a5*a1=a:=⟨(a5*a1).toNat,by omega⟩
 obtain ⟨m,rfl⟩:∃ m:Nat,a1=m:=⟨a1.toNat,by omega⟩
 rw [ha] at ex h8
 rw [ha,wrap_i64 (x:=(a:Int)) (by omega)]
 refine alike ⟨rfl,m,a,b2,l3,c4,m,zs,_,rfl,rfl,by rw [wrap_i64 (by omega)];simp,h0,⟨by omega,by omega,by omega⟩,fun fb cap E' hE hF=>⟨hE,?_⟩⟩
 exact ex (by rw [Int.toNat_natCast,Int.toNat_natCast]) fb _ cap E' hE hF
theorem wu64 (h:0<=x/\x<=100000000):IntKind.wrap .u64 x=x:=by
 rw [show IntKind.wrap .u64 x=x % 18446744073709551616 from rfl];omega
theorem and32 (h:0<=n/\n<=16384):IntKind.wrap .u64 (((BitVec.ofInt (IntKind.bits .u64) n&&& BitVec.ofInt (IntKind.bits .u64) 4294967295).toNat:Nat):Int)=n:=by
 obtain ⟨m,rfl⟩:∃ m:Nat,n=m:=⟨n.toNat,by omega⟩
 rw [show IntKind.bits .u64=64 from rfl,BitVec.toNat_and,show BitVec.ofInt 64 (m:Int)=BitVec.ofNat 64 m from BitVec.ofInt_natCast _ _,show BitVec.ofInt 64 4294967295=BitVec.ofNat 64 (2 ^ 32-1) from rfl,
  BitVec.toNat_ofNat,BitVec.toNat_ofNat,Nat.mod_eq_of_lt (by omega),Nat.mod_eq_of_lt (a:=2 ^ 32-1) (by decide),Nat.and_two_pow_sub_one_eq_mod,Nat.mod_eq_of_lt (by omega),wu64 (by omega)]
theorem fd32 (h:0<=n/\n<=16384):Int.fdiv n 4294967296=0:=by
 rw [Int.fdiv_eq_ediv_of_nonneg _ (by omega)];omega
def tabZ:CallT:=fun f args bx E K=>f=98/\∃ n:Nat,args=[I n]/\n<=281474976710656/\∀ zs:List Int,n<=zs.length->K (.slc bx.length 0 n zs.length) (bx++[⟨5,.vals (vB zs),zs.length,true⟩]) E
theorem tabZ_ok (f:FuncId) (args:List SV) (bx:List Box) (E:Mem) (K:KT) (h:tabZ f args bx E K):CallSem Tryz.prog f args bx E K:=by
 obtain ⟨rfl,n,rfl,h1,h2⟩:=h
 exact makeNoZero_sem Tryz.func98 (by kernel_rfl) (by kernel_rfl) (by kernel_rfl) (ps:=#[3]) (t:=22) (e:=5) (by kernel_rfl) (by kernel_rfl) h1 h2
noncomputable def F7:Cx:={ P:=Tryz.prog,inl:=fun f=>List.contains [109] f,tab:=fun _ _ _ _=>False,isB:=fun _=>false,tabB:=fun _ _ _ _ _=>False,opt:={ unroll:=0,carry:=[] },muts:=mutsD }
theorem okF7:CxOK F7:=CxOK.four (fun _ _ _ _ h=>h.elim) (by kernel_rfl) (okInl (by kernel_rfl)) (fun _ _ _ _ _ h=>h.elim)
theorem s31 {a2:Int} (h0:(a1=1/\0<=a2/\a2<=16384)) (h:K (.tup [.raw (.int .u64 0),.raw (.int .u64 a2)]) E):
  Ent F7 8 Tryz.f97 [.raw (.int .u64 a1),.raw (.int .u64 a2)] E K:=by
 refine sm_ (?_:Mem.le E E/\Mem.le E E/\K (SV.tup [SV.raw (Value.int IntKind.u64 (IntKind.wrap IntKind.u64 (IntKind.wrap IntKind.u64 (IntKind.wrap IntKind.u64 (Int.fdiv a1 (4294967296:Int)*Int.fdiv a2 4294967296)+Int.fdiv (IntKind.wrap IntKind.u64 (IntKind.wrap IntKind.u64 (Int.fdiv a1 (4294967296:Int)*IntKind.wrap IntKind.u64 (NI (BitVec.toNat (BitVec.ofInt (IntKind.bits IntKind.u64) a2&&& BitVec.ofInt (IntKind.bits IntKind.u64) 4294967295))))+Int.fdiv (IntKind.wrap IntKind.u64 (IntKind.wrap IntKind.u64 (NI (BitVec.toNat (BitVec.ofInt (IntKind.bits IntKind.u64) a1&&& BitVec.ofInt (IntKind.bits IntKind.u64) 4294967295)))*IntKind.wrap IntKind.u64 (NI (BitVec.toNat (BitVec.ofInt (IntKind.bits IntKind.u64) a2&&& BitVec.ofInt (IntKind.bits IntKind.u64) 4294967295))))) 4294967296)) 4294967296)+Int.fdiv (IntKind.wrap IntKind.u64 (IntKind.wrap IntKind.u64 (NI (BitVec.toNat (BitVec.ofInt (IntKind.bits IntKind.u64) (IntKind.wrap IntKind.u64 (IntKind.wrap IntKind.u64 (Int.fdiv a1 ((2:Int) ^ min (Int.toNat 32) (IntKind.bits IntKind.u64))*IntKind.wrap IntKind.u64 (NI (BitVec.toNat (BitVec.ofInt (IntKind.bits IntKind.u64) a2&&& BitVec.ofInt (IntKind.bits IntKind.u64) 4294967295))))+Int.fdiv (IntKind.wrap IntKind.u64 (IntKind.wrap IntKind.u64 (NI (BitVec.toNat (BitVec.ofInt (IntKind.bits IntKind.u64) a1&&& BitVec.ofInt (IntKind.bits IntKind.u64) 4294967295)))*IntKind.wrap IntKind.u64 (NI (BitVec.toNat (BitVec.ofInt (IntKind.bits IntKind.u64) a2&&& BitVec.ofInt (IntKind.bits IntKind.u64) 4294967295))))) ((2:Int) ^ min (Int.toNat 32) (IntKind.bits IntKind.u64))))&&& BitVec.ofInt (IntKind.bits IntKind.u64) 4294967295)))+IntKind.wrap IntKind.u64 (IntKind.wrap IntKind.u64 (NI (BitVec.toNat (BitVec.ofInt (IntKind.bits IntKind.u64) a1&&& BitVec.ofInt (IntKind.bits IntKind.u64) 4294967295)))*Int.fdiv a2 4294967296))) 4294967296))),SV.raw (Value.int IntKind.u64 (IntKind.wrap IntKind.u64 (a1*a2)))]) E)
 delta NI
 obtain ⟨rfl,h0⟩:=h0
 rw [show min (Int.toNat 32) (IntKind.bits .u64)=32 from rfl,show (2:Int) ^ 32=4294967296 from rfl,show Int.fdiv 1 4294967296=0 from rfl,fd32 h0,and32 h0,and32 (n:=1) (by omega)]
 rw [show (0:Int)*0=0 from rfl,Int.zero_mul,Int.one_mul,Int.mul_zero,wu64 (x:=a2) (by omega),wu64 (x:=0) (by omega),Int.zero_add,fd32 h0,Int.add_zero,wu64 (x:=0) (by omega),and32 (n:=0) (by omega),Int.add_zero,wu64 (x:=0) (by omega),show Int.fdiv 0 4294967296=0 from rfl,Int.add_zero,wu64 (x:=0) (by omega)]
 exact ⟨mr_,mr_,h⟩
noncomputable def tab31:FuncId->List SV->Mem->(SV->Mem->Prop)->Prop:=fun f args E K=>match f with
 | 97=>d2 args fun x0 x1=>dN .u64 x0 fun a1=>dN .u64 x1 fun a2=>(a1=1/\0<=a2/\a2<=16384)/\(K (.tup [.raw (.int .u64 0),.raw (.int .u64 a2)]) E)
 | _=>False
theorem tab31_ok:TabOK Tryz.prog tab31:=by
 intro f args E K h
 unfold tab31 at h
 split at h
 ·replace h:=d2_elim h
  obtain ⟨x0,x1,rfl,h⟩:=h
  replace h:=dN_elim h
  obtain ⟨a1,rfl,h⟩:=h
  replace h:=dN_elim h
  obtain ⟨a2,rfl,h⟩:=h
  obtain ⟨g0,h⟩:=h
  exact TabSem.congr (valL_cons rfl (valL_cons rfl rfl)) (Ent.sem okF7 Tryz.func97 ⟨by kernel_rfl,by kernel_rfl⟩ rfl (s31 g0 h))
 ·exact h.elim
noncomputable def F6:Cx:={ P:=Tryz.prog,inl:=fun f=>List.contains [] f,tab:=tab31,isB:=fun f=>f==98,tabB:=tabZ,opt:={ unroll:=0,carry:=[7,8,9,10],cuts:=[17] },muts:=mutsD }
theorem okF6:CxOK F6:=CxOK.four tab31_ok (by kernel_rfl) (okInl (by kernel_rfl)) tabZ_ok
def sh17 (n ch tot:Nat) (zs:List Int) (E:Mem):St:=⟨[os 1 0 1 1]++nn 6++[oI (n:Nat),oI (ch:Nat),os 2 0 n n]++nn 67,[⟨24,.lst [I 0,L none 0 0],2,true⟩,⟨5,.lst [.raw (.int .u8 255)],1,true⟩]++[⟨5,.vals (vB zs),tot,true⟩],E⟩
def sh18 (n ch bp tot:Nat) (zs:List Int) (E:Mem):St:=⟨[none]++nn 6++[oI (n:Nat),oI (ch:Nat),os 2 0 n n,oI (bp:Nat)]++nn 66,[⟨24,.lst [I 0,L none 0 0],2,true⟩,⟨5,.lst [.raw (.int .u8 255)],1,true⟩]++[⟨5,.vals (vB zs),tot,true⟩],E⟩
theorem ent25 {n:Nat} {K:KT} (hn:1<=n/\n<=16384) (h:∀ (ch tot:Nat) (zs:List Int),1<=ch->n<=zs.length->Ct F6 8 Tryz.f80 [1,1,1,1,1,1,1,1,1,1] 2 K (sh17 n ch tot zs E)):EntB F6 8 Tryz.f80 [.slc 1 0 1 1,I n] [⟨24,.lst [I 0,L none 0 0],2,true⟩,⟨5,.lst [.raw (.int .u8 255)],1,true⟩] E K:=by
 refine sm_ (?_:bif (NI n)==0 then K (SV.slc 2 0 0 0) [⟨24,.lst [I 0,L none 0 0],2,true⟩,⟨5,.lst [SV.raw (U8 255)],1,true⟩,⟨5,.lst [],0,true⟩] E else IntKind.u64=IntKind.u64/\IntKind.u64=IntKind.u64/\((1:Int)=(1:Int)/\(0:Int)<=IntKind.wrap IntKind.u64 (NI n)/\IntKind.wrap IntKind.u64 (NI n)<=16384)/\Mem.le E E/\bif bif false then true else decide (IntKind.wrap IntKind.u64 (NI n)>9223372036854775807) then False else bif decide (WI (IntKind.wrap IntKind.u64 (NI n))>(8192:Int)) then ((1:Int)=(0:Int)->False)/\98=98/\∃ (n_1:Nat),[I (WI (IntKind.wrap IntKind.u64 (NI n)))]=[I (NI n_1)]/\n_1<=281474976710656/\∀ (zs:List Int),n_1<=List.length zs->Mem.le E E/\req ((0:Int)<=WI (IntKind.wrap IntKind.u64 (NI n))/\WI (IntKind.wrap IntKind.u64 (NI n))<=(NI (List.length zs))) (req ((0:Int)<=WI (IntKind.wrap IntKind.u64 (NI n))/\WI (IntKind.wrap IntKind.u64 (NI n))<=(NI (toN (some (WI (IntKind.wrap IntKind.u64 (NI n)))) (List.length zs)))) (Ct F6 8 Tryz.f80 [1,1,1,1,1,1,1,1,1,1] 2 K { fr:=some (SV.slc 1 0 1 1)::oI (NI n)::none::none::oL none 0 0::some (SV.raw (Value.int IntKind.u64 0))::some (SV.raw (Value.int IntKind.u64 (IntKind.wrap IntKind.u64 (NI n))))::oI (WI (IntKind.wrap IntKind.u64 (NI n)))::oI 8192::os 2 (if toN (some (WI (IntKind.wrap IntKind.u64 (NI n)))) (List.length zs)=0 then 0 else 0) (toN (some (WI (IntKind.wrap IntKind.u64 (NI n)))) n_1-0) (toN (some (WI (IntKind.wrap IntKind.u64 (NI n)))) (List.length zs)-0)::none::none::oI (NI n)::oB ((NI n)==0)::none::oI (NI n)::oB false::none::some (SV.tup [SV.raw (Value.int IntKind.u64 0),SV.raw (Value.int IntKind.u64 (IntKind.wrap IntKind.u64 (NI n)))])::os 1 0 1 1::oI 1::some (SV.raw (Value.int IntKind.u64 1))::oI (NI n)::some (SV.raw (Value.int IntKind.u64 (IntKind.wrap IntKind.u64 (NI n))))::some (SV.tup [SV.raw (Value.int IntKind.u64 0),SV.raw (Value.int IntKind.u64 (IntKind.wrap IntKind.u64 (NI n)))])::some (SV.raw (Value.int IntKind.u64 0))::some (SV.raw (Value.int IntKind.u64 (IntKind.wrap IntKind.u64 (NI n))))::some (SV.raw (Value.int IntKind.u64 0))::oB false::oB false::some (SV.raw (Value.int IntKind.u64 (IntKind.wrap IntKind.u64 (NI n))))::oB (decide (IntKind.wrap IntKind.u64 (NI n)>9223372036854775807))::oB (bif false then true else decide (IntKind.wrap IntKind.u64 (NI n)>9223372036854775807))::none::some (SV.raw (Value.int IntKind.u64 (IntKind.wrap IntKind.u64 (NI n))))::oI (WI (IntKind.wrap IntKind.u64 (NI n)))::os 1 0 1 1::oI 1::oB false::none::oI (WI (IntKind.wrap IntKind.u64 (NI n)))::oI (WI (IntKind.wrap IntKind.u64 (NI n)))::oB (decide (WI (IntKind.wrap IntKind.u64 (NI n))>(8192:Int)))::os 1 0 1 1::oI 1::oI 8192::os 1 0 1 1::oI 1::oI 8192::oI 8192::oB false::none::none::oI (WI (IntKind.wrap IntKind.u64 (NI n)))::os 2 0 n_1 (List.length zs)::oI (WI (IntKind.wrap IntKind.u64 (NI n)))::oI (WI (IntKind.wrap IntKind.u64 (NI n)))::os 2 (if toN (some (WI (IntKind.wrap IntKind.u64 (NI n)))) (List.length zs)=0 then 0 else 0) (toN (some (WI (IntKind.wrap IntKind.u64 (NI n)))) n_1-0) (toN (some (WI (IntKind.wrap IntKind.u64 (NI n)))) (List.length zs)-0)::no16 (no2 (none::[])),bx:=[(⟨24,.lst [I 0,L none 0 0],2,true⟩:Box),⟨5,.lst [SV.raw (U8 255)],1,true⟩,⟨5,.vals (vB zs),List.length zs,true⟩],E:=E:St })) else 98=98/\∃ (n_1:Nat),[I (WI (IntKind.wrap IntKind.u64 (NI n)))]=[I (NI n_1)]/\n_1<=281474976710656/\∀ (zs:List Int),n_1<=List.length zs->Mem.le E E/\req ((0:Int)<=WI (IntKind.wrap IntKind.u64 (NI n))/\WI (IntKind.wrap IntKind.u64 (NI n))<=(NI (List.length zs))) (req ((0:Int)<=WI (IntKind.wrap IntKind.u64 (NI n))/\WI (IntKind.wrap IntKind.u64 (NI n))<=(NI (toN (some (WI (IntKind.wrap IntKind.u64 (NI n)))) (List.length zs)))) (Ct F6 8 Tryz.f80 [1,1,1,1,1,1,1,1,1,1] 2 K { fr:=some (SV.slc 1 0 1 1)::oI (NI n)::none::none::oL none 0 0::some (SV.raw (Value.int IntKind.u64 0))::some (SV.raw (Value.int IntKind.u64 (IntKind.wrap IntKind.u64 (NI n))))::oI (WI (IntKind.wrap IntKind.u64 (NI n)))::oI (WI (IntKind.wrap IntKind.u64 (NI n)))::os 2 (if toN (some (WI (IntKind.wrap IntKind.u64 (NI n)))) (List.length zs)=0 then 0 else 0) (toN (some (WI (IntKind.wrap IntKind.u64 (NI n)))) n_1-0) (toN (some (WI (IntKind.wrap IntKind.u64 (NI n)))) (List.length zs)-0)::none::none::oI (NI n)::oB ((NI n)==0)::none::oI (NI n)::oB false::none::some (SV.tup [SV.raw (Value.int IntKind.u64 0),SV.raw (Value.int IntKind.u64 (IntKind.wrap IntKind.u64 (NI n)))])::os 1 0 1 1::oI 1::some (SV.raw (Value.int IntKind.u64 1))::oI (NI n)::some (SV.raw (Value.int IntKind.u64 (IntKind.wrap IntKind.u64 (NI n))))::some (SV.tup [SV.raw (Value.int IntKind.u64 0),SV.raw (Value.int IntKind.u64 (IntKind.wrap IntKind.u64 (NI n)))])::some (SV.raw (Value.int IntKind.u64 0))::some (SV.raw (Value.int IntKind.u64 (IntKind.wrap IntKind.u64 (NI n))))::some (SV.raw (Value.int IntKind.u64 0))::oB false::oB false::some (SV.raw (Value.int IntKind.u64 (IntKind.wrap IntKind.u64 (NI n))))::oB (decide (IntKind.wrap IntKind.u64 (NI n)>9223372036854775807))::oB (bif false then true else decide (IntKind.wrap IntKind.u64 (NI n)>9223372036854775807))::none::some (SV.raw (Value.int IntKind.u64 (IntKind.wrap IntKind.u64 (NI n))))::oI (WI (IntKind.wrap IntKind.u64 (NI n)))::os 1 0 1 1::oI 1::oB false::none::oI (WI (IntKind.wrap IntKind.u64 (NI n)))::oI (WI (IntKind.wrap IntKind.u64 (NI n)))::oB (decide (WI (IntKind.wrap IntKind.u64 (NI n))>(8192:Int)))::no8 (no2 (oI (WI (IntKind.wrap IntKind.u64 (NI n)))::os 2 0 n_1 (List.length zs)::oI (WI (IntKind.wrap IntKind.u64 (NI n)))::oI (WI (IntKind.wrap IntKind.u64 (NI n)))::os 2 (if toN (some (WI (IntKind.wrap IntKind.u64 (NI n)))) (List.length zs)=0 then 0 else 0) (toN (some (WI (IntKind.wrap IntKind.u64 (NI n)))) n_1-0) (toN (some (WI (IntKind.wrap IntKind.u64 (NI n)))) (List.length zs)-0)::no16 (no2 (none::[])))),bx:=[(⟨24,.lst [I 0,L none 0 0],2,true⟩:Box),⟨5,.lst [SV.raw (U8 255)],1,true⟩,⟨5,.vals (vB zs),List.length zs,true⟩],E:=E:St })))
 delta WI NI U8 no2 no8 no16
 have e1:IntKind.wrap .u64 (n:Int)=n:=wu64 (by omega)
 have e2:IntKind.wrap .i64 (n:Int)=n:=wrap_i64 (by omega)
 have e3:∀ d,toN (some (n:Int)) d=n:=fun d=>by simp [toN]
 simp only [e1,e2,e3,ite_self,Nat.sub_zero]
 refine condC (fun g=>absurd g (by simp;omega)) (fun _=>⟨trivial,trivial,⟨trivial,by omega,by omega⟩,mr_,condC (fun g=>absurd g (by simp;omega)) (fun _=>condC (fun g=>?_) (fun g=>?_))⟩)
 ·refine ⟨by omega,trivial,n,rfl,by omega,fun zs hz=>⟨mr_,req_intro (by omega) (req_intro (by omega) ?_)⟩⟩
  exact Ct_re [some 0,some 1,some 2] (h 8192 _ zs (by omega) hz) (wkG mr_)
 ·refine ⟨trivial,n,rfl,by omega,fun zs hz=>⟨mr_,req_intro (by omega) (req_intro (by omega) ?_)⟩⟩
  exact Ct_re [some 0,some 1,some 2] (h n _ zs (by omega) hz) (wkG mr_)
theorem rep_step {q n:Nat} (h:zs.take bp=List.replicate bp 255) (hb:bp<n) (hn:n<=zs.length) (hq:q<=bp):
  (zs.take bp++(zs.take q).take (min q (n-bp))++zs.drop (bp+min q (n-bp))).take (bp+min q (n-bp))=List.replicate (bp+min q (n-bp)) 255/\n<=(zs.take bp++(zs.take q).take (min q (n-bp))++zs.drop (bp+min q (n-bp))).length:=by
 have h1:(zs.take q).take (min q (n-bp))=List.replicate (min q (n-bp)) 255:=by
  have :zs.take (min q (n-bp))=(zs.take bp).take (min q (n-bp)):=by rw [List.take_take,Nat.min_eq_left (a:=min q (n-bp)) (b:=bp) (by omega)]
  rw [List.take_take,Nat.min_eq_left (a:=min q (n-bp)) (b:=q) (by omega),this,h,List.take_replicate,Nat.min_eq_left (a:=min q (n-bp)) (b:=bp) (by omega)]
 rw [h1,h]
 refine ⟨?_,?_⟩
 ·rw [List.take_append_of_le_length (by simp),List.take_of_length_le (by simp),List.replicate_append_replicate]
 ·simp;omega
theorem pc17 {K:KT} (hz:k+1<=zs.length) (h:Lp F6 8 Tryz.f80 [1,1,1,1,1,1,1,1,1,1,1,0,0] 2 K (sh18 (k+1) ch 1 tot (255::zs.drop 1) E)):Pc F6 8 Tryz.f80 [1,1,1,1,1,1,1,1,1,1] 2 K (sh17 (k+1) ch tot zs E):=by
 refine sm_ (?_:0+(k+1)*1<=List.length (vB zs)/\Lp F6 8 Tryz.f80 [1,1,1,1,1,1,1,1,1,1,1,0,0] 2 K { fr:=some (SV.slc 1 0 1 1)::no4 (no2 (oI (NI (k+1))::oI (NI ch)::os 2 0 (k+1) (k+1)::oI 1::no32 (no8 (no4 (no2 (none::(os 2 0 (k+1) (k+1)::os 1 0 1 1::oI 1::no16 []))))))),bx:=[(⟨24,.lst [I 0,L none 0 0],2,true⟩:Box),⟨5,.lst [SV.raw (U8 255)],1,true⟩,⟨5,.vals (U8 (255:Int)::(List.drop 1 (vB zs))),tot,true⟩],E:=E:St })
 delta NI U8 no2 no4 no8 no16 no32
 refine ⟨by simp;omega,?_⟩
 have e:Value.int IntKind.u8 255::(List.drop 1 (vB zs))=vB (255::zs.drop 1):=by simp
 rw [e]
 exact Lp_re [some 0,some 1,some 2] h (wkG mr_)
theorem rnd18 {n:Nat} {K:KT} (hn:1<=n/\n<=16384) (hc:1<=ch) (hb:1<=bp/\bp<=n) (hz:n<=zs.length) (hr:zs.take bp=List.replicate bp 255)
  (h:∀ zs:List Int,n<=zs.length->zs.take n=List.replicate n 255->K (.slc 2 0 n n) ([⟨24,.lst [I 0,L none 0 0],2,true⟩,⟨5,.lst [.raw (.int .u8 255)],1,true⟩]++[⟨5,.vals (vB zs),tot,true⟩]) E)
  (ih:∀ (bp':Nat) (zs:List Int),bp<bp'->bp'<=n->n<=zs.length->zs.take bp'=List.replicate bp' 255->Lp F6 8 Tryz.f80 [1,1,1,1,1,1,1,1,1,1,1,0,0] 2 K (sh18 n ch bp' tot zs E)):
  Rnd F6 8 Tryz.f80 [1,1,1,1,1,1,1,1,1,1,1,0,0] 2 K (sh18 n ch bp tot zs E):=by
 refine sm_ (?_:bif decide ((NI bp)<(NI n)) then req (0<=(NI bp)/\(NI bp)<=(NI (toN none n))) (req (((0:Int)<=if (NI ch)<(NI bp) then (NI ch) else (NI bp))/\(if (NI ch)<(NI bp) then (NI ch) else (NI bp))<=(NI (toN none n))) ((if toN none n=0 then 0 else 0)+min (toN (some (if (NI ch)<(NI bp) then (NI ch) else (NI bp))) n-0) (toN none n-toN (some (NI bp)) 0)*1<=List.length (vB zs)/\(if toN none n=toN (some (NI bp)) 0 then 0 else 0+toN (some (NI bp)) 0*1)<=List.length (vB zs)/\((if toN none n=toN (some (NI bp)) 0 then 0 else 0+toN (some (NI bp)) 0*1)+min (toN (some (if (NI ch)<(NI bp) then (NI ch) else (NI bp))) n-0) (toN none n-toN (some (NI bp)) 0)*1<=List.length (vB zs)\/(if toN none n=toN (some (NI bp)) 0 then 0 else 0+toN (some (NI bp)) 0*1)+min (toN (some (if (NI ch)<(NI bp) then (NI ch) else (NI bp))) n-0) (toN none n-toN (some (NI bp)) 0)*1<=tot)/\(∀ (x:Value),List.Mem x (vB zs)->Value.oneCell' x=true)/\Lp F6 8 Tryz.f80 [1,1,1,1,1,1,1,1,1,1,1,0,0] 2 K { fr:=no4 (no2 (none::(oI (NI n)::oI (NI ch)::os 2 0 n n::oI (WI ((NI bp)+(NI (min (toN (some (if (NI ch)<(NI bp) then (NI ch) else (NI bp))) n-0) (toN none n-toN (some (NI bp)) 0)))))::no32 (no32 (no2 []))))),bx:=[(⟨24,.lst [I 0,L none 0 0],2,true⟩:Box),⟨5,.lst [SV.raw (U8 255)],1,true⟩,⟨5,.vals (layV (vB zs) (if toN none n=toN (some (NI bp)) 0 then 0 else 0+toN (some (NI bp)) 0*1) (List.take (min (toN (some (if (NI ch)<(NI bp) then (NI ch) else (NI bp))) n-0) (toN none n-toN (some (NI bp)) 0)*1) (List.drop (if toN none n=0 then 0 else 0) (vB zs)))),tot,true⟩],E:=E:St })) else K (SV.slc 2 0 n n) [⟨24,.lst [I 0,L none 0 0],2,true⟩,⟨5,.lst [SV.raw (U8 255)],1,true⟩,⟨5,.vals (vB zs),tot,true⟩] E)
 delta WI NI U8 no2 no4 no32
 refine condC (fun g=>?_) (fun g=>?_)
 ·have g:bp<n:=by simpa using g
  obtain ⟨q,hq⟩:∃ q,q=min bp ch:=⟨_,rfl⟩
  have eq:(if (ch:Int)<(bp:Int) then (ch:Int) else (bp:Int))=(q:Int):=by split<;>omega
  have e2:∀ d,toN (some (q:Int)) d=q:=fun d=>by simp [toN]
  have e3:∀ d,toN (some (bp:Int)) d=bp:=fun d=>by simp [toN]
  have e4:∀ d,toN none d=d:=fun d=>rfl
  have e5:IntKind.wrap .i64 ((bp:Int)+((min q (n-bp):Nat):Int))=((bp+min q (n-bp):Nat):Int):=by rw [wrap_i64 (by omega)];simp
  rw [eq]
  simp only [e2,e3,e4,ite_self,Nat.sub_zero]
  rw [if_neg (show ¬ n=bp by omega)]
  refine req_intro (by omega) (req_intro (by omega) ⟨by simp;omega,by simp;omega,.inl (by simp;omega),vB_one zs,?_⟩)
  obtain ⟨s1,s2⟩:=rep_step hr g hz (show q<=bp by omega)
  have e6:layV (vB zs) (0+bp*1) (List.take (min q (n-bp)*1) (List.drop 0 (vB zs)))=vB (zs.take bp++(zs.take q).take (min q (n-bp))++zs.drop (bp+min q (n-bp))):=by
   unfold layV vB
   rw [Nat.zero_add,Nat.mul_one,Nat.mul_one,List.drop_zero,show (zs.take q).take (min q (n-bp))=zs.take (min q (n-bp)) by rw [List.take_take,Nat.min_eq_left (Nat.min_le_left _ _)]]
   simp only [← List.map_take,← List.map_drop,← List.map_append,List.length_map]
   rw [show (zs.take (min q (n-bp))).length=min q (n-bp) by simp;omega]
  rw [e5,e6]
  exact Lp_re [some 0,some 1,some 2] (ih _ _ (by omega) (by omega) s2 s1) (wkG mr_)
 ·have g:bp=n:=by simp at g;omega
  subst g
  exact h zs hz hr
theorem lp18 {n:Nat} {K:KT} (hn:1<=n/\n<=16384) (hc:1<=ch) (hb:1<=bp/\bp<=n) (hz:n<=zs.length) (hr:zs.take bp=List.replicate bp 255)
  (h:∀ zs:List Int,n<=zs.length->zs.take n=List.replicate n 255->K (.slc 2 0 n n) ([⟨24,.lst [I 0,L none 0 0],2,true⟩,⟨5,.lst [.raw (.int .u8 255)],1,true⟩]++[⟨5,.vals (vB zs),tot,true⟩]) E):
  Lp F6 8 Tryz.f80 [1,1,1,1,1,1,1,1,1,1,1,0,0] 2 K (sh18 n ch bp tot zs E):=
 Lp_ind okF6 (fun x:{x:Nat×List Int//1<=x.1/\x.1<=n/\n<=x.2.length/\x.2.take x.1=List.replicate x.1 255}=>sh18 n ch x.1.1 tot x.1.2 E) (fun x=>n-x.1.1)
  (fun x ih=>rnd18 hn hc ⟨x.2.1,x.2.2.1⟩ x.2.2.2.1 x.2.2.2.2 h fun bp' zs g1 g2 g3 g4=>ih ⟨(bp',zs),by have:=x.2.1;exact ⟨by omega,g2,g3,g4⟩⟩ (by show n-bp'<n-x.1.1;omega)) ⟨(bp,zs),hb.1,hb.2,hz,hr⟩
theorem s25 {n:Nat} {K:KT} (hn:1<=n/\n<=16384) (h:∀ (tot:Nat) (zs:List Int),n<=zs.length->zs.take n=List.replicate n 255->K (.slc 2 0 n n) ([⟨24,.lst [I 0,L none 0 0],2,true⟩,⟨5,.lst [.raw (.int .u8 255)],1,true⟩]++[⟨5,.vals (vB zs),tot,true⟩]) E):EntB F6 8 Tryz.f80 [.slc 1 0 1 1,I n] [⟨24,.lst [I 0,L none 0 0],2,true⟩,⟨5,.lst [.raw (.int .u8 255)],1,true⟩] E K:=by
 obtain ⟨k,rfl⟩:∃ k,n=k+1:=⟨n-1,by omega⟩
 exact ent25 hn fun ch tot zs hc hz=>Ct_intro okF6 (pc17 hz (lp18 hn hc ⟨by omega,by omega⟩ (by simp;omega) (by simp) (h tot)))
def newF (s n:Int):(Int×List Int)×Int:=if s<1\/s>1024\/n<1\/n>16384 / s then ((0,[]),1) else ((s,List.replicate (s*n).toNat 255),0)
def tabR:CallT:=fun f args bx E K=>f=80/\∃ n:Nat,args=[.slc 1 0 1 1,I n]/\bx=[⟨24,.lst [I 0,L none 0 0],2,true⟩,⟨5,.lst [.raw (.int .u8 255)],1,true⟩]/\(1<=n/\n<=16384)/\∀ (tot:Nat) (zs:List Int),n<=zs.length->zs.take n=List.replicate n 255->K (.slc 2 0 n n) (bx++[⟨5,.vals (vB zs),tot,true⟩]) E
theorem tabR_ok (f:FuncId) (args:List SV) (bx:List Box) (E:Mem) (K:KT) (h:tabR f args bx E K):CallSem Tryz.prog f args bx E K:=by
 obtain ⟨rfl,n,rfl,rfl,h1,h2⟩:=h
 exact EntB.sem okF6 Tryz.func80 ⟨by kernel_rfl,by kernel_rfl⟩ (s25 h1 h2)
noncomputable def F8:Cx:={ P:=Tryz.prog,inl:=fun f=>List.contains [] f,tab:=fun _ _ _ _=>False,isB:=fun f=>f==80,tabB:=tabR,opt:={ unroll:=0,carry:=[] },muts:=mutsD }
theorem okF8:CxOK F8:=CxOK.four (fun _ _ _ _ h=>h.elim) (by kernel_rfl) (okInl (by kernel_rfl)) tabR_ok
noncomputable def FA:Cx:={ P:=Tryz.prog,inl:=fun f=>List.contains [] f,tab:=fun _ _ _ _=>False,isB:=fun _=>false,tabB:=fun _ _ _ _ _=>False,opt:={ unroll:=0,carry:=[5] },muts:=mutsD }
theorem okFA:CxOK FA:=CxOK.four (fun _ _ _ _ h=>h.elim) (by kernel_rfl) (okInl (by kernel_rfl)) (fun _ _ _ _ _ h=>h.elim)
def sh13 (a1 a5:Int) (b2 b6:Option Addr) (l3 c4 l7 c8 i:Nat) (E:Mem):St:=⟨[none,none,oc 0 0,oc 1 0,none,oI (i:Nat)]++nn 32,[⟨24,.lst [I a1,L b2 l3 c4],2,true⟩,⟨24,.lst [I a5,L b6 l7 c8],2,true⟩],E⟩
theorem take_getD (h:i<zs.length):zs.take (i+1)=zs.take i++[zs.getD i 0]:=by
 rw [List.take_succ_eq_append_getElem h,List.getD_eq_getElem?_getD,List.getElem?_eq_getElem h];rfl
theorem rnd13 {K:SV->Mem->Prop} (h0:Bs E b2 l3 c4 zs) (h1:Bs E b6 l7 c8 ys) (h2:l3<=100000) (hl:l3=l7) (hi:i<=l3) (hp:zs.take i=ys.take i)
  (hE:Mem.le E0 E) (h:K (B (decide (zs=ys))) E) (ih:i<l3->zs.take (i+1)=ys.take (i+1)->Lp FA 8 Tryz.f31 [1,1,0,1,0] 0 (pubK E0 K) (sh13 a1 a5 b2 b6 l3 c4 l7 c8 (i+1) E)):
  Rnd FA 8 Tryz.f31 [1,1,0,1,0] 0 (pubK E0 K) (sh13 a1 a5 b2 b6 l3 c4 l7 c8 i E):=by
 refine sm_ (?_:bif decide ((NI i)<(NI l3)) then req (0<=(NI i)/\(NI i)<(NI l3)) (nE E b2 l3 c4/\∃ (n:Int),LoadE FA.P E 5 (VS b2 l3 c4) (Int.toNat (NI i)*1) (SV.raw (U8 n))/\req (0<=(NI i)/\(NI i)<(NI l7)) (nE E b6 l7 c8/\∃ (n_1:Int),LoadE FA.P E 5 (VS b6 l7 c8) (Int.toNat (NI i)*1) (SV.raw (U8 n_1))/\bif n !=n_1 then Mem.le E0 E/\K (B false) E else Lp FA 8 Tryz.f31 [1,1,0,1,0] 0 (pubK E0 K) { fr:=none::none::oc 0 0::oc 1 0::none::oI (WI ((NI i)+1))::no32 [],bx:=[(⟨24,.lst [I a1,L b2 l3 c4],2,true⟩:Box),⟨24,.lst [I a5,L b6 l7 c8],2,true⟩],E:=E:St })) else Mem.le E0 E/\K (B true) E)
 delta WI NI U8 VS no32
 have z0:=h0.2.1
 have z1:=h1.2.1
 refine condC (fun g=>?_) (fun g=>?_)
 ·have g:i<l3:=by simpa using g
  refine req_intro (by omega) ⟨h0.ne g,zs.getD i 0,h0.load rfl g,req_intro (by omega) ⟨h1.ne (i:=i) (by omega),ys.getD i 0,h1.load (i:=i) rfl (by omega),condC (fun q=>?_) (fun q=>?_)⟩⟩
  ·have q:¬ zs.getD i 0=ys.getD i 0:=by simpa using q
   rw [decide_eq_false (fun e=>q (by rw [e]))] at h
   exact ⟨hE,h⟩
  ·have q:zs.getD i 0=ys.getD i 0:=by simpa using q
   rw [wrap_i64 (by omega),show (i:Int)+1=((i+1:Nat):Int) by simp]
   exact Lp_re [some 0,some 1] (ih g (by rw [take_getD (by omega),take_getD (by omega),hp,q])) (wkG mr_)
 ·have g:i=l3:=by simp at g;omega
  subst g
  rw [decide_eq_true (by rw [← List.take_of_length_le (l:=zs) (i:=i) (by omega),hp,List.take_of_length_le (by omega)])] at h
  exact ⟨hE,h⟩
theorem lp13 {K:SV->Mem->Prop} (h0:Bs E b2 l3 c4 zs) (h1:Bs E b6 l7 c8 ys) (h2:l3<=100000) (hl:l3=l7) (hi:i<=l3) (hp:zs.take i=ys.take i)
  (hE:Mem.le E0 E) (h:K (B (decide (zs=ys))) E):Lp FA 8 Tryz.f31 [1,1,0,1,0] 0 (pubK E0 K) (sh13 a1 a5 b2 b6 l3 c4 l7 c8 i E):=
 Lp_ind okFA (fun x:{i:Nat//i<=l3/\zs.take i=ys.take i}=>sh13 a1 a5 b2 b6 l3 c4 l7 c8 x.1 E) (fun x=>l3-x.1) (fun x ih=>rnd13 h0 h1 h2 hl x.2.1 x.2.2 hE h fun g e=>ih ⟨x.1+1,by omega,e⟩ (by show l3-(_+1)<l3-_;omega)) ⟨i,hi,hp⟩
theorem s13 (h0:Bs E b2 l3 c4 zs) (h1:Bs E b6 l7 c8 ys) (h2:l3<=100000) (h:K (B (decide (a1=a5/\zs=ys))) E):
  Ent FA 8 Tryz.f31 [.agg [I a1,L b2 l3 c4],.agg [I a5,L b6 l7 c8]] E K:=by
 refine sm_ (?_:bif a1 !=a5 then Mem.le E E/\K (B false) E else bif bif false then true else (NI l3) !=(NI l7) then Mem.le E E/\K (B false) E else Lp FA 8 Tryz.f31 [1,1,0,1,0] 0 (pubK E K) { fr:=some (SV.agg [I a1,L b2 l3 c4])::some (SV.agg [I a5,L b6 l7 c8])::oc 0 0::oc 1 0::none::oI 0::oc 0 0::oI a1::oc 1 0::oI a5::oB (a1 !=a5)::oB false::oc 0 1::oL b2 l3 c4::oI (NI l3)::oc 1 1::oL b6 l7 c8::oI (NI l7)::oB ((NI l3) !=(NI l7))::oB (bif false then true else (NI l3) !=(NI l7))::no16 (no2 []),bx:=[(⟨24,.lst [I a1,L b2 l3 c4],2,true⟩:Box),⟨24,.lst [I a5,L b6 l7 c8],2,true⟩],E:=E:St })
 delta NI no2 no16
 have z0:=h0.2.1
 have z1:=h1.2.1
 refine condC (fun g=>?_) (fun ge=>condC (fun g=>?_) (fun g=>?_))
 ·have g:¬ a1=a5:=by simpa using g
  rw [decide_eq_false (fun q=>g q.1)] at h
  exact ⟨mr_,h⟩
 ·have g:¬ l3=l7:=by simp at g;omega
  rw [decide_eq_false (fun q=>g (by rw [← z0,← z1,q.2]))] at h
  exact ⟨mr_,h⟩
 have e:a1=a5:=by simpa using ge
 have g:l3=l7:=by simp at g;omega
 rw [show decide (a1=a5/\zs=ys)=decide (zs=ys) by simp [e]] at h
 exact Lp_re [some 0,some 1] (lp13 (i:=0) h0 h1 h2 g (Nat.zero_le _) rfl mr_ h) (wkG mr_)
noncomputable def FB:Cx:={ P:=Tryz.prog,inl:=fun f=>List.contains [] f,tab:=fun _ _ _ _=>False,isB:=fun _=>false,tabB:=fun _ _ _ _ _=>False,opt:={ unroll:=0,carry:=[] },muts:=(fun o=>match o with | .buildSlice .. =>true| .alloc _=>true|o=>mutsD o) }
theorem okFB:CxOK FB:=CxOK.four (fun _ _ _ _ h=>h.elim) (by kernel_rfl) (okInl (by kernel_rfl)) (fun _ _ _ _ _ h=>h.elim)
theorem s29 {a6:Int} (h0:Bs E b2 l3 c4 zs) (h1:l3<=100000) (h2:(0<=a5/\a5<l3)) (h3:(0<=a6/\a6<=255)) (h:∀ (b':Option Addr) (l' c':Nat) (ys:List Int) (E':Mem),Mem.le E E'->Hyp (zs.set (Int.toNat a5) a6=ys)->Bs E' b' l' c' ys->K (.agg [I a1,L b' l' c']) E'):
  Ent FB 8 Tryz.f95 [.agg [I a1,L b2 l3 c4],I a5,.raw (.int .u8 a6)] E K:=by
 refine sm_ (?_:((((∃ (cs:List Value),(cs=[]\/E (VS b2 l3 c4) cs)/\l3*1<=List.length cs/\(∀ (x:Value),List.Mem x cs->Value.oneCell' x=true)/\0<=0/\0<=0/\0<=0/\req ((0+l3)*1<=140737488355328) (∀ (cap' tot':Nat),0+l3<=cap'->cap'*1<=tot'->Sx.Alike al2 (req ((0:Int)<=a5/\a5<(NI (0+l3))) (0+Int.toNat a5*1+1<=List.length ([]++List.take (l3*1) cs)/\∀ (base:Option Addr) (E':Mem),Mem.le E E'->WinE E' base (layV ([]++List.take (l3*1) cs) (0+Int.toNat a5*1) [U8 a6])->Mem.le E E'/\K (SV.agg [I a1,L (Option.map (fun (x:Addr)=>Addr.add x 0) base) (0+l3) cap']) E'))))/\∃ (cs:List Value),(cs=[]\/E (VS b2 l3 c4) cs)/\l3*1<=List.length cs/\(∀ (x:Value),List.Mem x cs->Value.oneCell' x=true)/\0<=0/\0<=0/\0<=0/\req ((0+l3)*1<=140737488355328) (∀ (cap' tot':Nat),0+l3<=cap'->cap'*1<=tot'->req ((0:Int)<=a5/\a5<(NI (0+l3))) (0+Int.toNat a5*1+1<=List.length ([]++List.take (l3*1) cs)/\∀ (base:Option Addr) (E':Mem),Mem.le E E'->WinE E' base (layV ([]++List.take (l3*1) cs) (0+Int.toNat a5*1) [U8 a6])->Mem.le E E'/\K (SV.agg [I a1,L (Option.map (fun (x:Addr)=>Addr.add x 0) base) (0+l3) cap']) E')))/\∃ (cs:List Value),(cs=[]\/E (VS b2 l3 c4) cs)/\l3*1<=List.length cs/\(∀ (x:Value),List.Mem x cs->Value.oneCell' x=true)/\0<=0/\0<=0/\0<=0/\req ((0+l3)*1<=140737488355328) (∀ (cap' tot':Nat),0+l3<=cap'->cap'*1<=tot'->req ((0:Int)<=a5/\a5<(NI (0+l3))) (0+Int.toNat a5*1+1<=List.length ([]++List.take (l3*1) cs)/\∀ (base:Option Addr) (E':Mem),Mem.le E E'->WinE E' base (layV ([]++List.take (l3*1) cs) (0+Int.toNat a5*1) [U8 a6])->Mem.le E E'/\K (SV.agg [I a1,L (Option.map (fun (x:Addr)=>Addr.add x 0) base) (0+l3) cap']) E')))/\(((∃ (cs:List Value),(cs=[]\/E (VS b2 l3 c4) cs)/\l3*1<=List.length cs/\(∀ (x:Value),List.Mem x cs->Value.oneCell' x=true)/\0<=0/\0<=0/\0<=0/\req ((0+l3)*1<=140737488355328) (∀ (cap' tot':Nat),0+l3<=cap'->cap'*1<=tot'->Sx.Alike al2 (req ((0:Int)<=a5/\a5<(NI (0+l3))) (0+Int.toNat a5*1+1<=List.length ([]++List.take (l3*1) cs)/\∀ (base:Option Addr) (E':Mem),Mem.le E E'->WinE E' base (layV ([]++List.take (l3*1) cs) (0+Int.toNat a5*1) [U8 a6])->Mem.le E E'/\K (SV.agg [I a1,L (Option.map (fun (x:Addr)=>Addr.add x 0) base) (0+l3) cap']) E'))))/\∃ (cs:List Value),(cs=[]\/E (VS b2 l3 c4) cs)/\l3*1<=List.length cs/\(∀ (x:Value),List.Mem x cs->Value.oneCell' x=true)/\0<=0/\0<=0/\0<=0/\req ((0+l3)*1<=140737488355328) (∀ (cap' tot':Nat),0+l3<=cap'->cap'*1<=tot'->req ((0:Int)<=a5/\a5<(NI (0+l3))) (0+Int.toNat a5*1+1<=List.length ([]++List.take (l3*1) cs)/\∀ (base:Option Addr) (E':Mem),Mem.le E E'->WinE E' base (layV ([]++List.take (l3*1) cs) (0+Int.toNat a5*1) [U8 a6])->Mem.le E E'/\K (SV.agg [I a1,L (Option.map (fun (x:Addr)=>Addr.add x 0) base) (0+l3) cap']) E')))/\∃ (cs:List Value),(cs=[]\/E (VS b2 l3 c4) cs)/\l3*1<=List.length cs/\(∀ (x:Value),List.Mem x cs->Value.oneCell' x=true)/\0<=0/\0<=0/\0<=0/\req ((0+l3)*1<=140737488355328) (∀ (cap' tot':Nat),0+l3<=cap'->cap'*1<=tot'->req ((0:Int)<=a5/\a5<(NI (0+l3))) (0+Int.toNat a5*1+1<=List.length ([]++List.take (l3*1) cs)/\∀ (base:Option Addr) (E':Mem),Mem.le E E'->WinE E' base (layV ([]++List.take (l3*1) cs) (0+Int.toNat a5*1) [U8 a6])->Mem.le E E'/\K (SV.agg [I a1,L (Option.map (fun (x:Addr)=>Addr.add x 0) base) (0+l3) cap']) E')))/\Sx.Alike al2 (∃ (cs:List Value),(cs=[]\/E (VS b2 l3 c4) cs)/\l3*1<=List.length cs/\(∀ (x:Value),List.Mem x cs->Value.oneCell' x=true)/\0<=0/\0<=0/\0<=0/\req ((0+l3)*1<=140737488355328) (∀ (cap' tot':Nat),0+l3<=cap'->cap'*1<=tot'->req ((0:Int)<=a5/\a5<(NI (0+l3))) (0+Int.toNat a5*1+1<=List.length ([]++List.take (l3*1) cs)/\∀ (base:Option Addr) (E':Mem),Mem.le E E'->WinE E' base (layV ([]++List.take (l3*1) cs) (0+Int.toNat a5*1) [U8 a6])->Mem.le E E'/\K (SV.agg [I a1,L (Option.map (fun (x:Addr)=>Addr.add x 0) base) (0+l3) cap']) E'))))/\((((∃ (cs:List Value),(cs=[]\/E (VS b2 l3 c4) cs)/\l3*1<=List.length cs/\(∀ (x:Value),List.Mem x cs->Value.oneCell' x=true)/\0<=0/\0<=0/\0<=0/\req ((0+l3)*1<=140737488355328) (∀ (cap' tot':Nat),0+l3<=cap'->cap'*1<=tot'->Sx.Alike al2 (req ((0:Int)<=a5/\a5<(NI (0+l3))) (0+Int.toNat a5*1+1<=List.length ([]++List.take (l3*1) cs)/\∀ (base:Option Addr) (E':Mem),Mem.le E E'->WinE E' base (layV ([]++List.take (l3*1) cs) (0+Int.toNat a5*1) [U8 a6])->Mem.le E E'/\K (SV.agg [I a1,L (Option.map (fun (x:Addr)=>Addr.add x 0) base) (0+l3) cap']) E'))))/\∃ (cs:List Value),(cs=[]\/E (VS b2 l3 c4) cs)/\l3*1<=List.length cs/\(∀ (x:Value),List.Mem x cs->Value.oneCell' x=true)/\0<=0/\0<=0/\0<=0/\req ((0+l3)*1<=140737488355328) (∀ (cap' tot':Nat),0+l3<=cap'->cap'*1<=tot'->req ((0:Int)<=a5/\a5<(NI (0+l3))) (0+Int.toNat a5*1+1<=List.length ([]++List.take (l3*1) cs)/\∀ (base:Option Addr) (E':Mem),Mem.le E E'->WinE E' base (layV ([]++List.take (l3*1) cs) (0+Int.toNat a5*1) [U8 a6])->Mem.le E E'/\K (SV.agg [I a1,L (Option.map (fun (x:Addr)=>Addr.add x 0) base) (0+l3) cap']) E')))/\∃ (cs:List Value),(cs=[]\/E (VS b2 l3 c4) cs)/\l3*1<=List.length cs/\(∀ (x:Value),List.Mem x cs->Value.oneCell' x=true)/\0<=0/\0<=0/\0<=0/\req ((0+l3)*1<=140737488355328) (∀ (cap' tot':Nat),0+l3<=cap'->cap'*1<=tot'->req ((0:Int)<=a5/\a5<(NI (0+l3))) (0+Int.toNat a5*1+1<=List.length ([]++List.take (l3*1) cs)/\∀ (base:Option Addr) (E':Mem),Mem.le E E'->WinE E' base (layV ([]++List.take (l3*1) cs) (0+Int.toNat a5*1) [U8 a6])->Mem.le E E'/\K (SV.agg [I a1,L (Option.map (fun (x:Addr)=>Addr.add x 0) base) (0+l3) cap']) E')))/\(((∃ (cs:List Value),(cs=[]\/E (VS b2 l3 c4) cs)/\l3*1<=List.length cs/\(∀ (x:Value),List.Mem x cs->Value.oneCell' x=true)/\0<=0/\0<=0/\0<=0/\req ((0+l3)*1<=140737488355328) (∀ (cap' tot':Nat),0+l3<=cap'->cap'*1<=tot'->Sx.Alike al2 (req ((0:Int)<=a5/\a5<(NI (0+l3))) (0+Int.toNat a5*1+1<=List.length ([]++List.take (l3*1) cs)/\∀ (base:Option Addr) (E':Mem),Mem.le E E'->WinE E' base (layV ([]++List.take (l3*1) cs) (0+Int.toNat a5*1) [U8 a6])->Mem.le E E'/\K (SV.agg [I a1,L (Option.map (fun (x:Addr)=>Addr.add x 0) base) (0+l3) cap']) E'))))/\∃ (cs:List Value),(cs=[]\/E (VS b2 l3 c4) cs)/\l3*1<=List.length cs/\(∀ (x:Value),List.Mem x cs->Value.oneCell' x=true)/\0<=0/\0<=0/\0<=0/\req ((0+l3)*1<=140737488355328) (∀ (cap' tot':Nat),0+l3<=cap'->cap'*1<=tot'->req ((0:Int)<=a5/\a5<(NI (0+l3))) (0+Int.toNat a5*1+1<=List.length ([]++List.take (l3*1) cs)/\∀ (base:Option Addr) (E':Mem),Mem.le E E'->WinE E' base (layV ([]++List.take (l3*1) cs) (0+Int.toNat a5*1) [U8 a6])->Mem.le E E'/\K (SV.agg [I a1,L (Option.map (fun (x:Addr)=>Addr.add x 0) base) (0+l3) cap']) E')))/\(∃ (cs:List Value),(cs=[]\/E (VS b2 l3 c4) cs)/\l3*1<=List.length cs/\(∀ (x:Value),List.Mem x cs->Value.oneCell' x=true)/\0<=0/\0<=0/\0<=0/\req ((0+l3)*1<=140737488355328) (∀ (cap' tot':Nat),0+l3<=cap'->cap'*1<=tot'->Sx.Alike (AlikeT.n al2 AlikeT.l) (req ((0:Int)<=a5/\a5<(NI (0+l3))) (0+Int.toNat a5*1+1<=List.length ([]++List.take (l3*1) cs)/\∀ (base:Option Addr) (E':Mem),Mem.le E E'->WinE E' base (layV ([]++List.take (l3*1) cs) (0+Int.toNat a5*1) [U8 a6])->Mem.le E E'/\K (SV.agg [I a1,L (Option.map (fun (x:Addr)=>Addr.add x 0) base) (0+l3) cap']) E'))))/\Sx.Alike al2 (∃ (cs:List Value),(cs=[]\/E (VS b2 l3 c4) cs)/\l3*1<=List.length cs/\(∀ (x:Value),List.Mem x cs->Value.oneCell' x=true)/\0<=0/\0<=0/\0<=0/\req ((0+l3)*1<=140737488355328) (∀ (cap' tot':Nat),0+l3<=cap'->cap'*1<=tot'->req ((0:Int)<=a5/\a5<(NI (0+l3))) (0+Int.toNat a5*1+1<=List.length ([]++List.take (l3*1) cs)/\∀ (base:Option Addr) (E':Mem),Mem.le E E'->WinE E' base (layV ([]++List.take (l3*1) cs) (0+Int.toNat a5*1) [U8 a6])->Mem.le E E'/\K (SV.agg [I a1,L (Option.map (fun (x:Addr)=>Addr.add x 0) base) (0+l3) cap']) E'))))/\Sx.Alike al2 (∃ (cs:List Value),(cs=[]\/E (VS b2 l3 c4) cs)/\l3*1<=List.length cs/\(∀ (x:Value),List.Mem x cs->Value.oneCell' x=true)/\0<=0/\0<=0/\0<=0/\req ((0+l3)*1<=140737488355328) (∀ (cap' tot':Nat),0+l3<=cap'->cap'*1<=tot'->req ((0:Int)<=a5/\a5<(NI (0+l3))) (0+Int.toNat a5*1+1<=List.length ([]++List.take (l3*1) cs)/\∀ (base:Option Addr) (E':Mem),Mem.le E E'->WinE E' base (layV ([]++List.take (l3*1) cs) (0+Int.toNat a5*1) [U8 a6])->Mem.le E E'/\K (SV.agg [I a1,L (Option.map (fun (x:Addr)=>Addr.add x 0) base) (0+l3) cap']) E'))))/\((((∃ (cs:List Value),(cs=[]\/E (VS b2 l3 c4) cs)/\l3*1<=List.length cs/\(∀ (x:Value),List.Mem x cs->Value.oneCell' x=true)/\0<=0/\0<=0/\0<=0/\req ((0+l3)*1<=140737488355328) (∀ (cap' tot':Nat),0+l3<=cap'->cap'*1<=tot'->Sx.Alike al2 (req ((0:Int)<=a5/\a5<(NI (0+l3))) (0+Int.toNat a5*1+1<=List.length ([]++List.take (l3*1) cs)/\∀ (base:Option Addr) (E':Mem),Mem.le E E'->WinE E' base (layV ([]++List.take (l3*1) cs) (0+Int.toNat a5*1) [U8 a6])->Mem.le E E'/\K (SV.agg [I a1,L (Option.map (fun (x:Addr)=>Addr.add x 0) base) (0+l3) cap']) E'))))/\∃ (cs:List Value),(cs=[]\/E (VS b2 l3 c4) cs)/\l3*1<=List.length cs/\(∀ (x:Value),List.Mem x cs->Value.oneCell' x=true)/\0<=0/\0<=0/\0<=0/\req ((0+l3)*1<=140737488355328) (∀ (cap' tot':Nat),0+l3<=cap'->cap'*1<=tot'->req ((0:Int)<=a5/\a5<(NI (0+l3))) (0+Int.toNat a5*1+1<=List.length ([]++List.take (l3*1) cs)/\∀ (base:Option Addr) (E':Mem),Mem.le E E'->WinE E' base (layV ([]++List.take (l3*1) cs) (0+Int.toNat a5*1) [U8 a6])->Mem.le E E'/\K (SV.agg [I a1,L (Option.map (fun (x:Addr)=>Addr.add x 0) base) (0+l3) cap']) E')))/\∃ (cs:List Value),(cs=[]\/E (VS b2 l3 c4) cs)/\l3*1<=List.length cs/\(∀ (x:Value),List.Mem x cs->Value.oneCell' x=true)/\0<=0/\0<=0/\0<=0/\req ((0+l3)*1<=140737488355328) (∀ (cap' tot':Nat),0+l3<=cap'->cap'*1<=tot'->req ((0:Int)<=a5/\a5<(NI (0+l3))) (0+Int.toNat a5*1+1<=List.length ([]++List.take (l3*1) cs)/\∀ (base:Option Addr) (E':Mem),Mem.le E E'->WinE E' base (layV ([]++List.take (l3*1) cs) (0+Int.toNat a5*1) [U8 a6])->Mem.le E E'/\K (SV.agg [I a1,L (Option.map (fun (x:Addr)=>Addr.add x 0) base) (0+l3) cap']) E')))/\(((∃ (cs:List Value),(cs=[]\/E (VS b2 l3 c4) cs)/\l3*1<=List.length cs/\(∀ (x:Value),List.Mem x cs->Value.oneCell' x=true)/\0<=0/\0<=0/\0<=0/\req ((0+l3)*1<=140737488355328) (∀ (cap' tot':Nat),0+l3<=cap'->cap'*1<=tot'->Sx.Alike al2 (req ((0:Int)<=a5/\a5<(NI (0+l3))) (0+Int.toNat a5*1+1<=List.length ([]++List.take (l3*1) cs)/\∀ (base:Option Addr) (E':Mem),Mem.le E E'->WinE E' base (layV ([]++List.take (l3*1) cs) (0+Int.toNat a5*1) [U8 a6])->Mem.le E E'/\K (SV.agg [I a1,L (Option.map (fun (x:Addr)=>Addr.add x 0) base) (0+l3) cap']) E'))))/\∃ (cs:List Value),(cs=[]\/E (VS b2 l3 c4) cs)/\l3*1<=List.length cs/\(∀ (x:Value),List.Mem x cs->Value.oneCell' x=true)/\0<=0/\0<=0/\0<=0/\req ((0+l3)*1<=140737488355328) (∀ (cap' tot':Nat),0+l3<=cap'->cap'*1<=tot'->req ((0:Int)<=a5/\a5<(NI (0+l3))) (0+Int.toNat a5*1+1<=List.length ([]++List.take (l3*1) cs)/\∀ (base:Option Addr) (E':Mem),Mem.le E E'->WinE E' base (layV ([]++List.take (l3*1) cs) (0+Int.toNat a5*1) [U8 a6])->Mem.le E E'/\K (SV.agg [I a1,L (Option.map (fun (x:Addr)=>Addr.add x 0) base) (0+l3) cap']) E')))/\(∃ (cs:List Value),(cs=[]\/E (VS b2 l3 c4) cs)/\l3*1<=List.length cs/\(∀ (x:Value),List.Mem x cs->Value.oneCell' x=true)/\0<=0/\0<=0/\0<=0/\req ((0+l3)*1<=140737488355328) (∀ (cap' tot':Nat),0+l3<=cap'->cap'*1<=tot'->Sx.Alike (AlikeT.n al2 AlikeT.l) (req ((0:Int)<=a5/\a5<(NI (0+l3))) (0+Int.toNat a5*1+1<=List.length ([]++List.take (l3*1) cs)/\∀ (base:Option Addr) (E':Mem),Mem.le E E'->WinE E' base (layV ([]++List.take (l3*1) cs) (0+Int.toNat a5*1) [U8 a6])->Mem.le E E'/\K (SV.agg [I a1,L (Option.map (fun (x:Addr)=>Addr.add x 0) base) (0+l3) cap']) E'))))/\Sx.Alike al2 (∃ (cs:List Value),(cs=[]\/E (VS b2 l3 c4) cs)/\l3*1<=List.length cs/\(∀ (x:Value),List.Mem x cs->Value.oneCell' x=true)/\0<=0/\0<=0/\0<=0/\req ((0+l3)*1<=140737488355328) (∀ (cap' tot':Nat),0+l3<=cap'->cap'*1<=tot'->req ((0:Int)<=a5/\a5<(NI (0+l3))) (0+Int.toNat a5*1+1<=List.length ([]++List.take (l3*1) cs)/\∀ (base:Option Addr) (E':Mem),Mem.le E E'->WinE E' base (layV ([]++List.take (l3*1) cs) (0+Int.toNat a5*1) [U8 a6])->Mem.le E E'/\K (SV.agg [I a1,L (Option.map (fun (x:Addr)=>Addr.add x 0) base) (0+l3) cap']) E'))))/\Sx.Alike (AlikeT.n AlikeT.l al2) (∃ (cs:List Value),(cs=[]\/E (VS b2 l3 c4) cs)/\l3*1<=List.length cs/\(∀ (x:Value),List.Mem x cs->Value.oneCell' x=true)/\0<=0/\0<=0/\0<=0/\req ((0+l3)*1<=140737488355328) (∀ (cap' tot':Nat),0+l3<=cap'->cap'*1<=tot'->req ((0:Int)<=a5/\a5<(NI (0+l3))) (0+Int.toNat a5*1+1<=List.length ([]++List.take (l3*1) cs)/\∀ (base:Option Addr) (E':Mem),Mem.le E E'->WinE E' base (layV ([]++List.take (l3*1) cs) (0+Int.toNat a5*1) [U8 a6])->Mem.le E E'/\K (SV.agg [I a1,L (Option.map (fun (x:Addr)=>Addr.add x 0) base) (0+l3) cap']) E'))))/\Sx.Alike (AlikeT.n al2 (AlikeT.n al2 (AlikeT.n AlikeT.l al2))) (∃ (cs:List Value),(cs=[]\/E (VS b2 l3 c4) cs)/\l3*1<=List.length cs/\(∀ (x:Value),List.Mem x cs->Value.oneCell' x=true)/\0<=0/\0<=0/\0<=0/\req ((0+l3)*1<=140737488355328) (∀ (cap' tot':Nat),0+l3<=cap'->cap'*1<=tot'->req ((0:Int)<=a5/\a5<(NI (0+l3))) (0+Int.toNat a5*1+1<=List.length ([]++List.take (l3*1) cs)/\∀ (base:Option Addr) (E':Mem),Mem.le E E'->WinE E' base (layV ([]++List.take (l3*1) cs) (0+Int.toNat a5*1) [U8 a6])->Mem.le E E'/\K (SV.agg [I a1,L (Option.map (fun (x:Addr)=>Addr.add x 0) base) (0+l3) cap']) E'))))
 delta NI U8 VS
 have hz:=h0.2.1
 obtain ⟨t1,t2,t3⟩:=h0.src
 have e1:[]++List.take (l3*1) (zs.map (Value.int .u8))=vB zs:=by rw [List.nil_append,List.take_of_length_le (by simp;omega)]
 have e2:layV (vB zs) (0+Int.toNat a5*1) [Value.int IntKind.u8 a6]=vB (zs.set (Int.toNat a5) a6):=by
  rw [show 0+Int.toNat a5*1=Int.toNat a5 by omega,layV_set (by omega)]
 have fin:∀ (cap' tot':Nat),0+l3<=cap'->req (0<=a5/\a5<((0+l3:Nat):Int)) (0+Int.toNat a5*1+1<=List.length ([]++List.take (l3*1) (zs.map (Value.int .u8)))/\∀ (base:Option Addr) (E':Mem),Mem.le E E'->WinE E' base (layV ([]++List.take (l3*1) (zs.map (Value.int .u8))) (0+Int.toNat a5*1) [Value.int IntKind.u8 a6])->Mem.le E E'/\K (SV.agg [SV.raw (Value.int IntKind.i64 a1),SV.raw (Value.slice (Option.map (fun (x:Addr)=>Addr.add x 0) base) (0+l3) cap')]) E'):=by
  intro cap' tot' c1
  rw [e1,e2]
  refine req_intro (by omega) ⟨by simp;omega,fun base E' hE hW=>⟨hE,h _ _ _ _ E' hE rfl (Bs.win hW rfl (by simp;omega) c1 fun z hz'=>?_)⟩⟩
  rcases List.mem_or_eq_of_mem_set hz' with q|rfl
  ·exact h0.2.2.2.1 z q
  ·exact h3
 repeat' apply And.intro
 all_goals exact ⟨_,t1,t2,t3,Nat.le_refl _,Nat.le_refl _,Nat.le_refl _,req_intro (by omega) (fun cap' tot' c1 _=>by first|exact fin cap' tot' c1|exact alike (fin cap' tot' c1))⟩
theorem loadW_row {rs:List FRow} {r:FRow} (h:rs[i]? =some r):loadW Tryz.prog 24 ((rs.flatMap rowV).map .raw) (i*2)=some (.agg [I r.1,L r.2.1 r.2.2.1 r.2.2.2]):=by
 have key:∀ (rs:List FRow) (i:Nat),rs[i]? =some r->(((rs.flatMap rowV).map SV.raw).drop (i*2)).take 2=[I r.1,L r.2.1 r.2.2.1 r.2.2.2]:=by
  intro rs
  induction rs with
  | nil=>intro i h;simp at h
  | cons x rs ih=>
   intro i h
   cases i with
   | zero=>simp at h;subst h;simp [rowV]
   | succ i=>
    have:=ih i (by simpa using h)
    rw [show (i+1)*2=i*2+2 by omega,List.flatMap_cons,List.map_append,List.drop_append,List.drop_eq_nil_of_le (by simp [rowV]),List.nil_append]
    simpa [rowV] using this
 have hu:(match Tryz.prog.underlying 24 with |some (.struct _)=>true|_=>false)=true:=by kernel_rfl
 have hi:(Tryz.prog.info? 24).map (·.size)=some 2:=by kernel_rfl
 unfold loadW
 split at hu
 ·rename_i fs hfs
  rw [hfs]
  cases hinf:Tryz.prog.info? 24 with
  | none=>rw [hinf] at hi;cases hi
  | some inf=>
   rw [hinf] at hi
   simp only [Option.map_some,Option.some.injEq] at hi
   simp only [hi,key rs i h]
   rfl
 ·cases hu
noncomputable def tab29:FuncId->List SV->Mem->(SV->Mem->Prop)->Prop:=fun f args E K=>match f with
 | 95=>d3 args fun x0 x1 x2=>dC x0 fun l1=>d2 l1 fun x0_0 x0_1=>dI x0_0 fun a1=>dS x0_1 fun b2 l3 c4=>dI x1 fun a5=>dN .u8 x2 fun a6=>∃ (zs:List Int),Bs E b2 l3 c4 zs/\l3<=100000/\(0<=a5/\a5<l3)/\(0<=a6/\a6<=255)/\(∀ (b':Option Addr) (l' c':Nat) (ys:List Int) (E':Mem),Mem.le E E'->Hyp (zs.set (Int.toNat a5) a6=ys)->Bs E' b' l' c' ys->K (.agg [I a1,L b' l' c']) E')
 | 62=>d1 args fun x0=>dC x0 fun l1=>d2 l1 fun x0_0 x0_1=>dI x0_0 fun a1=>dS x0_1 fun b2 l3 c4=>(K (B (decide (validF a1 l3))) E)
 | _=>False
theorem tab29_ok:TabOK Tryz.prog tab29:=by
 intro f args E K h
 unfold tab29 at h
 split at h
 ·replace h:=d3_elim h
  obtain ⟨x0,x1,x2,rfl,h⟩:=h
  replace h:=dC_elim h
  obtain ⟨l1,hl1,h⟩:=h
  replace h:=d2_elim h
  obtain ⟨x0_0,x0_1,rfl,h⟩:=h
  replace h:=dI_elim h
  obtain ⟨a1,rfl,h⟩:=h
  replace h:=dS_elim h
  obtain ⟨b2,l3,c4,rfl,h⟩:=h
  replace h:=dI_elim h
  obtain ⟨a5,rfl,h⟩:=h
  replace h:=dN_elim h
  obtain ⟨a6,rfl,h⟩:=h
  obtain ⟨zs,g0,g1,g2,g3,h⟩:=h
  exact TabSem.congr (valL_cons (asCells_val hl1) (valL_cons rfl (valL_cons rfl rfl))) (Ent.sem okFB Tryz.func95 ⟨by kernel_rfl,by kernel_rfl⟩ rfl (s29 g0 g1 g2 g3 h))
 ·replace h:=d1_elim h
  obtain ⟨x0,rfl,h⟩:=h
  replace h:=dC_elim h
  obtain ⟨l1,hl1,h⟩:=h
  replace h:=d2_elim h
  obtain ⟨x0_0,x0_1,rfl,h⟩:=h
  replace h:=dI_elim h
  obtain ⟨a1,rfl,h⟩:=h
  replace h:=dS_elim h
  obtain ⟨b2,l3,c4,rfl,h⟩:=h
  exact TabSem.congr (valL_cons (asCells_val hl1) rfl) (Ent.sem okF5 Tryz.func62 ⟨by kernel_rfl,by kernel_rfl⟩ rfl (s19 h))
 ·exact h.elim
noncomputable def FC:Cx:={ P:=Tryz.prog,inl:=fun f=>List.contains [] f,tab:=tab29,isB:=fun _=>false,tabB:=fun _ _ _ _ _=>False,opt:={ unroll:=0,carry:=[8,9] },muts:=mutsD }
theorem okFC:CxOK FC:=CxOK.four tab29_ok (by kernel_rfl) (okInl (by kernel_rfl)) (fun _ _ _ _ _ h=>h.elim)
def sh15 (s:Int) (a:Nat) (b db:Option Addr) (l c dl dc i cap tot:Nat) (rs:List FRow) (E:Mem):St:=⟨[none,oI (a:Nat),oL db dl dc]++nn 5++[os 1 0 (i+1) cap,oI (i:Nat)]++nn 56,[⟨24,.lst [I s,L b l c],2,true⟩,⟨24,.vals (rs.flatMap rowV),tot,true⟩],E⟩
theorem rnd15 {cap:Nat} {rs:List FRow} {K:SV->Mem->Prop} (hd:Bs E0 db dl dc ds) (hl:1<=l/\l<=16384/\a+dl<=l) (hz:zs.length=l) (hi:i<=dl) (hc:i+1<=cap/\cap*2<=tot) (hE:Mem.le E0 E) (hr:FLr E rs (mems s (gP ds) a zs (i+1)))
  (hK:∀ (b:Option Addr) (c:Nat) (E':Mem),Mem.le E0 E'->FL E' b (dl+1) c (mems s (gP ds) a zs (dl+1))->K (.tup [L b (dl+1) c,I 0]) E')
  (ih:∀ (cap tot:Nat) (rs:List FRow) (E':Mem),i<dl->i+1+1<=cap/\cap*2<=tot->Mem.le E0 E'->FLr E' rs (mems s (gP ds) a zs (i+1+1))->Lp FC 8 Tryz.f96 [1,1,1,1,0,1,0] 0 (pubK E0 K) (sh15 s a b db l c dl dc (i+1) cap tot rs E')):Rnd FC 8 Tryz.f96 [1,1,1,1,0,1,0] 0 (pubK E0 K) (sh15 s a b db l c dl dc i cap tot rs E):=by
 refine sm_ (?_:bif decide ((NI i)<(NI dl)) then req (0<=(NI i)/\(NI i)<(NI (i+1))) (∃ (n:Int),∃ (base:Option Addr),∃ (len:Nat),∃ (cap_1:Nat),LoadV FC.P 24 (List.flatMap rowV rs) (0+Int.toNat (NI i)*2) (SV.agg [I n,L base len cap_1])/\req ((0:Int)<=WI ((NI a)+(NI i))/\WI ((NI a)+(NI i))<(NI len)) (nE E base len cap_1/\∃ (n_1:Int),LoadE FC.P E 5 (VS base len cap_1) (Int.toNat (WI ((NI a)+(NI i)))*1) (SV.raw (U8 n_1))/\req (0<=(NI i)/\(NI i)<(NI dl)) (nE E db dl dc/\∃ (n_2:Int),LoadE FC.P E 5 (VS db dl dc) (Int.toNat (NI i)*1) (SV.raw (U8 n_2))/\IntKind.u8=IntKind.u8/\∃ (zs:List Int),Bs E base len cap_1 zs/\len<=100000/\((0:Int)<=WI ((NI a)+(NI i))/\WI ((NI a)+(NI i))<(NI len))/\((0:Int)<=IntKind.wrap IntKind.u8 (NI (BitVec.toNat (BitVec.ofInt (IntKind.bits IntKind.u8) n_1&&& BitVec.ofInt (IntKind.bits IntKind.u8) n_2)))/\IntKind.wrap IntKind.u8 (NI (BitVec.toNat (BitVec.ofInt (IntKind.bits IntKind.u8) n_1&&& BitVec.ofInt (IntKind.bits IntKind.u8) n_2)))<=(255:Int))/\∀ (b':Option Addr) (l' c':Nat) (ys:List Int) (E':Mem),Mem.le E E'->Hyp (List.set zs (Int.toNat (WI ((NI a)+(NI i)))) (IntKind.wrap IntKind.u8 (NI (BitVec.toNat (BitVec.ofInt (IntKind.bits IntKind.u8) n_1&&& BitVec.ofInt (IntKind.bits IntKind.u8) n_2))))=ys)->Bs E' b' l' c' ys->Mem.le E E'/\(i+1)*2<=List.length (Row.cells (Row.vals (List.flatMap rowV rs)))/\cap*2<=tot/\i+1<=cap/\req ((i+1+1)*32<=140737488355328) (∀ (cap' tot':Nat),i+1+1<=cap'->cap'*2<=tot'->Lp FC 8 Tryz.f96 [1,1,1,1,0,1,0] 0 (pubK E0 K) { fr:=none::oI (NI a)::oL db dl dc::none::none::none::none::none::os 4 0 (i+1+1) cap'::oI (WI ((NI i)+1))::no32 (no16 (no8 [])),bx:=[(⟨24,.lst [I s,L b l c],2,true⟩:Box),⟨24,.lst [],0,false⟩,⟨24,.lst [I n,L base len cap_1],2,true⟩,⟨24,.lst [I n,L b' l' c'],2,true⟩,⟨24,.vals (List.take ((i+1)*2) (List.flatMap rowV rs)++[Value.int IntKind.i64 n,VS b' l' c']),tot',true⟩],E:=E':St })))) else ∀ (base:Option Addr) (E':Mem),Mem.le E E'->WinE E' base (List.flatMap rowV rs)->Mem.le E0 E'/\K (SV.tup [L (Option.map (fun (x:Addr)=>Addr.add x 0) base) (i+1) cap,I 0]) E')
 delta WI NI U8 VS no8 no16 no32
 have hrl:rs.length=i+1:=by rw [hr.1,mems_len]
 obtain ⟨r,er⟩:∃ r,rs[i]? =some r:=⟨_,List.getElem?_eq_getElem (by omega)⟩
 have em:(mems s (gP ds) a zs (i+1))[i]? =some (s,stp (gP ds) a zs i):=by simp [mems]
 obtain ⟨q1,hB⟩:=hr.2 i r _ er em
 have hzl:(stp (gP ds) a zs i).length=l:=by rw [stp_len,hz]
 have hbl:=hB.2.1
 rw [hzl] at hbl
 refine condC (fun g=>?_) (fun g=>?_)
 ·have g:i<dl:=by simpa using g
  have eai:IntKind.wrap .i64 ((a:Int)+(i:Int))=((a+i:Nat):Int):=by rw [wrap_i64 (by omega)];simp
  have ei1:IntKind.wrap .i64 ((i:Int)+1)=((i+1:Nat):Int):=by rw [wrap_i64 (by omega)];simp
  rw [eai,ei1]
  refine req_intro (by omega) ⟨r.1,r.2.1,r.2.2.1,r.2.2.2,?_,req_intro (by omega) ⟨hB.ne (i:=a+i) (by omega),(stp (gP ds) a zs i).getD (a+i) 0,?_,req_intro (by omega) ⟨(hd.mono hE).ne (i:=i) g,ds.getD i 0,(hd.mono hE).load (i:=i) rfl g,rfl,stp (gP ds) a zs i,hB,by omega,by omega,wu8b _,?_⟩⟩⟩
  ·show loadW Tryz.prog 24 _ _=_
   rw [show 0+Int.toNat (i:Int)*2=i*2 by omega]
   exact loadW_row er
  ·exact hB.load (i:=a+i) rfl (by omega)
  intro b' l' c' ys E' hE' hys hB'
  have hB':Bs E' b' l' c' ys:=hB'
  have hys:ys=stp (gP ds) a zs (i+1):=by rw [← (show _=ys from hys),Int.toNat_natCast];rfl
  refine ⟨hE',by show _<=(List.map SV.raw _).length;rw [List.length_map,rows_len,hrl];exact Nat.le_refl _,hc.2,hc.1,req_intro (by omega) (fun cap' tot' c1 c2=>?_)⟩
  have e:List.take ((i+1)*2) (rs.flatMap rowV)++[Value.int IntKind.i64 r.1,Value.slice b' l' c']=(rs++[(r.1,b',l',c')]).flatMap rowV:=by
   rw [rows_snoc,List.take_of_length_le (by rw [rows_len];omega)];rfl
  rw [e]
  refine Lp_re [some 0,some 4] (ih cap' tot' _ E' g ⟨c1,c2⟩ (mt_ hE hE') ?_) (wkG mr_)
  rw [mems_succ _ _ _ _ (i+1)]
  exact (hr.mono hE').snoc q1 (by rw [← hys];exact hB')
 ·have g:i=dl:=by simp at g;omega
  subst g
  intro base E' hE' hW
  exact ⟨mt_ hE hE',hK _ _ E' (mt_ hE hE') (FL.win hW rfl (hr.mono hE') (by simp [mems_len]) hc.1)⟩
theorem lp15 {cap:Nat} {rs:List FRow} {K:SV->Mem->Prop} (hd:Bs E0 db dl dc ds) (hl:1<=l/\l<=16384/\a+dl<=l) (hz:zs.length=l)
  (hK:∀ (b:Option Addr) (c:Nat) (E':Mem),Mem.le E0 E'->FL E' b (dl+1) c (mems s (gP ds) a zs (dl+1))->K (.tup [L b (dl+1) c,I 0]) E') (hi:i<=dl) (hc:i+1<=cap/\cap*2<=tot) (hE:Mem.le E0 E) (hr:FLr E rs (mems s (gP ds) a zs (i+1))):
  Lp FC 8 Tryz.f96 [1,1,1,1,0,1,0] 0 (pubK E0 K) (sh15 s a b db l c dl dc i cap tot rs E):=
 Lp_ind okFC (fun x:{x:Nat×Nat×Nat×List FRow×Mem//x.1<=dl/\(x.1+1<=x.2.1/\x.2.1*2<=x.2.2.1)/\Mem.le E0 x.2.2.2.2/\FLr x.2.2.2.2 x.2.2.2.1 (mems s (gP ds) a zs (x.1+1))}=>sh15 s a b db l c dl dc x.1.1 x.1.2.1 x.1.2.2.1 x.1.2.2.2.1 x.1.2.2.2.2) (fun x=>dl-x.1.1)
  (fun x ih=>rnd15 hd hl hz x.2.1 x.2.2.1 x.2.2.2.1 x.2.2.2.2 hK fun cap tot rs E' g h1 h2 h3=>ih ⟨(x.1.1+1,cap,tot,rs,E'),by show x.1.1+1<=dl;omega,h1,h2,h3⟩ (by show dl-(_+1)<dl-_;omega)) ⟨(i,cap,tot,rs,E),hi,hc,hE,hr⟩
theorem s15 (h0:Bs E b2 l3 c4 zs) (h1:Bs E b6 l7 c8 ds) (h:∀ (b':Option Addr) (l' c':Nat) (ms:List (Int×List Int)) (e:Int) (E':Mem),Mem.le E E'->Hyp (progF a1 zs a5 ds=(ms,e))->FL E' b' l' c' ms->K (.tup [L b' l' c',I e]) E'):
  Ent FC 8 Tryz.f96 [.agg [I a1,L b2 l3 c4],I a5,L b6 l7 c8] E K:=by
 refine sm_ (?_:Mem.le E E/\bif !decide (validF a1 l3) then Mem.le E E/\K (SV.tup [L none 0 0,I 1]) E else bif bif false then true else decide (a5<(0:Int)) then Mem.le E E/\K (SV.tup [L none 0 0,I 1]) E else bif decide (a5>(NI l3)) then Mem.le E E/\K (SV.tup [L none 0 0,I 3]) E else bif bif false then true else decide ((NI l7)>WI ((NI l3)-a5)) then Mem.le E E/\K (SV.tup [L none 0 0,I 3]) E else Lp FC 8 Tryz.f96 [1,1,1,1,0,1,0] 0 (pubK E K) { fr:=some (SV.agg [I a1,L b2 l3 c4])::oI a5::oL b6 l7 c8::oc 0 0::none::none::oL none 0 0::oI 0::os 1 0 1 1::oI 0::none::some (SV.agg [I a1,L b2 l3 c4])::oB (decide (validF a1 l3))::oB (!decide (validF a1 l3))::oB false::oI a5::oB (decide (a5<(0:Int)))::oB (bif false then true else decide (a5<(0:Int)))::oI a5::oc 0 1::oL b2 l3 c4::oI (NI l3)::oB (decide (a5>(NI l3)))::oB false::oL b6 l7 c8::oI (NI l7)::oc 0 1::oL b2 l3 c4::oI (NI l3)::oI a5::oI (WI ((NI l3)-a5))::oB (decide ((NI l7)>WI ((NI l3)-a5)))::oB (bif false then true else decide ((NI l7)>WI ((NI l3)-a5)))::some (SV.agg [I a1,L b2 l3 c4])::os 1 0 1 1::no16 (no8 (no4 (no2 (none::[])))),bx:=[(⟨24,.lst [I a1,L b2 l3 c4],2,true⟩:Box),⟨24,.lst [I a1,L b2 l3 c4],2,true⟩],E:=E:St })
 delta WI NI no2 no4 no8 no16
 have hz:=h0.2.1
 have hd:=h1.2.1
 have ex:∀ {ms:List (Int×List Int)} {e:Int},progF a1 zs a5 ds=(ms,e)->(∀ (b':Option Addr) (l' c':Nat) (E':Mem),Mem.le E E'->FL E' b' l' c' ms->K (.tup [L b' l' c',I e]) E'):=fun he b' l' c' E' hE hF=>h b' l' c' _ _ E' hE he hF
 unfold progF at ex
 rw [hz,hd] at ex
 refine ⟨mr_,condC (fun g=>?_) (fun g=>?_)⟩
 ·have g:¬ validF a1 l3:=by simpa using g
  exact ⟨mr_,ex (if_pos (.inl g)) none 0 0 E mr_ (FL.nil _)⟩
 have g:validF a1 l3:=by simpa using g
 have gl:=g
 unfold validF at gl
 refine condC (fun g1=>?_) (fun g1=>?_)
 ·exact ⟨mr_,ex (if_pos (.inr (by simpa using g1))) none 0 0 E mr_ (FL.nil _)⟩
 have g1:0<=a5:=by simpa using g1
 rw [if_neg (by simp only [not_or,Decidable.not_not];exact ⟨g,by omega⟩)] at ex
 refine condC (fun g2=>?_) (fun g2=>?_)
 ·exact ⟨mr_,ex (if_pos (.inl (by simpa using g2))) none 0 0 E mr_ (FL.nil _)⟩
 have g2:a5<=l3:=by simpa using g2
 rw [wrap_i64 (x:=(l3:Int)-a5) (by omega)]
 refine condC (fun g3=>?_) (fun g3=>?_)
 ·exact ⟨mr_,ex (if_pos (.inr (by simpa using g3))) none 0 0 E mr_ (FL.nil _)⟩
 have g3:(l7:Int)<=l3-a5:=by simpa using g3
 rw [if_neg (by omega)] at ex
 obtain ⟨a,rfl⟩:∃ a:Nat,a5=a:=⟨a5.toNat,by omega⟩
 refine Lp_re [some 0,some 1] (lp15 (s:=a1) (a:=a) (b:=b2) (l:=l3) (c:=c4) (i:=0) (cap:=1) (tot:=2) (rs:=[(a1,b2,l3,c4)]) (zs:=zs) h1 ⟨by omega,by omega,by omega⟩ hz (fun b c E' hE hF=>ex (by rw [Int.toNat_natCast]) b _ c E' hE hF) (Nat.zero_le _) ⟨by omega,by omega⟩ mr_ ?_) (wkG mr_)
 exact (FLr.nil E).snoc (r:=(a1,b2,l3,c4)) (m:=(a1,zs)) rfl h0
noncomputable def FD:Cx:={ P:=Tryz.prog,inl:=fun f=>List.contains [] f,tab:=tab29,isB:=fun _=>false,tabB:=fun _ _ _ _ _=>False,opt:={ unroll:=0,carry:=[6,7] },muts:=mutsD }
theorem okFD:CxOK FD:=CxOK.four tab29_ok (by kernel_rfl) (okInl (by kernel_rfl)) (fun _ _ _ _ _ h=>h.elim)
def sh17' (m:Nat) (k:Int) (b:Option Addr) (l c i cap tot:Nat) (rs:List FRow) (E:Mem):St:=⟨[none,oI k,oc 0 0,none,none,none,os 1 0 (i+1) cap,oI (i:Nat)]++nn 40,[⟨24,.lst [I (m:Nat),L b l c],2,true⟩,⟨24,.vals (rs.flatMap rowV),tot,true⟩],E⟩
theorem rnd17 {k:Int} {cap:Nat} {rs:List FRow} {K:SV->Mem->Prop} (hk:k*(m:Int)=a) (hl:1<=l/\l<=16384/\a+m<=l) (hz:zs.length=l) (hi:i<=m) (hc:i+1<=cap/\cap*2<=tot) (hE:Mem.le E0 E) (hr:FLr E rs (mems m gE a zs (i+1)))
  (hK:∀ (b:Option Addr) (c:Nat) (E':Mem),Mem.le E0 E'->FL E' b (m+1) c (mems m gE a zs (m+1))->K (.tup [L b (m+1) c,I 0]) E')
  (ih:∀ (cap tot:Nat) (rs:List FRow) (E':Mem),i<m->i+1+1<=cap/\cap*2<=tot->Mem.le E0 E'->FLr E' rs (mems m gE a zs (i+1+1))->Lp FD 8 Tryz.f72 [1,1,1,0,1,0] 0 (pubK E0 K) (sh17' m k b l c (i+1) cap tot rs E')):
  Rnd FD 8 Tryz.f72 [1,1,1,0,1,0] 0 (pubK E0 K) (sh17' m k b l c i cap tot rs E):=by
 refine sm_ (?_:bif decide ((NI i)<(NI m)) then req (0<=(NI i)/\(NI i)<(NI (i+1))) (∃ (n:Int),∃ (base:Option Addr),∃ (len:Nat),∃ (cap_1:Nat),LoadV FD.P 24 (List.flatMap rowV rs) (0+Int.toNat (NI i)*2) (SV.agg [I n,L base len cap_1])/\IntKind.u8=IntKind.u8/\∃ (zs:List Int),Bs E base len cap_1 zs/\len<=100000/\((0:Int)<=WI (WI (k*(NI m))+(NI i))/\WI (WI (k*(NI m))+(NI i))<(NI len))/\((0:Int)<=(255:Int)/\(255:Int)<=(255:Int))/\∀ (b':Option Addr) (l' c':Nat) (ys:List Int) (E':Mem),Mem.le E E'->Hyp (List.set zs (Int.toNat (WI (WI (k*(NI m))+(NI i)))) (255:Int)=ys)->Bs E' b' l' c' ys->Mem.le E E'/\(i+1)*2<=List.length (Row.cells (Row.vals (List.flatMap rowV rs)))/\cap*2<=tot/\i+1<=cap/\req ((i+1+1)*32<=140737488355328) (∀ (cap' tot':Nat),i+1+1<=cap'->cap'*2<=tot'->Lp FD 8 Tryz.f72 [1,1,1,0,1,0] 0 (pubK E0 K) { fr:=none::oI k::oc 0 0::none::none::none::os 3 0 (i+1+1) cap'::oI (WI ((NI i)+1))::no32 (no8 []),bx:=[(⟨24,.lst [I (NI m),L b l c],2,true⟩:Box),⟨24,.lst [],0,false⟩,⟨24,.lst [I n,L b' l' c'],2,true⟩,⟨24,.vals (List.take ((i+1)*2) (List.flatMap rowV rs)++[Value.int IntKind.i64 n,VS b' l' c']),tot',true⟩],E:=E':St })) else ∀ (base:Option Addr) (E':Mem),Mem.le E E'->WinE E' base (List.flatMap rowV rs)->Mem.le E0 E'/\K (SV.tup [L (Option.map (fun (x:Addr)=>Addr.add x 0) base) (i+1) cap,I 0]) E')
 delta WI NI VS no8 no32
 have hrl:rs.length=i+1:=by rw [hr.1,mems_len]
 obtain ⟨r,er⟩:∃ r,rs[i]? =some r:=⟨_,List.getElem?_eq_getElem (by omega)⟩
 have em:(mems m gE a zs (i+1))[i]? =some ((m:Int),stp gE a zs i):=by simp [mems]
 obtain ⟨q1,hB⟩:=hr.2 i r _ er em
 have hzl:(stp gE a zs i).length=l:=by rw [stp_len,hz]
 have hbl:=hB.2.1
 rw [hzl] at hbl
 refine condC (fun g=>?_) (fun g=>?_)
 ·have g:i<m:=by simpa using g
  have eai:IntKind.wrap .i64 (IntKind.wrap .i64 (k*(m:Int))+(i:Int))=((a+i:Nat):Int):=by rw [hk,wrap_i64 (x:=(a:Int)) (by omega),wrap_i64 (by omega)];simp
  have ei1:IntKind.wrap .i64 ((i:Int)+1)=((i+1:Nat):Int):=by rw [wrap_i64 (by omega)];simp
  rw [eai,ei1]
  refine req_intro (by omega) ⟨r.1,r.2.1,r.2.2.1,r.2.2.2,?_,rfl,stp gE a zs i,hB,by omega,by omega,by omega,?_⟩
  ·show loadW Tryz.prog 24 _ _=_
   rw [show 0+Int.toNat (i:Int)*2=i*2 by omega]
   exact loadW_row er
  intro b' l' c' ys E' hE' hys hB'
  have hB':Bs E' b' l' c' ys:=hB'
  have hys:ys=stp gE a zs (i+1):=by rw [← (show _=ys from hys),Int.toNat_natCast];rfl
  refine ⟨hE',by show _<=(List.map SV.raw _).length;rw [List.length_map,rows_len,hrl];exact Nat.le_refl _,hc.2,hc.1,req_intro (by omega) (fun cap' tot' c1 c2=>?_)⟩
  have e:List.take ((i+1)*2) (rs.flatMap rowV)++[Value.int IntKind.i64 r.1,Value.slice b' l' c']=(rs++[(r.1,b',l',c')]).flatMap rowV:=by
   rw [rows_snoc,List.take_of_length_le (by rw [rows_len];omega)];rfl
  rw [e]
  refine Lp_re [some 0,some 3] (ih cap' tot' _ E' g ⟨c1,c2⟩ (mt_ hE hE') ?_) (wkG mr_)
  rw [mems_succ _ _ _ _ (i+1)]
  exact (hr.mono hE').snoc q1 (by rw [← hys];exact hB')
 ·have g:i=m:=by simp at g;omega
  subst g
  intro base E' hE' hW
  exact ⟨mt_ hE hE',hK _ _ E' (mt_ hE hE') (FL.win hW rfl (hr.mono hE') (by simp [mems_len]) hc.1)⟩
theorem lp17 {k:Int} {cap:Nat} {rs:List FRow} {K:SV->Mem->Prop} (hk:k*(m:Int)=a) (hl:1<=l/\l<=16384/\a+m<=l) (hz:zs.length=l)
  (hK:∀ (b:Option Addr) (c:Nat) (E':Mem),Mem.le E0 E'->FL E' b (m+1) c (mems m gE a zs (m+1))->K (.tup [L b (m+1) c,I 0]) E') (hi:i<=m) (hc:i+1<=cap/\cap*2<=tot) (hE:Mem.le E0 E) (hr:FLr E rs (mems m gE a zs (i+1))):
  Lp FD 8 Tryz.f72 [1,1,1,0,1,0] 0 (pubK E0 K) (sh17' m k b l c i cap tot rs E):=
 Lp_ind okFD (fun x:{x:Nat×Nat×Nat×List FRow×Mem//x.1<=m/\(x.1+1<=x.2.1/\x.2.1*2<=x.2.2.1)/\Mem.le E0 x.2.2.2.2/\FLr x.2.2.2.2 x.2.2.2.1 (mems m gE a zs (x.1+1))}=>sh17' m k b l c x.1.1 x.1.2.1 x.1.2.2.1 x.1.2.2.2.1 x.1.2.2.2.2) (fun x=>m-x.1.1)
  (fun x ih=>rnd17 hk hl hz x.2.1 x.2.2.1 x.2.2.2.1 x.2.2.2.2 hK fun cap tot rs E' g h1 h2 h3=>ih ⟨(x.1.1+1,cap,tot,rs,E'),by show x.1.1+1<=m;omega,h1,h2,h3⟩ (by show m-(_+1)<m-_;omega)) ⟨(i,cap,tot,rs,E),hi,hc,hE,hr⟩
theorem s17 (h0:Bs E b2 l3 c4 zs) (h:∀ (b':Option Addr) (l' c':Nat) (ms:List (Int×List Int)) (e:Int) (E':Mem),Mem.le E E'->Hyp (erasF a1 zs a5=(ms,e))->FL E' b' l' c' ms->K (.tup [L b' l' c',I e]) E'):
  Ent FD 8 Tryz.f72 [.agg [I a1,L b2 l3 c4],I a5] E K:=by
 refine sm_ (?_:Mem.le E E/\bif !decide (validF a1 l3) then Mem.le E E/\K (SV.tup [L none 0 0,I 1]) E else bif bif false then true else decide (a5<(0:Int)) then Mem.le E E/\K (SV.tup [L none 0 0,I 1]) E else (a1=(0:Int)->False)/\bif bif false then true else decide (a5>=WI (Int.tdiv (NI l3) a1)) then Mem.le E E/\K (SV.tup [L none 0 0,I 1]) E else Lp FD 8 Tryz.f72 [1,1,1,0,1,0] 0 (pubK E K) { fr:=some (SV.agg [I a1,L b2 l3 c4])::oI a5::oc 0 0::none::oL none 0 0::oI 0::os 1 0 1 1::oI 0::some (SV.agg [I a1,L b2 l3 c4])::oB (decide (validF a1 l3))::oB (!decide (validF a1 l3))::oB false::oI a5::oB (decide (a5<(0:Int)))::oB (bif false then true else decide (a5<(0:Int)))::oB false::oI a5::oc 0 1::oL b2 l3 c4::oI (NI l3)::oc 0 0::oI a1::oI (WI (Int.tdiv (NI l3) a1))::oB (decide (a5>=WI (Int.tdiv (NI l3) a1)))::oB (bif false then true else decide (a5>=WI (Int.tdiv (NI l3) a1)))::some (SV.agg [I a1,L b2 l3 c4])::os 1 0 1 1::no16 (no4 (none::[])),bx:=[(⟨24,.lst [I a1,L b2 l3 c4],2,true⟩:Box),⟨24,.lst [I a1,L b2 l3 c4],2,true⟩],E:=E:St })
 delta WI NI no4 no16
 have hz:=h0.2.1
 have ex:∀ {ms:List (Int×List Int)} {e:Int},erasF a1 zs a5=(ms,e)->(∀ (b':Option Addr) (l' c':Nat) (E':Mem),Mem.le E E'->FL E' b' l' c' ms->K (.tup [L b' l' c',I e]) E'):=fun he b' l' c' E' hE hF=>h b' l' c' _ _ E' hE he hF
 unfold erasF at ex
 rw [hz] at ex
 have bad:¬ validF a1 l3\/a5<0\/a5>=(l3:Int) / a1->Mem.le E E/\K (.tup [L none 0 0,I 1]) E:=fun hb=>⟨mr_,ex (if_pos hb) none 0 0 E mr_ (FL.nil _)⟩
 refine ⟨mr_,condC (fun g=>bad (.inl (by simpa using g))) (fun g=>?_)⟩
 have hv:validF a1 l3:=by simpa using g
 obtain ⟨g1,g2,g3,g4,g5⟩:=hv
 have hv:validF a1 l3:=⟨g1,g2,g3,g4,g5⟩
 refine condC (fun g=>bad (.inr (.inl (by simpa using g)))) (fun g6=>?_)
 have g6:0<=a5:=by simpa using g6
 have hdv:Int.tdiv (l3:Int) a1=(l3:Int) / a1:=Int.tdiv_eq_ediv_of_nonneg (by omega)
 have hd1:(l3:Int) / a1<=l3:=Int.ediv_le_self _ (by omega)
 have hd0:0<=(l3:Int) / a1:=Int.ediv_nonneg (by omega) (by omega)
 refine ⟨by omega,?_⟩
 rw [hdv,wrap_i64 (x:=(l3:Int) / a1) (by omega)]
 refine condC (fun g=>bad (.inr (.inr (by simpa using g)))) (fun g7=>?_)
 have g7:a5<(l3:Int) / a1:=by simpa using g7
 rw [if_neg (fun q=>q.elim (fun q=>q hv) (fun q=>by omega))] at ex
 have h8:(a5+1)*a1<=l3:=by
  have:=Int.mul_le_mul_of_nonneg_right (show a5+1<=(l3:Int) / a1 by omega) (show 0<=a1 by omega)
  have h2:=Int.ediv_mul_le (l3:Int) (show a1≠0 by omega)
  omega
 have h9:0<=a5*a1:=Int.mul_nonneg g6 (by omega)
 rw [Int.add_mul,Int.one_mul] at h8
 obtain ⟨a,ha⟩:∃ a:Nat,a5*a1=a:=⟨(a5*a1).toNat,by omega⟩
 obtain ⟨m,rfl⟩:∃ m:Nat,a1=m:=⟨a1.toNat,by omega⟩
 rw [ha] at ex h8
 refine Lp_re [some 0,some 1] (lp17 (m:=m) (a:=a) (k:=a5) (b:=b2) (l:=l3) (c:=c4) (i:=0) (cap:=1) (tot:=2) (rs:=[((m:Int),b2,l3,c4)]) (zs:=zs) ha ⟨by omega,by omega,by omega⟩ hz (fun b c E' hE hF=>ex (by rw [Int.toNat_natCast,Int.toNat_natCast]) b _ c E' hE hF) (Nat.zero_le _) ⟨by omega,by omega⟩ mr_ ?_) (wkG mr_)
 exact (FLr.nil E).snoc (r:=((m:Int),b2,l3,c4)) (m:=((m:Int),zs)) rfl h0
theorem FL.load {n:Nat} (h:FL E b n c ms) {m:Int×List Int} (hm:ms[i]? =some m):
  (∃ cs,E (.slice b n c) cs/\(cs=[]->False))/\∃ (b':Option Addr) (l' c':Nat),LoadE Tryz.prog E 24 (.slice b n c) (i*2) (.agg [I m.1,L b' l' c'])/\Bs E b' l' c' m.2:=by
 obtain ⟨rs,h1,h2,h3,h4,h5⟩:=h
 have hi:i<ms.length:=(List.getElem?_eq_some_iff.1 hm).1
 have hE:=h4.resolve_left (by omega)
 obtain ⟨r,er⟩:∃ r,rs[i]? =some r:=⟨_,List.getElem?_eq_getElem (by rw [h1.1];exact hi)⟩
 obtain ⟨q1,q2⟩:=h1.2 i r m er hm
 refine ⟨⟨_,hE,fun e=>?_⟩,r.2.1,r.2.2.1,r.2.2.2,⟨_,hE,?_⟩,q2⟩
 ·have:=rows_len rs
  rw [e,h1.1] at this
  simp at this;omega
 ·rw [← q1];exact loadW_row er
theorem FL.len {n:Nat} (h:FL E b n c ms):ms.length=n:=by
 obtain ⟨rs,h1,h2,_⟩:=h;exact h2
noncomputable def tab13:FuncId->List SV->Mem->(SV->Mem->Prop)->Prop:=fun f args E K=>match f with
 | 31=>d2 args fun x0 x1=>dC x0 fun l1=>d2 l1 fun x0_0 x0_1=>dI x0_0 fun a1=>dS x0_1 fun b2 l3 c4=>dC x1 fun l2=>d2 l2 fun x1_0 x1_1=>dI x1_0 fun a5=>dS x1_1 fun b6 l7 c8=>∃ (zs:List Int) (ys:List Int),Bs E b2 l3 c4 zs/\Bs E b6 l7 c8 ys/\l3<=100000/\(K (B (decide (a1=a5/\zs=ys))) E)
 | _=>False
theorem tab13_ok:TabOK Tryz.prog tab13:=by
 intro f args E K h
 unfold tab13 at h
 split at h
 ·replace h:=d2_elim h
  obtain ⟨x0,x1,rfl,h⟩:=h
  replace h:=dC_elim h
  obtain ⟨l1,hl1,h⟩:=h
  replace h:=d2_elim h
  obtain ⟨x0_0,x0_1,rfl,h⟩:=h
  replace h:=dI_elim h
  obtain ⟨a1,rfl,h⟩:=h
  replace h:=dS_elim h
  obtain ⟨b2,l3,c4,rfl,h⟩:=h
  replace h:=dC_elim h
  obtain ⟨l2,hl2,h⟩:=h
  replace h:=d2_elim h
  obtain ⟨x1_0,x1_1,rfl,h⟩:=h
  replace h:=dI_elim h
  obtain ⟨a5,rfl,h⟩:=h
  replace h:=dS_elim h
  obtain ⟨b6,l7,c8,rfl,h⟩:=h
  obtain ⟨zs,ys,g0,g1,g2,h⟩:=h
  exact TabSem.congr (valL_cons (asCells_val hl1) (valL_cons (asCells_val hl2) rfl)) (Ent.sem okFA Tryz.func31 ⟨by kernel_rfl,by kernel_rfl⟩ rfl (s13 g0 g1 g2 h))
 ·exact h.elim
noncomputable def FE:Cx:={ P:=Tryz.prog,inl:=fun f=>List.contains [] f,tab:=tab13,isB:=fun _=>false,tabB:=fun _ _ _ _ _=>False,opt:={ unroll:=0,carry:=[5] },muts:=mutsD }
theorem okFE:CxOK FE:=CxOK.four tab13_ok (by kernel_rfl) (okInl (by kernel_rfl)) (fun _ _ _ _ _ h=>h.elim)
def sh20 (b d:Option Addr) (n c m e i:Nat) (E:Mem):St:=⟨[oL b n c,oL d m e,none,none,none,oI (i:Nat)]++nn 21,[],E⟩
theorem take_get {α:Type} {l:List α} {x:α} (h:l[i]? =some x):l.take (i+1)=l.take i++[x]:=by
 obtain ⟨h1,h2⟩:=List.getElem?_eq_some_iff.1 h
 rw [List.take_succ_eq_append_getElem h1,h2]
theorem rnd20 {d:Option Addr} {n e:Nat} {K:SV->Mem->Prop} (h0:FL E b n c ms) (h1:FL E d m e ns) (h2:∀ m∈ms,m.2.length<=100000) (h3:n<=100000) (hl:n=m) (hi:i<=n) (hp:ms.take i=ns.take i) (hE:Mem.le E0 E)
  (h:K (B (decide (ms=ns))) E) (ih:i<n->ms.take (i+1)=ns.take (i+1)->Lp FE 8 Tryz.f10 [1,1,0,1,0] 0 (pubK E0 K) (sh20 b d n c m e (i+1) E)):Rnd FE 8 Tryz.f10 [1,1,0,1,0] 0 (pubK E0 K) (sh20 b d n c m e i E):=by
 refine sm_ (?_:bif decide ((NI i)<(NI n)) then req (0<=(NI i)/\(NI i)<(NI n)) (nE E b n c/\∃ (n_1:Int),∃ (base:Option Addr),∃ (len:Nat),∃ (cap:Nat),LoadE FE.P E 24 (VS b n c) (Int.toNat (NI i)*2) (SV.agg [I n_1,L base len cap])/\req (0<=(NI i)/\(NI i)<(NI m)) (nE E d m e/\∃ (n_2:Int),∃ (base_1:Option Addr),∃ (len_1:Nat),∃ (cap_1:Nat),LoadE FE.P E 24 (VS d m e) (Int.toNat (NI i)*2) (SV.agg [I n_2,L base_1 len_1 cap_1])/\∃ (zs:List Int),∃ (ys:List Int),Bs E base len cap zs/\Bs E base_1 len_1 cap_1 ys/\len<=100000/\Mem.le E E/\bif !decide (n_1=n_2/\zs=ys) then Mem.le E0 E/\K (B false) E else Lp FE 8 Tryz.f10 [1,1,0,1,0] 0 (pubK E0 K) { fr:=some (L b n c)::oL d m e::none::none::none::oI (WI ((NI i)+1))::no16 (no4 (none::[])),bx:=[],E:=E:St })) else Mem.le E0 E/\K (B true) E)
 delta WI NI VS no4 no16
 have z0:=h0.len
 have z1:=h1.len
 refine condC (fun g=>?_) (fun g=>?_)
 ·have g:i<n:=by simpa using g
  obtain ⟨x,ex⟩:∃ x,ms[i]? =some x:=⟨_,List.getElem?_eq_getElem (by omega)⟩
  obtain ⟨y,ey⟩:∃ y,ns[i]? =some y:=⟨_,List.getElem?_eq_getElem (by omega)⟩
  obtain ⟨p1,b1,l1,c1,p2,p3⟩:=h0.load ex
  obtain ⟨q1,b2,l2,c2,q2,q3⟩:=h1.load ey
  refine req_intro (by omega) ⟨p1,x.1,b1,l1,c1,p2,req_intro (by omega) ⟨q1,y.1,b2,l2,c2,q2,x.2,y.2,p3,q3,by rw [← p3.2.1];exact h2 x (List.mem_of_getElem? ex),mr_,condC (fun q=>?_) (fun q=>?_)⟩⟩
  ·have q:¬ (x.1=y.1/\x.2=y.2):=of_decide_eq_false (by simpa only [Bool.not_eq_true'] using q)
   rw [decide_eq_false (fun e=>by subst e;rw [ex] at ey;cases ey;exact q ⟨rfl,rfl⟩)] at h
   exact ⟨hE,h⟩
  ·have q:x.1=y.1/\x.2=y.2:=of_decide_eq_true (by simpa only [Bool.not_eq_false'] using q)
   rw [wrap_i64 (by omega),show (i:Int)+1=((i+1:Nat):Int) by simp]
   exact Lp_re [] (ih g (by rw [take_get ex,take_get ey,hp,show x=y from Prod.ext q.1 q.2])) (wkG mr_)
 ·have g:i=n:=by simp at g;omega
  subst g
  rw [decide_eq_true (by rw [← List.take_of_length_le (l:=ms) (i:=i) (by omega),hp,List.take_of_length_le (by omega)])] at h
  exact ⟨hE,h⟩
theorem lp20 {d:Option Addr} {n e:Nat} {K:SV->Mem->Prop} (h0:FL E b n c ms) (h1:FL E d m e ns) (h2:∀ m∈ms,m.2.length<=100000) (h3:n<=100000) (hl:n=m) (hi:i<=n) (hp:ms.take i=ns.take i) (hE:Mem.le E0 E)
  (h:K (B (decide (ms=ns))) E):Lp FE 8 Tryz.f10 [1,1,0,1,0] 0 (pubK E0 K) (sh20 b d n c m e i E):=
 Lp_ind okFE (fun x:{i:Nat//i<=n/\ms.take i=ns.take i}=>sh20 b d n c m e x.1 E) (fun x=>n-x.1) (fun x ih=>rnd20 h0 h1 h2 h3 hl x.2.1 x.2.2 hE h fun g q=>ih ⟨x.1+1,by omega,q⟩ (by show n-(_+1)<n-_;omega)) ⟨i,hi,hp⟩
theorem s20 {l5:Nat} {c6:Nat} (h0:FL E b1 l2 c3 ms) (h1:FL E b4 l5 c6 ns) (h2:(∀ m∈ms,m.2.length<=100000)) (h3:l2<=100000) (h:K (B (decide (ms=ns))) E):
  Ent FE 8 Tryz.f10 [L b1 l2 c3,L b4 l5 c6] E K:=by
 refine sm_ (?_:bif (NI l2) !=(NI l5) then Mem.le E E/\K (B false) E else Lp FE 8 Tryz.f10 [1,1,0,1,0] 0 (pubK E K) { fr:=some (L b1 l2 c3)::oL b4 l5 c6::none::none::none::oI 0::oL b1 l2 c3::oI (NI l2)::oL b4 l5 c6::oI (NI l5)::oB ((NI l2) !=(NI l5))::no16 [],bx:=[],E:=E:St })
 delta NI no16
 have z0:=h0.len
 have z1:=h1.len
 refine condC (fun g=>?_) (fun g=>?_)
 ·have g:¬ l2=l5:=by simp at g;omega
  rw [decide_eq_false (fun q=>g (by rw [← z0,← z1,q]))] at h
  exact ⟨mr_,h⟩
 have g:l2=l5:=by simp at g;omega
 exact Lp_re [] (lp20 (i:=0) h0 h1 h2 h3 g (Nat.zero_le _) rfl mr_ h) (wkG mr_)
theorem calls61 (v1 v2:Value) (xs ys:List Int) (w:World)
  (h1:(convert 22 9 v1).run Tryz.prog w= .ok (.string (strOfNums xs)) w) (h2:(convert 22 9 v2).run Tryz.prog w= .ok (.string (strOfNums ys)) w):
  Calls Tryz.prog 100 #[v1,v2] w fun e w'=>e= .returned (.bool (Lib.bytesOf xs==Lib.bytesOf ys))/\w'=w:=by
 rw [← Lib.strOfNums_toList,← Lib.strOfNums_toList]
 go_enter Tryz.func100,(show Tryz.f100.ntmps=10 from rfl)
 go_wp2
 go_ret
 exact ⟨rfl,rfl⟩
theorem bytes_inj:∀ {xs ys:List Int},(∀ z∈xs,0<=z/\z<=255)->(∀ z∈ys,0<=z/\z<=255)->(Lib.bytesOf xs==Lib.bytesOf ys)=decide (xs=ys)
 | [],[],_,_=>rfl
 | [],y::ys,_,_=>by simp [Lib.bytesOf]
 | x::xs,[],_,_=>by simp [Lib.bytesOf]
 | x::xs,y::ys,hx,hy=>by
  have ih:=bytes_inj (xs:=xs) (ys:=ys) (fun z hz=>hx z (List.mem_cons_of_mem _ hz)) (fun z hz=>hy z (List.mem_cons_of_mem _ hz))
  have a:=hx x (by simp)
  have b:=hy y (by simp)
  have e:(UInt8.ofNat x.toNat=UInt8.ofNat y.toNat)↔x=y:=by
   rw [← UInt8.toNat_inj,UInt8.toNat_ofNat',UInt8.toNat_ofNat',Nat.mod_eq_of_lt (by omega),Nat.mod_eq_of_lt (by omega)]
   omega
  have ih2:(Lib.bytesOf xs=Lib.bytesOf ys)↔xs=ys:=by simpa using congrArg (· =true) ih
  rw [Bool.eq_iff_iff]
  show ((UInt8.ofNat x.toNat::Lib.bytesOf xs)==(UInt8.ofNat y.toNat::Lib.bytesOf ys))=true↔_
  simp only [beq_iff_eq,List.cons.injEq,decide_eq_true_eq,e,ih2]
theorem conv61 (h:Bs E b l c zs) {w:World} (hE:Hold E w):(convert 22 9 (.slice b l c)).run Tryz.prog w= .ok (.string (strOfNums zs)) w:=by
 have key:∀ zs:List Int,RowAt w (.slice b l c) (zs.map (.int .u8))->zs.length=l->(b=none->zs=[])->(convert 22 9 (.slice b l c)).run Tryz.prog w= .ok (.string (strOfNums zs)) w:=by
  intro zs hr hl hn
  cases b with
  | none=>
   rw [hn rfl]
   exact run_convert_bytes_nil w 22 5 (by kernel_rfl) (by kernel_rfl) l c 9 (by kernel_rfl)
  | some a=>
   rcases hr with hr|⟨a',n',c',e,hs,hr⟩
   ·rw [List.map_eq_nil_iff] at hr
    subst hr
    obtain rfl:l=0:=by simpa using hl.symm
    rw [run_convert_bytes_string w 22 9 5 (some a) 0 c (by kernel_rfl) (by kernel_rfl) (by kernel_rfl)]
    simp [Conv.bytesToString,loadCells]
    all_goals rfl
   ·cases e
    obtain ⟨bk,o,sp⟩:=a
    simp only at hs
    subst hs
    refine run_convert_bytes_arg w 22 5 (by kernel_rfl) (by kernel_rfl) bk o l c zs hl (fun i hi=>?_) 9 (by kernel_rfl)
    exact hr i _ (by simp [hl,hi])
 rcases h.1 with h1|h1
 ·refine key zs (.inl (by rw [h1];rfl)) h.2.1 h.2.2.2.2
 ·exact key zs (hE _ _ h1) h.2.1 h.2.2.2.2
theorem s61 {l5 c6:Nat} {xs:List Int} (h0:Bs E b1 l2 c3 xs) (h1:Bs E b4 l5 c6 ys) (h:K (B (decide (xs=ys))) E):TabSem Tryz.prog 100 [L b1 l2 c3,L b4 l5 c6] E K:=by
 refine ⟨⟨_,Tryz.func100,by kernel_rfl,by kernel_rfl⟩,_,rfl,fun w hw=>(calls61 _ _ xs ys w (conv61 h0 hw) (conv61 h1 hw)).mono ?_⟩
 rintro e w' ⟨rfl,rfl⟩
 rw [bytes_inj h0.2.2.2.1 h1.2.2.2.1]
 exact ⟨_,_,E,rfl,rfl,Keep.refl _ _,mr_,hw,fun v cs g hne=>.inr ⟨v,cs,g,hne,rfl⟩,h⟩
def numF (zs:List Int):Int:=zs.foldl (fun n x=>256*n+x) 0
theorem numF_take (h:zs[i]? =some x):numF (zs.take (i+1))=256*numF (zs.take i)+x:=by
 unfold numF;rw [take_get' h];simp
theorem numF_bd:∀ {zs:List Int},(∀ z∈zs,0<=z/\z<=255)->0<=numF zs/\numF zs<256 ^ zs.length:=by
 have key:∀ (zs:List Int) (n:Int),0<=n->(∀ z∈zs,0<=z/\z<=255)->0<=zs.foldl (fun n x=>256*n+x) n/\zs.foldl (fun n x=>256*n+x) n<(n+1)*256 ^ zs.length:=by
  intro zs
  induction zs with
  | nil=>intro n h _;simp;omega
  | cons x zs ih=>
   intro n h hz
   have hx:=hz x (by simp)
   obtain ⟨h1,h2⟩:=ih (256*n+x) (by omega) (fun z hz'=>hz z (List.mem_cons_of_mem _ hz'))
   refine ⟨h1,?_⟩
   simp only [List.foldl_cons,List.length_cons]
   refine Int.lt_of_lt_of_le h2 ?_
   rw [Int.pow_succ,← Int.mul_assoc,Int.mul_right_comm]
   refine Int.mul_le_mul_of_nonneg_right (by omega) ?_
   have :(0:Int)<256 ^ zs.length:=Int.pow_pos (by decide)
   omega
 intro zs hz
 have:=key zs 0 (by decide) hz
 unfold numF
 simpa using this
def storF (n:Int):Nat->List Int
 | 0=>[]
 | i+1=>(n / 256 ^ i) % 256::storF n i
theorem storF_len (n:Int):∀ i,(storF n i).length=i
 | 0=>rfl
 | i+1=>by simp [storF,storF_len n i]
theorem storF_byte (n:Int):∀ i,∀ z∈storF n i,0<=z/\z<=255
 | 0,z,h=>by cases h
 | i+1,z,h=>by
  rcases List.mem_cons.1 h with rfl|h
  ·omega
  ·exact storF_byte n i z h
def stepF (s x:Int):Int:=IntKind.wrap .u64 (IntKind.wrap .u64 (((BitVec.ofInt (IntKind.bits .u64) s ^^^ BitVec.ofInt (IntKind.bits .u64) x).toNat:Nat):Int)*1099511628211)
def fnvF (s:Int) (zs:List Int):Int:=zs.foldl stepF s
theorem fnvF_take (h:zs[i]? =some x):fnvF s (zs.take (i+1))=stepF (fnvF s (zs.take i)) x:=by
 unfold fnvF;rw [take_get' h];simp
def sumF (zs:List Int):Int:=fnvF 14695981039346656037 zs
theorem wu64' (h:0<=x/\x<18446744073709551616):IntKind.wrap .u64 x=x:=by
 rw [show IntKind.wrap .u64 x=x % 18446744073709551616 from rfl];omega
theorem or8 (h:0<=n/\n<1099511627776) (hx:0<=x/\x<=255):IntKind.wrap .i64 (((BitVec.ofInt (IntKind.bits .i64) (IntKind.wrap .i64 (n*2 ^ min (Int.toNat 8) (IntKind.bits .i64)))|||BitVec.ofInt (IntKind.bits .i64) (IntKind.wrap .i64 x)).toNat:Nat):Int)=256*n+x:=by
 obtain ⟨a,rfl⟩:∃ a:Nat,n=a:=⟨n.toNat,by omega⟩
 obtain ⟨b,rfl⟩:∃ b:Nat,x=b:=⟨x.toNat,by omega⟩
 rw [show min (Int.toNat 8) (IntKind.bits .i64)=8 from rfl,show (2:Int) ^ 8=256 from rfl,wrap_i64 (x:=(a:Int)*256) (by omega),wrap_i64 (x:=(b:Int)) (by omega),show IntKind.bits .i64=64 from rfl,
  show ((a:Int)*256)=((a*256:Nat):Int) by simp,BitVec.toNat_or,BitVec.ofInt_natCast,BitVec.ofInt_natCast,BitVec.toNat_ofNat,BitVec.toNat_ofNat,Nat.mod_eq_of_lt (by omega),Nat.mod_eq_of_lt (by omega)]
 have e:a*256|||b=a*256+b:=by
  have:=Nat.shiftLeft_add_eq_or_of_lt (i:=8) (b:=b) (by omega) a
  rw [Nat.shiftLeft_eq] at this
  exact this.symm
 rw [e,wrap_i64 (by omega)];omega
theorem numF_small (hz:∀ z∈zs,0<=z/\z<=255) (hl:zs.length=l) (h4:l<=4) (i:Nat):0<=numF (zs.take i)/\numF (zs.take i)<4294967296:=by
 obtain ⟨h1,h2⟩:=numF_bd (zs:=zs.take i) (fun z h=>hz z (List.mem_of_mem_take h))
 refine ⟨h1,Int.lt_of_lt_of_le h2 ?_⟩
 have hk:(zs.take i).length<=4:=by rw [List.length_take];omega
 have :∀ k:Nat,k<=4->(256:Int) ^ k<=4294967296:=by decide
 exact this _ hk
theorem stor_step (h:i<m):layV (vB (List.replicate (m-i) (0:Int)++storF n i)) (m-1-i) [.int .u8 ((n / 256 ^ i) % 256)]=vB (List.replicate (m-(i+1)) (0:Int)++storF n (i+1)):=by
 rw [layV_set (by simp [storF_len];omega)]
 have e:List.replicate (m-i) (0:Int)=List.replicate (m-(i+1)) 0++[0]:=by rw [← List.replicate_succ'];congr 1;omega
 rw [e,List.append_assoc,List.set_append_right _ _ (by simp;omega)]
 have e2:m-1-i-(List.replicate (m-(i+1)) (0:Int)).length=0:=by simp;omega
 rw [e2]
 rfl
theorem Bs.get (h:Bs E b l c zs) (hi:i<l):zs[i]? =some (zs.getD i 0)/\0<=zs.getD i 0/\zs.getD i 0<=255:=by
 have hl:i<zs.length:=by rw [h.2.1];exact hi
 have e:zs[i]? =some (zs.getD i 0):=by rw [List.getD_eq_getElem?_getD,List.getElem?_eq_getElem hl];rfl
 exact ⟨e,h.2.2.2.1 _ (List.mem_of_getElem? e)⟩
noncomputable def J1:Cx:={ P:=Tryz.prog,inl:=fun f=>List.contains [] f,tab:=fun _ _ _ _=>False,isB:=fun _=>false,tabB:=fun _ _ _ _ _=>False,opt:={ unroll:=0,carry:=[3,8] },muts:=mutsD }
theorem okJ1:CxOK J1:=CxOK.four (fun _ _ _ _ h=>h.elim) (by kernel_rfl) (okInl (by kernel_rfl)) (fun _ _ _ _ _ h=>h.elim)
def sh43 (b:Option Addr) (l:Nat) (c:Nat) (zs:List Int) (i:Nat) (E:Mem):St:=⟨[none,none,none,oI (numF (zs.take i)),none,none,oL b l c,oI (l:Nat),oI (i:Nat)]++nn 10,[],E⟩
theorem rnd43 (hz:Bs E b l c zs) (hl:l<=4) (hi:i<=l) (hE:Mem.le E0 E) (h:K (I (numF zs)) E)
  (ih:(i<l)->Lp J1 8 Tryz.f82 [1,1,0,1,0] 0 (pubK E0 K) (sh43 b l c zs (i+1) E)):Rnd J1 8 Tryz.f82 [1,1,0,1,0] 0 (pubK E0 K) (sh43 b l c zs i E):=by
 refine sm_ (?_:bif decide ((NI i)<(NI l)) then req (0<=(NI i)/\(NI i)<(NI l)) (nE E b l c/\∃ (n:Int),LoadE J1.P E 5 (VS b l c) (Int.toNat (NI i)*1) (SV.raw (U8 n))/\Lp J1 8 Tryz.f82 [1,1,0,1,0] 0 (pubK E0 K) { fr:=none::none::none::oI (WI (NI (BitVec.toNat (BitVec.ofInt (IntKind.bits IntKind.i64) (WI (numF (List.take i zs)*(2:Int) ^ min (Int.toNat 8) (IntKind.bits IntKind.i64)))|||BitVec.ofInt (IntKind.bits IntKind.i64) (WI n)))))::none::none::oL b l c::oI (NI l)::oI (WI ((NI i)+1))::no8 (no2 []),bx:=[],E:=E:St }) else Mem.le E0 E/\K (I (numF (List.take i zs))) E)
 delta WI NI U8 VS no2 no8
 have hn:=hz.2.1
 refine condC (fun g=>?_) (fun g=>?_)
 ·have g:i<l:=by simpa using g
  obtain ⟨e,b1,b2⟩:=Bs.get hz g
  have sm:=numF_small hz.2.2.2.1 hn hl i
  refine req_intro (by omega) ⟨Bs.ne hz g,zs.getD i 0,Bs.load hz rfl g,?_⟩
  rw [or8 (by omega) ⟨b1,b2⟩,← numF_take e,wrap_i64 (x:=(i:Int)+1) (by omega),show (i:Int)+1=((i+1:Nat):Int) by simp]
  exact Lp_re [] (ih g) (wkG mr_)
 ·have g:i=l:=by simp at g;omega
  subst g
  rw [List.take_of_length_le (by omega)]
  exact ⟨hE,h⟩
theorem lp43 (hz:Bs E b l c zs) (hl:l<=4) (hi:i<=l) (hE:Mem.le E0 E) (h:K (I (numF zs)) E):Lp J1 8 Tryz.f82 [1,1,0,1,0] 0 (pubK E0 K) (sh43 b l c zs i E):=
 Lp_ind okJ1 (fun q0:{i:Nat//i<=l}=>sh43 b l c zs q0.1 E) (fun q0=>l-q0.1) (fun q0 ih=>rnd43 hz hl q0.2 hE h fun g=>ih ⟨q0.1+1,by have:=q0.2;omega⟩ (by show l-(_+1)<l-_;have:=q0.2;omega)) ⟨i,hi⟩
theorem s43 (h0:Bs E b1 l2 c3 zs) (h1:l2<=4) (h:K (I (numF zs)) E):
  Ent J1 8 Tryz.f82 [L b1 l2 c3] E K:=by
 refine sm_ (?_:Lp J1 8 Tryz.f82 [1,1,0,1,0] 0 (pubK E K) { fr:=some (L b1 l2 c3)::none::oI 0::oI 0::none::none::oL b1 l2 c3::oI (NI l2)::oI 0::no8 (no2 []),bx:=[],E:=E:St })
 delta NI no2 no8
 exact Lp_re [] (lp43 (i:=0) h0 h1 (Nat.zero_le _) mr_ h) (wkG mr_)
noncomputable def J2:Cx:={ P:=Tryz.prog,inl:=fun f=>List.contains [] f,tab:=fun _ _ _ _=>False,isB:=fun _=>false,tabB:=fun _ _ _ _ _=>False,opt:={ unroll:=0,carry:=[3,4] },muts:=mutsD }
theorem okJ2:CxOK J2:=CxOK.four (fun _ _ _ _ h=>h.elim) (by kernel_rfl) (okInl (by kernel_rfl)) (fun _ _ _ _ _ h=>h.elim)
def sh39 (b:Option Addr) (l:Nat) (c:Nat) (zs:List Int) (i:Nat) (E:Mem):St:=⟨[oL b l c,none,none,oI (numF (zs.take i)),oI (i:Nat)]++nn 15,[],E⟩
theorem rnd39 (hz:Bs E b l c zs) (hl:l<=4) (hi:i<=l) (hE:Mem.le E0 E) (h:K (I (numF zs)) E)
  (ih:(i<l)->Lp J2 8 Tryz.f63 [1,1,0,1,0] 0 (pubK E0 K) (sh39 b l c zs (i+1) E)):Rnd J2 8 Tryz.f63 [1,1,0,1,0] 0 (pubK E0 K) (sh39 b l c zs i E):=by
 refine sm_ (?_:bif decide ((NI i)<(NI l)) then req (0<=(NI i)/\(NI i)<(NI l)) (nE E b l c/\∃ (n:Int),LoadE J2.P E 5 (VS b l c) (Int.toNat (NI i)*1) (SV.raw (U8 n))/\Lp J2 8 Tryz.f63 [1,1,0,1,0] 0 (pubK E0 K) { fr:=some (L b l c)::none::none::oI (WI (WI ((256:Int)*numF (List.take i zs))+WI n))::oI (WI ((NI i)+1))::no8 (no4 (no2 (none::[]))),bx:=[],E:=E:St }) else Mem.le E0 E/\K (I (numF (List.take i zs))) E)
 delta WI NI U8 VS no2 no4 no8
 have hn:=hz.2.1
 refine condC (fun g=>?_) (fun g=>?_)
 ·have g:i<l:=by simpa using g
  obtain ⟨e,b1,b2⟩:=Bs.get hz g
  have sm:=numF_small hz.2.2.2.1 hn hl i
  refine req_intro (by omega) ⟨Bs.ne hz g,zs.getD i 0,Bs.load hz rfl g,?_⟩
  rw [wrap_i64 (x:=256*numF (zs.take i)) (by omega),wrap_i64 (x:=zs.getD i 0) (by omega),wrap_i64 (x:=256*numF (zs.take i)+zs.getD i 0) (by omega),← numF_take e,wrap_i64 (x:=(i:Int)+1) (by omega),show (i:Int)+1=((i+1:Nat):Int) by simp]
  exact Lp_re [] (ih g) (wkG mr_)
 ·have g:i=l:=by simp at g;omega
  subst g
  rw [List.take_of_length_le (by omega)]
  exact ⟨hE,h⟩
theorem lp39 (hz:Bs E b l c zs) (hl:l<=4) (hi:i<=l) (hE:Mem.le E0 E) (h:K (I (numF zs)) E):Lp J2 8 Tryz.f63 [1,1,0,1,0] 0 (pubK E0 K) (sh39 b l c zs i E):=
 Lp_ind okJ2 (fun q0:{i:Nat//i<=l}=>sh39 b l c zs q0.1 E) (fun q0=>l-q0.1) (fun q0 ih=>rnd39 hz hl q0.2 hE h fun g=>ih ⟨q0.1+1,by have:=q0.2;omega⟩ (by show l-(_+1)<l-_;have:=q0.2;omega)) ⟨i,hi⟩
theorem s39 (h0:Bs E b1 l2 c3 zs) (h1:l2<=4) (h:K (I (numF zs)) E):
  Ent J2 8 Tryz.f63 [L b1 l2 c3] E K:=by
 refine sm_ (?_:Lp J2 8 Tryz.f63 [1,1,0,1,0] 0 (pubK E K) { fr:=some (L b1 l2 c3)::none::oI 0::oI 0::oI 0::no8 (no4 (no2 (none::[]))),bx:=[],E:=E:St })
 delta no2 no4 no8
 exact Lp_re [] (lp39 (i:=0) h0 h1 (Nat.zero_le _) mr_ h) (wkG mr_)
noncomputable def J3:Cx:={ P:=Tryz.prog,inl:=fun f=>List.contains [] f,tab:=fun _ _ _ _=>False,isB:=fun _=>false,tabB:=fun _ _ _ _ _=>False,opt:={ unroll:=0,carry:=[11] },muts:=mutsD }
theorem okJ3:CxOK J3:=CxOK.four (fun _ _ _ _ h=>h.elim) (by kernel_rfl) (okInl (by kernel_rfl)) (fun _ _ _ _ _ h=>h.elim)
def sh53 (n:Int) (m:Nat) (i:Nat) (E:Mem):St:=⟨[some (.raw (.int .u64 n)),oI (m:Nat),none,none,none,os 0 0 m m,none,none,none,os 0 0 m m,oI (m:Nat),oI (i:Nat)]++nn 15,[⟨5,.vals (vB (List.replicate (m-i) 0++storF n i)),m*1,true⟩],E⟩
theorem rnd53 (hn:0<=n/\n<18446744073709551616) (hm:m<=8) (hi:i<=m) (hE:Mem.le E0 E) (h:KK (.slc 0 0 m m) [⟨5,.vals (vB (storF n m)),m*1,true⟩] E)
  (ih:(i<m)->Lp J3 8 Tryz.f93 [1,1,0,1,0] 0 KK (sh53 n m (i+1) E)):Rnd J3 8 Tryz.f93 [1,1,0,1,0] 0 KK (sh53 n m i E):=by
 refine sm_ (?_:bif decide ((NI i)<(NI m)) then req ((0:Int)<=WI ((8:Int)*(NI i))) (req ((0:Int)<=WI (WI ((NI m)-1)-(NI i))/\WI (WI ((NI m)-1)-(NI i))<(NI m)) (0+Int.toNat (WI (WI ((NI m)-1)-(NI i)))*1+1<=List.length (vB (List.replicate (m-i) (0:Int)++storF n i))/\Lp J3 8 Tryz.f93 [1,1,0,1,0] 0 KK { fr:=some (SV.raw (Value.int IntKind.u64 n))::oI (NI m)::none::none::none::os 0 0 m m::none::none::none::os 0 0 m m::oI (NI m)::oI (WI ((NI i)+1))::no8 (no4 (no2 (none::[]))),bx:=[(⟨5,.vals (layV (vB (List.replicate (m-i) (0:Int)++storF n i)) (0+Int.toNat (WI (WI ((NI m)-1)-(NI i)))*1) [U8 (IntKind.wrap IntKind.u8 (Int.fdiv n ((2:Int) ^ min (Int.toNat (WI ((8:Int)*(NI i)))) (IntKind.bits IntKind.u64))))]),m*1,true⟩:Box)],E:=E:St })) else KK (SV.slc 0 0 m m) [⟨5,.vals (vB (List.replicate (m-i) (0:Int)++storF n i)),m*1,true⟩] E)
 delta WI NI U8 no2 no4 no8
 refine condC (fun g=>?_) (fun g=>?_)
 ·have g:i<m:=by simpa using g
  have e1:IntKind.wrap .i64 (IntKind.wrap .i64 ((m:Int)-1)-(i:Int))=((m-1-i:Nat):Int):=by rw [wrap_i64 (x:=(m:Int)-1) (by omega),wrap_i64 (by omega)];omega
  have e2:IntKind.wrap .i64 (8*(i:Int))=((8*i:Nat):Int):=by rw [wrap_i64 (by omega)];simp
  have e3:IntKind.wrap .u8 (Int.fdiv n ((2:Int) ^ min (Int.toNat ((8*i:Nat):Int)) (IntKind.bits .u64)))=(n / 256 ^ i) % 256:=by
   rw [Int.toNat_natCast,Nat.min_eq_left (show 8*i<=IntKind.bits .u64 by show 8*i<=64;omega),Int.pow_mul,show (2:Int) ^ 8=256 from rfl,Int.fdiv_eq_ediv_of_nonneg _ (Int.le_of_lt (Int.pow_pos (by decide)))]
   rfl
  rw [e2,e1,e3]
  refine req_intro (by omega) (req_intro (by omega) ⟨by simp [storF_len];omega,?_⟩)
  rw [show 0+Int.toNat ((m-1-i:Nat):Int)*1=m-1-i by omega,stor_step g,wrap_i64 (x:=(i:Int)+1) (by omega),show (i:Int)+1=((i+1:Nat):Int) by simp]
  exact Lp_re [some 0] (ih g) (wkG mr_)
 ·have g:i=m:=by simp at g;omega
  subst g
  rw [Nat.sub_self,List.replicate_zero,List.nil_append]
  exact h
theorem lp53 (hn:0<=n/\n<18446744073709551616) (hm:m<=8) (hi:i<=m) (hE:Mem.le E0 E) (h:KK (.slc 0 0 m m) [⟨5,.vals (vB (storF n m)),m*1,true⟩] E):Lp J3 8 Tryz.f93 [1,1,0,1,0] 0 KK (sh53 n m i E):=
 Lp_ind okJ3 (fun q0:{i:Nat//i<=m}=>sh53 n m q0.1 E) (fun q0=>m-q0.1) (fun q0 ih=>rnd53 hn hm q0.2 hE h fun g=>ih ⟨q0.1+1,by have:=q0.2;omega⟩ (by show m-(_+1)<m-_;have:=q0.2;omega)) ⟨i,hi⟩
theorem b53 (h0:0<=n/\n<18446744073709551616) (h1:m<=8) (h:KK (.slc 0 0 m m) [⟨5,.vals (vB (storF n m)),m*1,true⟩] E):EntB J3 8 Tryz.f93 [.raw (.int .u64 n),I (m:Nat)] [] E KK:=by
 refine sm_ (?_:req (0<=(NI m)/\(NI m)<=(NI m)) (req ((NI m)*1<=(140737488355328:Int)) (Lp J3 8 Tryz.f93 [1,1,0,1,0] 0 KK { fr:=some (SV.raw (Value.int IntKind.u64 n))::oI (NI m)::none::none::oL none 0 0::os 0 0 (Int.toNat (NI m)) (Int.toNat (NI m))::none::oI (NI m)::os 0 0 (Int.toNat (NI m)) (Int.toNat (NI m))::os 0 0 (Int.toNat (NI m)) (Int.toNat (NI m))::oI (NI (Int.toNat (NI m)))::oI 0::no8 (no4 (no2 (none::[]))),bx:=[(⟨5,.vals (zerosV [U8 0] (Int.toNat (NI m))),Int.toNat (NI m)*1,true⟩:Box)],E:=E:St })))
 delta NI U8 no2 no4 no8
 refine req_intro (by omega) (req_intro (by omega) ?_)
 rw [show zerosV [Value.int IntKind.u8 0] (Int.toNat (m:Int))=vB (List.replicate (m-0) 0++storF n 0) by simp [zerosV,storF,List.flatten_replicate_singleton],Int.toNat_natCast]
 exact Lp_re [some 0] (lp53 (i:=0) h0 (by omega) (Nat.zero_le _) mr_ h) (wkG mr_)
noncomputable def J4:Cx:={ P:=Tryz.prog,inl:=fun f=>List.contains [] f,tab:=fun _ _ _ _=>False,isB:=fun _=>false,tabB:=fun _ _ _ _ _=>False,opt:={ unroll:=0,carry:=[0,6] },muts:=mutsD }
theorem okJ4:CxOK J4:=CxOK.four (fun _ _ _ _ h=>h.elim) (by kernel_rfl) (okInl (by kernel_rfl)) (fun _ _ _ _ _ h=>h.elim)
def sh57 (n:Int) (m:Nat) (i:Nat) (E:Mem):St:=⟨[some (.raw (.int .u64 (n / 256 ^ i)))]++nn 4++[os 0 0 m m,oI ((m:Int)-1-(i:Nat))]++nn 17,[⟨5,.vals (vB (List.replicate (m-i) 0++storF n i)),m*1,true⟩],E⟩
theorem rnd57 (hn:0<=n/\n<18446744073709551616) (hm:m<=8) (hi:i<=m) (hE:Mem.le E0 E) (h:KK (.slc 0 0 m m) [⟨5,.vals (vB (storF n m)),m*1,true⟩] E)
  (ih:(i<m)->Lp J4 8 Tryz.f74 [1,1,0,1,0] 0 KK (sh57 n m (i+1) E)):Rnd J4 8 Tryz.f74 [1,1,0,1,0] 0 KK (sh57 n m i E):=by
 refine sm_ (?_:bif decide ((NI m)-1-(NI i)>=0) then ((256:Int)=(0:Int)->False)/\req (0<=(NI m)-1-(NI i)/\(NI m)-1-(NI i)<(NI m)) (0+Int.toNat ((NI m)-1-(NI i))*1+1<=List.length (vB (List.replicate (m-i) (0:Int)++storF n i))/\((256:Int)=(0:Int)->False)/\Lp J4 8 Tryz.f74 [1,1,0,1,0] 0 KK { fr:=some (SV.raw (Value.int IntKind.u64 (IntKind.wrap IntKind.u64 (Int.tdiv (n / (256:Int) ^ i) 256))))::none::none::none::none::os 0 0 m m::oI (WI ((NI m)-1-(NI i)-1))::no16 (none::[]),bx:=[(⟨5,.vals (layV (vB (List.replicate (m-i) (0:Int)++storF n i)) (0+Int.toNat ((NI m)-1-(NI i))*1) [U8 (IntKind.wrap IntKind.u8 (Int.tmod (n / (256:Int) ^ i) 256))]),m*1,true⟩:Box)],E:=E:St }) else KK (SV.slc 0 0 m m) [⟨5,.vals (vB (List.replicate (m-i) (0:Int)++storF n i)),m*1,true⟩] E)
 delta WI NI U8 no16
 refine condC (fun g=>?_) (fun g=>?_)
 ·have g:i<m:=by simp at g;omega
  have e1:(m:Int)-1-(i:Int)=((m-1-i:Nat):Int):=by omega
  have h0:0<=n / 256 ^ i:=Int.ediv_nonneg hn.1 (Int.le_of_lt (Int.pow_pos (by decide)))
  have h1:n / 256 ^ i<=n:=Int.ediv_le_self _ hn.1
  have e3:IntKind.wrap .u8 (Int.tmod (n / 256 ^ i) 256)=(n / 256 ^ i) % 256:=by
   rw [Int.tmod_eq_emod_of_nonneg h0,show ∀ x:Int,IntKind.wrap .u8 x=x % 256 from fun _=>rfl];omega
  have e4:IntKind.wrap .u64 (Int.tdiv (n / 256 ^ i) 256)=n / 256 ^ (i+1):=by
   rw [Int.tdiv_eq_ediv_of_nonneg h0,wu64' (by omega),Int.pow_succ,Int.ediv_ediv_of_nonneg (Int.le_of_lt (Int.pow_pos (by decide)))]
  have e5:IntKind.wrap .i64 ((m:Int)-1-(i:Int)-1)=(m:Int)-1-((i+1:Nat):Int):=by rw [wrap_i64 (by omega)];omega
  rw [e3,e4,e5]
  refine ⟨by decide,req_intro (by omega) ⟨by simp [storF_len];omega,by decide,?_⟩⟩
  rw [show 0+Int.toNat ((m:Int)-1-(i:Int))*1=m-1-i by omega,stor_step g]
  exact Lp_re [some 0] (ih g) (wkG mr_)
 ·have g:i=m:=by simp at g;omega
  subst g
  rw [Nat.sub_self,List.replicate_zero,List.nil_append]
  exact h
theorem lp57 (hn:0<=n/\n<18446744073709551616) (hm:m<=8) (hi:i<=m) (hE:Mem.le E0 E) (h:KK (.slc 0 0 m m) [⟨5,.vals (vB (storF n m)),m*1,true⟩] E):Lp J4 8 Tryz.f74 [1,1,0,1,0] 0 KK (sh57 n m i E):=
 Lp_ind okJ4 (fun q0:{i:Nat//i<=m}=>sh57 n m q0.1 E) (fun q0=>m-q0.1) (fun q0 ih=>rnd57 hn hm q0.2 hE h fun g=>ih ⟨q0.1+1,by have:=q0.2;omega⟩ (by show m-(_+1)<m-_;have:=q0.2;omega)) ⟨i,hi⟩
theorem b57 (h0:0<=n/\n<18446744073709551616) (h1:m<=8) (h:KK (.slc 0 0 m m) [⟨5,.vals (vB (storF n m)),m*1,true⟩] E):EntB J4 8 Tryz.f74 [.raw (.int .u64 n),I (m:Nat)] [] E KK:=by
 refine sm_ (?_:req (0<=(NI m)/\(NI m)<=(NI m)) (req ((NI m)*1<=(140737488355328:Int)) (Lp J4 8 Tryz.f74 [1,1,0,1,0] 0 KK { fr:=some (SV.raw (Value.int IntKind.u64 n))::oI (NI m)::none::none::oL none 0 0::os 0 0 (Int.toNat (NI m)) (Int.toNat (NI m))::oI (WI ((NI m)-1))::oI (NI m)::os 0 0 (Int.toNat (NI m)) (Int.toNat (NI m))::oI (NI m)::oI (WI ((NI m)-1))::no8 (no4 (none::[])),bx:=[(⟨5,.vals (zerosV [U8 0] (Int.toNat (NI m))),Int.toNat (NI m)*1,true⟩:Box)],E:=E:St })))
 delta WI NI U8 no4 no8
 refine req_intro (by omega) (req_intro (by omega) ?_)
 rw [show zerosV [Value.int IntKind.u8 0] (Int.toNat (m:Int))=vB (List.replicate (m-0) 0++storF n 0) by simp [zerosV,storF,List.flatten_replicate_singleton],Int.toNat_natCast]
 rw [wrap_i64 (x:=(m:Int)-1) (by omega),show (m:Int)-1=(m:Int)-1-((0:Nat):Int) by simp]
 have e:=lp57 (E0:=E) (i:=0) (n:=n) (m:=m) h0 (by omega) (Nat.zero_le _) mr_ h
 unfold sh57 at e
 rw [Int.pow_zero,Int.ediv_one] at e
 exact Lp_re [some 0] (e) (wkG mr_)
noncomputable def J5:Cx:={ P:=Tryz.prog,inl:=fun f=>List.contains [] f,tab:=fun _ _ _ _=>False,isB:=fun _=>false,tabB:=fun _ _ _ _ _=>False,opt:={ unroll:=0,carry:=[0,5] },muts:=mutsD }
theorem okJ5:CxOK J5:=CxOK.four (fun _ _ _ _ h=>h.elim) (by kernel_rfl) (okInl (by kernel_rfl)) (fun _ _ _ _ _ h=>h.elim)
def sh73 (n:Int) (l:Nat) (c:Nat) (tot:Nat) (zs:List Int) (i:Nat) (E:Mem):St:=⟨[some (.raw (.int .u64 (fnvF n (zs.take i)))),os 0 0 l c,none,none,none,oI (i:Nat)]++nn 15,[⟨5,.vals (vB zs),tot,true⟩],E⟩
theorem rnd73 (hz:(∀ z∈zs,0<=z/\z<=255)/\zs.length=l/\l<=100000) (hi:i<=l) (hE:Mem.le E0 E) (h:KK (.raw (.int .u64 (fnvF n zs))) [⟨5,.vals (vB zs),tot,true⟩] E)
  (ih:(i<l)->Lp J5 8 Tryz.f101 [1,0,1,0] 1 KK (sh73 n l c tot zs (i+1) E)):Rnd J5 8 Tryz.f101 [1,0,1,0] 1 KK (sh73 n l c tot zs i E):=by
 refine sm_ (?_:bif decide ((NI i)<(NI l)) then req (0<=(NI i)/\(NI i)<(NI l)) (∃ (n_1:Int),LoadV J5.P 5 (vB zs) (0+Int.toNat (NI i)*1) (SV.raw (U8 n_1))/\Lp J5 8 Tryz.f101 [1,0,1,0] 1 KK { fr:=some (SV.raw (Value.int IntKind.u64 (IntKind.wrap IntKind.u64 (IntKind.wrap IntKind.u64 (NI (BitVec.toNat (BitVec.ofInt (IntKind.bits IntKind.u64) (fnvF n (List.take i zs)) ^^^ BitVec.ofInt (IntKind.bits IntKind.u64) (IntKind.wrap IntKind.u64 n_1))))*(1099511628211:Int)))))::os 0 0 l c::none::none::none::oI (WI ((NI i)+1))::no8 (no4 (no2 (none::[]))),bx:=[(⟨5,.vals (vB zs),tot,true⟩:Box)],E:=E:St }) else KK (SV.raw (Value.int IntKind.u64 (fnvF n (List.take i zs)))) [⟨5,.vals (vB zs),tot,true⟩] E)
 delta WI NI U8 no2 no4 no8
 obtain ⟨hb,hn,hl⟩:=hz
 refine condC (fun g=>?_) (fun g=>?_)
 ·have g:i<l:=by simpa using g
  have e:zs[i]? =some (zs.getD i 0):=by rw [List.getD_eq_getElem?_getD,List.getElem?_eq_getElem (by omega)];rfl
  obtain ⟨b1,b2⟩:=hb _ (List.mem_of_getElem? e)
  refine req_intro (by omega) ⟨zs.getD i 0,?_,?_⟩
  ·show LoadV _ _ (vB zs) (0+((i:Nat):Int).toNat*1) _
   rw [show 0+((i:Nat):Int).toNat*1=i by omega]
   exact loadV_byte rfl (by omega)
  rw [wu64' (x:=zs.getD i 0) (by omega),show IntKind.wrap .u64 (IntKind.wrap .u64 (((BitVec.ofInt (IntKind.bits .u64) (fnvF n (zs.take i)) ^^^ BitVec.ofInt (IntKind.bits .u64) (zs.getD i 0)).toNat:Nat):Int)*1099511628211)=stepF (fnvF n (zs.take i)) (zs.getD i 0) from rfl,← fnvF_take e,wrap_i64 (x:=(i:Int)+1) (by omega),show (i:Int)+1=((i+1:Nat):Int) by simp]
  exact Lp_re [some 0] (ih g) (wkG mr_)
 ·have g:i=l:=by simp at g;omega
  subst g
  rw [List.take_of_length_le (by omega)]
  exact h
theorem lp73 (hz:(∀ z∈zs,0<=z/\z<=255)/\zs.length=l/\l<=100000) (hi:i<=l) (hE:Mem.le E0 E) (h:KK (.raw (.int .u64 (fnvF n zs))) [⟨5,.vals (vB zs),tot,true⟩] E):Lp J5 8 Tryz.f101 [1,0,1,0] 1 KK (sh73 n l c tot zs i E):=
 Lp_ind okJ5 (fun q0:{i:Nat//i<=l}=>sh73 n l c tot zs q0.1 E) (fun q0=>l-q0.1) (fun q0 ih=>rnd73 hz q0.2 hE h fun g=>ih ⟨q0.1+1,by have:=q0.2;omega⟩ (by show l-(_+1)<l-_;have:=q0.2;omega)) ⟨i,hi⟩
theorem b73 (hz:(∀ z∈zs,0<=z/\z<=255)/\zs.length=l/\l<=100000) (h:KK (.raw (.int .u64 (fnvF n zs))) [⟨5,.vals (vB zs),tot,true⟩] E):EntB J5 8 Tryz.f101 [.raw (.int .u64 n),.slc 0 0 l c] [⟨5,.vals (vB zs),tot,true⟩] E KK:=by
 refine sm_ (?_:Lp J5 8 Tryz.f101 [1,0,1,0] 1 KK { fr:=some (SV.raw (Value.int IntKind.u64 n))::os 0 0 l c::none::none::some (SV.raw (Value.int IntKind.u64 0))::oI 0::no8 (no4 (no2 (none::[]))),bx:=[(⟨5,.vals (vB zs),tot,true⟩:Box)],E:=E:St })
 delta no2 no4 no8
 exact Lp_re [some 0] (lp73 (i:=0) hz (Nat.zero_le _) mr_ h) (wkG mr_)
theorem CallSem.see {P:Program} {b:Nat} {e:TypeId} {args':List SV} {K:KT} (hb:bx[b]? =some ⟨e,.vals vs,tot,true⟩) (ha:args=SV.renL [b] bx.length args')
  (h:CallSem P f args' [⟨e,.vals vs,tot,true⟩] E (cloK 1 fun s bx' E'=>∃ r:Value,s= .raw r/\bx'=[⟨e,.vals vs,tot,true⟩]/\K (.raw r) bx E')):CallSem P f args bx E K:=by
 refine frame (σ:=[b]) ⟨by simp,rfl,fun i y hy=>?_⟩ ha h.clo ?_
 ·match i,hy with
  | 0,hy=>
   simp only [List.getElem?_cons_zero,Option.some.injEq] at hy;subst hy
   exact ⟨rfl,b,rfl,hb⟩
 ·rintro s bxs' E' ⟨r,rfl,rfl,hK⟩
  have e2:bx.set b ⟨e,.vals vs,tot,true⟩=bx:=by
   apply List.ext_getElem?
   intro i
   rw [List.getElem?_set]
   split
   ·rename_i h';subst h'
    have hlt:b<bx.length:=(List.getElem?_eq_some_iff.1 hb).1
    simp only [hlt,if_true];exact hb.symm
   ·rfl
  simpa [merge,setAll,SV.ren,renF,Box.ren,Row.ren,SV.renL,e2] using hK
def sumD (b:Nat) (l:Nat) (bx:List Box) (k:List Int->Prop):Prop:=match bx[b]? with
 | some ⟨e,.vals vs,tot,true⟩=>∃ zs:List Int,(e=5/\vs=vB zs/\zs.length=l/\l<=100000/\∀ z∈zs,0<=z/\z<=255)/\k zs
 | _=>False
theorem sumD_elim {b:Nat} {k:List Int->Prop} (h:sumD b l bx k):∃ (tot:Nat) (zs:List Int),bx[b]? =some ⟨5,.vals (vB zs),tot,true⟩/\((∀ z∈zs,0<=z/\z<=255)/\zs.length=l/\l<=100000)/\k zs:=by
 unfold sumD at h
 split at h
 case h_2=>exact h.elim
 rename_i e vs tot hb
 obtain ⟨zs,⟨rfl,rfl,h1,h2,h3⟩,h4⟩:=h
 exact ⟨tot,zs,hb,⟨h3,h1,h2⟩,h4⟩
noncomputable def tabB73:CallT:=fun f args bx E K=>match f with
 | 101=>d2 args fun x0 x1=>dN .u64 x0 fun a=>match x1 with
  | .slc b 0 l c=>sumD b l bx fun zs=>K (.raw (.int .u64 (fnvF a zs))) bx E
  | _=>False
 | _=>False
theorem see_intro {K:KT} {n0:Nat} {r:Value} {bx1:List Box} (h:K (.raw r) bx E) (hn:bx1=[⟨5,.vals vs,tot,true⟩]) (h0:n0=1):cloK n0 (fun s bx' E'=>∃ r:Value,s= .raw r/\bx'=[⟨5,.vals vs,tot,true⟩]/\K (.raw r) bx E') (.raw r) bx1 E:=by
 subst hn;subst h0
 exact cloK_intro [some 0] ⟨r,rfl,rfl,h⟩ (wkG mr_)
theorem tabB73_ok:∀ f args bx E K,tabB73 f args bx E K->CallSem Tryz.prog f args bx E K:=by
 intro f args bx E K h
 unfold tabB73 at h
 split at h
 case h_2=>exact h.elim
 obtain ⟨x0,x1,rfl,h1⟩:=d2_elim h
 obtain ⟨a,rfl,h2⟩:=dN_elim h1
 clear h h1
 split at h2
 case h_2=>exact h2.elim
 rename_i b l c
 obtain ⟨tot,zs,hb,hz,h⟩:=sumD_elim h2
 exact CallSem.see (args':=[.raw (.int .u64 a),.slc 0 0 l c]) hb (by simp [SV.renL,SV.ren,renF]) (EntB.sem okJ5 Tryz.func101 ⟨by kernel_rfl,by kernel_rfl⟩ (b73 hz (see_intro h rfl rfl)))
noncomputable def J6:Cx:={ P:=Tryz.prog,inl:=fun f=>List.contains [] f,tab:=fun _ _ _ _=>False,isB:=fun f=>f==101,tabB:=tabB73,opt:={ unroll:=0,carry:=[] },muts:=mutsD }
theorem okJ6:CxOK J6:=CxOK.four (fun _ _ _ _ h=>h.elim) (by kernel_rfl) (okInl (by kernel_rfl)) tabB73_ok
theorem b62 (hz:(∀ z∈zs,0<=z/\z<=255)/\zs.length=l/\l<=100000) (h:KK (.raw (.int .u64 (sumF zs))) [⟨5,.vals (vB zs),tot,true⟩] E):EntB J6 8 Tryz.f85 [.slc 0 0 l c] [⟨5,.vals (vB zs),tot,true⟩] E KK:=by
 refine sm_ (?_:IntKind.u64=IntKind.u64/\∃ (zs_1:List Int),(5=5/\vB zs=vB zs_1/\List.length zs_1=l/\l<=100000/\∀ (z:Int),List.Mem z zs_1->(0:Int)<=z/\z<=(255:Int))/\KK (SV.raw (Value.int IntKind.u64 (fnvF (14695981039346656037:Int) zs_1))) [⟨5,Row.vals (vB zs),tot,true⟩] E)
 exact ⟨rfl,zs,⟨rfl,rfl,hz.2.1,hz.2.2,hz.1⟩,h⟩
noncomputable def D1:Cx:={ P:=Tryz.prog,inl:=fun f=>List.contains [113,114] f,tab:=fun _ _ _ _=>False,isB:=fun _=>false,tabB:=fun _ _ _ _ _=>False,opt:={ unroll:=0,carry:=[],cuts:=[] },muts:=mutsD }
theorem okD1:CxOK D1:=CxOK.four (fun _ _ _ _ h=>h.elim) (by kernel_rfl) (okInl (by kernel_rfl)) (fun _ _ _ _ _ h=>h.elim)
noncomputable def D2:Cx:={ P:=Tryz.prog,inl:=fun f=>List.contains [] f,tab:=fun _ _ _ _=>False,isB:=fun _=>false,tabB:=fun _ _ _ _ _=>False,opt:={ unroll:=0,carry:=[9,15] },muts:=(fun o=>match o with | .call { callee:=.value (.tmp 19),.. }=>true|o=>mutsD o) }
theorem okD2:CxOK D2:=CxOK.four (fun _ _ _ _ h=>h.elim) (by kernel_rfl) (okInl (by kernel_rfl)) (fun _ _ _ _ _ h=>h.elim)
abbrev fr76 (a:Int) (l c:Nat):List (Option SV):=[some (.raw (.int .u64 a)),os 0 0 l c,none,none,some (.raw (.int .u64 0)),oc 1 0,none,some (.raw (.int .u64 a)),os 0 0 l c,os 2 0 1 1,some (.clo 115 [] [.loc 3 0]),none,none,none,none,none]
abbrev bx76 (n:Int) (l c tot:Nat) (zs:List Int):List Box:=[⟨5,.vals (vB zs),tot,true⟩,⟨155,.lst [.raw (.int .u64 n)],1,true⟩,⟨22,.lst [.slc 0 0 l c],1,true⟩,⟨51,.lst [.slc 2 0 1 1],1,true⟩]
noncomputable def DY (a:Int) (l c:Nat) (rc:Rc):Cx:=YCx D2 D1 8 (fr76 a l c) (sub (bodyOf Tryz.f112) [1,1,0,1,0]) rc
def sh79o (n:Int) (l c tot:Nat) (zs:List Int) (rc:Rc) (i:Nat) (E:Mem):St:=⟨[some (.raw (.func (.yield rc.l) #[] #[]))]++nn 6++[os 2 0 1 1,oI 1,oI (i:Nat)]++nn 16,bx76 n l c tot zs,E⟩
def sh79i (n:Int) (l c tot:Nat) (zs:List Int) (rc:Rc) (j:Nat) (E:Mem):St:=⟨[some (.raw (.func (.yield rc.l) #[] #[]))]++nn 6++[os 2 0 1 1,oI 1,oI 0,none,none,none,os 0 0 l c,oI (l:Nat),oI (j:Nat)]++nn 10,bx76 n l c tot zs,E⟩
theorem rnd79z {a:Int} {K:KT} (h:Cn D1 8 Tryz.f112 [1,1,0,1,0] 1 K ⟨fr76 a l c,bx76 n l c tot zs,E⟩):Rnd (DY a l c rc) 8 Tryz.f115 [1,0] 4 (fun _ bx E=>Cn D1 8 Tryz.f112 [1,1,0,1,0] 1 K ⟨fr76 a l c,bx,E⟩) (sh79o n l c tot zs rc 1 E):=by
 refine sm_ (?_:Cn D1 8 Tryz.f112 [1,1,0,1,0] 1 K { fr:=[some (SV.raw (Value.int IntKind.u64 a)),os 0 0 l c,none,none,some (SV.raw (Value.int IntKind.u64 (0:Int))),oc 1 0,none,some (SV.raw (Value.int IntKind.u64 a)),os 0 0 l c,os 2 0 1 1,some (SV.clo 115 [] [SV.loc 3 0]),none,none,none,none,none],bx:=[(⟨5,Row.vals (vB zs),tot,true⟩:Box),⟨155,Row.lst [SV.raw (Value.int IntKind.u64 n)],1,true⟩,⟨22,Row.lst [SV.slc 0 0 l c],1,true⟩,⟨51,Row.lst [SV.slc 2 0 1 1],1,true⟩],E:=E:St })
 exact h
theorem rnd79i {a:Int} {j:Nat} {K:KT} (hz:(∀ z∈zs,0<=z/\z<=255)/\zs.length=l/\l<=100000) (hj:j<=l) (hn:n=fnvF a (zs.take j)) (h:Lp (DY a l c rc) 8 Tryz.f115 [1,0] 4 (fun _ bx E=>Cn D1 8 Tryz.f112 [1,1,0,1,0] 1 K ⟨fr76 a l c,bx,E⟩) (sh79o (fnvF a zs) l c tot zs rc 1 E))
  (ih:j<l->Lp (DY a l c rc) 8 Tryz.f115 [1,0,0,1,1,0,0,1,1,0] 4 (fun _ bx E=>Cn D1 8 Tryz.f112 [1,1,0,1,0] 1 K ⟨fr76 a l c,bx,E⟩) (sh79i (fnvF a (zs.take (j+1))) l c tot zs rc (j+1) E)):Rnd (DY a l c rc) 8 Tryz.f115 [1,0,0,1,1,0,0,1,1,0] 4 (fun _ bx E=>Cn D1 8 Tryz.f112 [1,1,0,1,0] 1 K ⟨fr76 a l c,bx,E⟩) (sh79i n l c tot zs rc j E):=by
 refine sm_ (?_:bif decide ((NI j)<(NI l)) then req (0<=(NI j)/\(NI j)<(NI l)) (∃ (n_1:Int),LoadV (DY a l c rc).P 5 (vB zs) (0+Int.toNat (NI j)*1) (SV.raw (U8 n_1))/\rc.l=rc.l/\Mem.le E E/\Lp (DY a l c rc) 8 Tryz.f115 [1,0,0,1,1,0,0,1,1,0] 4 (fun (x:SV) (bx:List Box) (E:Mem)=>Cn D1 8 Tryz.f112 [1,1,0,1,0] 1 K { fr:=fr76 a l c,bx:=bx,E:=E:St }) { fr:=some (SV.raw (Value.func (Fn.yield rc.l) #[] #[]))::no4 (no2 (os 2 0 1 1::oI 1::oI 0::none::none::none::os 0 0 l c::oI (NI l)::oI (WI ((NI j)+1))::no8 (no2 []))),bx:=[(⟨5,.vals (vB zs),tot,true⟩:Box),⟨155,.lst [SV.raw (Value.int IntKind.u64 (IntKind.wrap IntKind.u64 (IntKind.wrap IntKind.u64 (NI (BitVec.toNat (BitVec.ofInt (IntKind.bits IntKind.u64) n ^^^ BitVec.ofInt (IntKind.bits IntKind.u64) (IntKind.wrap IntKind.u64 n_1))))*(1099511628211:Int))))],1,true⟩,⟨22,.lst [SV.slc 0 0 l c],1,true⟩,⟨51,.lst [SV.slc 2 0 1 1],1,true⟩],E:=E:St }) else Lp (DY a l c rc) 8 Tryz.f115 [1,0] 4 (fun (x:SV) (bx:List Box) (E:Mem)=>Cn D1 8 Tryz.f112 [1,1,0,1,0] 1 K { fr:=fr76 a l c,bx:=bx,E:=E:St }) { fr:=some (SV.raw (Value.func (Fn.yield rc.l) #[] #[]))::no4 (no2 (os 2 0 1 1::oI 1::oI 1::none::none::none::none::none::oI (NI j)::no8 (no2 []))),bx:=[(⟨5,.vals (vB zs),tot,true⟩:Box),⟨155,.lst [SV.raw (Value.int IntKind.u64 n)],1,true⟩,⟨22,.lst [SV.slc 0 0 l c],1,true⟩,⟨51,.lst [SV.slc 2 0 1 1],1,true⟩],E:=E:St })
 delta WI NI U8 no2 no4 no8
 obtain ⟨hb,hn0,hl⟩:=hz
 refine condC (fun g=>?_) (fun g=>?_)
 ·have g:j<l:=by simpa using g
  have e:zs[j]? =some (zs.getD j 0):=by rw [List.getD_eq_getElem?_getD,List.getElem?_eq_getElem (by omega)];rfl
  obtain ⟨b1,b2⟩:=hb _ (List.mem_of_getElem? e)
  refine req_intro (by omega) ⟨zs.getD j 0,?_,rfl,mr_,?_⟩
  ·show LoadV _ _ (vB zs) (0+((j:Nat):Int).toNat*1) _
   rw [show 0+((j:Nat):Int).toNat*1=j by omega]
   exact loadV_byte rfl (by omega)
  subst hn
  rw [wu64' (x:=zs.getD j 0) (by omega),show IntKind.wrap .u64 (IntKind.wrap .u64 (((BitVec.ofInt (IntKind.bits .u64) (fnvF a (zs.take j)) ^^^ BitVec.ofInt (IntKind.bits .u64) (zs.getD j 0)).toNat:Nat):Int)*1099511628211)=stepF (fnvF a (zs.take j)) (zs.getD j 0) from rfl,← fnvF_take e,wrap_i64 (x:=(j:Int)+1) (by omega),show (j:Int)+1=((j+1:Nat):Int) by simp]
  exact Lp_re [some 0,some 1,some 2,some 3] (ih g) (wkG mr_)
 ·have g:j=l:=by simp at g;omega
  subst g
  rw [List.take_of_length_le (by omega)] at hn
  subst hn
  exact Lp_re [some 0,some 1,some 2,some 3] (h) (wkG mr_)
theorem rnd79o {a:Int} {K:KT} (h:Lp (DY a l c rc) 8 Tryz.f115 [1,0,0,1,1,0,0,1,1,0] 4 (fun _ bx E=>Cn D1 8 Tryz.f112 [1,1,0,1,0] 1 K ⟨fr76 a l c,bx,E⟩) (sh79i a l c tot zs rc 0 E)):Rnd (DY a l c rc) 8 Tryz.f115 [1,0] 4 (fun _ bx E=>Cn D1 8 Tryz.f112 [1,1,0,1,0] 1 K ⟨fr76 a l c,bx,E⟩) (sh79o a l c tot zs rc 0 E):=by
 refine sm_ (?_:Lp (DY a l c rc) 8 Tryz.f115 [1,0,0,1,1,0,0,1,1,0] 4 (fun (x:SV) (bx:List Box) (E:Mem)=>Cn D1 8 Tryz.f112 [1,1,0,1,0] 1 K { fr:=fr76 a l c,bx:=bx,E:=E:St }) { fr:=[some (SV.raw (Value.func (Fn.yield rc.l) #[] #[])),none,none,none,os 0 0 l c,none,none,os 2 0 1 1,oI (1:Int),oI (0:Int),oB true,oc 2 0,os 0 0 l c,os 0 0 l c,oI (↑l:Int),oI (0:Int),none,none,none,none,none,none,none,none,none,none],bx:=[(⟨5,Row.vals (vB zs),tot,true⟩:Box),⟨155,Row.lst [SV.raw (Value.int IntKind.u64 a)],1,true⟩,⟨22,Row.lst [SV.slc 0 0 l c],1,true⟩,⟨51,Row.lst [SV.slc 2 0 1 1],1,true⟩],E:=E:St })
 exact Lp_re [some 0,some 1,some 2,some 3] (h) (wkG mr_)
theorem ent79 {a:Int} {K:KT} (h:Lp (DY a l c rc) 8 Tryz.f115 [1,0] 4 (fun _ bx E=>Cn D1 8 Tryz.f112 [1,1,0,1,0] 1 K ⟨fr76 a l c,bx,E⟩) (sh79o a l c tot zs rc 0 E)):EntB (DY a l c rc) 8 Tryz.f115 [.raw (.func (.yield rc.l) #[] #[]),.loc 3 0] (bx76 a l c tot zs) E (fun _ bx E=>Cn D1 8 Tryz.f112 [1,1,0,1,0] 1 K ⟨fr76 a l c,bx,E⟩):=by
 refine sm_ (?_:Lp (DY a l c rc) 8 Tryz.f115 [1,0] 4 (fun (x:SV) (bx:List Box) (E:Mem)=>Cn D1 8 Tryz.f112 [1,1,0,1,0] 1 K { fr:=fr76 a l c,bx:=bx,E:=E:St }) { fr:=some (SV.raw (Value.func (Fn.yield rc.l) #[] #[]))::oc 3 0::none::none::none::none::none::os 2 0 1 1::oI 1::oI 0::no16 [],bx:=[(⟨5,.vals (vB zs),tot,true⟩:Box),⟨155,.lst [SV.raw (Value.int IntKind.u64 a)],1,true⟩,⟨22,.lst [SV.slc 0 0 l c],1,true⟩,⟨51,.lst [SV.slc 2 0 1 1],1,true⟩],E:=E:St })
 delta no16
 exact Lp_re [some 0,some 1,some 2,some 3] (h) (wkG mr_)
theorem cn76 {a:Int} {K:KT} (h:K (.raw (.int .u64 n)) (bx76 n l c tot zs) E):Pn D1 8 Tryz.f112 [1,1,0,1,0] 1 K ⟨fr76 a l c,bx76 n l c tot zs,E⟩:=by
 refine sm_ (?_:K (SV.raw (Value.int IntKind.u64 n)) [⟨5,Row.vals (vB zs),tot,true⟩,⟨155,Row.lst [SV.raw (Value.int IntKind.u64 n)],1,true⟩,⟨22,Row.lst [SV.slc 0 0 l c],1,true⟩,⟨51,Row.lst [SV.slc 2 0 1 1],1,true⟩] E)
 exact h
theorem lp79z {a:Int} {K:KT} (hC:CxOK (DY a l c rc)) (h:Cn D1 8 Tryz.f112 [1,1,0,1,0] 1 K ⟨fr76 a l c,bx76 n l c tot zs,E⟩):Lp (DY a l c rc) 8 Tryz.f115 [1,0] 4 (fun _ bx E=>Cn D1 8 Tryz.f112 [1,1,0,1,0] 1 K ⟨fr76 a l c,bx,E⟩) (sh79o n l c tot zs rc 1 E):=
 Lp_ind (ι:=Unit) hC (fun _=>sh79o n l c tot zs rc 1 E) (fun _=>0) (fun _ _=>rnd79z h) ()
theorem lp79i {a:Int} {j:Nat} {K:KT} (hC:CxOK (DY a l c rc)) (hz:(∀ z∈zs,0<=z/\z<=255)/\zs.length=l/\l<=100000) (hj:j<=l) (hn:n=fnvF a (zs.take j)) (h:Cn D1 8 Tryz.f112 [1,1,0,1,0] 1 K ⟨fr76 a l c,bx76 (fnvF a zs) l c tot zs,E⟩):Lp (DY a l c rc) 8 Tryz.f115 [1,0,0,1,1,0,0,1,1,0] 4 (fun _ bx E=>Cn D1 8 Tryz.f112 [1,1,0,1,0] 1 K ⟨fr76 a l c,bx,E⟩) (sh79i n l c tot zs rc j E):=by
 subst hn
 exact Lp_ind hC (fun y:{y:Nat//y<=l}=>sh79i (fnvF a (zs.take y.1)) l c tot zs rc y.1 E) (fun y=>l-y.1) (fun y ih=>rnd79i hz y.2 rfl (lp79z hC h) fun g=>ih ⟨y.1+1,by omega⟩ (by show l-(_+1)<l-_;omega)) ⟨j,hj⟩
theorem lp79o {a:Int} {K:KT} (hC:CxOK (DY a l c rc)) (hz:(∀ z∈zs,0<=z/\z<=255)/\zs.length=l/\l<=100000) (h:Cn D1 8 Tryz.f112 [1,1,0,1,0] 1 K ⟨fr76 a l c,bx76 (fnvF a zs) l c tot zs,E⟩):Lp (DY a l c rc) 8 Tryz.f115 [1,0] 4 (fun _ bx E=>Cn D1 8 Tryz.f112 [1,1,0,1,0] 1 K ⟨fr76 a l c,bx,E⟩) (sh79o a l c tot zs rc 0 E):=
 Lp_ind (ι:=Unit) hC (fun _=>sh79o a l c tot zs rc 0 E) (fun _=>0) (fun _ _=>rnd79o (lp79i hC hz (Nat.zero_le _) rfl h)) ()
theorem b76 {a:Int} (hz:(∀ z∈zs,0<=z/\z<=255)/\zs.length=l/\l<=100000) (h:KK (.raw (.int .u64 (fnvF a zs))) (bx76 (fnvF a zs) l c tot zs) E):EntB D1 8 Tryz.f112 [.raw (.int .u64 a),.slc 0 0 l c] [⟨5,.vals (vB zs),tot,true⟩] E KK:=by
 refine sm_ (?_:Ct D1 8 Tryz.f112 [1,1,0,1,0] 1 KK { fr:=[some (SV.raw (Value.int IntKind.u64 a)),os 0 0 l c,none,none,some (SV.raw (Value.int IntKind.u64 (0:Int))),oc 1 0,none,some (SV.raw (Value.int IntKind.u64 a)),os 0 0 l c,os 2 0 1 1,some (SV.clo 115 [] [SV.loc 3 0]),none,none,none,none,none],bx:=[(⟨5,Row.vals (vB zs),tot,true⟩:Box),⟨155,Row.lst [SV.raw (Value.int IntKind.u64 a)],1,true⟩,⟨22,Row.lst [SV.slc 0 0 l c],1,true⟩,⟨51,Row.lst [SV.slc 2 0 1 1],1,true⟩],E:=E:St })
 exact RfY okD1 okD2 (by kernel_rfl) (by kernel_rfl) Tryz.func115 ⟨by kernel_rfl,by kernel_rfl⟩ (gf:=115) (gfn:=Tryz.f115) (first:=[]) (caps:=[.loc 3 0]) (m:=8) (fun rc hrc=>ent79 (lp79o hrc hz (Cn_intro (cn76 h)))) rfl rfl
noncomputable def tabB76:CallT:=fun f args bx E K=>match f with
 | 112=>d2 args fun x0 x1=>dN .u64 x0 fun a=>match x1 with
  | .slc b 0 l c=>sumD b l bx fun zs=>K (.raw (.int .u64 (fnvF a zs))) bx E
  | _=>False
 | _=>False
theorem see_introN {K:KT} {r:Value} {y:Box} {more:List Box} (h:K (.raw r) bx E) (hy:y=⟨5,.vals vs,tot,true⟩):cloK 1 (fun s bx' E'=>∃ r:Value,s= .raw r/\bx'=[⟨5,.vals vs,tot,true⟩]/\K (.raw r) bx E') (.raw r) (y::more) E:=by
 subst hy
 exact cloK_intro [some 0] ⟨r,rfl,rfl,h⟩ (wkG mr_)
theorem tabB76_ok:∀ f args bx E K,tabB76 f args bx E K->CallSem Tryz.prog f args bx E K:=by
 intro f args bx E K h
 unfold tabB76 at h
 split at h
 case h_2=>exact h.elim
 obtain ⟨x0,x1,rfl,h1⟩:=d2_elim h
 obtain ⟨a,rfl,h2⟩:=dN_elim h1
 clear h h1
 split at h2
 case h_2=>exact h2.elim
 rename_i b l c
 obtain ⟨tot,zs,hb,hz,h⟩:=sumD_elim h2
 exact CallSem.see (args':=[.raw (.int .u64 a),.slc 0 0 l c]) hb (by simp [SV.renL,SV.ren,renF]) (EntB.sem okD1 Tryz.func112 ⟨by kernel_rfl,by kernel_rfl⟩ (b76 hz (see_introN h rfl)))
noncomputable def D3:Cx:={ P:=Tryz.prog,inl:=fun f=>List.contains [] f,tab:=fun _ _ _ _=>False,isB:=fun f=>f==112,tabB:=tabB76,opt:={ unroll:=0,carry:=[] },muts:=mutsD }
theorem okD3:CxOK D3:=CxOK.four (fun _ _ _ _ h=>h.elim) (by kernel_rfl) (okInl (by kernel_rfl)) tabB76_ok
theorem b68 (hz:(∀ z∈zs,0<=z/\z<=255)/\zs.length=l/\l<=100000) (h:KK (.raw (.int .u64 (sumF zs))) [⟨5,.vals (vB zs),tot,true⟩] E):EntB D3 8 Tryz.f107 [.slc 0 0 l c] [⟨5,.vals (vB zs),tot,true⟩] E KK:=by
 refine sm_ (?_:IntKind.u64=IntKind.u64/\∃ (zs_1:List Int),(5=5/\vB zs=vB zs_1/\List.length zs_1=l/\l<=100000/\∀ (z:Int),List.Mem z zs_1->(0:Int)<=z/\z<=(255:Int))/\KK (SV.raw (Value.int IntKind.u64 (fnvF (14695981039346656037:Int) zs_1))) [⟨5,Row.vals (vB zs),tot,true⟩] E)
 exact ⟨rfl,zs,⟨rfl,rfl,hz.2.1,hz.2.2,hz.1⟩,h⟩
noncomputable def tabBp:CallT:=fun f args bx E K=>match f with
 | 93=>d2 args fun x0 x1=>dN .u64 x0 fun n=>dI x1 fun m=>((0<=n/\n<18446744073709551616)/\0<=m/\m<=8)/\K (.slc bx.length 0 m.toNat m.toNat) (bx++[⟨5,.vals (vB (storF n m.toNat)),m.toNat*1,true⟩]) E
 | 107=>d1 args fun x0=>match x0 with
  | .slc b 0 l c=>sumD b l bx fun zs=>K (.raw (.int .u64 (sumF zs))) bx E
  | _=>False
 | _=>False
theorem tabBp_ok:∀ f args bx E K,tabBp f args bx E K->CallSem Tryz.prog f args bx E K:=by
 intro f args bx E K h
 unfold tabBp at h
 split at h
 ·obtain ⟨x0,x1,rfl,k1⟩:=d2_elim h
  obtain ⟨n,rfl,k2⟩:=dN_elim k1
  obtain ⟨m,rfl,k3⟩:=dI_elim k2
  clear h k1 k2
  obtain ⟨⟨h0,h1,h2⟩,h⟩:=k3
  obtain ⟨m,rfl⟩:∃ k:Nat,m=k:=⟨m.toNat,by omega⟩
  rw [Int.toNat_natCast] at h
  exact CallSem.own0 (argv:=[.int .u64 n,.int .i64 m]) rfl (EntB.sem okJ3 Tryz.func93 ⟨by kernel_rfl,by kernel_rfl⟩ (b53 h0 (by omega) (cloK_intro [some 0] ⟨m,m,5,_,m*1,rfl,rfl,h⟩ (wkG mr_))))
 ·obtain ⟨x0,rfl,k1⟩:=d1_elim h
  clear h
  split at k1
  case h_2=>exact k1.elim
  rename_i b l c
  obtain ⟨tot,zs,hb,hz,h⟩:=sumD_elim k1
  exact CallSem.see (args':=[.slc 0 0 l c]) hb (by simp [SV.renL,SV.ren,renF]) (EntB.sem okD3 Tryz.func107 ⟨by kernel_rfl,by kernel_rfl⟩ (b68 hz (see_introN h rfl)))
 ·exact h.elim
noncomputable def tabBr:CallT:=fun f args bx E K=>match f with
 | 74=>d2 args fun x0 x1=>dN .u64 x0 fun n=>dI x1 fun m=>((0<=n/\n<18446744073709551616)/\0<=m/\m<=8)/\K (.slc bx.length 0 m.toNat m.toNat) (bx++[⟨5,.vals (vB (storF n m.toNat)),m.toNat*1,true⟩]) E
 | 85=>d1 args fun x0=>match x0 with
  | .slc b 0 l c=>sumD b l bx fun zs=>K (.raw (.int .u64 (sumF zs))) bx E
  | _=>False
 | _=>False
theorem tabBr_ok:∀ f args bx E K,tabBr f args bx E K->CallSem Tryz.prog f args bx E K:=by
 intro f args bx E K h
 unfold tabBr at h
 split at h
 ·obtain ⟨x0,x1,rfl,k1⟩:=d2_elim h
  obtain ⟨n,rfl,k2⟩:=dN_elim k1
  obtain ⟨m,rfl,k3⟩:=dI_elim k2
  clear h k1 k2
  obtain ⟨⟨h0,h1,h2⟩,h⟩:=k3
  obtain ⟨m,rfl⟩:∃ k:Nat,m=k:=⟨m.toNat,by omega⟩
  rw [Int.toNat_natCast] at h
  exact CallSem.own0 (argv:=[.int .u64 n,.int .i64 m]) rfl (EntB.sem okJ4 Tryz.func74 ⟨by kernel_rfl,by kernel_rfl⟩ (b57 h0 (by omega) (cloK_intro [some 0] ⟨m,m,5,_,m*1,rfl,rfl,h⟩ (wkG mr_))))
 ·obtain ⟨x0,rfl,k1⟩:=d1_elim h
  clear h
  split at k1
  case h_2=>exact k1.elim
  rename_i b l c
  obtain ⟨tot,zs,hb,hz,h⟩:=sumD_elim k1
  exact CallSem.see (args':=[.slc 0 0 l c]) hb (by simp [SV.renL,SV.ren,renF]) (EntB.sem okJ6 Tryz.func85 ⟨by kernel_rfl,by kernel_rfl⟩ (b62 hz (see_introN h rfl)))
 ·exact h.elim
def bodyF (ds:List Int):List Int:=storF (ds.length:Int) 2++ds++storF (sumF (storF (ds.length:Int) 2++ds)) 8
theorem hidB_ex:∃ f:List Int->List Int,∀ ds,f ds=bodyF ds:=⟨bodyF,fun _=>rfl⟩
noncomputable def hidB:List Int->List Int:=hidB_ex.choose
theorem hidB_eq (ds:List Int):hidB ds=bodyF ds:=hidB_ex.choose_spec ds
theorem bodyF_len (ds:List Int):(bodyF ds).length=ds.length+10:=by simp [bodyF,storF_len];omega
theorem app_byte {xs:List Int} (h:∀ z∈xs,0<=z/\z<=255) (g:∀ z∈ys,0<=z/\z<=255):∀ z∈xs++ys,0<=z/\z<=255:=fun z hz=>(List.mem_append.1 hz).elim (h z) (g z)
theorem bodyF_byte (h:∀ z∈ds,0<=z/\z<=255):∀ z∈bodyF ds,0<=z/\z<=255:=app_byte (app_byte (storF_byte _ _) h) (storF_byte _ _)
theorem stepF_bd (s x:Int):0<=stepF s x/\stepF s x<18446744073709551616:=by
 unfold stepF
 generalize (IntKind.wrap .u64 (((BitVec.ofInt (IntKind.bits .u64) s ^^^ BitVec.ofInt (IntKind.bits .u64) x).toNat:Nat):Int)*1099511628211)=y
 rw [show IntKind.wrap .u64 y=y % 18446744073709551616 from rfl];omega
theorem fnvF_bd:∀ {zs:List Int} {s:Int},0<=s/\s<18446744073709551616->0<=fnvF s zs/\fnvF s zs<18446744073709551616
 | [],s,h=>h
 | x::zs,s,h=>fnvF_bd (zs:=zs) (stepF_bd s x)
theorem sumF_bd (zs:List Int):0<=sumF zs/\sumF zs<18446744073709551616:=fnvF_bd (by decide)
noncomputable def J7:Cx:={ P:=Tryz.prog,inl:=fun f=>List.contains [] f,tab:=fun _ _ _ _=>False,isB:=fun f=>f==93||f==107,tabB:=tabBp,opt:={ unroll:=0,carry:=[] },muts:=mutsD }
theorem okJ7:CxOK J7:=CxOK.four (fun _ _ _ _ h=>h.elim) (by kernel_rfl) (okInl (by kernel_rfl)) tabBp_ok
noncomputable def J8:Cx:={ P:=Tryz.prog,inl:=fun f=>List.contains [] f,tab:=fun _ _ _ _=>False,isB:=fun f=>f==74||f==85,tabB:=tabBr,opt:={ unroll:=0,carry:=[] },muts:=mutsD }
theorem okJ8:CxOK J8:=CxOK.four (fun _ _ _ _ h=>h.elim) (by kernel_rfl) (okInl (by kernel_rfl)) tabBr_ok
theorem j54 (h0:Bs E b1 l2 c3 zs) (h1:l2<=70000) (h:∀ (b':Option Addr) (l' c':Nat) (ys:List Int) (E':Mem),Mem.le E E'->Hyp (ys=hidB zs)->Bs E' b' l' c' ys->K (L b' l' c') E'):
  Ent J7 8 Tryz.f94 [L b1 l2 c3] E K:=by
 refine sm_ (?_:IntKind.u64=IntKind.u64/\(((0:Int)<=IntKind.wrap IntKind.u64 (NI l2)/\IntKind.wrap IntKind.u64 (NI l2)<18446744073709551616)/\(0:Int)<=(2:Int)/\(2:Int)<=(8:Int))/\Mem.le E E/\∃ (cs:List Value),(cs=[]\/E (VS b1 l2 c3) cs)/\l2*1<=List.length cs/\(∀ (x:Value),List.Mem x cs->Value.oneCell' x=true)/\2<=2/\2<=2/\2<=2/\req ((2+l2)*1<=140737488355328) (∀ (cap' tot':Nat),2+l2<=cap'->cap'*1<=tot'->∃ (zs:List Int),(5=5/\U8 (IntKind.wrap IntKind.u64 (NI l2) / (256:Int) % (256:Int))::U8 (IntKind.wrap IntKind.u64 (NI l2) / (1:Int) % (256:Int))::(List.take (l2*1) cs)=vB zs/\List.length zs=2+l2/\2+l2<=100000/\∀ (z:Int),List.Mem z zs->(0:Int)<=z/\z<=(255:Int))/\IntKind.u64=IntKind.u64/\(((0:Int)<=sumF zs/\sumF zs<(18446744073709551616:Int))/\(0:Int)<=(8:Int)/\(8:Int)<=(8:Int))/\Mem.le E E/\8<=8/\(∀ (x:Value),List.Mem x (vB (storF (sumF zs) (Int.toNat 8)))->Value.oneCell' x=true)/\(2+l2)*1<=List.length (Row.cells (Row.vals (List.take 2 (vB (storF (IntKind.wrap IntKind.u64 (NI l2)) 2))++List.take (l2*1) cs)))/\cap'*1<=tot'/\2+l2<=cap'/\req ((2+l2+8)*1<=140737488355328) (∀ (cap' tot':Nat),2+l2+8<=cap'->cap'*1<=tot'->∀ (base:Option Addr) (E':Mem),Mem.le E E'->WinE E' base (List.take ((2+l2)*1) (List.take 2 (vB (storF (IntKind.wrap IntKind.u64 (NI l2)) 2))++List.take (l2*1) cs)++List.take 8 (List.drop 0 (vB (storF (sumF zs) 8))))->Mem.le E E'/\K (L (Option.map (fun (x:Addr)=>Addr.add x 0) base) (2+l2+8) cap') E')))
 delta NI U8 VS
 have hl:=h0.2.1
 obtain ⟨t1,t2,t3⟩:=h0.src
 have ew:IntKind.wrap IntKind.u64 ((l2:Nat):Int)=(zs.length:Int):=by rw [wu64' (by omega),hl]
 rw [ew]
 have e1:∀ x:Value,x::(Value.int IntKind.u8 ((zs.length:Int) / 1 % 256))::List.take (l2*1) (vB zs)=x::(Value.int IntKind.u8 ((zs.length:Int) / 1 % 256))::vB zs:=fun x=>by rw [List.take_of_length_le (by simp [hl])]
 refine ⟨rfl,⟨⟨by omega,by omega⟩,by decide,by decide⟩,mr_,_,t1,t2,t3,Nat.le_refl _,Nat.le_refl _,Nat.le_refl _,req_intro (by omega) (fun cap tot g1 g2=>⟨storF (zs.length:Int) 2++zs,⟨rfl,e1 _,by simp [storF_len,hl],by omega,app_byte (storF_byte _ _) h0.2.2.2.1⟩,rfl,⟨sumF_bd _,by decide,by decide⟩,mr_,Nat.le_refl _,vB_one _,?_,g2,g1,req_intro (by omega) (fun cap2 tot2 g3 g4 base E' q w=>⟨q,h _ _ _ (bodyF zs) E' q (show _=_ from (hidB_eq zs).symm) (Bs.win w ?_ (by rw [bodyF_len];omega) g3 (bodyF_byte h0.2.2.2.1))⟩)⟩)⟩
 ·show (2+l2)*1<=(List.map SV.raw _).length
  simp [storF_len,hl]
 ·rw [List.take_of_length_le (l:=List.take 2 _++_) (by simp [storF_len,hl]),List.take_of_length_le (l:=vB (storF _ 2)) (by simp [storF_len]),List.take_of_length_le (l:=vB zs) (by simp [hl]),List.drop_zero,List.take_of_length_le (l:=vB (storF _ 8)) (by simp [storF_len])]
  simp [bodyF]
theorem j45 (h0:Bs E b1 l2 c3 zs) (h1:l2<=70000) (h:∀ (b':Option Addr) (l' c':Nat) (ys:List Int) (E':Mem),Mem.le E E'->Hyp (ys=hidB zs)->Bs E' b' l' c' ys->K (L b' l' c') E'):
  Ent J8 8 Tryz.f65 [L b1 l2 c3] E K:=by
 refine sm_ (?_:IntKind.u64=IntKind.u64/\(((0:Int)<=IntKind.wrap IntKind.u64 (NI l2)/\IntKind.wrap IntKind.u64 (NI l2)<18446744073709551616)/\(0:Int)<=(2:Int)/\(2:Int)<=(8:Int))/\Mem.le E E/\∃ (cs:List Value),(cs=[]\/E (VS b1 l2 c3) cs)/\l2*1<=List.length cs/\(∀ (x:Value),List.Mem x cs->Value.oneCell' x=true)/\2<=2/\2<=2/\2<=2/\req ((2+l2)*1<=140737488355328) (∀ (cap' tot':Nat),2+l2<=cap'->cap'*1<=tot'->∃ (zs:List Int),(5=5/\U8 (IntKind.wrap IntKind.u64 (NI l2) / (256:Int) % (256:Int))::U8 (IntKind.wrap IntKind.u64 (NI l2) / (1:Int) % (256:Int))::(List.take (l2*1) cs)=vB zs/\List.length zs=2+l2/\2+l2<=100000/\∀ (z:Int),List.Mem z zs->(0:Int)<=z/\z<=(255:Int))/\IntKind.u64=IntKind.u64/\(((0:Int)<=sumF zs/\sumF zs<(18446744073709551616:Int))/\(0:Int)<=(8:Int)/\(8:Int)<=(8:Int))/\Mem.le E E/\8<=8/\(∀ (x:Value),List.Mem x (vB (storF (sumF zs) (Int.toNat 8)))->Value.oneCell' x=true)/\(2+l2)*1<=List.length (Row.cells (Row.vals (List.take 2 (vB (storF (IntKind.wrap IntKind.u64 (NI l2)) 2))++List.take (l2*1) cs)))/\cap'*1<=tot'/\2+l2<=cap'/\req ((2+l2+8)*1<=140737488355328) (∀ (cap' tot':Nat),2+l2+8<=cap'->cap'*1<=tot'->∀ (base:Option Addr) (E':Mem),Mem.le E E'->WinE E' base (List.take ((2+l2)*1) (List.take 2 (vB (storF (IntKind.wrap IntKind.u64 (NI l2)) 2))++List.take (l2*1) cs)++List.take 8 (List.drop 0 (vB (storF (sumF zs) 8))))->Mem.le E E'/\K (L (Option.map (fun (x:Addr)=>Addr.add x 0) base) (2+l2+8) cap') E')))
 delta NI U8 VS
 have hl:=h0.2.1
 obtain ⟨t1,t2,t3⟩:=h0.src
 have ew:IntKind.wrap IntKind.u64 ((l2:Nat):Int)=(zs.length:Int):=by rw [wu64' (by omega),hl]
 rw [ew]
 have e1:∀ x:Value,x::(Value.int IntKind.u8 ((zs.length:Int) / 1 % 256))::List.take (l2*1) (vB zs)=x::(Value.int IntKind.u8 ((zs.length:Int) / 1 % 256))::vB zs:=fun x=>by rw [List.take_of_length_le (by simp [hl])]
 refine ⟨rfl,⟨⟨by omega,by omega⟩,by decide,by decide⟩,mr_,_,t1,t2,t3,Nat.le_refl _,Nat.le_refl _,Nat.le_refl _,req_intro (by omega) (fun cap tot g1 g2=>⟨storF (zs.length:Int) 2++zs,⟨rfl,e1 _,by simp [storF_len,hl],by omega,app_byte (storF_byte _ _) h0.2.2.2.1⟩,rfl,⟨sumF_bd _,by decide,by decide⟩,mr_,Nat.le_refl _,vB_one _,?_,g2,g1,req_intro (by omega) (fun cap2 tot2 g3 g4 base E' q w=>⟨q,h _ _ _ (bodyF zs) E' q (show _=_ from (hidB_eq zs).symm) (Bs.win w ?_ (by rw [bodyF_len];omega) g3 (bodyF_byte h0.2.2.2.1))⟩)⟩)⟩
 ·show (2+l2)*1<=(List.map SV.raw _).length
  simp [storF_len,hl]
 ·rw [List.take_of_length_le (l:=List.take 2 _++_) (by simp [storF_len,hl]),List.take_of_length_le (l:=vB (storF _ 2)) (by simp [storF_len]),List.take_of_length_le (l:=vB zs) (by simp [hl]),List.drop_zero,List.take_of_length_le (l:=vB (storF _ 8)) (by simp [storF_len])]
  simp [bodyF]
end Go.Proofs.YtdaakdbkmjgloaaGreat.CustodyOwn
