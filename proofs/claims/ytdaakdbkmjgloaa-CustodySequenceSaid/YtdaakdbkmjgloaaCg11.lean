/- What functions of the program compute; plain lemmas on it. Conditions: none. -/
import Derived.Test.YtdaakdbkmjgloaaProg
import Derived.Test.YtdaakdbkmjgloaaSyBB
import Derived.Lib.Bytes
import Derived.Lib.Walk
import Derived.Lib.Strings
namespace Go.Proofs.Ytdaakdbkmjgloaa.CustodyOwn
open Go Go.Sx
set_option maxRecDepth 100000
set_option maxHeartbeats 4000000
set_option linter.unusedVariables false
set_option linter.unusedSimpArgs false
variable {E:Mem} {K:SV->Mem->Prop}
abbrev WI (x:Int):Int:=IntKind.wrap .i64 x
abbrev NI (n:Nat):Int:=(n:Int)
abbrev U8 (x:Int):Value:=.int .u8 x
abbrev VS (b:Option Addr) (l c:Nat):Value:=.slice b l c
abbrev no2 (t:List (Option SV)):List (Option SV):=none::none::t
abbrev no4 (t:List (Option SV)):List (Option SV):=none::none::none::none::t
abbrev no8 (t:List (Option SV)):List (Option SV):=none::none::none::none::none::none::none::none::t
abbrev no16 (t:List (Option SV)):List (Option SV):=none::none::none::none::none::none::none::none::none::none::none::none::none::none::none::none::t
abbrev no32 (t:List (Option SV)):List (Option SV):=none::none::none::none::none::none::none::none::none::none::none::none::none::none::none::none::none::none::none::none::none::none::none::none::none::none::none::none::none::none::none::none::t
abbrev oI (x:Int):Option SV:=some (.raw (.int .i64 x))
abbrev oB (x:Bool):Option SV:=some (.raw (.bool x))
abbrev oL (b:Option Addr) (l c:Nat):Option SV:=some (.raw (.slice b l c))
abbrev oc (b o:Nat):Option SV:=some (.loc b o)
abbrev os (b o l c:Nat):Option SV:=some (.slc b o l c)
abbrev oU:Option SV:=some (.raw (.tuple #[]))
abbrev al2:AlikeT:=.n .l .l
theorem mr_ {E:Mem}:Mem.le E E:=Mem.le_refl E
theorem mt_ {E F G:Mem} (h:Mem.le E F) (k:Mem.le F G):Mem.le E G:=Mem.le_trans h k
theorem sm_ {p q:Prop} (h:q) (e:p=q:=by kernel_rfl):p:=e.mpr h
theorem esm {C:Cx} (hC:CxOK C) {n:Nat} {f:FuncId} {fn:Func} (hf:C.P.funcs[f]? =some fn) {args:List SV} {vs:List Value} {E:Mem} {K:SV->Mem->Prop}
  (hv:SV.valL args=some vs) (h:Ent C n fn args E K) (hok:okFn fn:=by exact ⟨by kernel_rfl,by kernel_rfl⟩) (ho:C.opt.om=none:=by rfl):TabSem C.P f args E K:=Ent.sem hC hf hok hv h ho
theorem bsm {C:Cx} (hC:CxOK C) {n:Nat} {f:FuncId} {fn:Func} (hf:C.P.funcs[f]? =some fn) {args:List SV} {bx:List Box} {E:Mem} {K:KT}
  (h:EntB C n fn args bx E K) (hok:okFn fn:=by exact ⟨by kernel_rfl,by kernel_rfl⟩) (ho:C.opt.om=none:=by rfl):CallSem C.P f args bx E K:=EntB.sem hC hf hok h ho
def nodB:List Nat->Bool
 | []=>true
 | x::l=> !l.contains x&&nodB l
theorem nodB_ok:∀ {l:List Nat},nodB l=true->l.Nodup
 | [],_=>List.nodup_nil
 | x::l,h=>by
  simp only [nodB,Bool.and_eq_true,Bool.not_eq_true',List.contains_eq_mem,decide_eq_false_iff_not] at h
  exact List.nodup_cons.2 ⟨h.1,nodB_ok h.2⟩
theorem wkG {n0:Nat} {τ:Tau} {S T:St} (hE:Mem.le T.E S.E) (h1:n0<=S.bx.length:=by first|(simp;done)|(simp [St.pub];done)) (h2:n0<=τ.length:=by first|(simp;done)|(simp [St.pub];done))
  (h3:∀ j,j<n0->τ[j]? =some (some j):=by decide) (h4:T.bx.length=τ.length:=by rfl)
  (h5:wkFr τ S.bx.length S.fr T.fr:=by repeat' first|exact True.intro|refine And.intro (Or.inl rfl) ?_|refine And.intro (Or.inr ⟨rfl,rfl⟩) ?_)
  (h6:wkBx τ S.bx.length S.bx 0 T.bx:=by repeat' first|exact True.intro|exact rfl|exact Or.inl rfl|fail|refine And.intro ?_ ?_)
  (h7:nodB (liveSrc τ T.bx)=true:=by kernel_rfl):S.wk n0 τ T:=⟨⟨h1,h2,h3⟩,h4,h5,h6,nodB_ok h7,hE⟩
theorem wkH {n0:Nat} {τ:Tau} {S T:St} (hE:Mem.le T.E S.E) (h1:n0<=S.bx.length:=by first|(simp;done)|(simp [St.pub];done)) (h2:n0<=τ.length:=by first|(simp;done)|(simp [St.pub];done))
  (h3:∀ j,j<n0->τ[j]? =some (some j):=by decide) (h4:T.bx.length=τ.length:=by rfl)
  (h5:wkFr τ S.bx.length S.fr T.fr:=by repeat' first|exact True.intro|refine And.intro (Or.inl rfl) ?_|refine And.intro (Or.inr ⟨rfl,rfl⟩) ?_)
  (h6:wkBx τ S.bx.length S.bx 0 T.bx:=by repeat' first|exact True.intro|exact rfl|exact Or.inl rfl|exact Or.inr ⟨rfl,rfl⟩|refine And.intro ?_ ?_|exact Nat.le_of_ble_eq_true rfl)
  (h7:nodB (liveSrc τ T.bx)=true:=by kernel_rfl):S.wk n0 τ T:=⟨⟨h1,h2,h3⟩,h4,h5,h6,nodB_ok h7,hE⟩
noncomputable def F1:Cx:={ P:=Try.prog,inl:=fun f=>List.contains [] f,tab:=fun _ _ _ _=>False,isB:=fun _=>false,tabB:=fun _ _ _ _ _=>False,opt:={ unroll:=0,carry:=[],cuts:=[5] },muts:=mutsD }
theorem okF1:CxOK F1:=CxOK.four (fun _ _ _ _ h=>h.elim) (by kernel_rfl) (okInl (by kernel_rfl)) (fun _ _ _ _ _ h=>h.elim)
theorem condC {c:Bool} {p q:Prop} (h1:c=true->p) (h0:c=false->q):bif c then p else q:=by cases c;exact h0 rfl;exact h1 rfl
abbrev vB (l:List Int):List Value:=l.map (.int .u8)
theorem wu8 {x:Int} (h:0<=x/\x<=255):IntKind.wrap .u8 x=x:=by
 rw [show IntKind.wrap .u8 x=x % 256 from rfl];omega
theorem wu8b (x:Int):0<=IntKind.wrap .u8 x/\IntKind.wrap .u8 x<=255:=by
 rw [show IntKind.wrap .u8 x=x % 256 from rfl];omega
abbrev FRow:=Int×Option Addr×Nat×Nat
def rowV (r:FRow):List Value:=[.int .i64 r.1,.slice r.2.1 r.2.2.1 r.2.2.2]
def FLr (E:Mem) (rs:List FRow) (ms:List (Int×List Int)):Prop:=rs.length=ms.length/\∀ (i:Nat) r m,rs[i]? =some r->ms[i]? =some m->r.1=m.1/\Bs E r.2.1 r.2.2.1 r.2.2.2 m.2
theorem FLr.mono {E E':Mem} {rs:List FRow} {ms:List (Int×List Int)} (h:FLr E rs ms) (he:Mem.le E E'):FLr E' rs ms:=⟨h.1,fun i r m h1 h2=>⟨(h.2 i r m h1 h2).1,(h.2 i r m h1 h2).2.mono he⟩⟩
theorem FLr.nil (E:Mem):FLr E [] []:=⟨rfl,fun i r m h=>by simp at h⟩
theorem FLr.snoc {E:Mem} {rs:List FRow} {ms:List (Int×List Int)} (h:FLr E rs ms) {r:FRow} {m:Int×List Int} (h1:r.1=m.1) (h2:Bs E r.2.1 r.2.2.1 r.2.2.2 m.2):FLr E (rs++[r]) (ms++[m]):=by
 refine ⟨by simp [h.1],fun i r' m' g1 g2=>?_⟩
 have hl:=h.1
 by_cases hi:i<rs.length
 ·rw [List.getElem?_append_left hi] at g1
  rw [List.getElem?_append_left (by omega)] at g2
  exact h.2 i r' m' g1 g2
 ·rw [List.getElem?_append_right (by omega)] at g1
  rw [List.getElem?_append_right (by omega),← hl] at g2
  cases hk:i-rs.length with
  | zero=>rw [hk] at g1 g2;simp at g1 g2;subst g1;subst g2;exact ⟨h1,h2⟩
  | succ k=>rw [hk] at g1;simp at g1
theorem rows_len (rs:List FRow):(rs.flatMap rowV).length=rs.length*2:=by
 induction rs with
 | nil=>rfl
 | cons r rs ih=>simp only [List.flatMap_cons,List.length_append,ih,rowV,List.length_cons,List.length_nil];omega
theorem rows_snoc (rs:List FRow) (r:FRow):(rs++[r]).flatMap rowV=rs.flatMap rowV++rowV r:=by simp
def FL (E:Mem) (b:Option Addr) (n c:Nat) (ms:List (Int×List Int)):Prop:=∃ rs:List FRow,FLr E rs ms/\ms.length=n/\n<=c/\(n=0\/E (.slice b n c) (rs.flatMap rowV))/\(b=none->n=0)
theorem FL.mono {E E':Mem} {b:Option Addr} {n c:Nat} {ms:List (Int×List Int)} (h:FL E b n c ms) (he:Mem.le E E'):FL E' b n c ms:=
 let ⟨rs,h1,h2,h3,h4,h5⟩:=h;⟨rs,h1.mono he,h2,h3,h4.imp_right (he _ _),h5⟩
theorem FL.nil (E:Mem):FL E none 0 0 []:=⟨[],FLr.nil E,rfl,Nat.le_refl _,.inl rfl,fun _=>rfl⟩
theorem FL.win {E:Mem} {base:Option Addr} {vs:List Value} (h:WinE E base vs) {rs:List FRow} (e:vs=rs.flatMap rowV) {ms:List (Int×List Int)} (hr:FLr E rs ms) {n c:Nat} (hn:ms.length=n) (hc:n<=c):FL E (base.map fun x=>x.add 0) n c ms:=by
 subst e
 have hl:(rs.flatMap rowV).length=n*2:=by rw [rows_len,hr.1,hn]
 have:=h.2 0 (rs.flatMap rowV).length n c (by simp)
 simp only [List.drop_zero] at this
 rw [List.take_of_length_le (Nat.le_refl _)] at this
 refine ⟨rs,hr,hn,hc,.inr this,fun e=>?_⟩
 cases base with
 | none=>have:=h.1 rfl;rw [this] at hl;simp at hl;omega
 | some a=>cases e
def stp (g:Nat->Int->Int) (a:Nat) (zs:List Int):Nat->List Int
 | 0=>zs
 | i+1=>(stp g a zs i).set (a+i) (g i ((stp g a zs i).getD (a+i) 0))
theorem stp_len (g:Nat->Int->Int) (a:Nat) (zs:List Int):∀ i,(stp g a zs i).length=zs.length
 | 0=>rfl
 | i+1=>by simp [stp,stp_len g a zs i]
theorem stp_byte {g:Nat->Int->Int} {a:Nat} {zs:List Int} (hz:∀ z∈zs,0<=z/\z<=255) (hg:∀ i x,0<=g i x/\g i x<=255):∀ i,∀ z∈stp g a zs i,0<=z/\z<=255
 | 0,z,h=>hz z h
 | i+1,z,h=>by
  rcases List.mem_or_eq_of_mem_set h with h|rfl
  ·exact stp_byte hz hg i z h
  ·exact hg _ _
def mems (s:Int) (g:Nat->Int->Int) (a:Nat) (zs:List Int) (n:Nat):List (Int×List Int):=(List.range n).map fun i=>(s,stp g a zs i)
theorem mems_succ (s:Int) (g:Nat->Int->Int) (a:Nat) (zs:List Int) (n:Nat):mems s g a zs (n+1)=mems s g a zs n++[(s,stp g a zs n)]:=by simp [mems,List.range_succ]
theorem mems_len (s:Int) (g:Nat->Int->Int) (a:Nat) (zs:List Int) (n:Nat):(mems s g a zs n).length=n:=by simp [mems]
def band8 (x y:Int):Int:=IntKind.wrap .u8 (((BitVec.ofInt (IntKind.bits .u8) x&&& BitVec.ofInt (IntKind.bits .u8) y).toNat:Nat):Int)
theorem layV_set {zs:List Int} {p:Nat} (h:p<zs.length) (x:Int):layV (vB zs) p [.int .u8 x]=vB (zs.set p x):=by
 unfold layV vB
 rw [← List.map_take,← List.map_drop,List.set_eq_take_append_cons_drop,if_pos h]
 simp
theorem loadV_byte {P:Program} {T:TypeId} (ht:P.underlying T=some (.int .u8)) {zs:List Int} {p:Nat} (h:p<zs.length):LoadV P T (vB zs) p (.raw (.int .u8 (zs.getD p 0))):=by
 unfold LoadV loadW
 rw [ht]
 simp [h]
theorem vB_one (zs:List Int):∀ x:Value,List.Mem x (vB zs)->x.oneCell'=true:=fun x hx=>by
 obtain ⟨z,_,rfl⟩:=List.mem_map.1 hx
 rfl
noncomputable def F2:Cx:={ P:=Try.prog,inl:=fun f=>List.contains [80,72,61] f,tab:=fun _ _ _ _=>False,isB:=fun _=>false,tabB:=fun _ _ _ _ _=>False,opt:={ unroll:=0,carry:=[7] },muts:=(fun o=>match o with | .call { callee:=.value (.tmp 20),.. }=>true| .call { callee:=.value (.func 61),.. }=>true| .call { callee:=.value (.tmp 40),.. }=>true|o=>mutsD o) }
theorem okF2:CxOK F2:=CxOK.four (fun _ _ _ _ h=>h.elim) (by kernel_rfl) (okInl (by kernel_rfl)) (fun _ _ _ _ _ h=>h.elim)
abbrev fr27 (n:Int):List (Option SV):=[some (.clo 79 [] [.loc 2 0,.loc 4 0,.loc 5 0,.loc 3 0]),oI n,none,none,oL none 0 0,oc 7 0,none,oI n,os 6 0 0 (Int.toNat n),
 some (.clo 79 [] [.loc 2 0,.loc 4 0,.loc 5 0,.loc 3 0]),none,none,none,none,none,none]
noncomputable def FY (n:Int) (c:Rc):Cx:=YCx F2 F1 6 (fr27 n) (sub (bodyOf Try.f73) [1,1,0,1,0]) c
def sh33 (s:Int) (a:Nat) (b db:Option Addr) (l c dl dc m:Nat) (rc:Rc) (i cap tot:Nat) (vs:List Value) (zs:List Int) (E:Mem):St:=⟨[some (.raw (.func (.yield rc.l) #[] #[])),oc 2 0,oc 4 0,oc 5 0,oc 3 0,none,oc 9 0,oI (i:Nat)]++List.replicate 43 none,
 [⟨24,.lst [I s,L b l c],2,true⟩,⟨22,.lst [L db dl dc],1,true⟩,⟨24,.lst [I s,L b l c],2,true⟩,⟨3,.lst [I (a:Nat)],1,true⟩,⟨3,.lst [I (m:Nat)],1,true⟩,⟨133,.lst [.clo 80 [] [.loc 1 0]],1,true⟩]++[⟨24,.lst [],0,false⟩,⟨32,.lst [.slc 10 0 i cap],1,true⟩,⟨5,.vals (vB zs),l*1,true⟩,⟨24,.lst [I s,.slc 8 0 l l],2,true⟩,⟨24,.vals vs,tot,true⟩],E⟩
def sh5 (s:Int) (a:Nat) (b db:Option Addr) (l c dl dc m:Nat) (n cap tot:Nat) (vs:List Value) (E:Mem):St:=⟨[some (.clo 79 [] [.loc 2 0,.loc 4 0,.loc 5 0,.loc 3 0]),none,none,none,none,oc 6 0]++List.replicate 10 none,
 [⟨24,.lst [I s,L b l c],2,true⟩,⟨22,.lst [L db dl dc],1,true⟩,⟨24,.lst [I s,L b l c],2,true⟩,⟨3,.lst [I (a:Nat)],1,true⟩,⟨3,.lst [I (m:Nat)],1,true⟩,⟨133,.lst [.clo 80 [] [.loc 1 0]],1,true⟩]++[⟨32,.lst [.slc 7 0 n cap],1,true⟩,⟨24,.vals vs,tot,true⟩],E⟩
structure I33 (E0 E:Mem) (s:Int) (g:Nat->Int->Int) (a l m:Nat) (zs0:List Int) (i cap tot:Nat) (vs:List Value) (zs:List Int) (rs:List FRow):Prop where
 le:Mem.le E0 E
 lm:1<=l/\l<=16384/\a+m<=l
 len:zs0.length=l
 byte:∀ z∈zs0,0<=z/\z<=255
 im:i<=m
 cap:i<=cap/\cap*2<=tot
 vs:i*2<=vs.length/\List.take (i*2) vs=rs.flatMap rowV
 zs:zs=stp g a zs0 i
 rs:FLr E rs (mems s g a zs0 i)
def gP (ds:List Int):Nat->Int->Int:=fun i x=>band8 x (ds.getD i 0)
theorem cn27 {K:KT} {s:Int} {a:Nat} {b db:Option Addr} {l c dl dc m k cap tot:Nat} {n0:Int} {vs x8 x12:List Value} {t8 t12:Nat} {b3 b4:Option Addr} {l3 c3 l4 c4:Nat}
  (h:Ct F1 6 Try.f73 [1,1,1] 6 K (sh5 s a b db l c dl dc m k cap tot vs E)):
  Pn F1 6 Try.f73 [1,1,0,1,0] 6 K ⟨fr27 n0,[⟨24,.lst [I s,L b l c],2,true⟩,⟨22,.lst [L db dl dc],1,true⟩,⟨24,.lst [I s,L b l c],2,true⟩,⟨3,.lst [I (a:Nat)],1,true⟩,⟨3,.lst [I (m:Nat)],1,true⟩,⟨133,.lst [.clo 80 [] [.loc 1 0]],1,true⟩]++[⟨24,.lst [],0,false⟩,⟨32,.lst [.slc 15 0 k cap],1,true⟩,⟨5,.vals x8,t8,true⟩,⟨24,.lst [I s,.slc 8 0 l l],2,true⟩,⟨24,.lst [],0,false⟩,⟨5,.lst [],0,false⟩,⟨5,.vals x12,t12,false⟩,⟨24,.lst [I s,L b3 l3 c3],2,true⟩,⟨24,.lst [I s,L b4 l4 c4],2,true⟩,⟨24,.vals vs,tot,true⟩],E⟩:=by
 refine sm_ (?_:Ct F1 6 Try.f73 [1,1,1] 6 K { fr:=some (SV.clo 79 [] [SV.loc 2 0,SV.loc 4 0,SV.loc 5 0,SV.loc 3 0])::oI n0::none::none::oL none 0 0::oc 7 0::none::oI n0::os 6 0 0 (Int.toNat n0)::some (SV.clo 79 [] [SV.loc 2 0,SV.loc 4 0,SV.loc 5 0,SV.loc 3 0])::no4 (no2 []),bx:=[(⟨24,.lst [I s,L b l c],2,true⟩:Box),⟨22,.lst [L db dl dc],1,true⟩,⟨24,.lst [I s,L b l c],2,true⟩,⟨3,.lst [I (NI a)],1,true⟩,⟨3,.lst [I (NI m)],1,true⟩,⟨133,.lst [SV.clo 80 [] [SV.loc 1 0]],1,true⟩,⟨24,.lst [],0,false⟩,⟨32,.lst [SV.slc 15 0 k cap],1,true⟩,⟨5,.vals x8,t8,true⟩,⟨24,.lst [I s,SV.slc 8 0 l l],2,true⟩,⟨24,.lst [],0,false⟩,⟨5,.lst [],0,false⟩,⟨5,.vals x12,t12,false⟩,⟨24,.lst [I s,L b3 l3 c3],2,true⟩,⟨24,.lst [I s,L b4 l4 c4],2,true⟩,⟨24,.vals vs,tot,true⟩],E:=E:St })
 delta NI no2 no4
 exact Ct_re [some 0,some 1,some 2,some 3,some 4,some 5,some 7,some 15] h (wkG mr_)
theorem rnd33 {E0:Mem} {K:KT} {s:Int} {a:Nat} {b db:Option Addr} {l c dl dc m:Nat} {rc:Rc} {i cap tot:Nat} {vs:List Value} {zs zs0 ds:List Int} {rs:List FRow} {n0:Int} (hn:n0=((m+1:Nat):Int))
  (hI:I33 E0 E s (gP ds) a l m zs0 i cap tot vs zs rs) (hd:Bs E0 db dl dc ds) (hdl:m=dl)
  (hK:∀ (E':Mem) (rs:List FRow) (vs:List Value) (cap tot:Nat),Mem.le E0 E'->m+1<=cap->cap*2<=tot->vs=rs.flatMap rowV->FLr E' rs (mems s (gP ds) a zs0 (m+1))->Ct F1 6 Try.f73 [1,1,1] 6 K (sh5 s a b db l c dl dc m (m+1) cap tot vs E'))
  (ih:∀ (E':Mem) (cap tot:Nat) (vs:List Value) (zs:List Int) (rs:List FRow),i<m->I33 E0 E' s (gP ds) a l m zs0 (i+1) cap tot vs zs rs->
   Lp (FY n0 rc) 6 Try.f79 [1,1,1,0] 8 (fun _ bx E=>Cn F1 6 Try.f73 [1,1,0,1,0] 6 K { fr:=fr27 n0,bx:=bx,E:=E }) (sh33 s a b db l c dl dc m rc (i+1) cap tot vs zs E')):
  Rnd (FY n0 rc) 6 Try.f79 [1,1,1,0] 8 (fun _ bx E=>Cn F1 6 Try.f73 [1,1,0,1,0] 6 K { fr:=fr27 n0,bx:=bx,E:=E }) (sh33 s a b db l c dl dc m rc i cap tot vs zs E):=by
 refine sm_ (?_:Sx.Alike al2 (∀ (r:Bool),(r=true->Sx.Alike al2 (l=0))->bif r then rc.l=rc.l/\i*2<=List.length (Row.cells (Row.vals vs))/\cap*2<=tot/\i<=cap/\req ((i+1)*32<=140737488355328) (∀ (cap' tot':Nat),i+1<=cap'->cap'*2<=tot'->Sx.Alike al2 (bif bif true then decide ((NI i)<(NI m)) else false then req ((0:Int)<=WI ((NI a)+(NI i))/\WI ((NI a)+(NI i))<(NI l)) (∃ (n:Int),LoadV (FY n0 rc).P 5 (vB zs) (0+Int.toNat (WI ((NI a)+(NI i)))*1) (SV.raw (U8 n))/\Sx.Alike (AlikeT.n al2 (AlikeT.n al2 AlikeT.l)) (req (0<=(NI i)/\(NI i)<(NI dl)) ((∃ (cs:List Value),E (VS db dl dc) cs/\(cs=[]->False))/\∃ (n_1:Int),LoadE (FY n0 rc).P E 5 (VS db dl dc) (Int.toNat (NI i)*1) (SV.raw (U8 n_1))/\req ((0:Int)<=WI ((NI a)+(NI i))/\WI ((NI a)+(NI i))<(NI l)) (0+Int.toNat (WI ((NI a)+(NI i)))*1+1<=List.length (vB zs)/\Lp (FY n0 rc) 6 Try.f79 [1,1,1,0] 8 (fun (x:SV) (bx:List Box) (E:Mem)=>Cn F1 6 Try.f73 [1,1,0,1,0] 6 K { fr:=fr27 n0,bx:=bx,E:=E:St }) { fr:=some (SV.raw (Value.func (Fn.yield rc.l) #[] #[]))::oc 2 0::oc 4 0::oc 5 0::oc 3 0::none::oc 9 0::oI (WI ((NI i)+1))::no32 (no8 (no2 (none::[]))),bx:=[(⟨24,.lst [I s,L b l c],2,true⟩:Box),⟨22,.lst [L db dl dc],1,true⟩,⟨24,.lst [I s,L b l c],2,true⟩,⟨3,.lst [I (NI a)],1,true⟩,⟨3,.lst [I (NI m)],1,true⟩,⟨133,.lst [SV.clo 80 [] [SV.loc 1 0]],1,true⟩,⟨24,.lst [],0,false⟩,⟨32,.lst [SV.slc 13 0 (i+1) cap'],1,true⟩,⟨5,.vals (layV (vB zs) (0+Int.toNat (WI ((NI a)+(NI i)))*1) [U8 (IntKind.wrap IntKind.u8 (NI (BitVec.toNat (BitVec.ofInt (IntKind.bits IntKind.u8) n&&& BitVec.ofInt (IntKind.bits IntKind.u8) n_1))))]),l*1,true⟩,⟨24,.lst [I s,SV.slc 8 0 l l],2,true⟩,⟨24,.lst [],0,false⟩,⟨24,.lst [I s,L none 0 0],2,true⟩,⟨24,.lst [I s,L none 0 0],2,true⟩,⟨24,.vals (List.take (i*2) vs++[Value.int IntKind.i64 s,VS none 0 0]),tot',true⟩],E:=E:St })))) else Cn F1 6 Try.f73 [1,1,0,1,0] 6 K { fr:=some (SV.clo 79 [] [SV.loc 2 0,SV.loc 4 0,SV.loc 5 0,SV.loc 3 0])::oI n0::none::none::oL none 0 0::oc 7 0::none::oI n0::os 6 0 0 (Int.toNat n0)::some (SV.clo 79 [] [SV.loc 2 0,SV.loc 4 0,SV.loc 5 0,SV.loc 3 0])::no4 (no2 []),bx:=[(⟨24,.lst [I s,L b l c],2,true⟩:Box),⟨22,.lst [L db dl dc],1,true⟩,⟨24,.lst [I s,L b l c],2,true⟩,⟨3,.lst [I (NI a)],1,true⟩,⟨3,.lst [I (NI m)],1,true⟩,⟨133,.lst [SV.clo 80 [] [SV.loc 1 0]],1,true⟩,⟨24,.lst [],0,false⟩,⟨32,.lst [SV.slc 13 0 (i+1) cap'],1,true⟩,⟨5,.vals (vB zs),l*1,true⟩,⟨24,.lst [I s,SV.slc 8 0 l l],2,true⟩,⟨24,.lst [],0,false⟩,⟨24,.lst [I s,L none 0 0],2,true⟩,⟨24,.lst [I s,L none 0 0],2,true⟩,⟨24,.vals (List.take (i*2) vs++[Value.int IntKind.i64 s,VS none 0 0]),tot',true⟩],E:=E:St })) else 0+l*1<=List.length (vB zs)/\(∀ (x:Value),List.Mem x (vB zs)->Value.oneCell' x=true)/\0<=0/\0<=0/\0<=0/\req ((0+l)*1<=140737488355328) (∀ (cap' tot':Nat),0+l<=cap'->cap'*1<=tot'->rc.l=rc.l/\∀ (base:Option Addr) (E':Mem),Mem.le E E'->WinE E' base ([]++List.take (l*1) (List.drop 0 (vB zs)))->i*2<=List.length (Row.cells (Row.vals vs))/\cap*2<=tot/\i<=cap/\req ((i+1)*32<=140737488355328) (∀ (cap'_1 tot'_1:Nat),i+1<=cap'_1->cap'_1*2<=tot'_1->Sx.Alike al2 (bif bif true then decide ((NI i)<(NI m)) else false then req ((0:Int)<=WI ((NI a)+(NI i))/\WI ((NI a)+(NI i))<(NI l)) (∃ (n:Int),LoadV (FY n0 rc).P 5 (vB zs) (0+Int.toNat (WI ((NI a)+(NI i)))*1) (SV.raw (U8 n))/\Sx.Alike (AlikeT.n al2 (AlikeT.n al2 AlikeT.l)) (req (0<=(NI i)/\(NI i)<(NI dl)) ((∃ (cs:List Value),E' (VS db dl dc) cs/\(cs=[]->False))/\∃ (n_1:Int),LoadE (FY n0 rc).P E' 5 (VS db dl dc) (Int.toNat (NI i)*1) (SV.raw (U8 n_1))/\req ((0:Int)<=WI ((NI a)+(NI i))/\WI ((NI a)+(NI i))<(NI l)) (0+Int.toNat (WI ((NI a)+(NI i)))*1+1<=List.length (vB zs)/\Lp (FY n0 rc) 6 Try.f79 [1,1,1,0] 8 (fun (x:SV) (bx:List Box) (E:Mem)=>Cn F1 6 Try.f73 [1,1,0,1,0] 6 K { fr:=fr27 n0,bx:=bx,E:=E:St }) { fr:=some (SV.raw (Value.func (Fn.yield rc.l) #[] #[]))::oc 2 0::oc 4 0::oc 5 0::oc 3 0::none::oc 9 0::oI (WI ((NI i)+1))::no32 (no8 (no2 (none::[]))),bx:=[(⟨24,.lst [I s,L b l c],2,true⟩:Box),⟨22,.lst [L db dl dc],1,true⟩,⟨24,.lst [I s,L b l c],2,true⟩,⟨3,.lst [I (NI a)],1,true⟩,⟨3,.lst [I (NI m)],1,true⟩,⟨133,.lst [SV.clo 80 [] [SV.loc 1 0]],1,true⟩,⟨24,.lst [],0,false⟩,⟨32,.lst [SV.slc 15 0 (i+1) cap'_1],1,true⟩,⟨5,.vals (layV (vB zs) (0+Int.toNat (WI ((NI a)+(NI i)))*1) [U8 (IntKind.wrap IntKind.u8 (NI (BitVec.toNat (BitVec.ofInt (IntKind.bits IntKind.u8) n&&& BitVec.ofInt (IntKind.bits IntKind.u8) n_1))))]),l*1,true⟩,⟨24,.lst [I s,SV.slc 8 0 l l],2,true⟩,⟨24,.lst [],0,false⟩,⟨5,.lst [],0,false⟩,⟨5,.vals ([]++List.take (l*1) (List.drop 0 (vB zs))),tot',false⟩,⟨24,.lst [I s,L (Option.map (fun (x:Addr)=>Addr.add x 0) base) (0+l) cap'],2,true⟩,⟨24,.lst [I s,L (Option.map (fun (x:Addr)=>Addr.add x 0) base) (0+l) cap'],2,true⟩,⟨24,.vals (List.take (i*2) vs++[Value.int IntKind.i64 s,slcAs base 0 (0+l) cap']),tot'_1,true⟩],E:=E':St })))) else Cn F1 6 Try.f73 [1,1,0,1,0] 6 K { fr:=some (SV.clo 79 [] [SV.loc 2 0,SV.loc 4 0,SV.loc 5 0,SV.loc 3 0])::oI n0::none::none::oL none 0 0::oc 7 0::none::oI n0::os 6 0 0 (Int.toNat n0)::some (SV.clo 79 [] [SV.loc 2 0,SV.loc 4 0,SV.loc 5 0,SV.loc 3 0])::no4 (no2 []),bx:=[(⟨24,.lst [I s,L b l c],2,true⟩:Box),⟨22,.lst [L db dl dc],1,true⟩,⟨24,.lst [I s,L b l c],2,true⟩,⟨3,.lst [I (NI a)],1,true⟩,⟨3,.lst [I (NI m)],1,true⟩,⟨133,.lst [SV.clo 80 [] [SV.loc 1 0]],1,true⟩,⟨24,.lst [],0,false⟩,⟨32,.lst [SV.slc 15 0 (i+1) cap'_1],1,true⟩,⟨5,.vals (vB zs),l*1,true⟩,⟨24,.lst [I s,SV.slc 8 0 l l],2,true⟩,⟨24,.lst [],0,false⟩,⟨5,.lst [],0,false⟩,⟨5,.vals ([]++List.take (l*1) (List.drop 0 (vB zs))),tot',false⟩,⟨24,.lst [I s,L (Option.map (fun (x:Addr)=>Addr.add x 0) base) (0+l) cap'],2,true⟩,⟨24,.lst [I s,L (Option.map (fun (x:Addr)=>Addr.add x 0) base) (0+l) cap'],2,true⟩,⟨24,.vals (List.take (i*2) vs++[Value.int IntKind.i64 s,slcAs base 0 (0+l) cap']),tot'_1,true⟩],E:=E':St })))))
 delta WI NI U8 VS no2 no4 no8 no32
 obtain ⟨hle,⟨l1,l2,l3⟩,hlen,hbyte,him,⟨hc1,hc2⟩,⟨hv1,hv2⟩,hzs,hrs⟩:=hI
 have hzl:zs.length=l:=by rw [hzs,stp_len];exact hlen
 have hzb:∀ z∈zs,0<=z/\z<=255:=by rw [hzs];exact stp_byte hbyte (fun i x=>wu8b _) i
 have him2:i<=16384:=by omega
 have eai:IntKind.wrap .i64 ((a:Int)+(i:Int))=((a+i:Nat):Int):=by rw [wrap_i64 (by omega)];simp
 have ei1:IntKind.wrap .i64 ((i:Int)+1)=((i+1:Nat):Int):=by rw [wrap_i64 (by omega)];simp
 have hld:zs.length<=l:=Nat.le_of_eq hzl
 refine alike (fun r hr=>condC (fun h1=>by subst h1;exact absurd (show l=0 from (hr rfl).1) (by omega)) (fun _=>?_))
 refine ⟨by simp only [List.length_map,hzl];omega,vB_one zs,Nat.le_refl _,Nat.le_refl _,Nat.le_refl _,req_intro (by omega) (fun cap1 tot1 c1 c2=>⟨rfl,fun base E1 hE1 hW=>⟨?_,hc2,hc1,req_intro (by omega) (fun cap2 tot2 c3 c4=>?_)⟩⟩)⟩
 ·simp only [Row.cells,List.length_map];exact hv1
 have etk:[]++List.take (l*1) (List.drop 0 (vB zs))=vB zs:=by rw [List.nil_append,List.drop_zero,List.take_of_length_le (by simp only [List.length_map,hzl];omega)]
 rw [etk] at hW
 have hBs:Bs E1 (base.map fun x=>x.add 0) (0+l) cap1 zs:=Bs.win hW rfl (by omega) c1 hzb
 have hrs1:FLr E1 (rs++[(s,base.map fun x=>x.add 0,0+l,cap1)]) (mems s (gP ds) a zs0 (i+1)):=by
  rw [mems_succ];exact (hrs.mono hE1).snoc rfl (by rw [← hzs];exact hBs)
 have hvs1:List.take (i*2) vs++[Value.int IntKind.i64 s,slcAs base 0 (0+l) cap1]=(rs++[(s,base.map fun x=>x.add 0,0+l,cap1)]).flatMap rowV:=by
  rw [rows_snoc,hv2];rfl
 have hrl:rs.length=i:=by rw [hrs.1,mems_len]
 have hle1:Mem.le E0 E1:=mt_ hle hE1
 refine alike (condC (fun hlt=>?_) (fun hge=>?_))
 ·have hlt:i<m:=by simpa using hlt
  have hal:a+i<l:=by omega
  have hget:zs.getD (a+i) 0=zs[a+i]'(by omega):=by rw [List.getD_eq_getElem?_getD,List.getElem?_eq_getElem (by omega)];rfl
  refine req_intro (by rw [eai];omega) ⟨zs.getD (a+i) 0,?_,alike (req_intro (by omega) ⟨(hd.mono hle1).ne (i:=i) (by omega),ds.getD i 0,?_,req_intro (by rw [eai];omega) ⟨?_,?_⟩⟩)⟩
  ·rw [eai]
   show LoadV _ _ _ (0+((a+i:Nat):Int).toNat*1) _
   rw [show 0+((a+i:Nat):Int).toNat*1=a+i by omega]
   exact loadV_byte rfl (by omega)
  ·exact (hd.mono hle1).load (i:=i) rfl (by omega)
  ·rw [eai];simp only [List.length_map];omega
  ·have e1:0+Int.toNat (IntKind.wrap IntKind.i64 ((a:Int)+(i:Int)))*1=a+i:=by rw [eai];omega
   rw [e1,ei1,layV_set (by omega)]
   refine Lp_re [some 0,some 1,some 2,some 3,some 4,some 5,some 6,some 7,some 8,some 9,some 15] (ih E1 cap2 tot2 _ _ _ hlt ⟨hle1,⟨l1,l2,l3⟩,hlen,hbyte,by omega,⟨c3,c4⟩,⟨?_,?_⟩,?_,hrs1⟩) (wkG mr_ (h6:=(by repeat' first|exact True.intro|exact rfl|exact Or.inl rfl|exact (by decide:6<16)|refine And.intro ?_ ?_)))
   ·rw [hvs1,rows_len];simp [hrl]
   ·rw [hvs1,List.take_of_length_le (by rw [rows_len];simp [hrl])]
   ·rw [hzs];rfl
 ·have hge:i=m:=by simp at hge;omega
  subst hge
  subst hn
  exact Cn_intro (cn27 (hK E1 _ _ cap2 tot2 hle1 c3 c4 hvs1 hrs1))
abbrev Q27 (K:KT) (n0:Int):KT:=fun _ bx E=>Cn F1 6 Try.f73 [1,1,0,1,0] 6 K { fr:=fr27 n0,bx:=bx,E:=E }
theorem lp33 {E0:Mem} {K:KT} {s:Int} {a:Nat} {b db:Option Addr} {l c dl dc m:Nat} {rc:Rc} {zs0 ds:List Int} {n0:Int} (hn:n0=((m+1:Nat):Int)) (hd:Bs E0 db dl dc ds) (hdl:m=dl) (hrc:CxOK (FY n0 rc))
  (hK:∀ (E':Mem) (rs:List FRow) (vs:List Value) (cap tot:Nat),Mem.le E0 E'->m+1<=cap->cap*2<=tot->vs=rs.flatMap rowV->FLr E' rs (mems s (gP ds) a zs0 (m+1))->Ct F1 6 Try.f73 [1,1,1] 6 K (sh5 s a b db l c dl dc m (m+1) cap tot vs E'))
  {i cap tot:Nat} {vs:List Value} {zs:List Int} {rs:List FRow} {E:Mem} (hI:I33 E0 E s (gP ds) a l m zs0 i cap tot vs zs rs):
  Lp (FY n0 rc) 6 Try.f79 [1,1,1,0] 8 (Q27 K n0) (sh33 s a b db l c dl dc m rc i cap tot vs zs E):=by
 have key:=Lp_ind hrc (n:=6) (fn:=Try.f79) (p:=[1,1,1,0]) (n0:=8) (K:=Q27 K n0)
  (fun x:{x:Mem×Nat×Nat×Nat×List Value×List Int×List FRow//I33 E0 x.1 s (gP ds) a l m zs0 x.2.1 x.2.2.1 x.2.2.2.1 x.2.2.2.2.1 x.2.2.2.2.2.1 x.2.2.2.2.2.2}=>sh33 s a b db l c dl dc m rc x.1.2.1 x.1.2.2.1 x.1.2.2.2.1 x.1.2.2.2.2.1 x.1.2.2.2.2.2.1 x.1.1)
  (fun x=>m-x.1.2.1) (fun x ih=>rnd33 hn x.2 hd hdl hK fun E' cap tot vs zs rs hlt h'=>ih ⟨⟨E',x.1.2.1+1,cap,tot,vs,zs,rs⟩,h'⟩ (by show m-(_+1)<m-_;omega))
 exact key ⟨⟨E,i,cap,tot,vs,zs,rs⟩,hI⟩
theorem ent33 {K:KT} {s:Int} {a:Nat} {b db:Option Addr} {l c dl dc m:Nat} {rc:Rc} {zs0 ds:List Int} {n0:Int} (hn:n0=((m+1:Nat):Int)) (hd:Bs E db dl dc ds) (hdl:m=dl) (hrc:CxOK (FY n0 rc))
  (hz:Bs E b l c zs0) (hl:1<=l/\l<=16384/\a+m<=l)
  (hK:∀ (E':Mem) (rs:List FRow) (vs:List Value) (cap tot:Nat),Mem.le E E'->m+1<=cap->cap*2<=tot->vs=rs.flatMap rowV->FLr E' rs (mems s (gP ds) a zs0 (m+1))->Ct F1 6 Try.f73 [1,1,1] 6 K (sh5 s a b db l c dl dc m (m+1) cap tot vs E')):
  EntB (FY n0 rc) 6 Try.f79 [.raw (.func (.yield rc.l) #[] #[]),.loc 2 0,.loc 4 0,.loc 5 0,.loc 3 0]
  ([⟨24,.lst [I s,L b l c],2,true⟩,⟨22,.lst [L db dl dc],1,true⟩,⟨24,.lst [I s,L b l c],2,true⟩,⟨3,.lst [I (a:Nat)],1,true⟩,⟨3,.lst [I (m:Nat)],1,true⟩,⟨133,.lst [.clo 80 [] [.loc 1 0]],1,true⟩]++[⟨24,.vals (zerosV [.int .i64 0,.slice none 0 0] (Int.toNat n0)),Int.toNat n0*2,true⟩,⟨32,.lst [.slc 6 0 0 (Int.toNat n0)],1,true⟩]) E (Q27 K n0):=by
 refine sm_ (?_:req (0<=(NI l)/\(NI l)<=(NI l)) (req ((NI l)*1<=(140737488355328:Int)) (∃ (cs:List Value),(cs=[]\/E (VS b l c) cs)/\l*1<=List.length cs/\(∀ (x:Value),List.Mem x cs->Value.oneCell' x=true)/\0+Int.toNat (NI l)*1<=List.length (zerosV [U8 0] (Int.toNat (NI l)))/\Lp (FY n0 rc) 6 Try.f79 [1,1,1,0] 8 (Q27 K n0) { fr:=some (SV.raw (Value.func (Fn.yield rc.l) #[] #[]))::oc 2 0::oc 4 0::oc 5 0::oc 3 0::none::oc 9 0::oI 0::oc 2 0::oI s::oc 2 1::oL b l c::oI (NI l)::os 8 0 (Int.toNat (NI l)) (Int.toNat (NI l))::some (SV.agg [I s,SV.slc 8 0 (Int.toNat (NI l)) (Int.toNat (NI l))])::oc 9 1::os 8 0 (Int.toNat (NI l)) (Int.toNat (NI l))::oc 2 1::oL b l c::oI (NI (min l (Int.toNat (NI l))))::no16 (no8 (no4 (no2 (none::[])))),bx:=[(⟨24,.lst [I s,L b l c],2,true⟩:Box),⟨22,.lst [L db dl dc],1,true⟩,⟨24,.lst [I s,L b l c],2,true⟩,⟨3,.lst [I (NI a)],1,true⟩,⟨3,.lst [I (NI m)],1,true⟩,⟨133,.lst [SV.clo 80 [] [SV.loc 1 0]],1,true⟩,⟨24,.vals (zerosV [Value.int IntKind.i64 0,VS none 0 0] (Int.toNat n0)),Int.toNat n0*2,true⟩,⟨32,.lst [SV.slc 6 0 0 (Int.toNat n0)],1,true⟩,⟨5,.vals (layV (zerosV [U8 0] (Int.toNat (NI l))) 0 (List.take (min l (Int.toNat (NI l))*1) (List.take (l*1) cs))),Int.toNat (NI l)*1,true⟩,⟨24,.lst [I s,SV.slc 8 0 (Int.toNat (NI l)) (Int.toNat (NI l))],2,true⟩],E:=E:St })))
 delta NI U8 VS no2 no4 no8 no16
 obtain ⟨l1,l2,l3⟩:=hl
 obtain ⟨t1,t2,t3⟩:=hz.src
 have hzl:=hz.2.1
 refine req_intro (by omega) (req_intro (by simp;omega) ⟨_,t1,t2,t3,?_,?_⟩)
 ·simp [zerosV]
 have hn2:Int.toNat n0=m+1:=by omega
 have e1:layV (zerosV [Value.int IntKind.u8 0] (Int.toNat (l:Int))) 0 (List.take (min l (Int.toNat (l:Int))*1) (List.take (l*1) (zs0.map (Value.int .u8))))=vB zs0:=by
  rw [Int.toNat_natCast,Nat.min_self,List.take_of_length_le (l:=List.take _ _) (by simp only [List.length_take,List.length_map];omega),List.take_of_length_le (by simp;omega)]
  unfold layV
  rw [List.take_zero,List.nil_append,List.drop_eq_nil_of_le (by simp [zerosV];omega),List.append_nil]
 rw [e1,Int.toNat_natCast]
 exact Lp_re [some 0,some 1,some 2,some 3,some 4,some 5,some 6,some 7,some 8,some 9,some 6] (lp33 hn hd hdl hrc hK (i:=0) (cap:=Int.toNat n0) (tot:=Int.toNat n0*2) (vs:=zerosV [.int .i64 0,.slice none 0 0] (Int.toNat n0)) (zs:=zs0) (rs:=[]) ⟨mr_,⟨l1,l2,l3⟩,hzl,hz.2.2.2.1,Nat.zero_le _,⟨Nat.zero_le _,Nat.le_refl _⟩,⟨by simp,by simp⟩,rfl,FLr.nil _⟩) (wkG mr_ (h6:=(by repeat' first|exact True.intro|exact rfl|exact Or.inl rfl|exact (by decide:6<10)|refine And.intro ?_ ?_)))
theorem leaf27 {K:KT} {s:Int} {a:Nat} {b db:Option Addr} {l c dl dc m:Nat} {zs0 ds:List Int} {n0:Int} (hn:n0=((m+1:Nat):Int)) (hd:Bs E db dl dc ds) (hdl:m=dl)
  (hz:Bs E b l c zs0) (hl:1<=l/\l<=16384/\a+m<=l)
  (hK:∀ (E':Mem) (rs:List FRow) (vs:List Value) (cap tot:Nat),Mem.le E E'->m+1<=cap->cap*2<=tot->vs=rs.flatMap rowV->FLr E' rs (mems s (gP ds) a zs0 (m+1))->Ct F1 6 Try.f73 [1,1,1] 6 K (sh5 s a b db l c dl dc m (m+1) cap tot vs E')):
  Ct F1 6 Try.f73 [1,1,0,1,0] 6 K ⟨fr27 n0,[⟨24,.lst [I s,L b l c],2,true⟩,⟨22,.lst [L db dl dc],1,true⟩,⟨24,.lst [I s,L b l c],2,true⟩,⟨3,.lst [I (a:Nat)],1,true⟩,⟨3,.lst [I (m:Nat)],1,true⟩,⟨133,.lst [.clo 80 [] [.loc 1 0]],1,true⟩]++[⟨24,.vals (zerosV [.int .i64 0,.slice none 0 0] (Int.toNat n0)),Int.toNat n0*2,true⟩,⟨32,.lst [.slc 6 0 0 (Int.toNat n0)],1,true⟩],E⟩:=
 RfY okF1 okF2 (by kernel_rfl) (by kernel_rfl) Try.func79 ⟨by kernel_rfl,by kernel_rfl⟩ (gf:=79) (gfn:=Try.f79) (first:=[]) (caps:=[.loc 2 0,.loc 4 0,.loc 5 0,.loc 3 0]) (m:=6) (fun rc hrc=>ent33 hn hd hdl hrc hz hl hK) rfl rfl
theorem pc5 {K:KT} {s:Int} {a:Nat} {b db:Option Addr} {l c dl dc m n cap tot:Nat} {vs:List Value} (h:K (.slc 7 0 n cap) (sh5 s a b db l c dl dc m n cap tot vs E).bx E):Pc F1 6 Try.f73 [1,1,1] 6 K (sh5 s a b db l c dl dc m n cap tot vs E):=by
 refine sm_ (?_:K (SV.slc 7 0 n cap) [⟨24,Row.lst [I s,L b l c],2,true⟩,⟨22,Row.lst [L db dl dc],1,true⟩,⟨24,Row.lst [I s,L b l c],2,true⟩,⟨3,Row.lst [I (↑a:Int)],1,true⟩,⟨3,Row.lst [I (↑m:Int)],1,true⟩,⟨133,Row.lst [SV.clo 80 [] [SV.loc 1 0]],1,true⟩,⟨32,Row.lst [SV.slc 7 0 n cap],1,true⟩,⟨24,Row.vals vs,tot,true⟩] E)
 exact h
theorem out27 {K:KT} {s:Int} {a:Nat} {b db:Option Addr} {l c dl dc m n cap tot:Nat} {rs:List FRow} {ms:List (Int×List Int)} (hr:FLr E rs ms) (hn:ms.length=n) (hc:n<=cap)
  (h:∀ (fb:Option Addr) (E':Mem),Mem.le E E'->FL E' fb n cap ms->K (L fb n cap) ([⟨24,.lst [I s,L b l c],2,true⟩,⟨22,.lst [L db dl dc],1,true⟩,⟨24,.lst [I s,L b l c],2,true⟩,⟨3,.lst [I (a:Nat)],1,true⟩,⟨3,.lst [I (m:Nat)],1,true⟩,⟨133,.lst [.clo 80 [] [.loc 1 0]],1,true⟩]) E'):pubB (cloK 6 K) (.slc 7 0 n cap) (sh5 s a b db l c dl dc m n cap tot (rs.flatMap rowV) E).bx E:=by
 refine same (q:=∀ (base:Option Addr) (E2:Mem),Mem.le E E2->WinE E2 base (rs.flatMap rowV)->cloK 6 K (.raw (slcAs base 0 n cap)) ([⟨24,.lst [I s,L b l c],2,true⟩,⟨22,.lst [L db dl dc],1,true⟩,⟨24,.lst [I s,L b l c],2,true⟩,⟨3,.lst [I (a:Nat)],1,true⟩,⟨3,.lst [I (m:Nat)],1,true⟩,⟨133,.lst [.clo 80 [] [.loc 1 0]],1,true⟩]++[⟨32,.lst [.raw (slcAs base 0 n cap)],1,true⟩,⟨24,.vals (rs.flatMap rowV),tot,false⟩]) E2) (by kernel_rfl) ?_
 intro base E2 h1 h2
 exact cloK_intro [some 0,some 1,some 2,some 3,some 4,some 5] (h _ E2 h1 (FL.win h2 rfl (hr.mono h1) hn hc)) (wkG mr_)
theorem s27 {K:KT} {s:Int} {a:Nat} {b db:Option Addr} {l c dl dc m:Nat} {zs0 ds:List Int} {n0:Int} (hn:n0=((m+1:Nat):Int)) (hd:Bs E db dl dc ds) (hdl:m=dl)
  (hz:Bs E b l c zs0) (hl:1<=l/\l<=16384/\a+m<=l)
  (h:∀ (fb:Option Addr) (cap:Nat) (E':Mem),Mem.le E E'->FL E' fb (m+1) cap (mems s (gP ds) a zs0 (m+1))->K (L fb (m+1) cap) ([⟨24,.lst [I s,L b l c],2,true⟩,⟨22,.lst [L db dl dc],1,true⟩,⟨24,.lst [I s,L b l c],2,true⟩,⟨3,.lst [I (a:Nat)],1,true⟩,⟨3,.lst [I (m:Nat)],1,true⟩,⟨133,.lst [.clo 80 [] [.loc 1 0]],1,true⟩]) E'):
  EntB F1 6 Try.f73 [.clo 79 [] [.loc 2 0,.loc 4 0,.loc 5 0,.loc 3 0],I n0] ([⟨24,.lst [I s,L b l c],2,true⟩,⟨22,.lst [L db dl dc],1,true⟩,⟨24,.lst [I s,L b l c],2,true⟩,⟨3,.lst [I (a:Nat)],1,true⟩,⟨3,.lst [I (m:Nat)],1,true⟩,⟨133,.lst [.clo 80 [] [.loc 1 0]],1,true⟩]) E (pubB (cloK 6 K)):=by
 refine sm_ (?_:req ((0:Int)<=(0:Int)/\(0:Int)<=n0) (req (n0*(32:Int)<=(140737488355328:Int)) (Ct F1 6 Try.f73 [1,1,0,1,0] 6 (pubB (cloK 6 K)) { fr:=[some (SV.clo 79 [] [SV.loc 2 0,SV.loc 4 0,SV.loc 5 0,SV.loc 3 0]),oI n0,none,none,oL none 0 0,oc 7 0,none,oI n0,os 6 0 0 (Int.toNat n0),some (SV.clo 79 [] [SV.loc 2 0,SV.loc 4 0,SV.loc 5 0,SV.loc 3 0]),none,none,none,none,none,none],bx:=[(⟨24,Row.lst [I s,L b l c],2,true⟩:Box),⟨22,Row.lst [L db dl dc],1,true⟩,⟨24,Row.lst [I s,L b l c],2,true⟩,⟨3,Row.lst [I (↑a:Int)],1,true⟩,⟨3,Row.lst [I (↑m:Int)],1,true⟩,⟨133,Row.lst [SV.clo 80 [] [SV.loc 1 0]],1,true⟩,⟨24,Row.vals (zerosV [Value.int IntKind.i64 (0:Int),Value.slice none 0 0] (Int.toNat n0)),Int.toNat n0*2,true⟩,⟨32,Row.lst [SV.slc 6 0 0 (Int.toNat n0)],1,true⟩],E:=E:St })))
 refine req_intro (by omega) (req_intro (by omega) (leaf27 hn hd hdl hz hl fun E' rs vs cap tot h1 h2 h3 h4 h5=>?_))
 subst h4
 exact Ct_intro okF1 (pc5 (out27 h5 (by simp [mems_len]) h2 fun fb E2 g1 g2=>h fb cap E2 (mt_ h1 g1) g2))
theorem sem27 {K:KT} {s:Int} {a:Nat} {b db:Option Addr} {l c dl dc m:Nat} {zs0 ds:List Int} {n0:Int} (hn:n0=((m+1:Nat):Int)) (hd:Bs E db dl dc ds) (hdl:m=dl)
  (hz:Bs E b l c zs0) (hl:1<=l/\l<=16384/\a+m<=l)
  (h:∀ (fb:Option Addr) (cap:Nat) (E':Mem),Mem.le E E'->FL E' fb (m+1) cap (mems s (gP ds) a zs0 (m+1))->K (L fb (m+1) cap) ([⟨24,.lst [I s,L b l c],2,true⟩,⟨22,.lst [L db dl dc],1,true⟩,⟨24,.lst [I s,L b l c],2,true⟩,⟨3,.lst [I (a:Nat)],1,true⟩,⟨3,.lst [I (m:Nat)],1,true⟩,⟨133,.lst [.clo 80 [] [.loc 1 0]],1,true⟩]) E'):
  CallSem Try.prog 73 [.clo 79 [] [.loc 2 0,.loc 4 0,.loc 5 0,.loc 3 0],I n0] ([⟨24,.lst [I s,L b l c],2,true⟩,⟨22,.lst [L db dl dc],1,true⟩,⟨24,.lst [I s,L b l c],2,true⟩,⟨3,.lst [I (a:Nat)],1,true⟩,⟨3,.lst [I (m:Nat)],1,true⟩,⟨133,.lst [.clo 80 [] [.loc 1 0]],1,true⟩]) E K:=
 (bsm okF1 Try.func73 (s27 hn hd hdl hz hl h)).pubB.clo
def gE:Nat->Int->Int:=fun _ _=>255
def sh33e (s:Int) (a:Nat) (b:Option Addr) (l c m:Nat) (rc:Rc) (i cap tot:Nat) (vs:List Value) (zs:List Int) (E:Mem):St:=⟨[some (.raw (.func (.yield rc.l) #[] #[])),oc 2 0,oc 4 0,oc 5 0,oc 3 0,none,oc 9 0,oI (i:Nat)]++List.replicate 43 none,
 [⟨24,.lst [I s,L b l c],2,true⟩,⟨24,.lst [I s,L b l c],2,true⟩,⟨24,.lst [I s,L b l c],2,true⟩,⟨3,.lst [I (a:Nat)],1,true⟩,⟨3,.lst [I (m:Nat)],1,true⟩,⟨133,.lst [.clo 72 [] []],1,true⟩]++[⟨24,.lst [],0,false⟩,⟨32,.lst [.slc 10 0 i cap],1,true⟩,⟨5,.vals (vB zs),l*1,true⟩,⟨24,.lst [I s,.slc 8 0 l l],2,true⟩,⟨24,.vals vs,tot,true⟩],E⟩
def sh5e (s:Int) (a:Nat) (b:Option Addr) (l c m:Nat) (n cap tot:Nat) (vs:List Value) (E:Mem):St:=⟨[some (.clo 79 [] [.loc 2 0,.loc 4 0,.loc 5 0,.loc 3 0]),none,none,none,none,oc 6 0]++List.replicate 10 none,
 [⟨24,.lst [I s,L b l c],2,true⟩,⟨24,.lst [I s,L b l c],2,true⟩,⟨24,.lst [I s,L b l c],2,true⟩,⟨3,.lst [I (a:Nat)],1,true⟩,⟨3,.lst [I (m:Nat)],1,true⟩,⟨133,.lst [.clo 72 [] []],1,true⟩]++[⟨32,.lst [.slc 7 0 n cap],1,true⟩,⟨24,.vals vs,tot,true⟩],E⟩
theorem cn27e {K:KT} {s:Int} {a:Nat} {b:Option Addr} {l c m k cap tot:Nat} {n0:Int} {vs x8 x12:List Value} {t8 t12:Nat} {b3 b4:Option Addr} {l3 c3 l4 c4:Nat}
  (h:Ct F1 6 Try.f73 [1,1,1] 6 K (sh5e s a b l c m k cap tot vs E)):
  Pn F1 6 Try.f73 [1,1,0,1,0] 6 K ⟨fr27 n0,[⟨24,.lst [I s,L b l c],2,true⟩,⟨24,.lst [I s,L b l c],2,true⟩,⟨24,.lst [I s,L b l c],2,true⟩,⟨3,.lst [I (a:Nat)],1,true⟩,⟨3,.lst [I (m:Nat)],1,true⟩,⟨133,.lst [.clo 72 [] []],1,true⟩]++[⟨24,.lst [],0,false⟩,⟨32,.lst [.slc 15 0 k cap],1,true⟩,⟨5,.vals x8,t8,true⟩,⟨24,.lst [I s,.slc 8 0 l l],2,true⟩,⟨24,.lst [],0,false⟩,⟨5,.lst [],0,false⟩,⟨5,.vals x12,t12,false⟩,⟨24,.lst [I s,L b3 l3 c3],2,true⟩,⟨24,.lst [I s,L b4 l4 c4],2,true⟩,⟨24,.vals vs,tot,true⟩],E⟩:=by
 refine sm_ (?_:Ct F1 6 Try.f73 [1,1,1] 6 K { fr:=some (SV.clo 79 [] [SV.loc 2 0,SV.loc 4 0,SV.loc 5 0,SV.loc 3 0])::oI n0::none::none::oL none 0 0::oc 7 0::none::oI n0::os 6 0 0 (Int.toNat n0)::some (SV.clo 79 [] [SV.loc 2 0,SV.loc 4 0,SV.loc 5 0,SV.loc 3 0])::no4 (no2 []),bx:=[(⟨24,.lst [I s,L b l c],2,true⟩:Box),⟨24,.lst [I s,L b l c],2,true⟩,⟨24,.lst [I s,L b l c],2,true⟩,⟨3,.lst [I (NI a)],1,true⟩,⟨3,.lst [I (NI m)],1,true⟩,⟨133,.lst [SV.clo 72 [] []],1,true⟩,⟨24,.lst [],0,false⟩,⟨32,.lst [SV.slc 15 0 k cap],1,true⟩,⟨5,.vals x8,t8,true⟩,⟨24,.lst [I s,SV.slc 8 0 l l],2,true⟩,⟨24,.lst [],0,false⟩,⟨5,.lst [],0,false⟩,⟨5,.vals x12,t12,false⟩,⟨24,.lst [I s,L b3 l3 c3],2,true⟩,⟨24,.lst [I s,L b4 l4 c4],2,true⟩,⟨24,.vals vs,tot,true⟩],E:=E:St })
 delta NI no2 no4
 exact Ct_re [some 0,some 1,some 2,some 3,some 4,some 5,some 7,some 15] h (wkG mr_)
theorem rnd33e {E0:Mem} {K:KT} {s:Int} {a:Nat} {b:Option Addr} {l c m:Nat} {rc:Rc} {i cap tot:Nat} {vs:List Value} {zs zs0:List Int} {rs:List FRow} {n0:Int} (hn:n0=((m+1:Nat):Int))
  (hI:I33 E0 E s (gE) a l m zs0 i cap tot vs zs rs)
  (hK:∀ (E':Mem) (rs:List FRow) (vs:List Value) (cap tot:Nat),Mem.le E0 E'->m+1<=cap->cap*2<=tot->vs=rs.flatMap rowV->FLr E' rs (mems s (gE) a zs0 (m+1))->Ct F1 6 Try.f73 [1,1,1] 6 K (sh5e s a b l c m (m+1) cap tot vs E'))
  (ih:∀ (E':Mem) (cap tot:Nat) (vs:List Value) (zs:List Int) (rs:List FRow),i<m->I33 E0 E' s (gE) a l m zs0 (i+1) cap tot vs zs rs->
   Lp (FY n0 rc) 6 Try.f79 [1,1,1,0] 8 (fun _ bx E=>Cn F1 6 Try.f73 [1,1,0,1,0] 6 K { fr:=fr27 n0,bx:=bx,E:=E }) (sh33e s a b l c m rc (i+1) cap tot vs zs E')):
  Rnd (FY n0 rc) 6 Try.f79 [1,1,1,0] 8 (fun _ bx E=>Cn F1 6 Try.f73 [1,1,0,1,0] 6 K { fr:=fr27 n0,bx:=bx,E:=E }) (sh33e s a b l c m rc i cap tot vs zs E):=by
 refine sm_ (?_:Sx.Alike al2 (∀ (r:Bool),(r=true->Sx.Alike al2 (l=0))->bif r then rc.l=rc.l/\i*2<=List.length (Row.cells (Row.vals vs))/\cap*2<=tot/\i<=cap/\req ((i+1)*32<=140737488355328) (∀ (cap' tot':Nat),i+1<=cap'->cap'*2<=tot'->Sx.Alike al2 (bif bif true then decide ((NI i)<(NI m)) else false then req ((0:Int)<=WI ((NI a)+(NI i))/\WI ((NI a)+(NI i))<(NI l)) (∃ (n:Int),LoadV (FY n0 rc).P 5 (vB zs) (0+Int.toNat (WI ((NI a)+(NI i)))*1) (SV.raw (U8 n))/\Sx.Alike (AlikeT.n al2 (AlikeT.n al2 AlikeT.l)) (Mem.le E E/\req ((0:Int)<=WI ((NI a)+(NI i))/\WI ((NI a)+(NI i))<(NI l)) (0+Int.toNat (WI ((NI a)+(NI i)))*1+1<=List.length (vB zs)/\Lp (FY n0 rc) 6 Try.f79 [1,1,1,0] 8 (fun (x:SV) (bx:List Box) (E:Mem)=>Cn F1 6 Try.f73 [1,1,0,1,0] 6 K { fr:=fr27 n0,bx:=bx,E:=E:St }) { fr:=some (SV.raw (Value.func (Fn.yield rc.l) #[] #[]))::oc 2 0::oc 4 0::oc 5 0::oc 3 0::none::oc 9 0::oI (WI ((NI i)+1))::no32 (no8 (no2 (none::[]))),bx:=[(⟨24,.lst [I s,L b l c],2,true⟩:Box),⟨24,.lst [I s,L b l c],2,true⟩,⟨24,.lst [I s,L b l c],2,true⟩,⟨3,.lst [I (NI a)],1,true⟩,⟨3,.lst [I (NI m)],1,true⟩,⟨133,.lst [SV.clo 72 [] []],1,true⟩,⟨24,.lst [],0,false⟩,⟨32,.lst [SV.slc 13 0 (i+1) cap'],1,true⟩,⟨5,.vals (layV (vB zs) (0+Int.toNat (WI ((NI a)+(NI i)))*1) [U8 255]),l*1,true⟩,⟨24,.lst [I s,SV.slc 8 0 l l],2,true⟩,⟨24,.lst [],0,false⟩,⟨24,.lst [I s,L none 0 0],2,true⟩,⟨24,.lst [I s,L none 0 0],2,true⟩,⟨24,.vals (List.take (i*2) vs++[Value.int IntKind.i64 s,VS none 0 0]),tot',true⟩],E:=E:St }))) else Cn F1 6 Try.f73 [1,1,0,1,0] 6 K { fr:=some (SV.clo 79 [] [SV.loc 2 0,SV.loc 4 0,SV.loc 5 0,SV.loc 3 0])::oI n0::none::none::oL none 0 0::oc 7 0::none::oI n0::os 6 0 0 (Int.toNat n0)::some (SV.clo 79 [] [SV.loc 2 0,SV.loc 4 0,SV.loc 5 0,SV.loc 3 0])::no4 (no2 []),bx:=[(⟨24,.lst [I s,L b l c],2,true⟩:Box),⟨24,.lst [I s,L b l c],2,true⟩,⟨24,.lst [I s,L b l c],2,true⟩,⟨3,.lst [I (NI a)],1,true⟩,⟨3,.lst [I (NI m)],1,true⟩,⟨133,.lst [SV.clo 72 [] []],1,true⟩,⟨24,.lst [],0,false⟩,⟨32,.lst [SV.slc 13 0 (i+1) cap'],1,true⟩,⟨5,.vals (vB zs),l*1,true⟩,⟨24,.lst [I s,SV.slc 8 0 l l],2,true⟩,⟨24,.lst [],0,false⟩,⟨24,.lst [I s,L none 0 0],2,true⟩,⟨24,.lst [I s,L none 0 0],2,true⟩,⟨24,.vals (List.take (i*2) vs++[Value.int IntKind.i64 s,VS none 0 0]),tot',true⟩],E:=E:St })) else 0+l*1<=List.length (vB zs)/\(∀ (x:Value),List.Mem x (vB zs)->Value.oneCell' x=true)/\0<=0/\0<=0/\0<=0/\req ((0+l)*1<=140737488355328) (∀ (cap' tot':Nat),0+l<=cap'->cap'*1<=tot'->rc.l=rc.l/\∀ (base:Option Addr) (E':Mem),Mem.le E E'->WinE E' base ([]++List.take (l*1) (List.drop 0 (vB zs)))->i*2<=List.length (Row.cells (Row.vals vs))/\cap*2<=tot/\i<=cap/\req ((i+1)*32<=140737488355328) (∀ (cap'_1 tot'_1:Nat),i+1<=cap'_1->cap'_1*2<=tot'_1->Sx.Alike al2 (bif bif true then decide ((NI i)<(NI m)) else false then req ((0:Int)<=WI ((NI a)+(NI i))/\WI ((NI a)+(NI i))<(NI l)) (∃ (n:Int),LoadV (FY n0 rc).P 5 (vB zs) (0+Int.toNat (WI ((NI a)+(NI i)))*1) (SV.raw (U8 n))/\Sx.Alike (AlikeT.n al2 (AlikeT.n al2 AlikeT.l)) (Mem.le E' E'/\req ((0:Int)<=WI ((NI a)+(NI i))/\WI ((NI a)+(NI i))<(NI l)) (0+Int.toNat (WI ((NI a)+(NI i)))*1+1<=List.length (vB zs)/\Lp (FY n0 rc) 6 Try.f79 [1,1,1,0] 8 (fun (x:SV) (bx:List Box) (E:Mem)=>Cn F1 6 Try.f73 [1,1,0,1,0] 6 K { fr:=fr27 n0,bx:=bx,E:=E:St }) { fr:=some (SV.raw (Value.func (Fn.yield rc.l) #[] #[]))::oc 2 0::oc 4 0::oc 5 0::oc 3 0::none::oc 9 0::oI (WI ((NI i)+1))::no32 (no8 (no2 (none::[]))),bx:=[(⟨24,.lst [I s,L b l c],2,true⟩:Box),⟨24,.lst [I s,L b l c],2,true⟩,⟨24,.lst [I s,L b l c],2,true⟩,⟨3,.lst [I (NI a)],1,true⟩,⟨3,.lst [I (NI m)],1,true⟩,⟨133,.lst [SV.clo 72 [] []],1,true⟩,⟨24,.lst [],0,false⟩,⟨32,.lst [SV.slc 15 0 (i+1) cap'_1],1,true⟩,⟨5,.vals (layV (vB zs) (0+Int.toNat (WI ((NI a)+(NI i)))*1) [U8 255]),l*1,true⟩,⟨24,.lst [I s,SV.slc 8 0 l l],2,true⟩,⟨24,.lst [],0,false⟩,⟨5,.lst [],0,false⟩,⟨5,.vals ([]++List.take (l*1) (List.drop 0 (vB zs))),tot',false⟩,⟨24,.lst [I s,L (Option.map (fun (x:Addr)=>Addr.add x 0) base) (0+l) cap'],2,true⟩,⟨24,.lst [I s,L (Option.map (fun (x:Addr)=>Addr.add x 0) base) (0+l) cap'],2,true⟩,⟨24,.vals (List.take (i*2) vs++[Value.int IntKind.i64 s,slcAs base 0 (0+l) cap']),tot'_1,true⟩],E:=E':St }))) else Cn F1 6 Try.f73 [1,1,0,1,0] 6 K { fr:=some (SV.clo 79 [] [SV.loc 2 0,SV.loc 4 0,SV.loc 5 0,SV.loc 3 0])::oI n0::none::none::oL none 0 0::oc 7 0::none::oI n0::os 6 0 0 (Int.toNat n0)::some (SV.clo 79 [] [SV.loc 2 0,SV.loc 4 0,SV.loc 5 0,SV.loc 3 0])::no4 (no2 []),bx:=[(⟨24,.lst [I s,L b l c],2,true⟩:Box),⟨24,.lst [I s,L b l c],2,true⟩,⟨24,.lst [I s,L b l c],2,true⟩,⟨3,.lst [I (NI a)],1,true⟩,⟨3,.lst [I (NI m)],1,true⟩,⟨133,.lst [SV.clo 72 [] []],1,true⟩,⟨24,.lst [],0,false⟩,⟨32,.lst [SV.slc 15 0 (i+1) cap'_1],1,true⟩,⟨5,.vals (vB zs),l*1,true⟩,⟨24,.lst [I s,SV.slc 8 0 l l],2,true⟩,⟨24,.lst [],0,false⟩,⟨5,.lst [],0,false⟩,⟨5,.vals ([]++List.take (l*1) (List.drop 0 (vB zs))),tot',false⟩,⟨24,.lst [I s,L (Option.map (fun (x:Addr)=>Addr.add x 0) base) (0+l) cap'],2,true⟩,⟨24,.lst [I s,L (Option.map (fun (x:Addr)=>Addr.add x 0) base) (0+l) cap'],2,true⟩,⟨24,.vals (List.take (i*2) vs++[Value.int IntKind.i64 s,slcAs base 0 (0+l) cap']),tot'_1,true⟩],E:=E':St })))))
 delta WI NI U8 VS no2 no4 no8 no32
 obtain ⟨hle,⟨l1,l2,l3⟩,hlen,hbyte,him,⟨hc1,hc2⟩,⟨hv1,hv2⟩,hzs,hrs⟩:=hI
 have hzl:zs.length=l:=by rw [hzs,stp_len];exact hlen
 have hzb:∀ z∈zs,0<=z/\z<=255:=by rw [hzs];exact stp_byte hbyte (fun i x=>⟨(by decide:(0:Int)<=255),(by decide:(255:Int)<=255)⟩) i
 have him2:i<=16384:=by omega
 have eai:IntKind.wrap .i64 ((a:Int)+(i:Int))=((a+i:Nat):Int):=by rw [wrap_i64 (by omega)];simp
 have ei1:IntKind.wrap .i64 ((i:Int)+1)=((i+1:Nat):Int):=by rw [wrap_i64 (by omega)];simp
 have hld:zs.length<=l:=Nat.le_of_eq hzl
 refine alike (fun r hr=>condC (fun h1=>by subst h1;exact absurd (show l=0 from (hr rfl).1) (by omega)) (fun _=>?_))
 refine ⟨by simp only [List.length_map,hzl];omega,vB_one zs,Nat.le_refl _,Nat.le_refl _,Nat.le_refl _,req_intro (by omega) (fun cap1 tot1 c1 c2=>⟨rfl,fun base E1 hE1 hW=>⟨?_,hc2,hc1,req_intro (by omega) (fun cap2 tot2 c3 c4=>?_)⟩⟩)⟩
 ·simp only [Row.cells,List.length_map];exact hv1
 have etk:[]++List.take (l*1) (List.drop 0 (vB zs))=vB zs:=by rw [List.nil_append,List.drop_zero,List.take_of_length_le (by simp only [List.length_map,hzl];omega)]
 rw [etk] at hW
 have hBs:Bs E1 (base.map fun x=>x.add 0) (0+l) cap1 zs:=Bs.win hW rfl (by omega) c1 hzb
 have hrs1:FLr E1 (rs++[(s,base.map fun x=>x.add 0,0+l,cap1)]) (mems s (gE) a zs0 (i+1)):=by
  rw [mems_succ];exact (hrs.mono hE1).snoc rfl (by rw [← hzs];exact hBs)
 have hvs1:List.take (i*2) vs++[Value.int IntKind.i64 s,slcAs base 0 (0+l) cap1]=(rs++[(s,base.map fun x=>x.add 0,0+l,cap1)]).flatMap rowV:=by
  rw [rows_snoc,hv2];rfl
 have hrl:rs.length=i:=by rw [hrs.1,mems_len]
 have hle1:Mem.le E0 E1:=mt_ hle hE1
 refine alike (condC (fun hlt=>?_) (fun hge=>?_))
 ·have hlt:i<m:=by simpa using hlt
  have hal:a+i<l:=by omega
  have hget:zs.getD (a+i) 0=zs[a+i]'(by omega):=by rw [List.getD_eq_getElem?_getD,List.getElem?_eq_getElem (by omega)];rfl
  refine req_intro (by rw [eai];omega) ⟨zs.getD (a+i) 0,?_,alike ⟨mr_,req_intro (by rw [eai];omega) ⟨?_,?_⟩⟩⟩
  ·rw [eai]
   show LoadV _ _ _ (0+((a+i:Nat):Int).toNat*1) _
   rw [show 0+((a+i:Nat):Int).toNat*1=a+i by omega]
   exact loadV_byte rfl (by omega)
  ·rw [eai];simp only [List.length_map];omega
  ·have e1:0+Int.toNat (IntKind.wrap IntKind.i64 ((a:Int)+(i:Int)))*1=a+i:=by rw [eai];omega
   rw [e1,ei1,layV_set (by omega)]
   refine Lp_re [some 0,some 1,some 2,some 3,some 4,some 5,some 6,some 7,some 8,some 9,some 15] (ih E1 cap2 tot2 _ _ _ hlt ⟨hle1,⟨l1,l2,l3⟩,hlen,hbyte,by omega,⟨c3,c4⟩,⟨?_,?_⟩,?_,hrs1⟩) (wkG mr_ (h6:=(by repeat' first|exact True.intro|exact rfl|exact Or.inl rfl|exact (by decide:6<16)|refine And.intro ?_ ?_)))
   ·rw [hvs1,rows_len];simp [hrl]
   ·rw [hvs1,List.take_of_length_le (by rw [rows_len];simp [hrl])]
   ·rw [hzs];rfl
 ·have hge:i=m:=by simp at hge;omega
  subst hge
  subst hn
  exact Cn_intro (cn27e (hK E1 _ _ cap2 tot2 hle1 c3 c4 hvs1 hrs1))
theorem lp33e {E0:Mem} {K:KT} {s:Int} {a:Nat} {b:Option Addr} {l c m:Nat} {rc:Rc} {zs0:List Int} {n0:Int} (hn:n0=((m+1:Nat):Int)) (hrc:CxOK (FY n0 rc))
  (hK:∀ (E':Mem) (rs:List FRow) (vs:List Value) (cap tot:Nat),Mem.le E0 E'->m+1<=cap->cap*2<=tot->vs=rs.flatMap rowV->FLr E' rs (mems s (gE) a zs0 (m+1))->Ct F1 6 Try.f73 [1,1,1] 6 K (sh5e s a b l c m (m+1) cap tot vs E'))
  {i cap tot:Nat} {vs:List Value} {zs:List Int} {rs:List FRow} {E:Mem} (hI:I33 E0 E s (gE) a l m zs0 i cap tot vs zs rs):
  Lp (FY n0 rc) 6 Try.f79 [1,1,1,0] 8 (Q27 K n0) (sh33e s a b l c m rc i cap tot vs zs E):=by
 have key:=Lp_ind hrc (n:=6) (fn:=Try.f79) (p:=[1,1,1,0]) (n0:=8) (K:=Q27 K n0)
  (fun x:{x:Mem×Nat×Nat×Nat×List Value×List Int×List FRow//I33 E0 x.1 s (gE) a l m zs0 x.2.1 x.2.2.1 x.2.2.2.1 x.2.2.2.2.1 x.2.2.2.2.2.1 x.2.2.2.2.2.2}=>sh33e s a b l c m rc x.1.2.1 x.1.2.2.1 x.1.2.2.2.1 x.1.2.2.2.2.1 x.1.2.2.2.2.2.1 x.1.1)
  (fun x=>m-x.1.2.1) (fun x ih=>rnd33e hn x.2 hK fun E' cap tot vs zs rs hlt h'=>ih ⟨⟨E',x.1.2.1+1,cap,tot,vs,zs,rs⟩,h'⟩ (by show m-(_+1)<m-_;omega))
 exact key ⟨⟨E,i,cap,tot,vs,zs,rs⟩,hI⟩
theorem ent33e {K:KT} {s:Int} {a:Nat} {b:Option Addr} {l c m:Nat} {rc:Rc} {zs0:List Int} {n0:Int} (hn:n0=((m+1:Nat):Int)) (hrc:CxOK (FY n0 rc))
  (hz:Bs E b l c zs0) (hl:1<=l/\l<=16384/\a+m<=l)
  (hK:∀ (E':Mem) (rs:List FRow) (vs:List Value) (cap tot:Nat),Mem.le E E'->m+1<=cap->cap*2<=tot->vs=rs.flatMap rowV->FLr E' rs (mems s (gE) a zs0 (m+1))->Ct F1 6 Try.f73 [1,1,1] 6 K (sh5e s a b l c m (m+1) cap tot vs E')):
  EntB (FY n0 rc) 6 Try.f79 [.raw (.func (.yield rc.l) #[] #[]),.loc 2 0,.loc 4 0,.loc 5 0,.loc 3 0]
  ([⟨24,.lst [I s,L b l c],2,true⟩,⟨24,.lst [I s,L b l c],2,true⟩,⟨24,.lst [I s,L b l c],2,true⟩,⟨3,.lst [I (a:Nat)],1,true⟩,⟨3,.lst [I (m:Nat)],1,true⟩,⟨133,.lst [.clo 72 [] []],1,true⟩]++[⟨24,.vals (zerosV [.int .i64 0,.slice none 0 0] (Int.toNat n0)),Int.toNat n0*2,true⟩,⟨32,.lst [.slc 6 0 0 (Int.toNat n0)],1,true⟩]) E (Q27 K n0):=by
 refine sm_ (?_:req (0<=(NI l)/\(NI l)<=(NI l)) (req ((NI l)*1<=(140737488355328:Int)) (∃ (cs:List Value),(cs=[]\/E (VS b l c) cs)/\l*1<=List.length cs/\(∀ (x:Value),List.Mem x cs->Value.oneCell' x=true)/\0+Int.toNat (NI l)*1<=List.length (zerosV [U8 0] (Int.toNat (NI l)))/\Lp (FY n0 rc) 6 Try.f79 [1,1,1,0] 8 (Q27 K n0) { fr:=some (SV.raw (Value.func (Fn.yield rc.l) #[] #[]))::oc 2 0::oc 4 0::oc 5 0::oc 3 0::none::oc 9 0::oI 0::oc 2 0::oI s::oc 2 1::oL b l c::oI (NI l)::os 8 0 (Int.toNat (NI l)) (Int.toNat (NI l))::some (SV.agg [I s,SV.slc 8 0 (Int.toNat (NI l)) (Int.toNat (NI l))])::oc 9 1::os 8 0 (Int.toNat (NI l)) (Int.toNat (NI l))::oc 2 1::oL b l c::oI (NI (min l (Int.toNat (NI l))))::no16 (no8 (no4 (no2 (none::[])))),bx:=[(⟨24,.lst [I s,L b l c],2,true⟩:Box),⟨24,.lst [I s,L b l c],2,true⟩,⟨24,.lst [I s,L b l c],2,true⟩,⟨3,.lst [I (NI a)],1,true⟩,⟨3,.lst [I (NI m)],1,true⟩,⟨133,.lst [SV.clo 72 [] []],1,true⟩,⟨24,.vals (zerosV [Value.int IntKind.i64 0,VS none 0 0] (Int.toNat n0)),Int.toNat n0*2,true⟩,⟨32,.lst [SV.slc 6 0 0 (Int.toNat n0)],1,true⟩,⟨5,.vals (layV (zerosV [U8 0] (Int.toNat (NI l))) 0 (List.take (min l (Int.toNat (NI l))*1) (List.take (l*1) cs))),Int.toNat (NI l)*1,true⟩,⟨24,.lst [I s,SV.slc 8 0 (Int.toNat (NI l)) (Int.toNat (NI l))],2,true⟩],E:=E:St })))
 delta NI U8 VS no2 no4 no8 no16
 obtain ⟨l1,l2,l3⟩:=hl
 obtain ⟨t1,t2,t3⟩:=hz.src
 have hzl:=hz.2.1
 refine req_intro (by omega) (req_intro (by simp;omega) ⟨_,t1,t2,t3,?_,?_⟩)
 ·simp [zerosV]
 have hn2:Int.toNat n0=m+1:=by omega
 have e1:layV (zerosV [Value.int IntKind.u8 0] (Int.toNat (l:Int))) 0 (List.take (min l (Int.toNat (l:Int))*1) (List.take (l*1) (zs0.map (Value.int .u8))))=vB zs0:=by
  rw [Int.toNat_natCast,Nat.min_self,List.take_of_length_le (l:=List.take _ _) (by simp only [List.length_take,List.length_map];omega),List.take_of_length_le (by simp;omega)]
  unfold layV
  rw [List.take_zero,List.nil_append,List.drop_eq_nil_of_le (by simp [zerosV];omega),List.append_nil]
 rw [e1,Int.toNat_natCast]
 exact Lp_re [some 0,some 1,some 2,some 3,some 4,some 5,some 6,some 7,some 8,some 9,some 6] (lp33e hn hrc hK (i:=0) (cap:=Int.toNat n0) (tot:=Int.toNat n0*2) (vs:=zerosV [.int .i64 0,.slice none 0 0] (Int.toNat n0)) (zs:=zs0) (rs:=[]) ⟨mr_,⟨l1,l2,l3⟩,hzl,hz.2.2.2.1,Nat.zero_le _,⟨Nat.zero_le _,Nat.le_refl _⟩,⟨by simp,by simp⟩,rfl,FLr.nil _⟩) (wkG mr_ (h6:=(by repeat' first|exact True.intro|exact rfl|exact Or.inl rfl|exact (by decide:6<10)|refine And.intro ?_ ?_)))
theorem leaf27e {K:KT} {s:Int} {a:Nat} {b:Option Addr} {l c m:Nat} {zs0:List Int} {n0:Int} (hn:n0=((m+1:Nat):Int))
  (hz:Bs E b l c zs0) (hl:1<=l/\l<=16384/\a+m<=l)
  (hK:∀ (E':Mem) (rs:List FRow) (vs:List Value) (cap tot:Nat),Mem.le E E'->m+1<=cap->cap*2<=tot->vs=rs.flatMap rowV->FLr E' rs (mems s (gE) a zs0 (m+1))->Ct F1 6 Try.f73 [1,1,1] 6 K (sh5e s a b l c m (m+1) cap tot vs E')):
  Ct F1 6 Try.f73 [1,1,0,1,0] 6 K ⟨fr27 n0,[⟨24,.lst [I s,L b l c],2,true⟩,⟨24,.lst [I s,L b l c],2,true⟩,⟨24,.lst [I s,L b l c],2,true⟩,⟨3,.lst [I (a:Nat)],1,true⟩,⟨3,.lst [I (m:Nat)],1,true⟩,⟨133,.lst [.clo 72 [] []],1,true⟩]++[⟨24,.vals (zerosV [.int .i64 0,.slice none 0 0] (Int.toNat n0)),Int.toNat n0*2,true⟩,⟨32,.lst [.slc 6 0 0 (Int.toNat n0)],1,true⟩],E⟩:=
 RfY okF1 okF2 (by kernel_rfl) (by kernel_rfl) Try.func79 ⟨by kernel_rfl,by kernel_rfl⟩ (gf:=79) (gfn:=Try.f79) (first:=[]) (caps:=[.loc 2 0,.loc 4 0,.loc 5 0,.loc 3 0]) (m:=6) (fun rc hrc=>ent33e hn hrc hz hl hK) rfl rfl
theorem pc5e {K:KT} {s:Int} {a:Nat} {b:Option Addr} {l c m n cap tot:Nat} {vs:List Value} (h:K (.slc 7 0 n cap) (sh5e s a b l c m n cap tot vs E).bx E):Pc F1 6 Try.f73 [1,1,1] 6 K (sh5e s a b l c m n cap tot vs E):=by
 refine sm_ (?_:K (SV.slc 7 0 n cap) [⟨24,Row.lst [I s,L b l c],2,true⟩,⟨24,Row.lst [I s,L b l c],2,true⟩,⟨24,Row.lst [I s,L b l c],2,true⟩,⟨3,Row.lst [I (↑a:Int)],1,true⟩,⟨3,Row.lst [I (↑m:Int)],1,true⟩,⟨133,Row.lst [SV.clo 72 [] []],1,true⟩,⟨32,Row.lst [SV.slc 7 0 n cap],1,true⟩,⟨24,Row.vals vs,tot,true⟩] E)
 exact h
theorem out27e {K:KT} {s:Int} {a:Nat} {b:Option Addr} {l c m n cap tot:Nat} {rs:List FRow} {ms:List (Int×List Int)} (hr:FLr E rs ms) (hn:ms.length=n) (hc:n<=cap)
  (h:∀ (fb:Option Addr) (E':Mem),Mem.le E E'->FL E' fb n cap ms->K (L fb n cap) ([⟨24,.lst [I s,L b l c],2,true⟩,⟨24,.lst [I s,L b l c],2,true⟩,⟨24,.lst [I s,L b l c],2,true⟩,⟨3,.lst [I (a:Nat)],1,true⟩,⟨3,.lst [I (m:Nat)],1,true⟩,⟨133,.lst [.clo 72 [] []],1,true⟩]) E'):pubB (cloK 6 K) (.slc 7 0 n cap) (sh5e s a b l c m n cap tot (rs.flatMap rowV) E).bx E:=by
 refine same (q:=∀ (base:Option Addr) (E2:Mem),Mem.le E E2->WinE E2 base (rs.flatMap rowV)->cloK 6 K (.raw (slcAs base 0 n cap)) ([⟨24,.lst [I s,L b l c],2,true⟩,⟨24,.lst [I s,L b l c],2,true⟩,⟨24,.lst [I s,L b l c],2,true⟩,⟨3,.lst [I (a:Nat)],1,true⟩,⟨3,.lst [I (m:Nat)],1,true⟩,⟨133,.lst [.clo 72 [] []],1,true⟩]++[⟨32,.lst [.raw (slcAs base 0 n cap)],1,true⟩,⟨24,.vals (rs.flatMap rowV),tot,false⟩]) E2) (by kernel_rfl) ?_
 intro base E2 h1 h2
 exact cloK_intro [some 0,some 1,some 2,some 3,some 4,some 5] (h _ E2 h1 (FL.win h2 rfl (hr.mono h1) hn hc)) (wkG mr_)
theorem s27e {K:KT} {s:Int} {a:Nat} {b:Option Addr} {l c m:Nat} {zs0:List Int} {n0:Int} (hn:n0=((m+1:Nat):Int))
  (hz:Bs E b l c zs0) (hl:1<=l/\l<=16384/\a+m<=l)
  (h:∀ (fb:Option Addr) (cap:Nat) (E':Mem),Mem.le E E'->FL E' fb (m+1) cap (mems s (gE) a zs0 (m+1))->K (L fb (m+1) cap) ([⟨24,.lst [I s,L b l c],2,true⟩,⟨24,.lst [I s,L b l c],2,true⟩,⟨24,.lst [I s,L b l c],2,true⟩,⟨3,.lst [I (a:Nat)],1,true⟩,⟨3,.lst [I (m:Nat)],1,true⟩,⟨133,.lst [.clo 72 [] []],1,true⟩]) E'):
  EntB F1 6 Try.f73 [.clo 79 [] [.loc 2 0,.loc 4 0,.loc 5 0,.loc 3 0],I n0] ([⟨24,.lst [I s,L b l c],2,true⟩,⟨24,.lst [I s,L b l c],2,true⟩,⟨24,.lst [I s,L b l c],2,true⟩,⟨3,.lst [I (a:Nat)],1,true⟩,⟨3,.lst [I (m:Nat)],1,true⟩,⟨133,.lst [.clo 72 [] []],1,true⟩]) E (pubB (cloK 6 K)):=by
 refine sm_ (?_:req ((0:Int)<=(0:Int)/\(0:Int)<=n0) (req (n0*(32:Int)<=(140737488355328:Int)) (Ct F1 6 Try.f73 [1,1,0,1,0] 6 (pubB (cloK 6 K)) { fr:=[some (SV.clo 79 [] [SV.loc 2 0,SV.loc 4 0,SV.loc 5 0,SV.loc 3 0]),oI n0,none,none,oL none 0 0,oc 7 0,none,oI n0,os 6 0 0 (Int.toNat n0),some (SV.clo 79 [] [SV.loc 2 0,SV.loc 4 0,SV.loc 5 0,SV.loc 3 0]),none,none,none,none,none,none],bx:=[(⟨24,Row.lst [I s,L b l c],2,true⟩:Box),⟨24,Row.lst [I s,L b l c],2,true⟩,⟨24,Row.lst [I s,L b l c],2,true⟩,⟨3,Row.lst [I (↑a:Int)],1,true⟩,⟨3,Row.lst [I (↑m:Int)],1,true⟩,⟨133,Row.lst [SV.clo 72 [] []],1,true⟩,⟨24,Row.vals (zerosV [Value.int IntKind.i64 (0:Int),Value.slice none 0 0] (Int.toNat n0)),Int.toNat n0*2,true⟩,⟨32,Row.lst [SV.slc 6 0 0 (Int.toNat n0)],1,true⟩],E:=E:St })))
 refine req_intro (by omega) (req_intro (by omega) (leaf27e hn hz hl fun E' rs vs cap tot h1 h2 h3 h4 h5=>?_))
 subst h4
 exact Ct_intro okF1 (pc5e (out27e h5 (by simp [mems_len]) h2 fun fb E2 g1 g2=>h fb cap E2 (mt_ h1 g1) g2))
theorem sem27e {K:KT} {s:Int} {a:Nat} {b:Option Addr} {l c m:Nat} {zs0:List Int} {n0:Int} (hn:n0=((m+1:Nat):Int))
  (hz:Bs E b l c zs0) (hl:1<=l/\l<=16384/\a+m<=l)
  (h:∀ (fb:Option Addr) (cap:Nat) (E':Mem),Mem.le E E'->FL E' fb (m+1) cap (mems s (gE) a zs0 (m+1))->K (L fb (m+1) cap) ([⟨24,.lst [I s,L b l c],2,true⟩,⟨24,.lst [I s,L b l c],2,true⟩,⟨24,.lst [I s,L b l c],2,true⟩,⟨3,.lst [I (a:Nat)],1,true⟩,⟨3,.lst [I (m:Nat)],1,true⟩,⟨133,.lst [.clo 72 [] []],1,true⟩]) E'):
  CallSem Try.prog 73 [.clo 79 [] [.loc 2 0,.loc 4 0,.loc 5 0,.loc 3 0],I n0] ([⟨24,.lst [I s,L b l c],2,true⟩,⟨24,.lst [I s,L b l c],2,true⟩,⟨24,.lst [I s,L b l c],2,true⟩,⟨3,.lst [I (a:Nat)],1,true⟩,⟨3,.lst [I (m:Nat)],1,true⟩,⟨133,.lst [.clo 72 [] []],1,true⟩]) E K:=
 (bsm okF1 Try.func73 (s27e hn hz hl h)).pubB.clo
def validF (s:Int) (l:Nat):Prop:=1<=s/\s<=1024/\s<=l/\l<=16384/\(l:Int) % s=0
instance (s:Int) (l:Nat):Decidable (validF s l):=by unfold validF;infer_instance
def progF (s:Int) (zs:List Int) (a:Int) (ds:List Int):List (Int×List Int)×Int:=
 if ¬ validF s zs.length\/a<0 then ([],1) else if a>zs.length\/(ds.length:Int)>zs.length-a then ([],3) else (mems s (gP ds) a.toNat zs (ds.length+1),0)
def erasF (s:Int) (zs:List Int) (k:Int):List (Int×List Int)×Int:=
 if ¬ validF s zs.length\/k<0\/k>=(zs.length:Int) / s then ([],1) else (mems s gE (k*s).toNat zs (s.toNat+1),0)
def tabP:CallT:=fun f args bx E K=>f=73/\∃ (s:Int) (a:Nat) (b db:Option Addr) (l c dl dc m:Nat) (zs0 ds:List Int) (n0:Int),args=[.clo 79 [] [.loc 2 0,.loc 4 0,.loc 5 0,.loc 3 0],I n0]/\bx=[⟨24,.lst [I s,L b l c],2,true⟩,⟨22,.lst [L db dl dc],1,true⟩,⟨24,.lst [I s,L b l c],2,true⟩,⟨3,.lst [I (a:Nat)],1,true⟩,⟨3,.lst [I (m:Nat)],1,true⟩,⟨133,.lst [.clo 80 [] [.loc 1 0]],1,true⟩]/\
 n0=((m+1:Nat):Int)/\Bs E db dl dc ds/\m=dl/\Bs E b l c zs0/\(1<=l/\l<=16384/\a+m<=l)/\(∀ (fb:Option Addr) (cap:Nat) (E':Mem),Mem.le E E'->FL E' fb (m+1) cap (mems s (gP ds) a zs0 (m+1))->K (L fb (m+1) cap) bx E')
theorem tabP_ok (f:FuncId) (args:List SV) (bx:List Box) (E:Mem) (K:KT) (h:tabP f args bx E K):CallSem Try.prog f args bx E K:=by
 obtain ⟨rfl,s,a,b,db,l,c,dl,dc,m,zs0,ds,n0,rfl,rfl,h1,h2,h3,h4,h5,h6⟩:=h
 exact sem27 h1 h2 h3 h4 h5 h6
def tabE:CallT:=fun f args bx E K=>f=73/\∃ (s:Int) (a:Nat) (b:Option Addr) (l c m:Nat) (zs0:List Int) (n0:Int),args=[.clo 79 [] [.loc 2 0,.loc 4 0,.loc 5 0,.loc 3 0],I n0]/\bx=[⟨24,.lst [I s,L b l c],2,true⟩,⟨24,.lst [I s,L b l c],2,true⟩,⟨24,.lst [I s,L b l c],2,true⟩,⟨3,.lst [I (a:Nat)],1,true⟩,⟨3,.lst [I (m:Nat)],1,true⟩,⟨133,.lst [.clo 72 [] []],1,true⟩]/\
 n0=((m+1:Nat):Int)/\Bs E b l c zs0/\(1<=l/\l<=16384/\a+m<=l)/\(∀ (fb:Option Addr) (cap:Nat) (E':Mem),Mem.le E E'->FL E' fb (m+1) cap (mems s gE a zs0 (m+1))->K (L fb (m+1) cap) bx E')
theorem tabE_ok (f:FuncId) (args:List SV) (bx:List Box) (E:Mem) (K:KT) (h:tabE f args bx E K):CallSem Try.prog f args bx E K:=by
 obtain ⟨rfl,s,a,b,l,c,m,zs0,n0,rfl,rfl,h1,h4,h5,h6⟩:=h
 exact sem27e h1 h4 h5 h6
noncomputable def F5:Cx:={ P:=Try.prog,inl:=fun f=>List.contains [] f,tab:=fun _ _ _ _=>False,isB:=fun _=>false,tabB:=fun _ _ _ _ _=>False,opt:={ unroll:=0,carry:=[] },muts:=mutsD }
theorem okF5:CxOK F5:=CxOK.four (fun _ _ _ _ h=>h.elim) (by kernel_rfl) (okInl (by kernel_rfl)) (fun _ _ _ _ _ h=>h.elim)
theorem validF_mod {s:Int} {l:Nat} (h1:1<=s):(Int.tmod (l:Int) s==0)=decide ((l:Int) % s=0):=by
 rw [Int.tmod_eq_emod_of_nonneg (by omega)]
 by_cases h:(l:Int) % s=0<;>simp [h]
theorem validF_no {s:Int} {l:Nat} (h:¬ validF s l):decide (validF s l)=false:=by simp [h]
theorem s18 {a1:Int} {b2:Option Addr} {l3:Nat} {c4:Nat} (h:K (B (decide (validF a1 l3))) E):
  Ent F5 6 Try.f54 [.agg [I a1,L b2 l3 c4]] E K:=by
 refine sm_ (?_:bif decide (a1<(1:Int)) then Mem.le E E/\K (B false) E else bif bif false then true else decide (a1>(1024:Int)) then Mem.le E E/\K (B false) E else bif decide ((↑l3:Int)<a1) then Mem.le E E/\K (B false) E else bif bif false then true else decide ((↑l3:Int)>(16384:Int)) then Mem.le E E/\K (B false) E else (a1=(0:Int)->False)/\Mem.le E E/\K (B (Int.tmod (↑l3:Int) a1==(0:Int))) E)
 have bad:¬ validF a1 l3->Mem.le E E/\K (B false) E:=fun hn=>⟨mr_,by rw [validF_no hn] at h;exact h⟩
 unfold validF at bad
 refine condC (fun g=>bad (by simp at g;omega)) (fun g1=>?_)
 refine condC (fun g=>bad (by simp at g;omega)) (fun g2=>?_)
 refine condC (fun g=>bad (by simp at g;omega)) (fun g3=>?_)
 refine condC (fun g=>bad (by simp at g;omega)) (fun g4=>?_)
 have g1:1<=a1:=by simpa using g1
 have g2:a1<=1024:=by simpa using g2
 have g3:a1<=l3:=by simpa using g3
 have g4:l3<=16384:=by simp at g4;omega
 refine ⟨by omega,mr_,?_⟩
 rw [validF_mod g1]
 rw [show decide (validF a1 l3)=decide ((l3:Int) % a1=0) from by unfold validF;simp [g1,g2,g3,g4]] at h
 exact h
noncomputable def tab18:FuncId->List SV->Mem->(SV->Mem->Prop)->Prop:=fun f args E K=>match f with
 | 54=>d1 args fun x0=>dC x0 fun l1=>d2 l1 fun x0_0 x0_1=>dI x0_0 fun a1=>dS x0_1 fun b2 l3 c4=>(K (B (decide (validF a1 l3))) E)
 | _=>False
theorem tab18_ok:TabOK Try.prog tab18:=by
 intro f args E K h
 unfold tab18 at h
 split at h
 ·replace h:=d1_elim h
  obtain ⟨x0,rfl,h⟩:=h
  replace h:=dC_elim h
  obtain ⟨l1,hl1,h⟩:=h
  replace h:=d2_elim h
  obtain ⟨x0_0,x0_1,rfl,h⟩:=h
  replace h:=dI_elim h
  obtain ⟨a1,rfl,h⟩:=h
  replace h:=dS_elim h
  obtain ⟨b2,l3,c4,rfl,h⟩:=h
  exact TabSem.congr (valL_cons (asCells_val hl1) rfl) (esm okF5 Try.func54 rfl (s18 h))
 ·exact h.elim
noncomputable def F3:Cx:={ P:=Try.prog,inl:=fun f=>List.contains [74] f,tab:=tab18,isB:=fun f=>f==73,tabB:=tabP,opt:={ unroll:=0,carry:=[] },muts:=(fun o=>match o with | .call { callee:=.value (.func 74),.. }=>true| .call { callee:=.value (.func 73),.. }=>true|o=>mutsD o) }
theorem okF3:CxOK F3:=CxOK.four tab18_ok (by kernel_rfl) (okInl (by kernel_rfl)) tabP_ok
noncomputable def F4:Cx:={ P:=Try.prog,inl:=fun f=>List.contains [54,74] f,tab:=fun _ _ _ _=>False,isB:=fun f=>f==73,tabB:=tabE,opt:={ unroll:=0,carry:=[] },muts:=(fun o=>match o with | .call { callee:=.value (.func 74),.. }=>true| .call { callee:=.value (.func 73),.. }=>true|o=>mutsD o) }
theorem okF4:CxOK F4:=CxOK.four (fun _ _ _ _ h=>h.elim) (by kernel_rfl) (okInl (by kernel_rfl)) tabE_ok
theorem s14 {a1:Int} {b2:Option Addr} {l3:Nat} {c4:Nat} {a5:Int} {b6:Option Addr} {l7:Nat} {c8:Nat} {zs:List Int} {ds:List Int} (h0:Bs E b2 l3 c4 zs) (h1:Bs E b6 l7 c8 ds) (h:∀ (b':Option Addr) (l' c':Nat) (ms:List (Int×List Int)) (e:Int) (E':Mem),Mem.le E E'->Hyp (progF a1 zs a5 ds=(ms,e))->FL E' b' l' c' ms->K (.tup [L b' l' c',I e]) E'):
  Ent F3 6 Try.f75 [.agg [I a1,L b2 l3 c4],I a5,L b6 l7 c8] E K:=by
 refine sm_ (?_:Mem.le E E/\bif !decide (validF a1 l3) then Mem.le E E/\K (SV.tup [L none 0 0,I 1]) E else bif bif false then true else decide (a5<(0:Int)) then Mem.le E E/\K (SV.tup [L none 0 0,I 1]) E else bif decide (a5>(NI l3)) then Mem.le E E/\K (SV.tup [L none 0 0,I 3]) E else bif bif false then true else decide ((NI l7)>WI ((NI l3)-a5)) then Mem.le E E/\K (SV.tup [L none 0 0,I 3]) E else Sx.Alike al2 (73=73/\∃ (s:Int),∃ (a:Nat),∃ (b:Option Addr),∃ (db:Option Addr),∃ (l:Nat),∃ (c:Nat),∃ (dl:Nat),∃ (dc:Nat),∃ (m:Nat),∃ (zs0:List Int),∃ (ds:List Int),∃ (n0:Int),[SV.clo 79 [] [SV.loc 2 0,SV.loc 4 0,SV.loc 5 0,SV.loc 3 0],I (WI ((NI l7)+1))]=[SV.clo 79 [] [SV.loc 2 0,SV.loc 4 0,SV.loc 5 0,SV.loc 3 0],I n0]/\[(⟨24,.lst [I a1,L b2 l3 c4],2,true⟩:Box),⟨22,.lst [L b6 l7 c8],1,true⟩,⟨24,.lst [I a1,L b2 l3 c4],2,true⟩,⟨3,.lst [I a5],1,true⟩,⟨3,.lst [I (NI l7)],1,true⟩,⟨133,.lst [SV.clo 80 [] [SV.loc 1 0]],1,true⟩]=[(⟨24,.lst [I s,L b l c],2,true⟩:Box),⟨22,.lst [L db dl dc],1,true⟩,⟨24,.lst [I s,L b l c],2,true⟩,⟨3,.lst [I (NI a)],1,true⟩,⟨3,.lst [I (NI m)],1,true⟩,⟨133,.lst [SV.clo 80 [] [SV.loc 1 0]],1,true⟩]/\n0=(NI (m+1))/\Bs E db dl dc ds/\m=dl/\Bs E b l c zs0/\(1<=l/\l<=16384/\a+m<=l)/\∀ (fb:Option Addr) (cap:Nat) (E':Mem),Mem.le E E'->FL E' fb (m+1) cap (mems s (gP ds) a zs0 (m+1))->Mem.le E E'/\K (SV.tup [L fb (m+1) cap,I 0]) E'))
 delta WI NI
 have hz:=h0.2.1
 have hd:=h1.2.1
 have ex:∀ {ms:List (Int×List Int)} {e:Int},progF a1 zs a5 ds=(ms,e)->(∀ (b':Option Addr) (l' c':Nat) (E':Mem),Mem.le E E'->FL E' b' l' c' ms->K (.tup [L b' l' c',I e]) E'):=fun he b' l' c' E' hE hF=>h b' l' c' _ _ E' hE he hF
 unfold progF at ex
 rw [hz,hd] at ex
 refine ⟨mr_,condC (fun g=>?_) (fun g=>?_)⟩
 ·have g:¬ validF a1 l3:=by simpa using g
  exact ⟨mr_,ex (if_pos (.inl g)) none 0 0 E mr_ (FL.nil _)⟩
 have g:validF a1 l3:=by simpa using g
 have gl:=g
 unfold validF at gl
 refine condC (fun g1=>?_) (fun g1=>?_)
 ·exact ⟨mr_,ex (if_pos (.inr (by simpa using g1))) none 0 0 E mr_ (FL.nil _)⟩
 have g1:0<=a5:=by simpa using g1
 rw [if_neg (by simp only [not_or,Decidable.not_not];exact ⟨g,by omega⟩)] at ex
 refine condC (fun g2=>?_) (fun g2=>?_)
 ·exact ⟨mr_,ex (if_pos (.inl (by simpa using g2))) none 0 0 E mr_ (FL.nil _)⟩
 have g2:a5<=l3:=by simpa using g2
 rw [wrap_i64 (by omega)]
 refine condC (fun g3=>?_) (fun g3=>?_)
 ·exact ⟨mr_,ex (if_pos (.inr (by simpa using g3))) none 0 0 E mr_ (FL.nil _)⟩
 have g3:(l7:Int)<=l3-a5:=by simpa using g3
 rw [if_neg (by omega)] at ex
 obtain ⟨a,rfl⟩:∃ a:Nat,a5=a:=⟨a5.toNat,by omega⟩
 refine alike ⟨rfl,a1,a,b2,b6,l3,c4,l7,c8,l7,zs,ds,_,rfl,rfl,by rw [wrap_i64 (by omega)];simp,h1,rfl,h0,⟨by omega,by omega,by omega⟩,fun fb cap E' hE hF=>⟨hE,?_⟩⟩
 exact ex (by rw [Int.toNat_natCast]) fb _ cap E' hE hF
theorem s16 {a1:Int} {b2:Option Addr} {l3:Nat} {c4:Nat} {a5:Int} {zs:List Int} (h0:Bs E b2 l3 c4 zs) (h:∀ (b':Option Addr) (l' c':Nat) (ms:List (Int×List Int)) (e:Int) (E':Mem),Mem.le E E'->Hyp (erasF a1 zs a5=(ms,e))->FL E' b' l' c' ms->K (.tup [L b' l' c',I e]) E'):
  Ent F4 6 Try.f63 [.agg [I a1,L b2 l3 c4],I a5] E K:=by
 refine sm_ (?_:bif decide (a1<(1:Int)) then Mem.le E E/\Mem.le E E/\K (SV.tup [L none 0 0,I 1]) E else bif bif false then true else decide (a1>(1024:Int)) then Mem.le E E/\Mem.le E E/\K (SV.tup [L none 0 0,I 1]) E else bif decide ((NI l3)<a1) then Mem.le E E/\Mem.le E E/\K (SV.tup [L none 0 0,I 1]) E else bif bif false then true else decide ((NI l3)>16384) then Mem.le E E/\Mem.le E E/\K (SV.tup [L none 0 0,I 1]) E else (a1=(0:Int)->False)/\Mem.le E E/\bif !Int.tmod (NI l3) a1==(0:Int) then Mem.le E E/\K (SV.tup [L none 0 0,I 1]) E else bif bif false then true else decide (a5<(0:Int)) then Mem.le E E/\K (SV.tup [L none 0 0,I 1]) E else (a1=(0:Int)->False)/\bif bif false then true else decide (a5>=WI (Int.tdiv (NI l3) a1)) then Mem.le E E/\K (SV.tup [L none 0 0,I 1]) E else Sx.Alike al2 (73=73/\∃ (s:Int),∃ (a:Nat),∃ (b:Option Addr),∃ (l:Nat),∃ (c:Nat),∃ (m:Nat),∃ (zs0:List Int),∃ (n0:Int),[SV.clo 79 [] [SV.loc 2 0,SV.loc 4 0,SV.loc 5 0,SV.loc 3 0],I (WI (a1+(1:Int)))]=[SV.clo 79 [] [SV.loc 2 0,SV.loc 4 0,SV.loc 5 0,SV.loc 3 0],I n0]/\[(⟨24,.lst [I a1,L b2 l3 c4],2,true⟩:Box),⟨24,.lst [I a1,L b2 l3 c4],2,true⟩,⟨24,.lst [I a1,L b2 l3 c4],2,true⟩,⟨3,.lst [I (WI (a5*a1))],1,true⟩,⟨3,.lst [I a1],1,true⟩,⟨133,.lst [SV.clo 72 [] []],1,true⟩]=[(⟨24,.lst [I s,L b l c],2,true⟩:Box),⟨24,.lst [I s,L b l c],2,true⟩,⟨24,.lst [I s,L b l c],2,true⟩,⟨3,.lst [I (NI a)],1,true⟩,⟨3,.lst [I (NI m)],1,true⟩,⟨133,.lst [SV.clo 72 [] []],1,true⟩]/\n0=(NI (m+1))/\Bs E b l c zs0/\(1<=l/\l<=16384/\a+m<=l)/\∀ (fb:Option Addr) (cap:Nat) (E':Mem),Mem.le E E'->FL E' fb (m+1) cap (mems s gE a zs0 (m+1))->Mem.le E E'/\K (SV.tup [L fb (m+1) cap,I 0]) E'))
 delta WI NI
 have hz:=h0.2.1
 have ex:∀ {ms:List (Int×List Int)} {e:Int},erasF a1 zs a5=(ms,e)->(∀ (b':Option Addr) (l' c':Nat) (E':Mem),Mem.le E E'->FL E' b' l' c' ms->K (.tup [L b' l' c',I e]) E'):=fun he b' l' c' E' hE hF=>h b' l' c' _ _ E' hE he hF
 unfold erasF at ex
 rw [hz] at ex
 have bad:¬ validF a1 l3\/a5<0\/a5>=(l3:Int) / a1->K (.tup [L none 0 0,I 1]) E:=fun hb=>ex (if_pos hb) none 0 0 E mr_ (FL.nil _)
 have bad1:¬ validF a1 l3->Mem.le E E/\Mem.le E E/\K (.tup [L none 0 0,I 1]) E:=fun hb=>⟨mr_,mr_,bad (.inl hb)⟩
 unfold validF at bad1
 refine condC (fun g=>bad1 (by simp at g;omega)) (fun g1=>?_)
 refine condC (fun g=>bad1 (by simp at g;omega)) (fun g2=>?_)
 refine condC (fun g=>bad1 (by simp at g;omega)) (fun g3=>?_)
 refine condC (fun g=>bad1 (by simp at g;omega)) (fun g4=>?_)
 have g1:1<=a1:=by simpa using g1
 have g2:a1<=1024:=by simpa using g2
 have g3:a1<=l3:=by simpa using g3
 have g4:l3<=16384:=by simp at g4;omega
 refine ⟨by omega,mr_,condC (fun g=>?_) (fun g5=>?_)⟩
 ·rw [validF_mod g1] at g
  exact (bad1 (by simp at g;omega)).2
 have g5:(l3:Int) % a1=0:=by rw [validF_mod g1] at g5;simpa using g5
 have hv:validF a1 l3:=⟨g1,g2,g3,g4,g5⟩
 refine condC (fun g=>⟨mr_,bad (.inr (.inl (by simpa using g)))⟩) (fun g6=>?_)
 have g6:0<=a5:=by simpa using g6
 have hdv:Int.tdiv (l3:Int) a1=(l3:Int) / a1:=Int.tdiv_eq_ediv_of_nonneg (by omega)
 have hd1:(l3:Int) / a1<=l3:=Int.ediv_le_self _ (by omega)
 have hd0:0<=(l3:Int) / a1:=Int.ediv_nonneg (by omega) (by omega)
 refine ⟨by omega,?_⟩
 rw [hdv,wrap_i64 (x:=(l3:Int) / a1) (by omega)]
 refine condC (fun g=>⟨mr_,bad (.inr (.inr (by simpa using g)))⟩) (fun g7=>?_)
 have g7:a5<(l3:Int) / a1:=by simpa using g7
 rw [if_neg (fun q=>q.elim (fun q=>q hv) (fun q=>by omega))] at ex
 have h8:(a5+1)*a1<=l3:=by
  have:=Int.mul_le_mul_of_nonneg_right (show a5+1<=(l3:Int) / a1 by omega) (show 0<=a1 by omega)
  have h2:=Int.ediv_mul_le (l3:Int) (show a1≠0 by omega)
  omega
 have h9:0<=a5*a1:=Int.mul_nonneg g6 (by omega)
 rw [Int.add_mul,Int.one_mul] at h8
 obtain ⟨a,ha⟩:∃ a:Nat,a5*a1=a:=⟨(a5*a1).toNat,by omega⟩
 obtain ⟨m,rfl⟩:∃ m:Nat,a1=m:=⟨a1.toNat,by omega⟩
 rw [ha] at ex h8
 rw [ha,wrap_i64 (x:=(a:Int)) (by omega)]
 refine alike ⟨rfl,m,a,b2,l3,c4,m,zs,_,rfl,rfl,by rw [wrap_i64 (by omega)];simp,h0,⟨by omega,by omega,by omega⟩,fun fb cap E' hE hF=>⟨hE,?_⟩⟩
 exact ex (by rw [Int.toNat_natCast,Int.toNat_natCast]) fb _ cap E' hE hF
theorem wu64 {x:Int} (h:0<=x/\x<=100000000):IntKind.wrap .u64 x=x:=by
 rw [show IntKind.wrap .u64 x=x % 18446744073709551616 from rfl];omega
theorem and32 {n:Int} (h:0<=n/\n<=16384):IntKind.wrap .u64 (((BitVec.ofInt (IntKind.bits .u64) n&&& BitVec.ofInt (IntKind.bits .u64) 4294967295).toNat:Nat):Int)=n:=by
 obtain ⟨m,rfl⟩:∃ m:Nat,n=m:=⟨n.toNat,by omega⟩
 rw [show IntKind.bits .u64=64 from rfl,BitVec.toNat_and,show BitVec.ofInt 64 (m:Int)=BitVec.ofNat 64 m from BitVec.ofInt_natCast _ _,show BitVec.ofInt 64 4294967295=BitVec.ofNat 64 (2 ^ 32-1) from rfl,
  BitVec.toNat_ofNat,BitVec.toNat_ofNat,Nat.mod_eq_of_lt (by omega),Nat.mod_eq_of_lt (a:=2 ^ 32-1) (by decide),Nat.and_two_pow_sub_one_eq_mod,Nat.mod_eq_of_lt (by omega),wu64 (by omega)]
theorem fd32 {n:Int} (h:0<=n/\n<=16384):Int.fdiv n 4294967296=0:=by
 rw [Int.fdiv_eq_ediv_of_nonneg _ (by omega)];omega
def tabZ:CallT:=fun f args bx E K=>f=68/\∃ n:Nat,args=[I n]/\n<=281474976710656/\∀ zs:List Int,n<=zs.length->K (.slc bx.length 0 n zs.length) (bx++[⟨5,.vals (vB zs),zs.length,true⟩]) E
theorem tabZ_ok (f:FuncId) (args:List SV) (bx:List Box) (E:Mem) (K:KT) (h:tabZ f args bx E K):CallSem Try.prog f args bx E K:=by
 obtain ⟨rfl,n,rfl,h1,h2⟩:=h
 exact makeNoZero_sem Try.func68 (by kernel_rfl) (by kernel_rfl) (by kernel_rfl) (ps:=#[3]) (t:=22) (e:=5) (by kernel_rfl) (by kernel_rfl) h1 h2
noncomputable def F7:Cx:={ P:=Try.prog,inl:=fun f=>List.contains [78] f,tab:=fun _ _ _ _=>False,isB:=fun _=>false,tabB:=fun _ _ _ _ _=>False,opt:={ unroll:=0,carry:=[] },muts:=mutsD }
theorem okF7:CxOK F7:=CxOK.four (fun _ _ _ _ h=>h.elim) (by kernel_rfl) (okInl (by kernel_rfl)) (fun _ _ _ _ _ h=>h.elim)
theorem s31 {a1:Int} {a2:Int} (h0:(a1=1/\0<=a2/\a2<=16384)) (h:K (.tup [.raw (.int .u64 0),.raw (.int .u64 a2)]) E):
  Ent F7 8 Try.f67 [.raw (.int .u64 a1),.raw (.int .u64 a2)] E K:=by
 refine sm_ (?_:Mem.le E E/\Mem.le E E/\K (SV.tup [SV.raw (Value.int IntKind.u64 (IntKind.wrap IntKind.u64 (IntKind.wrap IntKind.u64 (IntKind.wrap IntKind.u64 (Int.fdiv a1 (4294967296:Int)*Int.fdiv a2 4294967296)+Int.fdiv (IntKind.wrap IntKind.u64 (IntKind.wrap IntKind.u64 (Int.fdiv a1 (4294967296:Int)*IntKind.wrap IntKind.u64 (NI (BitVec.toNat (BitVec.ofInt (IntKind.bits IntKind.u64) a2&&& BitVec.ofInt (IntKind.bits IntKind.u64) 4294967295))))+Int.fdiv (IntKind.wrap IntKind.u64 (IntKind.wrap IntKind.u64 (NI (BitVec.toNat (BitVec.ofInt (IntKind.bits IntKind.u64) a1&&& BitVec.ofInt (IntKind.bits IntKind.u64) 4294967295)))*IntKind.wrap IntKind.u64 (NI (BitVec.toNat (BitVec.ofInt (IntKind.bits IntKind.u64) a2&&& BitVec.ofInt (IntKind.bits IntKind.u64) 4294967295))))) 4294967296)) 4294967296)+Int.fdiv (IntKind.wrap IntKind.u64 (IntKind.wrap IntKind.u64 (NI (BitVec.toNat (BitVec.ofInt (IntKind.bits IntKind.u64) (IntKind.wrap IntKind.u64 (IntKind.wrap IntKind.u64 (Int.fdiv a1 ((2:Int) ^ min (Int.toNat 32) (IntKind.bits IntKind.u64))*IntKind.wrap IntKind.u64 (NI (BitVec.toNat (BitVec.ofInt (IntKind.bits IntKind.u64) a2&&& BitVec.ofInt (IntKind.bits IntKind.u64) 4294967295))))+Int.fdiv (IntKind.wrap IntKind.u64 (IntKind.wrap IntKind.u64 (NI (BitVec.toNat (BitVec.ofInt (IntKind.bits IntKind.u64) a1&&& BitVec.ofInt (IntKind.bits IntKind.u64) 4294967295)))*IntKind.wrap IntKind.u64 (NI (BitVec.toNat (BitVec.ofInt (IntKind.bits IntKind.u64) a2&&& BitVec.ofInt (IntKind.bits IntKind.u64) 4294967295))))) ((2:Int) ^ min (Int.toNat 32) (IntKind.bits IntKind.u64))))&&& BitVec.ofInt (IntKind.bits IntKind.u64) 4294967295)))+IntKind.wrap IntKind.u64 (IntKind.wrap IntKind.u64 (NI (BitVec.toNat (BitVec.ofInt (IntKind.bits IntKind.u64) a1&&& BitVec.ofInt (IntKind.bits IntKind.u64) 4294967295)))*Int.fdiv a2 4294967296))) 4294967296))),SV.raw (Value.int IntKind.u64 (IntKind.wrap IntKind.u64 (a1*a2)))]) E)
 delta NI
 obtain ⟨rfl,h0⟩:=h0
 rw [show min (Int.toNat 32) (IntKind.bits .u64)=32 from rfl,show (2:Int) ^ 32=4294967296 from rfl,show Int.fdiv 1 4294967296=0 from rfl,fd32 h0,and32 h0,and32 (n:=1) (by omega)]
 rw [show (0:Int)*0=0 from rfl,Int.zero_mul,Int.one_mul,Int.mul_zero,wu64 (x:=a2) (by omega),wu64 (x:=0) (by omega),Int.zero_add,fd32 h0,Int.add_zero,wu64 (x:=0) (by omega),and32 (n:=0) (by omega),Int.add_zero,wu64 (x:=0) (by omega),show Int.fdiv 0 4294967296=0 from rfl,Int.add_zero,wu64 (x:=0) (by omega)]
 exact ⟨mr_,mr_,h⟩
noncomputable def tab31:FuncId->List SV->Mem->(SV->Mem->Prop)->Prop:=fun f args E K=>match f with
 | 67=>d2 args fun x0 x1=>dN .u64 x0 fun a1=>dN .u64 x1 fun a2=>(a1=1/\0<=a2/\a2<=16384)/\(K (.tup [.raw (.int .u64 0),.raw (.int .u64 a2)]) E)
 | _=>False
theorem tab31_ok:TabOK Try.prog tab31:=by
 intro f args E K h
 unfold tab31 at h
 split at h
 ·replace h:=d2_elim h
  obtain ⟨x0,x1,rfl,h⟩:=h
  replace h:=dN_elim h
  obtain ⟨a1,rfl,h⟩:=h
  replace h:=dN_elim h
  obtain ⟨a2,rfl,h⟩:=h
  obtain ⟨g0,h⟩:=h
  exact TabSem.congr (valL_cons rfl (valL_cons rfl rfl)) (esm okF7 Try.func67 rfl (s31 g0 h))
 ·exact h.elim
noncomputable def F6:Cx:={ P:=Try.prog,inl:=fun f=>List.contains [] f,tab:=tab31,isB:=fun f=>f==68,tabB:=tabZ,opt:={ unroll:=0,carry:=[7,8,9,10],cuts:=[17] },muts:=mutsD }
theorem okF6:CxOK F6:=CxOK.four tab31_ok (by kernel_rfl) (okInl (by kernel_rfl)) tabZ_ok
def sh17 (n ch tot:Nat) (zs:List Int) (E:Mem):St:=⟨[os 1 0 1 1,none,none,none,none,none,none,oI (n:Nat),oI (ch:Nat),os 2 0 n n]++List.replicate 67 none,[⟨24,.lst [I 0,L none 0 0],2,true⟩,⟨5,.lst [.raw (.int .u8 255)],1,true⟩]++[⟨5,.vals (vB zs),tot,true⟩],E⟩
def sh18 (n ch bp tot:Nat) (zs:List Int) (E:Mem):St:=⟨[none,none,none,none,none,none,none,oI (n:Nat),oI (ch:Nat),os 2 0 n n,oI (bp:Nat)]++List.replicate 66 none,[⟨24,.lst [I 0,L none 0 0],2,true⟩,⟨5,.lst [.raw (.int .u8 255)],1,true⟩]++[⟨5,.vals (vB zs),tot,true⟩],E⟩
theorem ent25 {n:Nat} {K:KT} (hn:1<=n/\n<=16384) (h:∀ (ch tot:Nat) (zs:List Int),1<=ch->n<=zs.length->Ct F6 8 Try.f53 [1,1,1,1,1,1,1,1,1,1] 2 K (sh17 n ch tot zs E)):EntB F6 8 Try.f53 [.slc 1 0 1 1,I n] [⟨24,.lst [I 0,L none 0 0],2,true⟩,⟨5,.lst [.raw (.int .u8 255)],1,true⟩] E K:=by
 refine sm_ (?_:bif (NI n)==0 then K (SV.slc 2 0 0 0) [⟨24,.lst [I 0,L none 0 0],2,true⟩,⟨5,.lst [SV.raw (U8 255)],1,true⟩,⟨5,.lst [],0,true⟩] E else IntKind.u64=IntKind.u64/\IntKind.u64=IntKind.u64/\((1:Int)=(1:Int)/\(0:Int)<=IntKind.wrap IntKind.u64 (NI n)/\IntKind.wrap IntKind.u64 (NI n)<=16384)/\Mem.le E E/\bif bif false then true else decide (IntKind.wrap IntKind.u64 (NI n)>9223372036854775807) then False else bif decide (WI (IntKind.wrap IntKind.u64 (NI n))>(8192:Int)) then ((1:Int)=(0:Int)->False)/\68=68/\∃ (n_1:Nat),[I (WI (IntKind.wrap IntKind.u64 (NI n)))]=[I (NI n_1)]/\n_1<=281474976710656/\∀ (zs:List Int),n_1<=List.length zs->Mem.le E E/\req ((0:Int)<=WI (IntKind.wrap IntKind.u64 (NI n))/\WI (IntKind.wrap IntKind.u64 (NI n))<=(NI (List.length zs))) (req ((0:Int)<=WI (IntKind.wrap IntKind.u64 (NI n))/\WI (IntKind.wrap IntKind.u64 (NI n))<=(NI (toN (some (WI (IntKind.wrap IntKind.u64 (NI n)))) (List.length zs)))) (Ct F6 8 Try.f53 [1,1,1,1,1,1,1,1,1,1] 2 K { fr:=some (SV.slc 1 0 1 1)::oI (NI n)::none::none::oL none 0 0::some (SV.raw (Value.int IntKind.u64 0))::some (SV.raw (Value.int IntKind.u64 (IntKind.wrap IntKind.u64 (NI n))))::oI (WI (IntKind.wrap IntKind.u64 (NI n)))::oI 8192::os 2 (if toN (some (WI (IntKind.wrap IntKind.u64 (NI n)))) (List.length zs)=0 then 0 else 0) (toN (some (WI (IntKind.wrap IntKind.u64 (NI n)))) n_1-0) (toN (some (WI (IntKind.wrap IntKind.u64 (NI n)))) (List.length zs)-0)::none::none::oI (NI n)::oB ((NI n)==0)::none::oI (NI n)::oB false::none::some (SV.tup [SV.raw (Value.int IntKind.u64 0),SV.raw (Value.int IntKind.u64 (IntKind.wrap IntKind.u64 (NI n)))])::os 1 0 1 1::oI 1::some (SV.raw (Value.int IntKind.u64 1))::oI (NI n)::some (SV.raw (Value.int IntKind.u64 (IntKind.wrap IntKind.u64 (NI n))))::some (SV.tup [SV.raw (Value.int IntKind.u64 0),SV.raw (Value.int IntKind.u64 (IntKind.wrap IntKind.u64 (NI n)))])::some (SV.raw (Value.int IntKind.u64 0))::some (SV.raw (Value.int IntKind.u64 (IntKind.wrap IntKind.u64 (NI n))))::some (SV.raw (Value.int IntKind.u64 0))::oB false::oB false::some (SV.raw (Value.int IntKind.u64 (IntKind.wrap IntKind.u64 (NI n))))::oB (decide (IntKind.wrap IntKind.u64 (NI n)>9223372036854775807))::oB (bif false then true else decide (IntKind.wrap IntKind.u64 (NI n)>9223372036854775807))::none::some (SV.raw (Value.int IntKind.u64 (IntKind.wrap IntKind.u64 (NI n))))::oI (WI (IntKind.wrap IntKind.u64 (NI n)))::os 1 0 1 1::oI 1::oB false::none::oI (WI (IntKind.wrap IntKind.u64 (NI n)))::oI (WI (IntKind.wrap IntKind.u64 (NI n)))::oB (decide (WI (IntKind.wrap IntKind.u64 (NI n))>(8192:Int)))::os 1 0 1 1::oI 1::oI 8192::os 1 0 1 1::oI 1::oI 8192::oI 8192::oB false::none::none::oI (WI (IntKind.wrap IntKind.u64 (NI n)))::os 2 0 n_1 (List.length zs)::oI (WI (IntKind.wrap IntKind.u64 (NI n)))::oI (WI (IntKind.wrap IntKind.u64 (NI n)))::os 2 (if toN (some (WI (IntKind.wrap IntKind.u64 (NI n)))) (List.length zs)=0 then 0 else 0) (toN (some (WI (IntKind.wrap IntKind.u64 (NI n)))) n_1-0) (toN (some (WI (IntKind.wrap IntKind.u64 (NI n)))) (List.length zs)-0)::no16 (no2 (none::[])),bx:=[(⟨24,.lst [I 0,L none 0 0],2,true⟩:Box),⟨5,.lst [SV.raw (U8 255)],1,true⟩,⟨5,.vals (vB zs),List.length zs,true⟩],E:=E:St })) else 68=68/\∃ (n_1:Nat),[I (WI (IntKind.wrap IntKind.u64 (NI n)))]=[I (NI n_1)]/\n_1<=281474976710656/\∀ (zs:List Int),n_1<=List.length zs->Mem.le E E/\req ((0:Int)<=WI (IntKind.wrap IntKind.u64 (NI n))/\WI (IntKind.wrap IntKind.u64 (NI n))<=(NI (List.length zs))) (req ((0:Int)<=WI (IntKind.wrap IntKind.u64 (NI n))/\WI (IntKind.wrap IntKind.u64 (NI n))<=(NI (toN (some (WI (IntKind.wrap IntKind.u64 (NI n)))) (List.length zs)))) (Ct F6 8 Try.f53 [1,1,1,1,1,1,1,1,1,1] 2 K { fr:=some (SV.slc 1 0 1 1)::oI (NI n)::none::none::oL none 0 0::some (SV.raw (Value.int IntKind.u64 0))::some (SV.raw (Value.int IntKind.u64 (IntKind.wrap IntKind.u64 (NI n))))::oI (WI (IntKind.wrap IntKind.u64 (NI n)))::oI (WI (IntKind.wrap IntKind.u64 (NI n)))::os 2 (if toN (some (WI (IntKind.wrap IntKind.u64 (NI n)))) (List.length zs)=0 then 0 else 0) (toN (some (WI (IntKind.wrap IntKind.u64 (NI n)))) n_1-0) (toN (some (WI (IntKind.wrap IntKind.u64 (NI n)))) (List.length zs)-0)::none::none::oI (NI n)::oB ((NI n)==0)::none::oI (NI n)::oB false::none::some (SV.tup [SV.raw (Value.int IntKind.u64 0),SV.raw (Value.int IntKind.u64 (IntKind.wrap IntKind.u64 (NI n)))])::os 1 0 1 1::oI 1::some (SV.raw (Value.int IntKind.u64 1))::oI (NI n)::some (SV.raw (Value.int IntKind.u64 (IntKind.wrap IntKind.u64 (NI n))))::some (SV.tup [SV.raw (Value.int IntKind.u64 0),SV.raw (Value.int IntKind.u64 (IntKind.wrap IntKind.u64 (NI n)))])::some (SV.raw (Value.int IntKind.u64 0))::some (SV.raw (Value.int IntKind.u64 (IntKind.wrap IntKind.u64 (NI n))))::some (SV.raw (Value.int IntKind.u64 0))::oB false::oB false::some (SV.raw (Value.int IntKind.u64 (IntKind.wrap IntKind.u64 (NI n))))::oB (decide (IntKind.wrap IntKind.u64 (NI n)>9223372036854775807))::oB (bif false then true else decide (IntKind.wrap IntKind.u64 (NI n)>9223372036854775807))::none::some (SV.raw (Value.int IntKind.u64 (IntKind.wrap IntKind.u64 (NI n))))::oI (WI (IntKind.wrap IntKind.u64 (NI n)))::os 1 0 1 1::oI 1::oB false::none::oI (WI (IntKind.wrap IntKind.u64 (NI n)))::oI (WI (IntKind.wrap IntKind.u64 (NI n)))::oB (decide (WI (IntKind.wrap IntKind.u64 (NI n))>(8192:Int)))::no8 (no2 (oI (WI (IntKind.wrap IntKind.u64 (NI n)))::os 2 0 n_1 (List.length zs)::oI (WI (IntKind.wrap IntKind.u64 (NI n)))::oI (WI (IntKind.wrap IntKind.u64 (NI n)))::os 2 (if toN (some (WI (IntKind.wrap IntKind.u64 (NI n)))) (List.length zs)=0 then 0 else 0) (toN (some (WI (IntKind.wrap IntKind.u64 (NI n)))) n_1-0) (toN (some (WI (IntKind.wrap IntKind.u64 (NI n)))) (List.length zs)-0)::no16 (no2 (none::[])))),bx:=[(⟨24,.lst [I 0,L none 0 0],2,true⟩:Box),⟨5,.lst [SV.raw (U8 255)],1,true⟩,⟨5,.vals (vB zs),List.length zs,true⟩],E:=E:St })))
 delta WI NI U8 no2 no8 no16
 have e1:IntKind.wrap .u64 (n:Int)=n:=wu64 (by omega)
 have e2:IntKind.wrap .i64 (n:Int)=n:=wrap_i64 (by omega)
 have e3:∀ d,toN (some (n:Int)) d=n:=fun d=>by simp [toN]
 simp only [e1,e2,e3,ite_self,Nat.sub_zero]
 refine condC (fun g=>absurd g (by simp;omega)) (fun _=>⟨trivial,trivial,⟨trivial,by omega,by omega⟩,mr_,condC (fun g=>absurd g (by simp;omega)) (fun _=>condC (fun g=>?_) (fun g=>?_))⟩)
 ·refine ⟨by omega,trivial,n,rfl,by omega,fun zs hz=>⟨mr_,req_intro (by omega) (req_intro (by omega) ?_)⟩⟩
  exact Ct_re [some 0,some 1,some 2] (h 8192 _ zs (by omega) hz) (wkG mr_)
 ·refine ⟨trivial,n,rfl,by omega,fun zs hz=>⟨mr_,req_intro (by omega) (req_intro (by omega) ?_)⟩⟩
  exact Ct_re [some 0,some 1,some 2] (h n _ zs (by omega) hz) (wkG mr_)
theorem rep_step {zs:List Int} {bp q n:Nat} (h:zs.take bp=List.replicate bp 255) (hb:bp<n) (hn:n<=zs.length) (hq:q<=bp):
  (zs.take bp++(zs.take q).take (min q (n-bp))++zs.drop (bp+min q (n-bp))).take (bp+min q (n-bp))=List.replicate (bp+min q (n-bp)) 255/\n<=(zs.take bp++(zs.take q).take (min q (n-bp))++zs.drop (bp+min q (n-bp))).length:=by
 have h1:(zs.take q).take (min q (n-bp))=List.replicate (min q (n-bp)) 255:=by
  have :zs.take (min q (n-bp))=(zs.take bp).take (min q (n-bp)):=by rw [List.take_take,Nat.min_eq_left (a:=min q (n-bp)) (b:=bp) (by omega)]
  rw [List.take_take,Nat.min_eq_left (a:=min q (n-bp)) (b:=q) (by omega),this,h,List.take_replicate,Nat.min_eq_left (a:=min q (n-bp)) (b:=bp) (by omega)]
 rw [h1,h]
 refine ⟨?_,?_⟩
 ·rw [List.take_append_of_le_length (by simp),List.take_of_length_le (by simp),List.replicate_append_replicate]
 ·simp;omega
theorem pc17 {k ch tot:Nat} {zs:List Int} {K:KT} (hz:k+1<=zs.length) (h:Lp F6 8 Try.f53 [1,1,1,1,1,1,1,1,1,1,1,0,0] 2 K (sh18 (k+1) ch 1 tot (255::zs.drop 1) E)):Pc F6 8 Try.f53 [1,1,1,1,1,1,1,1,1,1] 2 K (sh17 (k+1) ch tot zs E):=by
 refine sm_ (?_:0+(k+1)*1<=List.length (vB zs)/\Lp F6 8 Try.f53 [1,1,1,1,1,1,1,1,1,1,1,0,0] 2 K { fr:=some (SV.slc 1 0 1 1)::no4 (no2 (oI (NI (k+1))::oI (NI ch)::os 2 0 (k+1) (k+1)::oI 1::no32 (no8 (no4 (no2 (none::(os 2 0 (k+1) (k+1)::os 1 0 1 1::oI 1::no16 []))))))),bx:=[(⟨24,.lst [I 0,L none 0 0],2,true⟩:Box),⟨5,.lst [SV.raw (U8 255)],1,true⟩,⟨5,.vals (U8 (255:Int)::(List.drop 1 (vB zs))),tot,true⟩],E:=E:St })
 delta NI U8 no2 no4 no8 no16 no32
 refine ⟨by simp;omega,?_⟩
 have e:Value.int IntKind.u8 255::(List.drop 1 (vB zs))=vB (255::zs.drop 1):=by simp
 rw [e]
 exact Lp_re [some 0,some 1,some 2] h (wkG mr_)
theorem rnd18 {n ch bp tot:Nat} {zs:List Int} {K:KT} (hn:1<=n/\n<=16384) (hc:1<=ch) (hb:1<=bp/\bp<=n) (hz:n<=zs.length) (hr:zs.take bp=List.replicate bp 255)
  (h:∀ zs:List Int,n<=zs.length->zs.take n=List.replicate n 255->K (.slc 2 0 n n) ([⟨24,.lst [I 0,L none 0 0],2,true⟩,⟨5,.lst [.raw (.int .u8 255)],1,true⟩]++[⟨5,.vals (vB zs),tot,true⟩]) E)
  (ih:∀ (bp':Nat) (zs:List Int),bp<bp'->bp'<=n->n<=zs.length->zs.take bp'=List.replicate bp' 255->Lp F6 8 Try.f53 [1,1,1,1,1,1,1,1,1,1,1,0,0] 2 K (sh18 n ch bp' tot zs E)):
  Rnd F6 8 Try.f53 [1,1,1,1,1,1,1,1,1,1,1,0,0] 2 K (sh18 n ch bp tot zs E):=by
 refine sm_ (?_:bif decide ((NI bp)<(NI n)) then req (0<=(NI bp)/\(NI bp)<=(NI (toN none n))) (req (((0:Int)<=if (NI ch)<(NI bp) then (NI ch) else (NI bp))/\(if (NI ch)<(NI bp) then (NI ch) else (NI bp))<=(NI (toN none n))) ((if toN none n=0 then 0 else 0)+min (toN (some (if (NI ch)<(NI bp) then (NI ch) else (NI bp))) n-0) (toN none n-toN (some (NI bp)) 0)*1<=List.length (vB zs)/\(if toN none n=toN (some (NI bp)) 0 then 0 else 0+toN (some (NI bp)) 0*1)<=List.length (vB zs)/\((if toN none n=toN (some (NI bp)) 0 then 0 else 0+toN (some (NI bp)) 0*1)+min (toN (some (if (NI ch)<(NI bp) then (NI ch) else (NI bp))) n-0) (toN none n-toN (some (NI bp)) 0)*1<=List.length (vB zs)\/(if toN none n=toN (some (NI bp)) 0 then 0 else 0+toN (some (NI bp)) 0*1)+min (toN (some (if (NI ch)<(NI bp) then (NI ch) else (NI bp))) n-0) (toN none n-toN (some (NI bp)) 0)*1<=tot)/\(∀ (x:Value),List.Mem x (vB zs)->Value.oneCell' x=true)/\Lp F6 8 Try.f53 [1,1,1,1,1,1,1,1,1,1,1,0,0] 2 K { fr:=no4 (no2 (none::(oI (NI n)::oI (NI ch)::os 2 0 n n::oI (WI ((NI bp)+(NI (min (toN (some (if (NI ch)<(NI bp) then (NI ch) else (NI bp))) n-0) (toN none n-toN (some (NI bp)) 0)))))::no32 (no32 (no2 []))))),bx:=[(⟨24,.lst [I 0,L none 0 0],2,true⟩:Box),⟨5,.lst [SV.raw (U8 255)],1,true⟩,⟨5,.vals (layV (vB zs) (if toN none n=toN (some (NI bp)) 0 then 0 else 0+toN (some (NI bp)) 0*1) (List.take (min (toN (some (if (NI ch)<(NI bp) then (NI ch) else (NI bp))) n-0) (toN none n-toN (some (NI bp)) 0)*1) (List.drop (if toN none n=0 then 0 else 0) (vB zs)))),tot,true⟩],E:=E:St })) else K (SV.slc 2 0 n n) [⟨24,.lst [I 0,L none 0 0],2,true⟩,⟨5,.lst [SV.raw (U8 255)],1,true⟩,⟨5,.vals (vB zs),tot,true⟩] E)
 delta WI NI U8 no2 no4 no32
 refine condC (fun g=>?_) (fun g=>?_)
 ·have g:bp<n:=by simpa using g
  obtain ⟨q,hq⟩:∃ q,q=min bp ch:=⟨_,rfl⟩
  have eq:(if (ch:Int)<(bp:Int) then (ch:Int) else (bp:Int))=(q:Int):=by split<;>omega
  have e2:∀ d,toN (some (q:Int)) d=q:=fun d=>by simp [toN]
  have e3:∀ d,toN (some (bp:Int)) d=bp:=fun d=>by simp [toN]
  have e4:∀ d,toN none d=d:=fun d=>rfl
  have e5:IntKind.wrap .i64 ((bp:Int)+((min q (n-bp):Nat):Int))=((bp+min q (n-bp):Nat):Int):=by rw [wrap_i64 (by omega)];simp
  rw [eq]
  simp only [e2,e3,e4,ite_self,Nat.sub_zero]
  rw [if_neg (show ¬ n=bp by omega)]
  refine req_intro (by omega) (req_intro (by omega) ⟨by simp;omega,by simp;omega,.inl (by simp;omega),vB_one zs,?_⟩)
  obtain ⟨s1,s2⟩:=rep_step hr g hz (show q<=bp by omega)
  have e6:layV (vB zs) (0+bp*1) (List.take (min q (n-bp)*1) (List.drop 0 (vB zs)))=vB (zs.take bp++(zs.take q).take (min q (n-bp))++zs.drop (bp+min q (n-bp))):=by
   unfold layV vB
   rw [Nat.zero_add,Nat.mul_one,Nat.mul_one,List.drop_zero,show (zs.take q).take (min q (n-bp))=zs.take (min q (n-bp)) by rw [List.take_take,Nat.min_eq_left (Nat.min_le_left _ _)]]
   simp only [← List.map_take,← List.map_drop,← List.map_append,List.length_map]
   rw [show (zs.take (min q (n-bp))).length=min q (n-bp) by simp;omega]
  rw [e5,e6]
  exact Lp_re [some 0,some 1,some 2] (ih _ _ (by omega) (by omega) s2 s1) (wkG mr_)
 ·have g:bp=n:=by simp at g;omega
  subst g
  exact h zs hz hr
theorem lp18 {n ch bp tot:Nat} {zs:List Int} {K:KT} (hn:1<=n/\n<=16384) (hc:1<=ch) (hb:1<=bp/\bp<=n) (hz:n<=zs.length) (hr:zs.take bp=List.replicate bp 255)
  (h:∀ zs:List Int,n<=zs.length->zs.take n=List.replicate n 255->K (.slc 2 0 n n) ([⟨24,.lst [I 0,L none 0 0],2,true⟩,⟨5,.lst [.raw (.int .u8 255)],1,true⟩]++[⟨5,.vals (vB zs),tot,true⟩]) E):
  Lp F6 8 Try.f53 [1,1,1,1,1,1,1,1,1,1,1,0,0] 2 K (sh18 n ch bp tot zs E):=
 Lp_ind okF6 (fun x:{x:Nat×List Int//1<=x.1/\x.1<=n/\n<=x.2.length/\x.2.take x.1=List.replicate x.1 255}=>sh18 n ch x.1.1 tot x.1.2 E) (fun x=>n-x.1.1)
  (fun x ih=>rnd18 hn hc ⟨x.2.1,x.2.2.1⟩ x.2.2.2.1 x.2.2.2.2 h fun bp' zs g1 g2 g3 g4=>ih ⟨(bp',zs),by have:=x.2.1;exact ⟨by omega,g2,g3,g4⟩⟩ (by show n-bp'<n-x.1.1;omega)) ⟨(bp,zs),hb.1,hb.2,hz,hr⟩
theorem s25 {n:Nat} {K:KT} (hn:1<=n/\n<=16384) (h:∀ (tot:Nat) (zs:List Int),n<=zs.length->zs.take n=List.replicate n 255->K (.slc 2 0 n n) ([⟨24,.lst [I 0,L none 0 0],2,true⟩,⟨5,.lst [.raw (.int .u8 255)],1,true⟩]++[⟨5,.vals (vB zs),tot,true⟩]) E):EntB F6 8 Try.f53 [.slc 1 0 1 1,I n] [⟨24,.lst [I 0,L none 0 0],2,true⟩,⟨5,.lst [.raw (.int .u8 255)],1,true⟩] E K:=by
 obtain ⟨k,rfl⟩:∃ k,n=k+1:=⟨n-1,by omega⟩
 exact ent25 hn fun ch tot zs hc hz=>Ct_intro okF6 (pc17 hz (lp18 hn hc ⟨by omega,by omega⟩ (by simp;omega) (by simp) (h tot)))
def newF (s n:Int):(Int×List Int)×Int:=if s<1\/s>1024\/n<1\/n>16384 / s then ((0,[]),1) else ((s,List.replicate (s*n).toNat 255),0)
def tabR:CallT:=fun f args bx E K=>f=53/\∃ n:Nat,args=[.slc 1 0 1 1,I n]/\bx=[⟨24,.lst [I 0,L none 0 0],2,true⟩,⟨5,.lst [.raw (.int .u8 255)],1,true⟩]/\(1<=n/\n<=16384)/\∀ (tot:Nat) (zs:List Int),n<=zs.length->zs.take n=List.replicate n 255->K (.slc 2 0 n n) (bx++[⟨5,.vals (vB zs),tot,true⟩]) E
theorem tabR_ok (f:FuncId) (args:List SV) (bx:List Box) (E:Mem) (K:KT) (h:tabR f args bx E K):CallSem Try.prog f args bx E K:=by
 obtain ⟨rfl,n,rfl,rfl,h1,h2⟩:=h
 exact bsm okF6 Try.func53 (s25 h1 h2)
noncomputable def F8:Cx:={ P:=Try.prog,inl:=fun f=>List.contains [] f,tab:=fun _ _ _ _=>False,isB:=fun f=>f==53,tabB:=tabR,opt:={ unroll:=0,carry:=[] },muts:=mutsD }
theorem okF8:CxOK F8:=CxOK.four (fun _ _ _ _ h=>h.elim) (by kernel_rfl) (okInl (by kernel_rfl)) tabR_ok
theorem loadW_row {rs:List FRow} {i:Nat} {r:FRow} (h:rs[i]? =some r):loadW Try.prog 24 ((rs.flatMap rowV).map .raw) (i*2)=some (.agg [I r.1,L r.2.1 r.2.2.1 r.2.2.2]):=by
 have key:∀ (rs:List FRow) (i:Nat),rs[i]? =some r->(((rs.flatMap rowV).map SV.raw).drop (i*2)).take 2=[I r.1,L r.2.1 r.2.2.1 r.2.2.2]:=by
  intro rs
  induction rs with
  | nil=>intro i h;simp at h
  | cons x rs ih=>
   intro i h
   cases i with
   | zero=>simp at h;subst h;simp [rowV]
   | succ i=>
    have:=ih i (by simpa using h)
    rw [show (i+1)*2=i*2+2 by omega,List.flatMap_cons,List.map_append,List.drop_append,List.drop_eq_nil_of_le (by simp [rowV]),List.nil_append]
    simpa [rowV] using this
 have hu:(match Try.prog.underlying 24 with |some (.struct _)=>true|_=>false)=true:=by kernel_rfl
 have hi:(Try.prog.info? 24).map (·.size)=some 2:=by kernel_rfl
 unfold loadW
 split at hu
 ·rename_i fs hfs
  rw [hfs]
  cases hinf:Try.prog.info? 24 with
  | none=>rw [hinf] at hi;cases hi
  | some inf=>
   rw [hinf] at hi
   simp only [Option.map_some,Option.some.injEq] at hi
   simp only [hi,key rs i h]
   rfl
 ·cases hu
theorem FL.load {b:Option Addr} {n c:Nat} {ms:List (Int×List Int)} (h:FL E b n c ms) {i:Nat} {m:Int×List Int} (hm:ms[i]? =some m):
  (∃ cs,E (.slice b n c) cs/\(cs=[]->False))/\∃ (b':Option Addr) (l' c':Nat),LoadE Try.prog E 24 (.slice b n c) (i*2) (.agg [I m.1,L b' l' c'])/\Bs E b' l' c' m.2:=by
 obtain ⟨rs,h1,h2,h3,h4,h5⟩:=h
 have hi:i<ms.length:=(List.getElem?_eq_some_iff.1 hm).1
 have hE:=h4.resolve_left (by omega)
 obtain ⟨r,er⟩:∃ r,rs[i]? =some r:=⟨_,List.getElem?_eq_getElem (by rw [h1.1];exact hi)⟩
 obtain ⟨q1,q2⟩:=h1.2 i r m er hm
 refine ⟨⟨_,hE,fun e=>?_⟩,r.2.1,r.2.2.1,r.2.2.2,⟨_,hE,?_⟩,q2⟩
 ·have:=rows_len rs
  rw [e,h1.1] at this
  simp at this;omega
 ·rw [← q1];exact loadW_row er
theorem FL.len {b:Option Addr} {n c:Nat} {ms:List (Int×List Int)} (h:FL E b n c ms):ms.length=n:=by
 obtain ⟨rs,h1,h2,_⟩:=h;exact h2
theorem calls61 (v1 v2:Value) (xs ys:List Int) (w:World)
  (h1:(convert 22 9 v1).run Try.prog w= .ok (.string (strOfNums xs)) w) (h2:(convert 22 9 v2).run Try.prog w= .ok (.string (strOfNums ys)) w):
  Calls Try.prog 70 #[v1,v2] w fun e w'=>e= .returned (.bool (Lib.bytesOf xs==Lib.bytesOf ys))/\w'=w:=by
 rw [← Lib.strOfNums_toList,← Lib.strOfNums_toList]
 go_enter Try.func70,(show Try.f70.ntmps=10 from rfl)
 go_wp2
 go_ret
 exact ⟨rfl,rfl⟩
theorem bytes_inj:∀ {xs ys:List Int},(∀ z∈xs,0<=z/\z<=255)->(∀ z∈ys,0<=z/\z<=255)->(Lib.bytesOf xs==Lib.bytesOf ys)=decide (xs=ys)
 | [],[],_,_=>rfl
 | [],y::ys,_,_=>by simp [Lib.bytesOf]
 | x::xs,[],_,_=>by simp [Lib.bytesOf]
 | x::xs,y::ys,hx,hy=>by
  have ih:=bytes_inj (xs:=xs) (ys:=ys) (fun z hz=>hx z (List.mem_cons_of_mem _ hz)) (fun z hz=>hy z (List.mem_cons_of_mem _ hz))
  have a:=hx x (by simp)
  have b:=hy y (by simp)
  have e:(UInt8.ofNat x.toNat=UInt8.ofNat y.toNat)↔x=y:=by
   rw [← UInt8.toNat_inj,UInt8.toNat_ofNat',UInt8.toNat_ofNat',Nat.mod_eq_of_lt (by omega),Nat.mod_eq_of_lt (by omega)]
   omega
  have ih2:(Lib.bytesOf xs=Lib.bytesOf ys)↔xs=ys:=by simpa using congrArg (· =true) ih
  rw [Bool.eq_iff_iff]
  show ((UInt8.ofNat x.toNat::Lib.bytesOf xs)==(UInt8.ofNat y.toNat::Lib.bytesOf ys))=true↔_
  simp only [beq_iff_eq,List.cons.injEq,decide_eq_true_eq,e,ih2]
theorem conv61 {b:Option Addr} {l c:Nat} {zs:List Int} (h:Bs E b l c zs) {w:World} (hE:Hold E w):(convert 22 9 (.slice b l c)).run Try.prog w= .ok (.string (strOfNums zs)) w:=by
 have key:∀ zs:List Int,RowAt w (.slice b l c) (zs.map (.int .u8))->zs.length=l->(b=none->zs=[])->(convert 22 9 (.slice b l c)).run Try.prog w= .ok (.string (strOfNums zs)) w:=by
  intro zs hr hl hn
  cases b with
  | none=>
   rw [hn rfl]
   exact run_convert_bytes_nil w 22 5 (by kernel_rfl) (by kernel_rfl) l c 9 (by kernel_rfl)
  | some a=>
   rcases hr with hr|⟨a',n',c',e,hs,hr⟩
   ·rw [List.map_eq_nil_iff] at hr
    subst hr
    obtain rfl:l=0:=by simpa using hl.symm
    rw [run_convert_bytes_string w 22 9 5 (some a) 0 c (by kernel_rfl) (by kernel_rfl) (by kernel_rfl)]
    simp [Conv.bytesToString,loadCells]
    all_goals rfl
   ·cases e
    obtain ⟨bk,o,sp⟩:=a
    simp only at hs
    subst hs
    refine run_convert_bytes_arg w 22 5 (by kernel_rfl) (by kernel_rfl) bk o l c zs hl (fun i hi=>?_) 9 (by kernel_rfl)
    exact hr i _ (by simp [hl,hi])
 rcases h.1 with h1|h1
 ·refine key zs (.inl (by rw [h1];rfl)) h.2.1 h.2.2.2.2
 ·exact key zs (hE _ _ h1) h.2.1 h.2.2.2.2
theorem s61 {b1 b4:Option Addr} {l2 c3 l5 c6:Nat} {xs ys:List Int} (h0:Bs E b1 l2 c3 xs) (h1:Bs E b4 l5 c6 ys) (h:K (B (decide (xs=ys))) E):TabSem Try.prog 70 [L b1 l2 c3,L b4 l5 c6] E K:=by
 refine ⟨⟨_,Try.func70,by kernel_rfl,by kernel_rfl⟩,_,rfl,fun w hw=>(calls61 _ _ xs ys w (conv61 h0 hw) (conv61 h1 hw)).mono ?_⟩
 rintro e w' ⟨rfl,rfl⟩
 rw [bytes_inj h0.2.2.2.1 h1.2.2.2.1]
 exact ⟨_,_,E,rfl,rfl,Keep.refl _ _,mr_,hw,fun v cs g hne=>.inr ⟨v,cs,g,hne,rfl⟩,h⟩
def numF (zs:List Int):Int:=zs.foldl (fun n x=>256*n+x) 0
theorem numF_take {zs:List Int} {i:Nat} {x:Int} (h:zs[i]? =some x):numF (zs.take (i+1))=256*numF (zs.take i)+x:=by
 unfold numF;rw [take_get' h];simp
theorem numF_bd:∀ {zs:List Int},(∀ z∈zs,0<=z/\z<=255)->0<=numF zs/\numF zs<256 ^ zs.length:=by
 have key:∀ (zs:List Int) (n:Int),0<=n->(∀ z∈zs,0<=z/\z<=255)->0<=zs.foldl (fun n x=>256*n+x) n/\zs.foldl (fun n x=>256*n+x) n<(n+1)*256 ^ zs.length:=by
  intro zs
  induction zs with
  | nil=>intro n h _;simp;omega
  | cons x zs ih=>
   intro n h hz
   have hx:=hz x (by simp)
   obtain ⟨h1,h2⟩:=ih (256*n+x) (by omega) (fun z hz'=>hz z (List.mem_cons_of_mem _ hz'))
   refine ⟨h1,?_⟩
   simp only [List.foldl_cons,List.length_cons]
   refine Int.lt_of_lt_of_le h2 ?_
   rw [Int.pow_succ,← Int.mul_assoc,Int.mul_right_comm]
   refine Int.mul_le_mul_of_nonneg_right (by omega) ?_
   have :(0:Int)<256 ^ zs.length:=Int.pow_pos (by decide)
   omega
 intro zs hz
 have:=key zs 0 (by decide) hz
 unfold numF
 simpa using this
def storF (n:Int):Nat->List Int
 | 0=>[]
 | i+1=>(n / 256 ^ i) % 256::storF n i
theorem storF_len (n:Int):∀ i,(storF n i).length=i
 | 0=>rfl
 | i+1=>by simp [storF,storF_len n i]
theorem storF_byte (n:Int):∀ i,∀ z∈storF n i,0<=z/\z<=255
 | 0,z,h=>by cases h
 | i+1,z,h=>by
  rcases List.mem_cons.1 h with rfl|h
  ·omega
  ·exact storF_byte n i z h
def stepF (s x:Int):Int:=IntKind.wrap .u64 (IntKind.wrap .u64 (((BitVec.ofInt (IntKind.bits .u64) s ^^^ BitVec.ofInt (IntKind.bits .u64) x).toNat:Nat):Int)*1099511628211)
def fnvF (s:Int) (zs:List Int):Int:=zs.foldl stepF s
theorem fnvF_take {s:Int} {zs:List Int} {i:Nat} {x:Int} (h:zs[i]? =some x):fnvF s (zs.take (i+1))=stepF (fnvF s (zs.take i)) x:=by
 unfold fnvF;rw [take_get' h];simp
def sumF (zs:List Int):Int:=fnvF 14695981039346656037 zs
theorem wu64' {x:Int} (h:0<=x/\x<18446744073709551616):IntKind.wrap .u64 x=x:=by
 rw [show IntKind.wrap .u64 x=x % 18446744073709551616 from rfl];omega
theorem or8 {n x:Int} (h:0<=n/\n<1099511627776) (hx:0<=x/\x<=255):IntKind.wrap .i64 (((BitVec.ofInt (IntKind.bits .i64) (IntKind.wrap .i64 (n*2 ^ min (Int.toNat 8) (IntKind.bits .i64)))|||BitVec.ofInt (IntKind.bits .i64) (IntKind.wrap .i64 x)).toNat:Nat):Int)=256*n+x:=by
 obtain ⟨a,rfl⟩:∃ a:Nat,n=a:=⟨n.toNat,by omega⟩
 obtain ⟨b,rfl⟩:∃ b:Nat,x=b:=⟨x.toNat,by omega⟩
 rw [show min (Int.toNat 8) (IntKind.bits .i64)=8 from rfl,show (2:Int) ^ 8=256 from rfl,wrap_i64 (x:=(a:Int)*256) (by omega),wrap_i64 (x:=(b:Int)) (by omega),show IntKind.bits .i64=64 from rfl,
  show ((a:Int)*256)=((a*256:Nat):Int) by simp,BitVec.toNat_or,BitVec.ofInt_natCast,BitVec.ofInt_natCast,BitVec.toNat_ofNat,BitVec.toNat_ofNat,Nat.mod_eq_of_lt (by omega),Nat.mod_eq_of_lt (by omega)]
 have e:a*256|||b=a*256+b:=by
  have:=Nat.shiftLeft_add_eq_or_of_lt (i:=8) (b:=b) (by omega) a
  rw [Nat.shiftLeft_eq] at this
  exact this.symm
 rw [e,wrap_i64 (by omega)];omega
theorem numF_small {zs:List Int} {l:Nat} (hz:∀ z∈zs,0<=z/\z<=255) (hl:zs.length=l) (h4:l<=4) (i:Nat):0<=numF (zs.take i)/\numF (zs.take i)<4294967296:=by
 obtain ⟨h1,h2⟩:=numF_bd (zs:=zs.take i) (fun z h=>hz z (List.mem_of_mem_take h))
 refine ⟨h1,Int.lt_of_lt_of_le h2 ?_⟩
 have hk:(zs.take i).length<=4:=by rw [List.length_take];omega
 have :∀ k:Nat,k<=4->(256:Int) ^ k<=4294967296:=by decide
 exact this _ hk
theorem stor_step {n:Int} {m i:Nat} (h:i<m):layV (vB (List.replicate (m-i) (0:Int)++storF n i)) (m-1-i) [.int .u8 ((n / 256 ^ i) % 256)]=vB (List.replicate (m-(i+1)) (0:Int)++storF n (i+1)):=by
 rw [layV_set (by simp [storF_len];omega)]
 have e:List.replicate (m-i) (0:Int)=List.replicate (m-(i+1)) 0++[0]:=by rw [← List.replicate_succ'];congr 1;omega
 rw [e,List.append_assoc,List.set_append_right _ _ (by simp;omega)]
 have e2:m-1-i-(List.replicate (m-(i+1)) (0:Int)).length=0:=by simp;omega
 rw [e2]
 rfl
theorem Bs.get {b:Option Addr} {l c:Nat} {zs:List Int} (h:Bs E b l c zs) {i:Nat} (hi:i<l):zs[i]? =some (zs.getD i 0)/\0<=zs.getD i 0/\zs.getD i 0<=255:=by
 have hl:i<zs.length:=by rw [h.2.1];exact hi
 have e:zs[i]? =some (zs.getD i 0):=by rw [List.getD_eq_getElem?_getD,List.getElem?_eq_getElem hl];rfl
 exact ⟨e,h.2.2.2.1 _ (List.mem_of_getElem? e)⟩
noncomputable def J1:Cx:={ P:=Try.prog,inl:=fun f=>List.contains [] f,tab:=fun _ _ _ _=>False,isB:=fun _=>false,tabB:=fun _ _ _ _ _=>False,opt:={ unroll:=0,carry:=[3,8] },muts:=mutsD }
theorem okJ1:CxOK J1:=CxOK.four (fun _ _ _ _ h=>h.elim) (by kernel_rfl) (okInl (by kernel_rfl)) (fun _ _ _ _ _ h=>h.elim)
def sh43 (b:Option Addr) (l:Nat) (c:Nat) (zs:List Int) (i:Nat) (E:Mem):St:=⟨[none,none,none,oI (numF (zs.take i)),none,none,oL b l c,oI (l:Nat),oI (i:Nat),none,none,none,none,none,none,none,none,none,none],[],E⟩
theorem rnd43 {b:Option Addr} {l:Nat} {c:Nat} {zs:List Int} {i:Nat} {E0:Mem} (hz:Bs E b l c zs) (hl:l<=4) (hi:i<=l) (hE:Mem.le E0 E) (h:K (I (numF zs)) E)
  (ih:(i<l)->Lp J1 8 Try.f55 [1,1,0,1,0] 0 (pubK E0 K) (sh43 b l c zs (i+1) E)):Rnd J1 8 Try.f55 [1,1,0,1,0] 0 (pubK E0 K) (sh43 b l c zs i E):=by
 refine sm_ (?_:bif decide ((NI i)<(NI l)) then req (0<=(NI i)/\(NI i)<(NI l)) ((∃ (cs:List Value),E (VS b l c) cs/\(cs=[]->False))/\∃ (n:Int),LoadE J1.P E 5 (VS b l c) (Int.toNat (NI i)*1) (SV.raw (U8 n))/\Lp J1 8 Try.f55 [1,1,0,1,0] 0 (pubK E0 K) { fr:=none::none::none::oI (WI (NI (BitVec.toNat (BitVec.ofInt (IntKind.bits IntKind.i64) (WI (numF (List.take i zs)*(2:Int) ^ min (Int.toNat 8) (IntKind.bits IntKind.i64)))|||BitVec.ofInt (IntKind.bits IntKind.i64) (WI n)))))::none::none::oL b l c::oI (NI l)::oI (WI ((NI i)+1))::no8 (no2 []),bx:=[],E:=E:St }) else Mem.le E0 E/\K (I (numF (List.take i zs))) E)
 delta WI NI U8 VS no2 no8
 have hn:=hz.2.1
 refine condC (fun g=>?_) (fun g=>?_)
 ·have g:i<l:=by simpa using g
  obtain ⟨e,b1,b2⟩:=Bs.get hz g
  have sm:=numF_small hz.2.2.2.1 hn hl i
  refine req_intro (by omega) ⟨Bs.ne hz g,zs.getD i 0,Bs.load hz rfl g,?_⟩
  rw [or8 (by omega) ⟨b1,b2⟩,← numF_take e,wrap_i64 (x:=(i:Int)+1) (by omega),show (i:Int)+1=((i+1:Nat):Int) by simp]
  exact Lp_re [] (ih g) (wkG mr_)
 ·have g:i=l:=by simp at g;omega
  subst g
  rw [List.take_of_length_le (by omega)]
  exact ⟨hE,h⟩
theorem lp43 {b:Option Addr} {l:Nat} {c:Nat} {zs:List Int} {i:Nat} {E0:Mem} (hz:Bs E b l c zs) (hl:l<=4) (hi:i<=l) (hE:Mem.le E0 E) (h:K (I (numF zs)) E):Lp J1 8 Try.f55 [1,1,0,1,0] 0 (pubK E0 K) (sh43 b l c zs i E):=
 Lp_ind okJ1 (fun q0:{i:Nat//i<=l}=>sh43 b l c zs q0.1 E) (fun q0=>l-q0.1) (fun q0 ih=>rnd43 hz hl q0.2 hE h fun g=>ih ⟨q0.1+1,by have:=q0.2;omega⟩ (by show l-(_+1)<l-_;have:=q0.2;omega)) ⟨i,hi⟩
theorem s43 {b1:Option Addr} {l2:Nat} {c3:Nat} {zs:List Int} (h0:Bs E b1 l2 c3 zs) (h1:l2<=4) (h:K (I (numF zs)) E):
  Ent J1 8 Try.f55 [L b1 l2 c3] E K:=by
 refine sm_ (?_:Lp J1 8 Try.f55 [1,1,0,1,0] 0 (pubK E K) { fr:=some (L b1 l2 c3)::none::oI 0::oI 0::none::none::oL b1 l2 c3::oI (NI l2)::oI 0::no8 (no2 []),bx:=[],E:=E:St })
 delta NI no2 no8
 exact Lp_re [] (lp43 (i:=0) h0 h1 (Nat.zero_le _) mr_ h) (wkG mr_)
noncomputable def J3:Cx:={ P:=Try.prog,inl:=fun f=>List.contains [] f,tab:=fun _ _ _ _=>False,isB:=fun _=>false,tabB:=fun _ _ _ _ _=>False,opt:={ unroll:=0,carry:=[11] },muts:=mutsD }
theorem okJ3:CxOK J3:=CxOK.four (fun _ _ _ _ h=>h.elim) (by kernel_rfl) (okInl (by kernel_rfl)) (fun _ _ _ _ _ h=>h.elim)
def sh53 (n:Int) (m:Nat) (i:Nat) (E:Mem):St:=⟨[some (.raw (.int .u64 n)),oI (m:Nat),none,none,none,os 0 0 m m,none,none,none,os 0 0 m m,oI (m:Nat),oI (i:Nat),none,none,none,none,none,none,none,none,none,none,none,none,none,none,none],[⟨5,.vals (vB (List.replicate (m-i) 0++storF n i)),m*1,true⟩],E⟩
theorem rnd53 {n:Int} {m:Nat} {i:Nat} {E0:Mem} {KK:KT} (hn:0<=n/\n<18446744073709551616) (hm:m<=8) (hi:i<=m) (hE:Mem.le E0 E) (h:KK (.slc 0 0 m m) [⟨5,.vals (vB (storF n m)),m*1,true⟩] E)
  (ih:(i<m)->Lp J3 8 Try.f65 [1,1,0,1,0] 0 KK (sh53 n m (i+1) E)):Rnd J3 8 Try.f65 [1,1,0,1,0] 0 KK (sh53 n m i E):=by
 refine sm_ (?_:bif decide ((NI i)<(NI m)) then req ((0:Int)<=WI ((8:Int)*(NI i))) (req ((0:Int)<=WI (WI ((NI m)-1)-(NI i))/\WI (WI ((NI m)-1)-(NI i))<(NI m)) (0+Int.toNat (WI (WI ((NI m)-1)-(NI i)))*1+1<=List.length (vB (List.replicate (m-i) (0:Int)++storF n i))/\Lp J3 8 Try.f65 [1,1,0,1,0] 0 KK { fr:=some (SV.raw (Value.int IntKind.u64 n))::oI (NI m)::none::none::none::os 0 0 m m::none::none::none::os 0 0 m m::oI (NI m)::oI (WI ((NI i)+1))::no8 (no4 (no2 (none::[]))),bx:=[(⟨5,.vals (layV (vB (List.replicate (m-i) (0:Int)++storF n i)) (0+Int.toNat (WI (WI ((NI m)-1)-(NI i)))*1) [U8 (IntKind.wrap IntKind.u8 (Int.fdiv n ((2:Int) ^ min (Int.toNat (WI ((8:Int)*(NI i)))) (IntKind.bits IntKind.u64))))]),m*1,true⟩:Box)],E:=E:St })) else KK (SV.slc 0 0 m m) [⟨5,.vals (vB (List.replicate (m-i) (0:Int)++storF n i)),m*1,true⟩] E)
 delta WI NI U8 no2 no4 no8
 refine condC (fun g=>?_) (fun g=>?_)
 ·have g:i<m:=by simpa using g
  have e1:IntKind.wrap .i64 (IntKind.wrap .i64 ((m:Int)-1)-(i:Int))=((m-1-i:Nat):Int):=by rw [wrap_i64 (x:=(m:Int)-1) (by omega),wrap_i64 (by omega)];omega
  have e2:IntKind.wrap .i64 (8*(i:Int))=((8*i:Nat):Int):=by rw [wrap_i64 (by omega)];simp
  have e3:IntKind.wrap .u8 (Int.fdiv n ((2:Int) ^ min (Int.toNat ((8*i:Nat):Int)) (IntKind.bits .u64)))=(n / 256 ^ i) % 256:=by
   rw [Int.toNat_natCast,Nat.min_eq_left (show 8*i<=IntKind.bits .u64 by show 8*i<=64;omega),Int.pow_mul,show (2:Int) ^ 8=256 from rfl,Int.fdiv_eq_ediv_of_nonneg _ (Int.le_of_lt (Int.pow_pos (by decide)))]
   rfl
  rw [e2,e1,e3]
  refine req_intro (by omega) (req_intro (by omega) ⟨by simp [storF_len];omega,?_⟩)
  rw [show 0+Int.toNat ((m-1-i:Nat):Int)*1=m-1-i by omega,stor_step g,wrap_i64 (x:=(i:Int)+1) (by omega),show (i:Int)+1=((i+1:Nat):Int) by simp]
  exact Lp_re [some 0] (ih g) (wkG mr_)
 ·have g:i=m:=by simp at g;omega
  subst g
  rw [Nat.sub_self,List.replicate_zero,List.nil_append]
  exact h
theorem lp53 {n:Int} {m:Nat} {i:Nat} {E0:Mem} {KK:KT} (hn:0<=n/\n<18446744073709551616) (hm:m<=8) (hi:i<=m) (hE:Mem.le E0 E) (h:KK (.slc 0 0 m m) [⟨5,.vals (vB (storF n m)),m*1,true⟩] E):Lp J3 8 Try.f65 [1,1,0,1,0] 0 KK (sh53 n m i E):=
 Lp_ind okJ3 (fun q0:{i:Nat//i<=m}=>sh53 n m q0.1 E) (fun q0=>m-q0.1) (fun q0 ih=>rnd53 hn hm q0.2 hE h fun g=>ih ⟨q0.1+1,by have:=q0.2;omega⟩ (by show m-(_+1)<m-_;have:=q0.2;omega)) ⟨i,hi⟩
theorem b53 {KK:KT} {n:Int} {m:Nat} (h0:0<=n/\n<18446744073709551616) (h1:m<=8) (h:KK (.slc 0 0 m m) [⟨5,.vals (vB (storF n m)),m*1,true⟩] E):EntB J3 8 Try.f65 [.raw (.int .u64 n),I (m:Nat)] [] E KK:=by
 refine sm_ (?_:req (0<=(NI m)/\(NI m)<=(NI m)) (req ((NI m)*1<=(140737488355328:Int)) (Lp J3 8 Try.f65 [1,1,0,1,0] 0 KK { fr:=some (SV.raw (Value.int IntKind.u64 n))::oI (NI m)::none::none::oL none 0 0::os 0 0 (Int.toNat (NI m)) (Int.toNat (NI m))::none::oI (NI m)::os 0 0 (Int.toNat (NI m)) (Int.toNat (NI m))::os 0 0 (Int.toNat (NI m)) (Int.toNat (NI m))::oI (NI (Int.toNat (NI m)))::oI 0::no8 (no4 (no2 (none::[]))),bx:=[(⟨5,.vals (zerosV [U8 0] (Int.toNat (NI m))),Int.toNat (NI m)*1,true⟩:Box)],E:=E:St })))
 delta NI U8 no2 no4 no8
 refine req_intro (by omega) (req_intro (by omega) ?_)
 rw [show zerosV [Value.int IntKind.u8 0] (Int.toNat (m:Int))=vB (List.replicate (m-0) 0++storF n 0) by simp [zerosV,storF,List.flatten_replicate_singleton],Int.toNat_natCast]
 exact Lp_re [some 0] (lp53 (i:=0) h0 (by omega) (Nat.zero_le _) mr_ h) (wkG mr_)
theorem CallSem.see {P:Program} {f:FuncId} {bx:List Box} {b:Nat} {e:TypeId} {vs:List Value} {tot:Nat} {args args':List SV} {E:Mem} {K:KT} (hb:bx[b]? =some ⟨e,.vals vs,tot,true⟩) (ha:args=SV.renL [b] bx.length args')
  (h:CallSem P f args' [⟨e,.vals vs,tot,true⟩] E (cloK 1 fun s bx' E'=>∃ r:Value,s= .raw r/\bx'=[⟨e,.vals vs,tot,true⟩]/\K (.raw r) bx E')):CallSem P f args bx E K:=by
 refine frame (σ:=[b]) ⟨by simp,rfl,fun i y hy=>?_⟩ ha h.clo ?_
 ·match i,hy with
  | 0,hy=>
   simp only [List.getElem?_cons_zero,Option.some.injEq] at hy;subst hy
   exact ⟨rfl,b,rfl,hb⟩
 ·rintro s bxs' E' ⟨r,rfl,rfl,hK⟩
  have e2:bx.set b ⟨e,.vals vs,tot,true⟩=bx:=by
   apply List.ext_getElem?
   intro i
   rw [List.getElem?_set]
   split
   ·rename_i h';subst h'
    have hlt:b<bx.length:=(List.getElem?_eq_some_iff.1 hb).1
    simp only [hlt,if_true];exact hb.symm
   ·rfl
  simpa [merge,setAll,SV.ren,renF,Box.ren,Row.ren,SV.renL,e2] using hK
def sumD (b:Nat) (l:Nat) (bx:List Box) (k:List Int->Prop):Prop:=match bx[b]? with
 | some ⟨e,.vals vs,tot,true⟩=>∃ zs:List Int,(e=5/\vs=vB zs/\zs.length=l/\l<=100000/\∀ z∈zs,0<=z/\z<=255)/\k zs
 | _=>False
theorem sumD_elim {b l:Nat} {bx:List Box} {k:List Int->Prop} (h:sumD b l bx k):∃ (tot:Nat) (zs:List Int),bx[b]? =some ⟨5,.vals (vB zs),tot,true⟩/\((∀ z∈zs,0<=z/\z<=255)/\zs.length=l/\l<=100000)/\k zs:=by
 unfold sumD at h
 split at h
 case h_2=>exact h.elim
 rename_i e vs tot hb
 obtain ⟨zs,⟨rfl,rfl,h1,h2,h3⟩,h4⟩:=h
 exact ⟨tot,zs,hb,⟨h3,h1,h2⟩,h4⟩
noncomputable def D1:Cx:={ P:=Try.prog,inl:=fun f=>List.contains [82,83] f,tab:=fun _ _ _ _=>False,isB:=fun _=>false,tabB:=fun _ _ _ _ _=>False,opt:={ unroll:=0,carry:=[],cuts:=[] },muts:=mutsD }
theorem okD1:CxOK D1:=CxOK.four (fun _ _ _ _ h=>h.elim) (by kernel_rfl) (okInl (by kernel_rfl)) (fun _ _ _ _ _ h=>h.elim)
noncomputable def D2:Cx:={ P:=Try.prog,inl:=fun f=>List.contains [] f,tab:=fun _ _ _ _=>False,isB:=fun _=>false,tabB:=fun _ _ _ _ _=>False,opt:={ unroll:=0,carry:=[9,15] },muts:=(fun o=>match o with | .call { callee:=.value (.tmp 19),.. }=>true|o=>mutsD o) }
theorem okD2:CxOK D2:=CxOK.four (fun _ _ _ _ h=>h.elim) (by kernel_rfl) (okInl (by kernel_rfl)) (fun _ _ _ _ _ h=>h.elim)
abbrev fr76 (a:Int) (l c:Nat):List (Option SV):=[some (.raw (.int .u64 a)),os 0 0 l c,none,none,some (.raw (.int .u64 0)),oc 1 0,none,some (.raw (.int .u64 a)),os 0 0 l c,os 2 0 1 1,some (.clo 84 [] [.loc 3 0]),none,none,none,none,none]
abbrev bx76 (n:Int) (l c tot:Nat) (zs:List Int):List Box:=[⟨5,.vals (vB zs),tot,true⟩,⟨146,.lst [.raw (.int .u64 n)],1,true⟩,⟨22,.lst [.slc 0 0 l c],1,true⟩,⟨66,.lst [.slc 2 0 1 1],1,true⟩]
noncomputable def DY (a:Int) (l c:Nat) (rc:Rc):Cx:=YCx D2 D1 8 (fr76 a l c) (sub (bodyOf Try.f81) [1,1,0,1,0]) rc
def sh79o (n:Int) (l c tot:Nat) (zs:List Int) (rc:Rc) (i:Nat) (E:Mem):St:=⟨[some (.raw (.func (.yield rc.l) #[] #[])),none,none,none,none,none,none,os 2 0 1 1,oI 1,oI (i:Nat),none,none,none,none,none,none,none,none,none,none,none,none,none,none,none,none],bx76 n l c tot zs,E⟩
def sh79i (n:Int) (l c tot:Nat) (zs:List Int) (rc:Rc) (j:Nat) (E:Mem):St:=⟨[some (.raw (.func (.yield rc.l) #[] #[])),none,none,none,none,none,none,os 2 0 1 1,oI 1,oI 0,none,none,none,os 0 0 l c,oI (l:Nat),oI (j:Nat),none,none,none,none,none,none,none,none,none,none],bx76 n l c tot zs,E⟩
theorem rnd79z {a n:Int} {l c tot:Nat} {rc:Rc} {K:KT} {zs:List Int} (h:Cn D1 8 Try.f81 [1,1,0,1,0] 1 K ⟨fr76 a l c,bx76 n l c tot zs,E⟩):Rnd (DY a l c rc) 8 Try.f84 [1,0] 4 (fun _ bx E=>Cn D1 8 Try.f81 [1,1,0,1,0] 1 K ⟨fr76 a l c,bx,E⟩) (sh79o n l c tot zs rc 1 E):=by
 refine sm_ (?_:Cn D1 8 Try.f81 [1,1,0,1,0] 1 K { fr:=[some (SV.raw (Value.int IntKind.u64 a)),os 0 0 l c,none,none,some (SV.raw (Value.int IntKind.u64 (0:Int))),oc 1 0,none,some (SV.raw (Value.int IntKind.u64 a)),os 0 0 l c,os 2 0 1 1,some (SV.clo 84 [] [SV.loc 3 0]),none,none,none,none,none],bx:=[(⟨5,Row.vals (vB zs),tot,true⟩:Box),⟨146,Row.lst [SV.raw (Value.int IntKind.u64 n)],1,true⟩,⟨22,Row.lst [SV.slc 0 0 l c],1,true⟩,⟨66,Row.lst [SV.slc 2 0 1 1],1,true⟩],E:=E:St })
 exact h
theorem rnd79i {a n:Int} {l c j tot:Nat} {rc:Rc} {K:KT} {zs:List Int} (hz:(∀ z∈zs,0<=z/\z<=255)/\zs.length=l/\l<=100000) (hj:j<=l) (hn:n=fnvF a (zs.take j)) (h:Lp (DY a l c rc) 8 Try.f84 [1,0] 4 (fun _ bx E=>Cn D1 8 Try.f81 [1,1,0,1,0] 1 K ⟨fr76 a l c,bx,E⟩) (sh79o (fnvF a zs) l c tot zs rc 1 E))
  (ih:j<l->Lp (DY a l c rc) 8 Try.f84 [1,0,0,1,1,0,0,1,1,0] 4 (fun _ bx E=>Cn D1 8 Try.f81 [1,1,0,1,0] 1 K ⟨fr76 a l c,bx,E⟩) (sh79i (fnvF a (zs.take (j+1))) l c tot zs rc (j+1) E)):Rnd (DY a l c rc) 8 Try.f84 [1,0,0,1,1,0,0,1,1,0] 4 (fun _ bx E=>Cn D1 8 Try.f81 [1,1,0,1,0] 1 K ⟨fr76 a l c,bx,E⟩) (sh79i n l c tot zs rc j E):=by
 refine sm_ (?_:bif decide ((NI j)<(NI l)) then req (0<=(NI j)/\(NI j)<(NI l)) (∃ (n_1:Int),LoadV (DY a l c rc).P 5 (vB zs) (0+Int.toNat (NI j)*1) (SV.raw (U8 n_1))/\rc.l=rc.l/\Mem.le E E/\Lp (DY a l c rc) 8 Try.f84 [1,0,0,1,1,0,0,1,1,0] 4 (fun (x:SV) (bx:List Box) (E:Mem)=>Cn D1 8 Try.f81 [1,1,0,1,0] 1 K { fr:=fr76 a l c,bx:=bx,E:=E:St }) { fr:=some (SV.raw (Value.func (Fn.yield rc.l) #[] #[]))::no4 (no2 (os 2 0 1 1::oI 1::oI 0::none::none::none::os 0 0 l c::oI (NI l)::oI (WI ((NI j)+1))::no8 (no2 []))),bx:=[(⟨5,.vals (vB zs),tot,true⟩:Box),⟨146,.lst [SV.raw (Value.int IntKind.u64 (IntKind.wrap IntKind.u64 (IntKind.wrap IntKind.u64 (NI (BitVec.toNat (BitVec.ofInt (IntKind.bits IntKind.u64) n ^^^ BitVec.ofInt (IntKind.bits IntKind.u64) (IntKind.wrap IntKind.u64 n_1))))*(1099511628211:Int))))],1,true⟩,⟨22,.lst [SV.slc 0 0 l c],1,true⟩,⟨66,.lst [SV.slc 2 0 1 1],1,true⟩],E:=E:St }) else Lp (DY a l c rc) 8 Try.f84 [1,0] 4 (fun (x:SV) (bx:List Box) (E:Mem)=>Cn D1 8 Try.f81 [1,1,0,1,0] 1 K { fr:=fr76 a l c,bx:=bx,E:=E:St }) { fr:=some (SV.raw (Value.func (Fn.yield rc.l) #[] #[]))::no4 (no2 (os 2 0 1 1::oI 1::oI 1::none::none::none::none::none::oI (NI j)::no8 (no2 []))),bx:=[(⟨5,.vals (vB zs),tot,true⟩:Box),⟨146,.lst [SV.raw (Value.int IntKind.u64 n)],1,true⟩,⟨22,.lst [SV.slc 0 0 l c],1,true⟩,⟨66,.lst [SV.slc 2 0 1 1],1,true⟩],E:=E:St })
 delta WI NI U8 no2 no4 no8
 obtain ⟨hb,hn0,hl⟩:=hz
 refine condC (fun g=>?_) (fun g=>?_)
 ·have g:j<l:=by simpa using g
  have e:zs[j]? =some (zs.getD j 0):=by rw [List.getD_eq_getElem?_getD,List.getElem?_eq_getElem (by omega)];rfl
  obtain ⟨b1,b2⟩:=hb _ (List.mem_of_getElem? e)
  refine req_intro (by omega) ⟨zs.getD j 0,?_,rfl,mr_,?_⟩
  ·show LoadV _ _ (vB zs) (0+((j:Nat):Int).toNat*1) _
   rw [show 0+((j:Nat):Int).toNat*1=j by omega]
   exact loadV_byte rfl (by omega)
  subst hn
  rw [wu64' (x:=zs.getD j 0) (by omega),show IntKind.wrap .u64 (IntKind.wrap .u64 (((BitVec.ofInt (IntKind.bits .u64) (fnvF a (zs.take j)) ^^^ BitVec.ofInt (IntKind.bits .u64) (zs.getD j 0)).toNat:Nat):Int)*1099511628211)=stepF (fnvF a (zs.take j)) (zs.getD j 0) from rfl,← fnvF_take e,wrap_i64 (x:=(j:Int)+1) (by omega),show (j:Int)+1=((j+1:Nat):Int) by simp]
  exact Lp_re [some 0,some 1,some 2,some 3] (ih g) (wkG mr_)
 ·have g:j=l:=by simp at g;omega
  subst g
  rw [List.take_of_length_le (by omega)] at hn
  subst hn
  exact Lp_re [some 0,some 1,some 2,some 3] (h) (wkG mr_)
theorem rnd79o {a:Int} {l c tot:Nat} {rc:Rc} {K:KT} {zs:List Int} (h:Lp (DY a l c rc) 8 Try.f84 [1,0,0,1,1,0,0,1,1,0] 4 (fun _ bx E=>Cn D1 8 Try.f81 [1,1,0,1,0] 1 K ⟨fr76 a l c,bx,E⟩) (sh79i a l c tot zs rc 0 E)):Rnd (DY a l c rc) 8 Try.f84 [1,0] 4 (fun _ bx E=>Cn D1 8 Try.f81 [1,1,0,1,0] 1 K ⟨fr76 a l c,bx,E⟩) (sh79o a l c tot zs rc 0 E):=by
 refine sm_ (?_:Lp (DY a l c rc) 8 Try.f84 [1,0,0,1,1,0,0,1,1,0] 4 (fun (x:SV) (bx:List Box) (E:Mem)=>Cn D1 8 Try.f81 [1,1,0,1,0] 1 K { fr:=fr76 a l c,bx:=bx,E:=E:St }) { fr:=[some (SV.raw (Value.func (Fn.yield rc.l) #[] #[])),none,none,none,os 0 0 l c,none,none,os 2 0 1 1,oI (1:Int),oI (0:Int),oB true,oc 2 0,os 0 0 l c,os 0 0 l c,oI (↑l:Int),oI (0:Int),none,none,none,none,none,none,none,none,none,none],bx:=[(⟨5,Row.vals (vB zs),tot,true⟩:Box),⟨146,Row.lst [SV.raw (Value.int IntKind.u64 a)],1,true⟩,⟨22,Row.lst [SV.slc 0 0 l c],1,true⟩,⟨66,Row.lst [SV.slc 2 0 1 1],1,true⟩],E:=E:St })
 exact Lp_re [some 0,some 1,some 2,some 3] (h) (wkG mr_)
theorem ent79 {a:Int} {l c tot:Nat} {rc:Rc} {K:KT} {zs:List Int} (h:Lp (DY a l c rc) 8 Try.f84 [1,0] 4 (fun _ bx E=>Cn D1 8 Try.f81 [1,1,0,1,0] 1 K ⟨fr76 a l c,bx,E⟩) (sh79o a l c tot zs rc 0 E)):EntB (DY a l c rc) 8 Try.f84 [.raw (.func (.yield rc.l) #[] #[]),.loc 3 0] (bx76 a l c tot zs) E (fun _ bx E=>Cn D1 8 Try.f81 [1,1,0,1,0] 1 K ⟨fr76 a l c,bx,E⟩):=by
 refine sm_ (?_:Lp (DY a l c rc) 8 Try.f84 [1,0] 4 (fun (x:SV) (bx:List Box) (E:Mem)=>Cn D1 8 Try.f81 [1,1,0,1,0] 1 K { fr:=fr76 a l c,bx:=bx,E:=E:St }) { fr:=some (SV.raw (Value.func (Fn.yield rc.l) #[] #[]))::oc 3 0::none::none::none::none::none::os 2 0 1 1::oI 1::oI 0::no16 [],bx:=[(⟨5,.vals (vB zs),tot,true⟩:Box),⟨146,.lst [SV.raw (Value.int IntKind.u64 a)],1,true⟩,⟨22,.lst [SV.slc 0 0 l c],1,true⟩,⟨66,.lst [SV.slc 2 0 1 1],1,true⟩],E:=E:St })
 delta no16
 exact Lp_re [some 0,some 1,some 2,some 3] (h) (wkG mr_)
theorem cn76 {a n:Int} {l c tot:Nat} {K:KT} {zs:List Int} (h:K (.raw (.int .u64 n)) (bx76 n l c tot zs) E):Pn D1 8 Try.f81 [1,1,0,1,0] 1 K ⟨fr76 a l c,bx76 n l c tot zs,E⟩:=by
 refine sm_ (?_:K (SV.raw (Value.int IntKind.u64 n)) [⟨5,Row.vals (vB zs),tot,true⟩,⟨146,Row.lst [SV.raw (Value.int IntKind.u64 n)],1,true⟩,⟨22,Row.lst [SV.slc 0 0 l c],1,true⟩,⟨66,Row.lst [SV.slc 2 0 1 1],1,true⟩] E)
 exact h
theorem lp79z {a n:Int} {l c tot:Nat} {rc:Rc} {K:KT} {zs:List Int} (hC:CxOK (DY a l c rc)) (h:Cn D1 8 Try.f81 [1,1,0,1,0] 1 K ⟨fr76 a l c,bx76 n l c tot zs,E⟩):Lp (DY a l c rc) 8 Try.f84 [1,0] 4 (fun _ bx E=>Cn D1 8 Try.f81 [1,1,0,1,0] 1 K ⟨fr76 a l c,bx,E⟩) (sh79o n l c tot zs rc 1 E):=
 Lp_ind (ι:=Unit) hC (fun _=>sh79o n l c tot zs rc 1 E) (fun _=>0) (fun _ _=>rnd79z h) ()
theorem lp79i {a n:Int} {l c j tot:Nat} {rc:Rc} {K:KT} {zs:List Int} (hC:CxOK (DY a l c rc)) (hz:(∀ z∈zs,0<=z/\z<=255)/\zs.length=l/\l<=100000) (hj:j<=l) (hn:n=fnvF a (zs.take j)) (h:Cn D1 8 Try.f81 [1,1,0,1,0] 1 K ⟨fr76 a l c,bx76 (fnvF a zs) l c tot zs,E⟩):Lp (DY a l c rc) 8 Try.f84 [1,0,0,1,1,0,0,1,1,0] 4 (fun _ bx E=>Cn D1 8 Try.f81 [1,1,0,1,0] 1 K ⟨fr76 a l c,bx,E⟩) (sh79i n l c tot zs rc j E):=by
 subst hn
 exact Lp_ind hC (fun y:{y:Nat//y<=l}=>sh79i (fnvF a (zs.take y.1)) l c tot zs rc y.1 E) (fun y=>l-y.1) (fun y ih=>rnd79i hz y.2 rfl (lp79z hC h) fun g=>ih ⟨y.1+1,by omega⟩ (by show l-(_+1)<l-_;omega)) ⟨j,hj⟩
theorem lp79o {a:Int} {l c tot:Nat} {rc:Rc} {K:KT} {zs:List Int} (hC:CxOK (DY a l c rc)) (hz:(∀ z∈zs,0<=z/\z<=255)/\zs.length=l/\l<=100000) (h:Cn D1 8 Try.f81 [1,1,0,1,0] 1 K ⟨fr76 a l c,bx76 (fnvF a zs) l c tot zs,E⟩):Lp (DY a l c rc) 8 Try.f84 [1,0] 4 (fun _ bx E=>Cn D1 8 Try.f81 [1,1,0,1,0] 1 K ⟨fr76 a l c,bx,E⟩) (sh79o a l c tot zs rc 0 E):=
 Lp_ind (ι:=Unit) hC (fun _=>sh79o a l c tot zs rc 0 E) (fun _=>0) (fun _ _=>rnd79o (lp79i hC hz (Nat.zero_le _) rfl h)) ()
theorem b76 {KK:KT} {a:Int} {l c tot:Nat} {zs:List Int} (hz:(∀ z∈zs,0<=z/\z<=255)/\zs.length=l/\l<=100000) (h:KK (.raw (.int .u64 (fnvF a zs))) (bx76 (fnvF a zs) l c tot zs) E):EntB D1 8 Try.f81 [.raw (.int .u64 a),.slc 0 0 l c] [⟨5,.vals (vB zs),tot,true⟩] E KK:=by
 refine sm_ (?_:Ct D1 8 Try.f81 [1,1,0,1,0] 1 KK { fr:=[some (SV.raw (Value.int IntKind.u64 a)),os 0 0 l c,none,none,some (SV.raw (Value.int IntKind.u64 (0:Int))),oc 1 0,none,some (SV.raw (Value.int IntKind.u64 a)),os 0 0 l c,os 2 0 1 1,some (SV.clo 84 [] [SV.loc 3 0]),none,none,none,none,none],bx:=[(⟨5,Row.vals (vB zs),tot,true⟩:Box),⟨146,Row.lst [SV.raw (Value.int IntKind.u64 a)],1,true⟩,⟨22,Row.lst [SV.slc 0 0 l c],1,true⟩,⟨66,Row.lst [SV.slc 2 0 1 1],1,true⟩],E:=E:St })
 exact RfY okD1 okD2 (by kernel_rfl) (by kernel_rfl) Try.func84 ⟨by kernel_rfl,by kernel_rfl⟩ (gf:=84) (gfn:=Try.f84) (first:=[]) (caps:=[.loc 3 0]) (m:=8) (fun rc hrc=>ent79 (lp79o hrc hz (Cn_intro (cn76 h)))) rfl rfl
noncomputable def tabB76:CallT:=fun f args bx E K=>match f with
 | 81=>d2 args fun x0 x1=>dN .u64 x0 fun a=>match x1 with
  | .slc b 0 l c=>sumD b l bx fun zs=>K (.raw (.int .u64 (fnvF a zs))) bx E
  | _=>False
 | _=>False
theorem see_introN {K:KT} {vs:List Value} {tot:Nat} {bx:List Box} {r:Value} {y:Box} {more:List Box} (h:K (.raw r) bx E) (hy:y=⟨5,.vals vs,tot,true⟩):cloK 1 (fun s bx' E'=>∃ r:Value,s= .raw r/\bx'=[⟨5,.vals vs,tot,true⟩]/\K (.raw r) bx E') (.raw r) (y::more) E:=by
 subst hy
 exact cloK_intro [some 0] ⟨r,rfl,rfl,h⟩ (wkG mr_)
theorem tabB76_ok:∀ f args bx E K,tabB76 f args bx E K->CallSem Try.prog f args bx E K:=by
 intro f args bx E K h
 unfold tabB76 at h
 split at h
 case h_2=>exact h.elim
 obtain ⟨x0,x1,rfl,h1⟩:=d2_elim h
 obtain ⟨a,rfl,h2⟩:=dN_elim h1
 clear h h1
 split at h2
 case h_2=>exact h2.elim
 rename_i b l c
 obtain ⟨tot,zs,hb,hz,h⟩:=sumD_elim h2
 exact CallSem.see (args':=[.raw (.int .u64 a),.slc 0 0 l c]) hb (by simp [SV.renL,SV.ren,renF]) (bsm okD1 Try.func81 (b76 hz (see_introN h rfl)))
noncomputable def D3:Cx:={ P:=Try.prog,inl:=fun f=>List.contains [] f,tab:=fun _ _ _ _=>False,isB:=fun f=>f==81,tabB:=tabB76,opt:={ unroll:=0,carry:=[] },muts:=mutsD }
theorem okD3:CxOK D3:=CxOK.four (fun _ _ _ _ h=>h.elim) (by kernel_rfl) (okInl (by kernel_rfl)) tabB76_ok
theorem b68 {KK:KT} {l c tot:Nat} {zs:List Int} (hz:(∀ z∈zs,0<=z/\z<=255)/\zs.length=l/\l<=100000) (h:KK (.raw (.int .u64 (sumF zs))) [⟨5,.vals (vB zs),tot,true⟩] E):EntB D3 8 Try.f76 [.slc 0 0 l c] [⟨5,.vals (vB zs),tot,true⟩] E KK:=by
 refine sm_ (?_:IntKind.u64=IntKind.u64/\∃ (zs_1:List Int),(5=5/\vB zs=vB zs_1/\List.length zs_1=l/\l<=100000/\∀ (z:Int),List.Mem z zs_1->(0:Int)<=z/\z<=(255:Int))/\KK (SV.raw (Value.int IntKind.u64 (fnvF (14695981039346656037:Int) zs_1))) [⟨5,Row.vals (vB zs),tot,true⟩] E)
 exact ⟨rfl,zs,⟨rfl,rfl,hz.2.1,hz.2.2,hz.1⟩,h⟩
noncomputable def tabBp:CallT:=fun f args bx E K=>match f with
 | 65=>d2 args fun x0 x1=>dN .u64 x0 fun n=>dI x1 fun m=>((0<=n/\n<18446744073709551616)/\0<=m/\m<=8)/\K (.slc bx.length 0 m.toNat m.toNat) (bx++[⟨5,.vals (vB (storF n m.toNat)),m.toNat*1,true⟩]) E
 | 76=>d1 args fun x0=>match x0 with
  | .slc b 0 l c=>sumD b l bx fun zs=>K (.raw (.int .u64 (sumF zs))) bx E
  | _=>False
 | _=>False
theorem tabBp_ok:∀ f args bx E K,tabBp f args bx E K->CallSem Try.prog f args bx E K:=by
 intro f args bx E K h
 unfold tabBp at h
 split at h
 ·obtain ⟨x0,x1,rfl,k1⟩:=d2_elim h
  obtain ⟨n,rfl,k2⟩:=dN_elim k1
  obtain ⟨m,rfl,k3⟩:=dI_elim k2
  clear h k1 k2
  obtain ⟨⟨h0,h1,h2⟩,h⟩:=k3
  obtain ⟨m,rfl⟩:∃ k:Nat,m=k:=⟨m.toNat,by omega⟩
  rw [Int.toNat_natCast] at h
  exact CallSem.own0 (argv:=[.int .u64 n,.int .i64 m]) rfl (bsm okJ3 Try.func65 (b53 h0 (by omega) (cloK_intro [some 0] ⟨m,m,5,_,m*1,rfl,rfl,h⟩ (wkG mr_))))
 ·obtain ⟨x0,rfl,k1⟩:=d1_elim h
  clear h
  split at k1
  case h_2=>exact k1.elim
  rename_i b l c
  obtain ⟨tot,zs,hb,hz,h⟩:=sumD_elim k1
  exact CallSem.see (args':=[.slc 0 0 l c]) hb (by simp [SV.renL,SV.ren,renF]) (bsm okD3 Try.func76 (b68 hz (see_introN h rfl)))
 ·exact h.elim
def bodyF (ds:List Int):List Int:=storF (ds.length:Int) 2++ds++storF (sumF (storF (ds.length:Int) 2++ds)) 8
theorem hidB_ex:∃ f:List Int->List Int,∀ ds,f ds=bodyF ds:=⟨bodyF,fun _=>rfl⟩
noncomputable def hidB:List Int->List Int:=hidB_ex.choose
theorem hidB_eq (ds:List Int):hidB ds=bodyF ds:=hidB_ex.choose_spec ds
theorem bodyF_len (ds:List Int):(bodyF ds).length=ds.length+10:=by simp [bodyF,storF_len];omega
theorem app_byte {xs ys:List Int} (h:∀ z∈xs,0<=z/\z<=255) (g:∀ z∈ys,0<=z/\z<=255):∀ z∈xs++ys,0<=z/\z<=255:=fun z hz=>(List.mem_append.1 hz).elim (h z) (g z)
theorem bodyF_byte {ds:List Int} (h:∀ z∈ds,0<=z/\z<=255):∀ z∈bodyF ds,0<=z/\z<=255:=app_byte (app_byte (storF_byte _ _) h) (storF_byte _ _)
theorem stepF_bd (s x:Int):0<=stepF s x/\stepF s x<18446744073709551616:=by
 unfold stepF
 generalize (IntKind.wrap .u64 (((BitVec.ofInt (IntKind.bits .u64) s ^^^ BitVec.ofInt (IntKind.bits .u64) x).toNat:Nat):Int)*1099511628211)=y
 rw [show IntKind.wrap .u64 y=y % 18446744073709551616 from rfl];omega
theorem fnvF_bd:∀ {zs:List Int} {s:Int},0<=s/\s<18446744073709551616->0<=fnvF s zs/\fnvF s zs<18446744073709551616
 | [],s,h=>h
 | x::zs,s,h=>fnvF_bd (zs:=zs) (stepF_bd s x)
theorem sumF_bd (zs:List Int):0<=sumF zs/\sumF zs<18446744073709551616:=fnvF_bd (by decide)
noncomputable def J7:Cx:={ P:=Try.prog,inl:=fun f=>List.contains [] f,tab:=fun _ _ _ _=>False,isB:=fun f=>f==65||f==76,tabB:=tabBp,opt:={ unroll:=0,carry:=[] },muts:=mutsD }
theorem okJ7:CxOK J7:=CxOK.four (fun _ _ _ _ h=>h.elim) (by kernel_rfl) (okInl (by kernel_rfl)) tabBp_ok
theorem j54 {b1:Option Addr} {l2:Nat} {c3:Nat} {zs:List Int} (h0:Bs E b1 l2 c3 zs) (h1:l2<=70000) (h:∀ (b':Option Addr) (l' c':Nat) (ys:List Int) (E':Mem),Mem.le E E'->Hyp (ys=hidB zs)->Bs E' b' l' c' ys->K (L b' l' c') E'):
  Ent J7 8 Try.f66 [L b1 l2 c3] E K:=by
 refine sm_ (?_:IntKind.u64=IntKind.u64/\(((0:Int)<=IntKind.wrap IntKind.u64 (NI l2)/\IntKind.wrap IntKind.u64 (NI l2)<18446744073709551616)/\(0:Int)<=(2:Int)/\(2:Int)<=(8:Int))/\Mem.le E E/\∃ (cs:List Value),(cs=[]\/E (VS b1 l2 c3) cs)/\l2*1<=List.length cs/\(∀ (x:Value),List.Mem x cs->Value.oneCell' x=true)/\2<=2/\2<=2/\2<=2/\req ((2+l2)*1<=140737488355328) (∀ (cap' tot':Nat),2+l2<=cap'->cap'*1<=tot'->∃ (zs:List Int),(5=5/\U8 (IntKind.wrap IntKind.u64 (NI l2) / (256:Int) % (256:Int))::U8 (IntKind.wrap IntKind.u64 (NI l2) / (1:Int) % (256:Int))::(List.take (l2*1) cs)=vB zs/\List.length zs=2+l2/\2+l2<=100000/\∀ (z:Int),List.Mem z zs->(0:Int)<=z/\z<=(255:Int))/\IntKind.u64=IntKind.u64/\(((0:Int)<=sumF zs/\sumF zs<(18446744073709551616:Int))/\(0:Int)<=(8:Int)/\(8:Int)<=(8:Int))/\Mem.le E E/\8<=8/\(∀ (x:Value),List.Mem x (vB (storF (sumF zs) (Int.toNat 8)))->Value.oneCell' x=true)/\(2+l2)*1<=List.length (Row.cells (Row.vals (List.take 2 (vB (storF (IntKind.wrap IntKind.u64 (NI l2)) 2))++List.take (l2*1) cs)))/\cap'*1<=tot'/\2+l2<=cap'/\req ((2+l2+8)*1<=140737488355328) (∀ (cap' tot':Nat),2+l2+8<=cap'->cap'*1<=tot'->∀ (base:Option Addr) (E':Mem),Mem.le E E'->WinE E' base (List.take ((2+l2)*1) (List.take 2 (vB (storF (IntKind.wrap IntKind.u64 (NI l2)) 2))++List.take (l2*1) cs)++List.take 8 (List.drop 0 (vB (storF (sumF zs) 8))))->Mem.le E E'/\K (L (Option.map (fun (x:Addr)=>Addr.add x 0) base) (2+l2+8) cap') E')))
 delta NI U8 VS
 have hl:=h0.2.1
 obtain ⟨t1,t2,t3⟩:=h0.src
 have ew:IntKind.wrap IntKind.u64 ((l2:Nat):Int)=(zs.length:Int):=by rw [wu64' (by omega),hl]
 rw [ew]
 have e1:∀ x:Value,x::(Value.int IntKind.u8 ((zs.length:Int) / 1 % 256))::List.take (l2*1) (vB zs)=x::(Value.int IntKind.u8 ((zs.length:Int) / 1 % 256))::vB zs:=fun x=>by rw [List.take_of_length_le (by simp [hl])]
 refine ⟨rfl,⟨⟨by omega,by omega⟩,by decide,by decide⟩,mr_,_,t1,t2,t3,Nat.le_refl _,Nat.le_refl _,Nat.le_refl _,req_intro (by omega) (fun cap tot g1 g2=>⟨storF (zs.length:Int) 2++zs,⟨rfl,e1 _,by simp [storF_len,hl],by omega,app_byte (storF_byte _ _) h0.2.2.2.1⟩,rfl,⟨sumF_bd _,by decide,by decide⟩,mr_,Nat.le_refl _,vB_one _,?_,g2,g1,req_intro (by omega) (fun cap2 tot2 g3 g4 base E' q w=>⟨q,h _ _ _ (bodyF zs) E' q (show _=_ from (hidB_eq zs).symm) (Bs.win w ?_ (by rw [bodyF_len];omega) g3 (bodyF_byte h0.2.2.2.1))⟩)⟩)⟩
 ·show (2+l2)*1<=(List.map SV.raw _).length
  simp [storF_len,hl]
 ·rw [List.take_of_length_le (l:=List.take 2 _++_) (by simp [storF_len,hl]),List.take_of_length_le (l:=vB (storF _ 2)) (by simp [storF_len]),List.take_of_length_le (l:=vB zs) (by simp [hl]),List.drop_zero,List.take_of_length_le (l:=vB (storF _ 8)) (by simp [storF_len])]
  simp [bodyF]
def RB:RowR (List Int):=fun E x r=>∃ (b:Option Addr) (l c:Nat),r=[.slice b l c]/\Bs E b l c x
theorem RB_ok:RowOK 1 RB:=⟨fun he h=>let ⟨b,l,c,h1,h2⟩:=h;⟨b,l,c,h1,h2.mono he⟩,fun h=>by obtain ⟨b,l,c,rfl,_⟩:=h;rfl,fun h v hv=>by
 obtain ⟨b,l,c,rfl,_⟩:=h
 simp only [List.mem_cons,List.not_mem_nil,or_false] at hv;subst hv;rfl,by decide⟩
abbrev BL (E:Mem) (b:Option Addr) (n c:Nat) (dss:List (List Int)):Prop:=SL RB E b n c dss
def areaF (s:Int) (l:Nat):Nat:=if validF s l/\((l:Int) / s) % 2=0/\32<=l then l / 2 else 0
def genF (zs:List Int) (p:Nat):Int:=numF ((zs.drop (p+1)).take 4)
def usedF (h:Nat) (zs:List Int):Int×Int:=
 let a:Int×Int:=if zs.getD 0 0=90 then (0,genF zs 0) else (-1, -1)
 if zs.getD h 0=90/\genF zs h>a.2 then ((h:Int),genF zs h) else a
def parseN:Nat->List Int->Option (List (List Int)×Nat)
 | 0,_=>some ([],0)
 | f+1,r=>
  if r=[]\/r.getD 0 0=255 then some ([],0)
  else if r.getD 0 0≠90\/r.length<3 then none
  else if r.length<(numF ((r.drop 1).take 2)).toNat+11 then none
  else if bodyF ((r.drop 3).take (numF ((r.drop 1).take 2)).toNat)≠(r.drop 1).take ((numF ((r.drop 1).take 2)).toNat+10) then none
  else (parseN f (r.drop ((numF ((r.drop 1).take 2)).toNat+11))).map fun q=>((r.drop 3).take (numF ((r.drop 1).take 2)).toNat::q.1,(numF ((r.drop 1).take 2)).toNat+11+q.2)
def parseF (r:List Int):Option (List (List Int)×Nat):=parseN r.length r
theorem parseN_fuel:∀ (f g:Nat) (r:List Int),r.length<=f->r.length<=g->parseN f r=parseN g r
 | 0,0,r,_,_=>rfl
 | 0,g+1,r,h,_=>by
  have :r=[]:=List.length_eq_zero_iff.1 (by omega)
  subst this
  simp [parseN]
 | f+1,0,r,_,h=>by
  have :r=[]:=List.length_eq_zero_iff.1 (by omega)
  subst this
  simp [parseN]
 | f+1,g+1,r,h1,h2=>by
  unfold parseN
  rw [parseN_fuel f g _ (by rw [List.length_drop];omega) (by rw [List.length_drop];omega)]
theorem parseF_step (r:List Int):parseF r=if r=[]\/r.getD 0 0=255 then some ([],0)
  else if r.getD 0 0≠90\/r.length<3 then none
  else if r.length<(numF ((r.drop 1).take 2)).toNat+11 then none
  else if bodyF ((r.drop 3).take (numF ((r.drop 1).take 2)).toNat)≠(r.drop 1).take ((numF ((r.drop 1).take 2)).toNat+10) then none
  else (parseF (r.drop ((numF ((r.drop 1).take 2)).toNat+11))).map fun q=>((r.drop 3).take (numF ((r.drop 1).take 2)).toNat::q.1,(numF ((r.drop 1).take 2)).toNat+11+q.2):=by
 unfold parseF
 rw [parseN_fuel r.length (r.length+1) r (Nat.le_refl _) (Nat.le_succ _),parseN]
 rw [parseN_fuel r.length (r.drop ((numF ((r.drop 1).take 2)).toNat+11)).length _ (by rw [List.length_drop];omega) (Nat.le_refl _)]
def fromF (ys:List (List Int)) (k:Nat) (r:List Int):Option (List (List Int)×Nat):=(parseF (r.drop k)).map fun q=>(ys++q.1,k+q.2)
theorem fromF_0 (r:List Int):fromF [] 0 r=parseF r:=by
 unfold fromF
 rw [List.drop_zero]
 cases parseF r<;>simp
theorem getD_drop' (r:List Int) (k:Nat):(r.drop k).getD 0 0=r.getD k 0:=by
 rw [List.getD_eq_getElem?_getD,List.getD_eq_getElem?_getD,List.getElem?_drop,Nat.add_zero]
theorem fromF_end {ys:List (List Int)} {k:Nat} {r:List Int} (h:r.length<=k\/r.getD k 0=255):fromF ys k r=some (ys,k):=by
 unfold fromF
 rw [parseF_step,if_pos (by rw [getD_drop'];exact h.imp_left List.drop_eq_nil_of_le)]
 simp
theorem drop_ne {r:List Int} {k:Nat} (h:k<r.length) (g:r.getD k 0≠255):¬ (r.drop k=[]\/(r.drop k).getD 0 0=255):=by
 rw [getD_drop']
 rintro (q|q)
 ·rw [List.drop_eq_nil_iff] at q;omega
 ·exact g q
theorem fromF_bad1 {ys:List (List Int)} {k:Nat} {r:List Int} (h:k<r.length) (g:r.getD k 0≠255) (b:r.getD k 0≠90\/r.length<k+3):fromF ys k r=none:=by
 unfold fromF
 rw [parseF_step,if_neg (drop_ne h g),if_pos (by rw [getD_drop',List.length_drop];exact b.imp_right (fun q=>by omega))]
 rfl
def lenF (r:List Int) (k:Nat):Nat:=(numF ((r.drop (k+1)).take 2)).toNat
theorem lenF_drop (r:List Int) (k:Nat):(numF (((r.drop k).drop 1).take 2)).toNat=lenF r k:=by rw [List.drop_drop];rfl
theorem fromF_bad2 {ys:List (List Int)} {k:Nat} {r:List Int} (h:k<r.length) (g:r.getD k 0≠255) (m:r.getD k 0=90) (l:k+3<=r.length) (b:r.length<k+lenF r k+11):fromF ys k r=none:=by
 unfold fromF
 rw [parseF_step,if_neg (drop_ne h g),if_neg (by rw [getD_drop',List.length_drop,m];omega),lenF_drop,if_pos (by rw [List.length_drop];omega)]
 rfl
theorem fromF_bad3 {ys:List (List Int)} {k:Nat} {r:List Int} (h:k<r.length) (g:r.getD k 0≠255) (m:r.getD k 0=90) (l:k+lenF r k+11<=r.length)
  (b:bodyF ((r.drop (k+3)).take (lenF r k))≠(r.drop (k+1)).take (lenF r k+10)):fromF ys k r=none:=by
 unfold fromF
 rw [parseF_step,if_neg (drop_ne h g),if_neg (by rw [getD_drop',List.length_drop,m];omega),lenF_drop,if_neg (by rw [List.length_drop];omega),if_pos (by rw [List.drop_drop,List.drop_drop];exact b)]
 rfl
theorem fromF_next {ys:List (List Int)} {k:Nat} {r:List Int} (h:k<r.length) (g:r.getD k 0≠255) (m:r.getD k 0=90) (l:k+lenF r k+11<=r.length)
  (b:bodyF ((r.drop (k+3)).take (lenF r k))=(r.drop (k+1)).take (lenF r k+10)):fromF ys k r=fromF (ys++[(r.drop (k+3)).take (lenF r k)]) (k+lenF r k+11) r:=by
 unfold fromF
 rw [parseF_step (r.drop k),if_neg (drop_ne h g),if_neg (by rw [getD_drop',List.length_drop,m];omega),lenF_drop,if_neg (by rw [List.length_drop];omega),if_neg (by rw [List.drop_drop,List.drop_drop];exact fun q=>q b)]
 rw [List.drop_drop,List.drop_drop,show k+(lenF r k+11)=k+lenF r k+11 by omega]
 cases parseF (r.drop (k+lenF r k+11)) with
 | none=>rfl
 | some q=>simp;omega
def recsB (h at':Nat) (zs:List Int):List Int:=(zs.drop (at'+5)).take (h-5)
def openF (s:Int) (zs:List Int):(List (List Int)×Nat×Int×Nat)×Int:=
 if areaF s zs.length=0 then (([],0,0,0),1)
 else if (usedF (areaF s zs.length) zs).1<0 then (([],0,0,0),4)
 else match parseF (recsB (areaF s zs.length) (usedF (areaF s zs.length) zs).1.toNat zs) with
  | none=>(([],0,0,0),12)
  | some (l,n)=>((l,(usedF (areaF s zs.length) zs).1.toNat,(usedF (areaF s zs.length) zs).2,5+n),0)
def readF (s:Int) (zs:List Int):List (List Int)×Int:=((openF s zs).1.1,(openF s zs).2)
def cleanF (h at' e:Nat) (zs:List Int):Bool:=((zs.drop (at'+e)).take (h-e)).all (fun x=>decide (x=255))
def chgF (l ms:List (Int×List Int)):List (Int×List Int):=l++ms.drop 1
def lastM (l:List (Int×List Int)):Int×List Int:=l.getLastD (0,[])
def progL (l:List (Int×List Int)) (a:Nat) (ds:List Int):List (Int×List Int):=chgF l (progF (lastM l).1 (lastM l).2 a ds).1
def erasL (l:List (Int×List Int)) (k:Nat):List (Int×List Int):=chgF l (erasF (lastM l).1 (lastM l).2 k).1
def writeL (l:List (Int×List Int)) (a:Nat) (ds:List Int):List (Int×List Int):=progL (progL l (a+1) (bodyF ds)) a [90]
def erasesL (k:Nat):Nat->List (Int×List Int)->List (Int×List Int)
 | 0,l=>l
 | n+1,l=>erasL (erasesL k n l) (k+n)
def needF (keep:List (List Int)):Nat:=keep.foldl (fun n d=>n+d.length+11) 0
def writesL (k:Nat) (l:List (Int×List Int)) (keep:List (List Int)):List (Int×List Int)×Nat:=keep.foldl (fun q d=>(writeL q.1 q.2 d,q.2+d.length+11)) (l,k)
def rewL (s:Int) (zs:List Int) (h at':Nat) (g:Int) (keep:List (List Int)):List (Int×List Int):=
 progL (progL (writesL (h-at'+5) (erasesL ((h-at') / s.toNat) (h / s.toNat) [(s,zs)]) keep).1 (h-at'+1) (storF (g+1) 4)) (h-at') [90]
def appendF (s:Int) (zs:List Int) (ds:List Int):List (Int×List Int)×Int:=
 if (openF s zs).2≠0 then ([],(openF s zs).2)
 else match (openF s zs).1 with
  | (old,at',g,e)=>
   if e+ds.length+11>areaF s zs.length\/cleanF (areaF s zs.length) at' e zs=false/\g=4294967295 then ([],10)
   else if cleanF (areaF s zs.length) at' e zs then (writeL [(s,zs)] (at'+e) ds,0)
   else (writeL (rewL s zs (areaF s zs.length) at' g old) (areaF s zs.length-at'+e) ds,0)
def compactF (s:Int) (zs:List Int) (keep:List (List Int)):List (Int×List Int)×Int:=
 if (openF s zs).2≠0 then ([],(openF s zs).2)
 else match (openF s zs).1 with
  | (_,at',g,_)=>
   if 5+needF keep>areaF s zs.length\/g=4294967295 then ([],10)
   else (rewL s zs (areaF s zs.length) at' g keep,0)
def formatF (s n:Int):(Int×List Int)×Int:=
 if (newF s n).2≠0\/areaF s (newF s n).1.2.length=0 then ((0,[]),1) else ((s,[90,0,0,0,0]++(newF s n).1.2.drop 5),0)
theorem BL.load {b:Option Addr} {n c:Nat} {dss:List (List Int)} (h:BL E b n c dss) {i:Nat} {ds:List Int} (hx:dss[i]? =some ds):
  (∃ cs,E (.slice b n c) cs/\(cs=[]->False))/\∃ (b':Option Addr) (l' c':Nat),LoadE Try.prog E 22 (.slice b n c) (i*1) (L b' l' c')/\Bs E b' l' c' ds:=by
 have hi:i<n:=by rw [← h.len];exact (List.getElem?_eq_some_iff.1 hx).1
 refine ⟨h.ne RB_ok hi,?_⟩
 obtain ⟨r,v,⟨b',l',c',rfl,h2⟩,hv,h3⟩:=h.loadC RB_ok (P:=Try.prog) (T:=22) rfl rfl hx (j:=0) (by decide)
 simp only [List.getElem?_cons_zero,Option.some.injEq] at hv
 subst hv
 exact ⟨b',l',c',h3,h2⟩
theorem BL.get {b:Option Addr} {n c:Nat} {dss:List (List Int)} (h:BL E b n c dss) {i:Nat} (hi:i<n):∃ ds,dss[i]? =some ds:=⟨_,List.getElem?_eq_getElem (by rw [h.len];exact hi)⟩
theorem needF_take {dss:List (List Int)} {i:Nat} {d:List Int} (h:dss[i]? =some d):needF (dss.take (i+1))=needF (dss.take i)+d.length+11:=by
 unfold needF;rw [take_get' h];simp
theorem needF_bd {dss:List (List Int)} {m:Nat} (h:∀ d∈dss,d.length<=m):needF dss<=dss.length*(m+11):=by
 have key:∀ (dss:List (List Int)) (n:Nat),(∀ d∈dss,d.length<=m)->dss.foldl (fun n d=>n+d.length+11) n<=n+dss.length*(m+11):=by
  intro dss
  induction dss with
  | nil=>intro n _;simp
  | cons d dss ih=>
   intro n hd
   have h1:=hd d (by simp)
   have h2:=ih (n+d.length+11) (fun d' h'=>hd d' (List.mem_cons_of_mem _ h'))
   simp only [List.foldl_cons,List.length_cons,Nat.add_mul,Nat.one_mul] at h2 ⊢
   omega
 have:=key dss 0 h
 unfold needF;omega
theorem Bs.sub {E E':Mem} {b b':Option Addr} {l c lo hi:Nat} {zs:List Int} (h:Bs E b l c zs)
  (hF:∀ cs,E (.slice b l c) cs->E' (.slice b' (hi-lo) (c-lo)) (List.take ((hi-lo)*1) (List.drop (lo*1) cs))) (hN:b'.isNone=b.isNone) (h1:lo<=hi) (h2:hi<=l):Bs E' b' (hi-lo) (c-lo) ((zs.drop lo).take (hi-lo)):=by
 have hlen:=h.2.1
 refine ⟨?_,by rw [List.length_take,List.length_drop,hlen];omega,by have:=h.2.2.1;omega,fun z hz=>h.2.2.2.1 z (List.drop_subset _ _ (List.take_subset _ _ hz)),fun e=>?_⟩
 ·rcases h.1 with q|q
  ·exact .inl (by rw [q];simp)
  ·refine .inr ?_
   have:=hF _ q
   rw [Nat.mul_one,Nat.mul_one,← List.map_drop,← List.map_take] at this
   exact this
 ·have :zs=[]:=h.2.2.2.2 (by cases b with |none=>rfl|some x=>rw [e] at hN;cases hN)
  rw [this];simp
theorem areaF_ok {s:Int} {l:Nat} (h:areaF s l≠0):areaF s l=l / 2/\validF s l/\((l:Int) / s) % 2=0/\32<=l/\2*areaF s l=l/\l<=16384:=by
 unfold areaF at h ⊢
 split
 ·rename_i g
  refine ⟨rfl,g.1,g.2.1,g.2.2,?_,g.1.2.2.2.1⟩
  obtain ⟨⟨v1,v2,v3,v4,v5⟩,g2,g3⟩:=g
  have e:=Int.mul_ediv_add_emod (l:Int) s
  rw [v5] at e
  obtain ⟨k,hk⟩:∃ k:Int,(l:Int) / s=2*k:=⟨(l:Int) / s / 2,by omega⟩
  rw [hk,Int.mul_left_comm] at e
  omega
 ·rename_i g;rw [if_neg g] at h;exact absurd rfl h
theorem slice_intro {E:Mem} {b:Option Addr} {l c lo hi:Nat} {zs:List Int} (h:Bs E b l c zs) {X Y:Int} (eX:X=(lo:Nat)) (eY:Y=(hi:Nat)) (h1:lo<=hi) (h2:hi<=l) {Q:Option Addr->Mem->Prop}
  (k:∀ (b':Option Addr) (E':Mem),Mem.le E E'->Bs E' b' (toN (some Y) l-toN (some X) 0) (toN none c-toN (some X) 0) ((zs.drop lo).take (hi-lo))->toN (some Y) l-toN (some X) 0=hi-lo->Q b' E'):
  req (l<=c) (req (0<=Y/\Y<=((toN none c:Nat):Int)) (req (0<=X/\X<=((toN (some Y) l:Nat):Int)) (∀ (b':Option Addr) (E':Mem),Mem.le E E'->
   (∀ cs:List Value,E (.slice b l c) cs->E' (.slice b' (toN (some Y) l-toN (some X) 0) (toN none c-toN (some X) 0)) (List.take ((toN (some Y) l-toN (some X) 0)*1) (List.drop (toN (some X) 0*1) cs)))->b'.isNone=b.isNone->Q b' E'))):=by
 subst eX;subst eY
 have e1:toN (some ((lo:Nat):Int)) 0=lo:=Int.toNat_natCast lo
 have e2:toN (some ((hi:Nat):Int)) l=hi:=Int.toNat_natCast hi
 have e3:toN none c=c:=rfl
 have h3:=h.2.2.1
 rw [e1,e2,e3] at k ⊢
 exact req_intro h3 (req_intro (by omega) (req_intro (by omega) fun b' E' q1 q2 q3=>k b' E' q1 (Bs.sub h q2 q3 h1 h2) rfl))
theorem slice_introE {E:Mem} {b:Option Addr} {l c lo:Nat} {zs:List Int} (h:Bs E b l c zs) {X:Int} (eX:X=(lo:Nat)) (h1:lo<=l) {Q:Option Addr->Mem->Prop}
  (k:∀ (b':Option Addr) (E':Mem),Mem.le E E'->Bs E' b' (toN none l-toN (some X) 0) (toN none c-toN (some X) 0) (zs.drop lo)->toN none l-toN (some X) 0=l-lo->Q b' E'):
  req (l<=c) (req (0<=X/\X<=((toN none l:Nat):Int)) (∀ (b':Option Addr) (E':Mem),Mem.le E E'->
   (∀ cs:List Value,E (.slice b l c) cs->E' (.slice b' (toN none l-toN (some X) 0) (toN none c-toN (some X) 0)) (List.take ((toN none l-toN (some X) 0)*1) (List.drop (toN (some X) 0*1) cs)))->b'.isNone=b.isNone->Q b' E')):=by
 subst eX
 have e1:toN (some ((lo:Nat):Int)) 0=lo:=Int.toNat_natCast lo
 have e2:toN none l=l:=rfl
 have e3:toN none c=c:=rfl
 have h3:=h.2.2.1
 have hz:=h.2.1
 rw [e1,e2,e3] at k ⊢
 refine req_intro h3 (req_intro (by omega) fun b' E' q1 q2 q3=>k b' E' q1 ?_ rfl)
 have:=Bs.sub h q2 q3 h1 (Nat.le_refl _)
 rw [List.take_of_length_le (by rw [List.length_drop];omega)] at this
 exact this
def stepU (h:Nat) (zs:List Int) (i:Nat) (a:Int×Int):Int×Int:=if zs.getD (i*h) 0=90/\genF zs (i*h)>a.2 then (((i*h:Nat):Int),genF zs (i*h)) else a
theorem genF_bd {zs:List Int} (hz:∀ z∈zs,0<=z/\z<=255) (p:Nat):0<=genF zs p/\genF zs p<4294967296:=by
 have hz':∀ z∈(zs.drop (p+1)).take 4,0<=z/\z<=255:=fun z h=>hz z (List.drop_subset _ _ (List.take_subset _ _ h))
 have:=numF_small (zs:=(zs.drop (p+1)).take 4) hz' rfl (by rw [List.length_take];omega) 4
 rw [List.take_of_length_le (by rw [List.length_take];omega)] at this
 exact this
theorem usedF_step {h:Nat} {zs:List Int} (hz:∀ z∈zs,0<=z/\z<=255):usedF h zs=stepU h zs 1 (stepU h zs 0 (-1, -1)):=by
 have h0:=genF_bd hz 0
 have e:stepU h zs 0 (-1, -1)=if zs.getD 0 0=90 then (0,genF zs 0) else (-1, -1):=by
  unfold stepU
  rw [Nat.zero_mul]
  by_cases g:zs.getD 0 0=90
  ·rw [if_pos g,if_pos ⟨g,by show genF zs 0> -1;omega⟩];rfl
  ·rw [if_neg g,if_neg (fun q=>g q.1)]
 rw [e]
 unfold usedF stepU
 rw [Nat.one_mul]
theorem recs_len {h a:Nat} {zs:List Int} (hl:a+h<=zs.length):(recsB h a zs).length=h-5:=by unfold recsB;rw [List.length_take,List.length_drop];omega
theorem recs_get {h a j:Nat} {zs:List Int} (hj:j<h-5):(recsB h a zs).getD j 0=zs.getD (a+5+j) 0:=by
 unfold recsB
 rw [List.getD_eq_getElem?_getD,List.getD_eq_getElem?_getD,List.getElem?_take,if_pos hj,List.getElem?_drop]
theorem usedF_at {zs:List Int} {h:Nat}:(usedF h zs).1= -1\/(usedF h zs).1=0\/(usedF h zs).1=(h:Int):=by
 unfold usedF
 by_cases g:zs.getD 0 0=90
 ·simp only [g,if_true]
  split
  ·exact .inr (.inr rfl)
  ·exact .inr (.inl rfl)
 ·simp only [g,if_false]
  split
  ·exact .inr (.inr rfl)
  ·exact .inl rfl
theorem lenF_bd {r:List Int} (hz:∀ z∈r,0<=z/\z<=255) (k:Nat):lenF r k<65536/\numF ((r.drop (k+1)).take 2)=(lenF r k:Nat):=by
 have hz':∀ z∈(r.drop (k+1)).take 2,0<=z/\z<=255:=fun z h=>hz z (List.drop_subset _ _ (List.take_subset _ _ h))
 obtain ⟨h1,h2⟩:=numF_bd hz'
 have hk:((r.drop (k+1)).take 2).length<=2:=by rw [List.length_take];omega
 have h3:∀ k:Nat,k<=2->(256:Int) ^ k<=65536:=by decide
 have h4:=h3 _ hk
 unfold lenF
 omega
theorem openF_arg {s:Int} {zs:List Int} (h:areaF s zs.length=0):openF s zs=(([],0,0,0),1):=by unfold openF;rw [if_pos h]
theorem openF_none {s u g:Int} {zs:List Int} (h:areaF s zs.length≠0) (hu:usedF (areaF s zs.length) zs=(u,g)) (h2:u<0):openF s zs=(([],0,0,0),4):=by
 unfold openF;rw [if_neg h,hu,if_pos h2]
theorem openF_sum {s g:Int} {a:Nat} {zs:List Int} (h:areaF s zs.length≠0) (hu:usedF (areaF s zs.length) zs=((a:Int),g)) (h2:parseF (recsB (areaF s zs.length) a zs)=none):openF s zs=(([],0,0,0),12):=by
 unfold openF;rw [if_neg h,hu,if_neg (by simp)];simp only [Int.toNat_natCast];rw [h2]
theorem openF_ok {s g:Int} {a n:Nat} {zs:List Int} {l:List (List Int)} (h:areaF s zs.length≠0) (hu:usedF (areaF s zs.length) zs=((a:Int),g)) (h2:parseF (recsB (areaF s zs.length) a zs)=some (l,n)):openF s zs=((l,a,g,5+n),0):=by
 unfold openF;rw [if_neg h,hu,if_neg (by simp)];simp only [Int.toNat_natCast];rw [h2]
theorem openF_inv {s:Int} {zs:List Int} (h:(openF s zs).2=0):∃ (l:List (List Int)) (a n:Nat) (g:Int),areaF s zs.length≠0/\usedF (areaF s zs.length) zs=((a:Int),g)/\parseF (recsB (areaF s zs.length) a zs)=some (l,n)/\openF s zs=((l,a,g,5+n),0):=by
 by_cases h1:areaF s zs.length=0
 ·rw [openF_arg h1] at h;cases h
 obtain ⟨u,g,hu⟩:∃ u g,usedF (areaF s zs.length) zs=(u,g):=⟨_,_,rfl⟩
 by_cases h2:u<0
 ·rw [openF_none h1 hu h2] at h;cases h
 obtain ⟨a,rfl⟩:∃ a:Nat,u=a:=⟨u.toNat,by omega⟩
 cases h3:parseF (recsB (areaF s zs.length) a zs) with
 | none=>rw [openF_sum h1 hu h3] at h;cases h
 | some q=>exact ⟨q.1,a,q.2,g,h1,hu,h3,openF_ok h1 hu h3⟩
theorem parseN_len:∀ (f:Nat) (r:List Int) (l:List (List Int)) (n:Nat),parseN f r=some (l,n)->n<=r.length
 | 0,r,l,n,h=>by simp [parseN] at h;omega
 | f+1,r,l,n,h=>by
  unfold parseN at h
  split at h
  ·simp at h;omega
  split at h
  ·cases h
  split at h
  ·cases h
  split at h
  ·cases h
  cases hp:parseN f (r.drop ((numF ((r.drop 1).take 2)).toNat+11)) with
  | none=>rw [hp] at h;cases h
  | some q=>
   rw [hp] at h
   simp only [Option.map_some,Option.some.injEq,Prod.mk.injEq] at h
   have:=parseN_len f _ q.1 q.2 hp
   rw [List.length_drop] at this
   omega
theorem parseF_len {r:List Int} {l:List (List Int)} {n:Nat} (h:parseF r=some (l,n)):n<=r.length:=parseN_len _ _ _ _ h
theorem used_ok {zs:List Int} {h a:Nat} {g:Int} (r:usedF h zs=((a:Int),g)):a=0\/a=h:=by
 have:=usedF_at (zs:=zs) (h:=h)
 rw [r] at this
 have :(a:Int)= -1\/(a:Int)=0\/(a:Int)=(h:Nat):=this
 omega
theorem progF_mk {s:Int} {zs:List Int} {a:Int} {ds:List Int} (h1:validF s zs.length) (h2:0<=a) (h3:a+ds.length<=zs.length):progF s zs a ds=(mems s (gP ds) a.toNat zs (ds.length+1),0):=by
 unfold progF
 rw [if_neg (by simp only [not_or,Decidable.not_not];exact ⟨h1,by omega⟩),if_neg (by omega)]
theorem erasF_mk {s:Int} {zs:List Int} {k:Int} (h1:validF s zs.length) (h2:0<=k) (h3:k<(zs.length:Int) / s):erasF s zs k=(mems s gE (k*s).toNat zs (s.toNat+1),0):=by
 unfold erasF
 rw [if_neg (by simp only [not_or,Decidable.not_not];exact ⟨h1,by omega⟩)]
theorem mems_get {s:Int} {g:Nat->Int->Int} {a n i:Nat} {zs:List Int} (h:i<n):(mems s g a zs n)[i]? =some (s,stp g a zs i):=by
 simp [mems,List.getElem?_range h]
theorem FL.cap {E:Mem} {b:Option Addr} {n c:Nat} {ms:List (Int×List Int)} (h:FL E b n c ms):n<=c:=by
 obtain ⟨rs,h1,h2,h3,_⟩:=h;exact h3
theorem rows_one (rs:List FRow):∀ x:Value,List.Mem x (rs.flatMap rowV)->x.oneCell'=true:=fun x hx=>by
 obtain ⟨r,_,h⟩:=List.mem_flatMap.1 hx
 simp only [rowV,List.mem_cons,List.not_mem_nil,or_false] at h
 rcases h with rfl|rfl<;>rfl
theorem FL.src {E:Mem} {b:Option Addr} {n c:Nat} {ms:List (Int×List Int)} (h:FL E b n c ms):
  ∃ rs:List FRow,FLr E rs ms/\(rs.flatMap rowV=[]\/E (.slice b n c) (rs.flatMap rowV))/\n*2<=(rs.flatMap rowV).length/\(∀ x:Value,List.Mem x (rs.flatMap rowV)->x.oneCell'=true)/\rs.length=n:=by
 obtain ⟨rs,h1,h2,h3,h4,h5⟩:=h
 have hl:rs.length=n:=by rw [h1.1,h2]
 refine ⟨rs,h1,?_,by rw [rows_len,hl];exact Nat.le_refl _,rows_one rs,hl⟩
 rcases h4 with rfl|h4
 ·exact .inl (by rw [List.length_eq_zero_iff.1 hl];rfl)
 ·exact .inr h4
theorem rows_drop (rs:List FRow):(rs.flatMap rowV).drop 2=(rs.drop 1).flatMap rowV:=by
 cases rs with
 | nil=>rfl
 | cons r rs=>rfl
theorem FL.tail {E E':Mem} {b b':Option Addr} {n c:Nat} {ms:List (Int×List Int)} (h:FL E b n c ms) (he:Mem.le E E')
  (hF:∀ cs,E (.slice b n c) cs->E' (.slice b' (n-1) (c-1)) (List.take ((n-1)*2) (List.drop 2 cs))) (hN:b'.isNone=b.isNone) (hn:1<=n):FL E' b' (n-1) (c-1) (ms.drop 1):=by
 obtain ⟨rs,h1,h2,h3,h4,h5⟩:=h
 have hl:rs.length=n:=by rw [h1.1,h2]
 refine ⟨rs.drop 1,⟨by simp [h1.1],fun i r m g1 g2=>?_⟩,by simp [h2],by omega,.inr ?_,fun e=>?_⟩
 ·rw [List.getElem?_drop] at g1 g2
  exact ⟨(h1.2 _ r m g1 g2).1,((h1.2 _ r m g1 g2).2).mono he⟩
 ·have:=hF _ (h4.resolve_left (by omega))
  rw [rows_drop,List.take_of_length_le (by rw [rows_len];simp;omega)] at this
  exact this
 ·have:=h5 (by cases b with |none=>rfl|some x=>rw [e] at hN;cases hN)
  omega
theorem FLr.app {E:Mem} {rs rt:List FRow} {ms ns:List (Int×List Int)} (h:FLr E rs ms) (k:FLr E rt ns):FLr E (rs++rt) (ms++ns):=by
 refine ⟨by simp [h.1,k.1],fun i r m g1 g2=>?_⟩
 have hl:=h.1
 by_cases hi:i<rs.length
 ·rw [List.getElem?_append_left hi] at g1
  rw [List.getElem?_append_left (by omega)] at g2
  exact h.2 i r m g1 g2
 ·rw [List.getElem?_append_right (by omega)] at g1
  rw [List.getElem?_append_right (by omega),← hl] at g2
  exact k.2 _ r m g1 g2
theorem last_load {E:Mem} {rs:List FRow} {ms:List (Int×List Int)} {N:Nat} (R:FLr E rs ms) (hn:ms.length=N) (h1:1<=N) (hb:N<=1000000000000):
  (0<=IntKind.wrap .i64 ((N:Int)-1)/\IntKind.wrap .i64 ((N:Int)-1)<(N:Int))/\∃ (b':Option Addr) (l' c':Nat),LoadV Try.prog 24 (rs.flatMap rowV) (0+Int.toNat (IntKind.wrap .i64 ((N:Int)-1))*2) (.agg [I (lastM ms).1,L b' l' c'])/\Bs E b' l' c' (lastM ms).2:=by
 rw [wrap_i64 (x:=(N:Int)-1) (by omega)]
 have hrl:rs.length=N:=by rw [R.1,hn]
 obtain ⟨r,er⟩:∃ r,rs[N-1]? =some r:=⟨_,List.getElem?_eq_getElem (by omega)⟩
 obtain ⟨m,em⟩:∃ m,ms[N-1]? =some m:=⟨_,List.getElem?_eq_getElem (by omega)⟩
 have e:lastM ms=m:=by
  unfold lastM
  rw [List.getLastD_eq_getLast?,List.getLast?_eq_getElem?,hn,em];rfl
 obtain ⟨q1,q2⟩:=R.2 _ r m er em
 refine ⟨by omega,r.2.1,r.2.2.1,r.2.2.2,?_,by rw [e];exact q2⟩
 rw [e,← q1,show 0+Int.toNat ((N:Int)-1)*2=(N-1)*2 by omega]
 exact loadW_row er
theorem chgF_len (ms ms2:List (Int×List Int)):(chgF ms ms2).length=ms.length+(ms2.length-1):=by simp [chgF]
theorem tail_app {E:Mem} {b':Option Addr} {l' c' N cap tot:Nat} {ms ms2:List (Int×List Int)} {rs:List FRow} (F:FL E b' l' c' ms2) (hl:1<=l') (R:FLr E rs ms) (hn:ms.length=N) (hc:N<=cap/\cap*2<=tot) (hb:N+l'<=1000000000000)
  {Q:Option Addr->Mem->List Value->Nat->Nat->Prop}
  (k:∀ (base':Option Addr) (E':Mem) (cs:List Value) (cap' tot':Nat) (rs':List FRow),List.take (N*2) (rs.flatMap rowV)++List.take ((toN none l'-1)*2) cs=rs'.flatMap rowV->Mem.le E E'->FLr E' rs' (chgF ms ms2)->(chgF ms ms2).length=N+(toN none l'-1)->N+(toN none l'-1)<=cap'->cap'*2<=tot'->Q base' E' cs cap' tot'):
  req (l'<=c') (req (0<=(1:Int)/\(1:Int)<=((toN none l':Nat):Int)) (∀ (base':Option Addr) (E':Mem),Mem.le E E'->(∀ cs:List Value,E (.slice b' l' c') cs->E' (.slice base' (toN none l'-1) (toN none c'-1)) (List.take ((toN none l'-1)*2) (List.drop 2 cs)))->base'.isNone=b'.isNone->
   ∃ cs:List Value,(cs=[]\/E' (.slice base' (toN none l'-1) (toN none c'-1)) cs)/\(toN none l'-1)*2<=List.length cs/\(∀ x:Value,List.Mem x cs->x.oneCell'=true)/\N*2<=List.length (Row.cells (Row.vals (rs.flatMap rowV)))/\cap*2<=tot/\N<=cap/\
    req ((N+(toN none l'-1))*32<=140737488355328) (∀ cap' tot':Nat,N+(toN none l'-1)<=cap'->cap'*2<=tot'->Q base' E' cs cap' tot'))):=by
 have hcap:=F.cap
 have e0:toN none l'=l':=rfl
 refine req_intro hcap (req_intro (by rw [e0];omega) fun base' E' q1 q2 q3=>?_)
 have T:=FL.tail F q1 q2 q3 hl
 obtain ⟨rt,u1,u2,u3,u4,u5⟩:=T.src
 have hrl:rs.length=N:=by rw [R.1,hn]
 refine ⟨_,u2,u3,u4,?_,hc.2,hc.1,req_intro (by rw [e0];omega) fun cap' tot' g1 g2=>k base' E' _ cap' tot' (rs++rt) ?_ q1 ((R.mono q1).app u1) ?_ g1 g2⟩
 ·show _<=(List.map SV.raw _).length
  rw [List.length_map,rows_len,hrl];exact Nat.le_refl _
 ·rw [List.take_of_length_le (by rw [rows_len,hrl];exact Nat.le_refl _),List.take_of_length_le (by rw [rows_len,u5];exact Nat.le_refl _),List.flatMap_append]
 ·rw [chgF_len,hn,F.len];rfl
theorem mems_last {s:Int} {g:Nat->Int->Int} {a n:Nat} {zs:List Int} {l:List (Int×List Int)} (h:1<=n):lastM (chgF l (mems s g a zs (n+1)))=(s,stp g a zs n):=by
 unfold lastM chgF
 rw [mems_succ,List.drop_append_of_le_length (by rw [mems_len];exact h),← List.append_assoc,List.getLastD_concat]
theorem progL_ok {l:List (Int×List Int)} {a:Nat} {ds:List Int} (hv:validF (lastM l).1 (lastM l).2.length) (ha:a+ds.length<=(lastM l).2.length) (hd:1<=ds.length):
  lastM (progL l a ds)=((lastM l).1,stp (gP ds) a (lastM l).2 ds.length)/\(progL l a ds).length=l.length+ds.length:=by
 unfold progL
 rw [progF_mk hv (by omega) (by omega)]
 simp only [Int.toNat_natCast]
 exact ⟨mems_last hd,by rw [chgF_len,mems_len];omega⟩
theorem Rel.vals {w0:World} {mu:Fm} {bx:List Box} {E:Mem} {ρ:Env} {w:World} (h:Rel w0 mu bx E ρ w) {b:Nat} {e:TypeId} {r:Row} {tot:Nat} {own:Bool} {vs:List Value} (hb:bx[b]? =some ⟨e,r,tot,own⟩) (hv:r.val=some vs):
  Rel w0 mu (bx.set b ⟨e,.vals vs,tot,own⟩) E ρ w:=by
 have hd:SV.denL ρ r.cells=some vs:=Row.val_den hv ρ
 have hd2:SV.denL ρ (Row.cells (.vals vs))=some vs:=Row.val_den (r:=.vals vs) rfl ρ
 have hemp:(Row.cells (.vals vs)).isEmpty=r.cells.isEmpty:=by
  have h1:=denL_length hd
  have h2:=denL_length hd2
  cases h3:Row.cells (.vals vs)<;>cases h4:r.cells<;>simp_all
 have look:∀ (i:Nat) (y:Box),(bx.set b ⟨e,.vals vs,tot,own⟩)[i]? =some y->(i=b/\y=⟨e,.vals vs,tot,own⟩)\/bx[i]? =some y:=by
  intro i y hy
  rw [List.getElem?_set] at hy
  split at hy
  ·rename_i q
   split at hy
   ·exact .inl ⟨q.symm,(Option.some.inj hy).symm⟩
   ·cases hy
  ·exact .inr hy
 refine ⟨h.keep,by rw [List.length_set];exact h.len,fun i y oa hy ho=>?_,fun i y a hy ho ha=>?_,h.hold,fun i y a hy hl ha=>?_,h.src⟩
 ·rcases look i y hy with ⟨rfl,rfl⟩|q
  ·have old:=h.box i _ oa hb ho
   unfold BoxAt at old ⊢
   split at old
   ·obtain ⟨o1,o2⟩:=old
    refine ⟨?_,o2⟩
    have o1:r.cells=[]:=o1
    rw [o1] at hemp
    have:=List.isEmpty_iff.1 (hemp.trans rfl)
    exact this
   ·obtain ⟨o1,vs',o2,o3⟩:=old
    have o2:SV.denL ρ r.cells=some vs':=o2
    rw [hd] at o2
    cases o2
    exact ⟨o1,vs,hd2,o3⟩
  ·exact h.box i y oa q ho
 ·have main:(∃ y0,bx[i]? =some y0/\y0.own=true):=by
   rcases look i y hy with ⟨rfl,rfl⟩|q
   ·exact ⟨_,hb,ho⟩
   ·exact ⟨_,q,ho⟩
  obtain ⟨y0,q,ho0⟩:=main
  obtain ⟨s1,s2,s3⟩:=h.sep i y0 a q ho0 ha
  refine ⟨s1,fun j b' a' hj hb' hl' ha'=>?_,s3⟩
  rcases look j b' hb' with ⟨rfl,rfl⟩|q2
  ·refine s2 j _ a' hj hb ?_ ha'
   unfold Box.live Box.cells at hl' ⊢
   simp only at hl' ⊢
   rw [hemp] at hl'
   exact hl'
  ·exact s2 j b' a' hj q2 hl' ha'
 ·rcases look i y hy with ⟨rfl,rfl⟩|q
  ·refine h.bsrc i _ a hb ?_ ha
   unfold Box.live Box.cells at hl ⊢
   simp only at hl ⊢
   rw [hemp] at hl
   exact hl
  ·exact h.bsrc i y a q hl ha
theorem CallSem.vcongr {P:Program} {f:FuncId} {bx:List Box} {args args':List SV} {vs:List Value} {E:Mem} {K:KT} (h1:SV.valL args=some vs) (h2:SV.valL args'=some vs) (h:CallSem P f args' bx E K):CallSem P f args bx E K:=by
 intro w0 mu ρ w ws hR hd
 have e:=SV.denL_of_val ρ args h1
 rw [hd] at e
 cases e
 exact h w0 mu ρ w _ hR (SV.denL_of_val ρ args' h2)
theorem CallSem.asV {P:Program} {f:FuncId} {bx:List Box} {b:Nat} {e:TypeId} {r:Row} {vs:List Value} {tot:Nat} {own:Bool} {args:List SV} {E:Mem} {K:KT} (hb:bx[b]? =some ⟨e,r,tot,own⟩) (hv:r.val=some vs)
  (h:CallSem P f args (bx.set b ⟨e,.vals vs,tot,own⟩) E K):CallSem P f args bx E K:=fun w0 mu ρ w ws hR hd=>h w0 mu ρ w ws (Rel.vals hR hb hv) hd
theorem areaF_div {s:Int} {l:Nat} (h:areaF s l≠0):∃ st q:Nat,s=(st:Int)/\areaF s l=st*q/\1<=st/\st<=1024/\l=2*(st*q):=by
 obtain ⟨e1,⟨v1,v2,v3,v4,v5⟩,e3,e4,e5,e6⟩:=areaF_ok h
 obtain ⟨st,rfl⟩:∃ st:Nat,s=st:=⟨s.toNat,by omega⟩
 have e:=Int.mul_ediv_add_emod (l:Int) st
 rw [v5] at e
 have hq0:0<=(l:Int) / st:=Int.ediv_nonneg (by omega) (by omega)
 obtain ⟨k,hk⟩:∃ k:Nat,(l:Int) / st=2*k:=⟨((l:Int) / st / 2).toNat,by omega⟩
 rw [hk,Int.mul_left_comm] at e
 have e':(2:Int)*((st*k:Nat):Int)=l:=by rw [Int.natCast_mul];omega
 exact ⟨st,k,rfl,by omega,by omega,by omega,by omega⟩
theorem erasL_ok {l:List (Int×List Int)} {st k:Nat} {z:List Int} (hl:lastM l=((st:Int),z)) (hv:validF st z.length) (hk:(k+1)*st<=z.length):
  lastM (erasL l k)=((st:Int),stp gE (k*st) z st)/\(erasL l k).length=l.length+st/\(erasF st z k).1.length=st+1:=by
 have h1:1<=st:=by have:=hv.1;omega
 have e:erasF (st:Int) z (k:Int)=(mems st gE (k*st) z (st+1),0):=by
  rw [erasF_mk hv (by omega) (by
   rw [Int.lt_iff_add_one_le,Int.le_ediv_iff_mul_le (by omega)]
   have :(((k+1)*st:Nat):Int)<=z.length:=by omega
   rw [Int.natCast_mul] at this
   simpa using this),← Int.natCast_mul,Int.toNat_natCast,Int.toNat_natCast]
 unfold erasL
 rw [hl]
 simp only [e]
 exact ⟨mems_last h1,by rw [chgF_len,mems_len];omega,mems_len _ _ _ _ _⟩
theorem erasesL_ok {st p:Nat} {z:List Int}:∀ {m:Nat},validF st z.length->(p+m)*st<=z.length->∃ z',lastM (erasesL p m [((st:Int),z)])=((st:Int),z')/\z'.length=z.length/\(erasesL p m [((st:Int),z)]).length=1+m*st
 | 0,_,_=>⟨z,rfl,rfl,by simp [erasesL]⟩
 | m+1,hv,hm=>by
  obtain ⟨z',h1,h2,h3⟩:=erasesL_ok (st:=st) (p:=p) (z:=z) (m:=m) hv (by rw [← Nat.add_assoc,Nat.add_mul] at hm;omega)
  obtain ⟨g1,g2,g3⟩:=erasL_ok (k:=p+m) h1 (by rw [h2];exact hv) (by rw [h2];exact hm)
  exact ⟨_,g1,by rw [stp_len,h2],by show (erasL _ _).length=_;rw [g2,h3,Nat.add_mul];omega⟩
theorem writeL_ok {l:List (Int×List Int)} {a:Nat} {ds:List Int} (hv:validF (lastM l).1 (lastM l).2.length) (ha:a+ds.length+11<=(lastM l).2.length):
  (lastM (writeL l a ds)).1=(lastM l).1/\(lastM (writeL l a ds)).2.length=(lastM l).2.length/\(writeL l a ds).length=l.length+ds.length+11:=by
 obtain ⟨pl,pn⟩:=progL_ok (l:=l) (a:=a+1) (ds:=bodyF ds) hv (by rw [bodyF_len];omega) (by rw [bodyF_len];omega)
 obtain ⟨ql,qn⟩:=progL_ok (l:=progL l (a+1) (bodyF ds)) (a:=a) (ds:=[90]) (by rw [pl];simp only [stp_len];exact hv) (by rw [pl];simp only [stp_len,List.length_singleton];omega) (by decide)
 unfold writeL
 refine ⟨by rw [ql,pl],by rw [ql,pl];simp only [stp_len],by rw [qn,pn,bodyF_len];simp;omega⟩
theorem writesL_succ {k:Nat} {l:List (Int×List Int)} {keep:List (List Int)} {i:Nat} {d:List Int} (h:keep[i]? =some d):
  writesL k l (keep.take (i+1))=(writeL (writesL k l (keep.take i)).1 (writesL k l (keep.take i)).2 d,(writesL k l (keep.take i)).2+d.length+11):=by
 unfold writesL
 rw [take_get' h,List.foldl_append];rfl
theorem needF_ge (keep:List (List Int)):11*keep.length<=needF keep:=by
 have key:∀ (ds:List (List Int)) (n:Nat),n+11*ds.length<=ds.foldl (fun n d=>n+d.length+11) n:=by
  intro ds
  induction ds with
  | nil=>intro n;simp
  | cons d ds ih=>intro n;have:=ih (n+d.length+11);simp only [List.foldl_cons,List.length_cons];omega
 have:=key keep 0
 unfold needF;omega
theorem needF_mono {keep:List (List Int)} {i:Nat}:needF (keep.take i)<=needF keep:=by
 have key:∀ (ds:List (List Int)) (n:Nat),n<=ds.foldl (fun n d=>n+d.length+11) n:=by
  intro ds
  induction ds with
  | nil=>intro n;exact Nat.le_refl _
  | cons d ds ih=>intro n;have:=ih (n+d.length+11);simp only [List.foldl_cons];omega
 have e:needF keep=(keep.drop i).foldl (fun n d=>n+d.length+11) (needF (keep.take i)):=by
  unfold needF;rw [← List.foldl_append,List.take_append_drop]
 rw [e];exact key _ _
theorem div_lem {st x:Nat} (h1:1<=st) (hx:st*x<=100000):IntKind.wrap .i64 (Int.tdiv ((st*x:Nat):Int) (st:Int))=(x:Int):=by
 have h2:1*x<=st*x:=Nat.mul_le_mul_right x h1
 rw [Int.tdiv_eq_ediv_of_nonneg (by omega),Int.natCast_mul,Int.mul_ediv_cancel_left _ (by omega),wrap_i64 (by omega)]
theorem needF_cons (d:List Int) (l:List (List Int)):needF (d::l)=d.length+11+needF l:=by
 have key:∀ (ds:List (List Int)) (n:Nat),ds.foldl (fun n d=>n+d.length+11) n=n+needF ds:=by
  intro ds
  induction ds with
  | nil=>intro n;rfl
  | cons d ds ih=>
   intro n
   unfold needF
   simp only [List.foldl_cons]
   rw [ih,ih];omega
 unfold needF
 simp only [List.foldl_cons]
 rw [key];unfold needF;omega
theorem parseN_need:∀ (f:Nat) (r:List Int) (l:List (List Int)) (n:Nat),parseN f r=some (l,n)->needF l=n
 | 0,r,l,n,h=>by
  simp [parseN] at h
  obtain ⟨rfl,rfl⟩:=h;rfl
 | f+1,r,l,n,h=>by
  unfold parseN at h
  split at h
  ·simp at h;obtain ⟨rfl,rfl⟩:=h;rfl
  split at h
  ·cases h
  split at h
  ·cases h
  split at h
  ·cases h
  rename_i hl _
  cases hp:parseN f (r.drop ((numF ((r.drop 1).take 2)).toNat+11)) with
  | none=>rw [hp] at h;cases h
  | some q=>
   rw [hp] at h
   simp only [Option.map_some,Option.some.injEq,Prod.mk.injEq] at h
   have:=parseN_need f _ q.1 q.2 hp
   obtain ⟨rfl,rfl⟩:=h
   rw [needF_cons,this,List.length_take,List.length_drop]
   omega
theorem parseF_need {r:List Int} {l:List (List Int)} {n:Nat} (h:parseF r=some (l,n)):needF l=n:=parseN_need _ _ _ _ h
theorem writesL_cons (k:Nat) (l:List (Int×List Int)) (d:List Int) (keep:List (List Int)):writesL k l (d::keep)=writesL (k+d.length+11) (writeL l k d) keep:=rfl
theorem writesL_ok {len:Nat}:∀ {keep:List (List Int)} {k:Nat} {l:List (Int×List Int)},validF (lastM l).1 len->(lastM l).2.length=len->k+needF keep<=len->
  (lastM (writesL k l keep).1).1=(lastM l).1/\(lastM (writesL k l keep).1).2.length=len/\(writesL k l keep).1.length=l.length+needF keep/\(writesL k l keep).2=k+needF keep
 | [],k,l,hv,hl,hr=>⟨rfl,hl,rfl,rfl⟩
 | d::keep,k,l,hv,hl,hr=>by
  rw [needF_cons] at hr ⊢
  obtain ⟨w1,w2,w3⟩:=writeL_ok (l:=l) (a:=k) (ds:=d) (by rw [hl];exact hv) (by rw [hl];omega)
  obtain ⟨i1,i2,i3,i4⟩:=writesL_ok (keep:=keep) (k:=k+d.length+11) (l:=writeL l k d) (by rw [w1];exact hv) (by rw [w2,hl]) (by omega)
  rw [writesL_cons]
  exact ⟨by rw [i1,w1],i2,by rw [i3,w3];omega,by rw [i4];omega⟩
theorem rewL_ok {s:Int} {zs:List Int} {a:Nat} {g:Int} {keep:List (List Int)} (hA:areaF s zs.length≠0) (ha:a=0\/a=areaF s zs.length) (hroom:5+needF keep<=areaF s zs.length):
  (lastM (rewL s zs (areaF s zs.length) a g keep)).1=s/\(lastM (rewL s zs (areaF s zs.length) a g keep)).2.length=zs.length/\(rewL s zs (areaF s zs.length) a g keep).length=1+areaF s zs.length+needF keep+5:=by
 obtain ⟨st,q,rfl,hq,hst1,hst2,hl⟩:=areaF_div hA
 obtain ⟨a1',hv,a3,a4,a5,a6⟩:=areaF_ok hA
 obtain ⟨p,hp,hpq⟩:∃ p,areaF st zs.length-a=st*p/\p<=q:=by
  rcases ha with rfl|rfl
  ·exact ⟨q,by omega,Nat.le_refl _⟩
  ·exact ⟨0,by omega,Nat.zero_le _⟩
 have hpq2:st*p<=st*q:=Nat.mul_le_mul_left st hpq
 obtain ⟨z',ez1,ez2,ez3⟩:=erasesL_ok (st:=st) (p:=p) (m:=q) hv (by rw [Nat.mul_comm,Nat.mul_add];omega)
 rw [Nat.mul_comm q st] at ez3
 obtain ⟨w1,w2,w3,w4⟩:=writesL_ok (len:=zs.length) (keep:=keep) (k:=st*p+5) (l:=erasesL p q [((st:Int),zs)]) (by rw [ez1];exact hv) (by rw [ez1];exact ez2) (by omega)
 have hv1:validF (lastM (writesL (st*p+5) (erasesL p q [((st:Int),zs)]) keep).1).1 (lastM (writesL (st*p+5) (erasesL p q [((st:Int),zs)]) keep).1).2.length:=by rw [w1,w2,ez1];exact hv
 obtain ⟨pl,pn⟩:=progL_ok (l:=(writesL (st*p+5) (erasesL p q [((st:Int),zs)]) keep).1) (a:=st*p+1) (ds:=storF (g+1) 4) hv1 (by rw [w2,storF_len];omega) (by rw [storF_len];omega)
 obtain ⟨ql,qn⟩:=progL_ok (l:=progL (writesL (st*p+5) (erasesL p q [((st:Int),zs)]) keep).1 (st*p+1) (storF (g+1) 4)) (a:=st*p) (ds:=[90]) (by rw [pl];simp only [stp_len];exact hv1) (by rw [pl];simp only [stp_len,List.length_singleton];omega) (by decide)
 have er:rewL st zs (areaF st zs.length) a g keep=progL (progL (writesL (st*p+5) (erasesL p q [((st:Int),zs)]) keep).1 (st*p+1) (storF (g+1) 4)) (st*p) [90]:=by
  unfold rewL
  rw [hp,hq,Int.toNat_natCast,Nat.mul_div_cancel_left _ hst1,Nat.mul_div_cancel_left _ hst1]
 rw [er]
 refine ⟨by rw [ql,pl,w1,ez1],by rw [ql,pl];simp only [stp_len];exact w2,by rw [qn,pn,w3,ez3,storF_len,hq];simp⟩
theorem appendF_eq {s:Int} {zs:List Int} {old:List (List Int)} {a e:Nat} {g:Int} (ds:List Int) (ho:openF s zs=((old,a,g,e),0)):appendF s zs ds=
  if e+ds.length+11>areaF s zs.length\/cleanF (areaF s zs.length) a e zs=false/\g=4294967295 then ([],10)
  else if cleanF (areaF s zs.length) a e zs then (writeL [(s,zs)] (a+e) ds,0)
  else (writeL (rewL s zs (areaF s zs.length) a g old) (areaF s zs.length-a+e) ds,0):=by
 unfold appendF
 rw [if_neg (by rw [ho];simp),ho]
theorem compactF_eq {s:Int} {zs:List Int} {old:List (List Int)} {a e:Nat} {g:Int} (keep:List (List Int)) (ho:openF s zs=((old,a,g,e),0)):compactF s zs keep=
  if 5+needF keep>areaF s zs.length\/g=4294967295 then ([],10) else (rewL s zs (areaF s zs.length) a g keep,0):=by
 unfold compactF
 rw [if_neg (by rw [ho];simp),ho]
noncomputable def tab34:FuncId->List SV->Mem->(SV->Mem->Prop)->Prop:=fun f args E K=>match f with
 | 75=>d3 args fun x0 x1 x2=>dC x0 fun l1=>d2 l1 fun x0_0 x0_1=>dI x0_0 fun a1=>dS x0_1 fun b2 l3 c4=>dI x1 fun a5=>dS x2 fun b6 l7 c8=>∃ (zs:List Int) (ds:List Int),Bs E b2 l3 c4 zs/\Bs E b6 l7 c8 ds/\(∀ (b':Option Addr) (l' c':Nat) (ms:List (Int×List Int)) (e:Int) (E':Mem),Mem.le E E'->Hyp (progF a1 zs a5 ds=(ms,e))->FL E' b' l' c' ms->K (.tup [L b' l' c',I e]) E')
 | 66=>d1 args fun x0=>dS x0 fun b1 l2 c3=>∃ (zs:List Int),Bs E b1 l2 c3 zs/\l2<=70000/\(∀ (b':Option Addr) (l' c':Nat) (ys:List Int) (E':Mem),Mem.le E E'->Hyp (ys=hidB zs)->Bs E' b' l' c' ys->K (L b' l' c') E')
 | _=>False
theorem tab34_ok:TabOK Try.prog tab34:=by
 intro f args E K h
 unfold tab34 at h
 split at h
 ·replace h:=d3_elim h
  obtain ⟨x0,x1,x2,rfl,h⟩:=h
  replace h:=dC_elim h
  obtain ⟨l1,hl1,h⟩:=h
  replace h:=d2_elim h
  obtain ⟨x0_0,x0_1,rfl,h⟩:=h
  replace h:=dI_elim h
  obtain ⟨a1,rfl,h⟩:=h
  replace h:=dS_elim h
  obtain ⟨b2,l3,c4,rfl,h⟩:=h
  replace h:=dI_elim h
  obtain ⟨a5,rfl,h⟩:=h
  replace h:=dS_elim h
  obtain ⟨b6,l7,c8,rfl,h⟩:=h
  obtain ⟨zs,ds,g0,g1,h⟩:=h
  exact TabSem.congr (valL_cons (asCells_val hl1) (valL_cons rfl (valL_cons rfl rfl))) (esm okF3 Try.func75 rfl (s14 g0 g1 h))
 ·replace h:=d1_elim h
  obtain ⟨x0,rfl,h⟩:=h
  replace h:=dS_elim h
  obtain ⟨b1,l2,c3,rfl,h⟩:=h
  obtain ⟨zs,g0,g1,h⟩:=h
  exact TabSem.congr (valL_cons rfl rfl) (esm okJ7 Try.func66 rfl (j54 g0 g1 h))
 ·exact h.elim
noncomputable def KC:Cx:={ P:=Try.prog,inl:=fun f=>List.contains [62,64] f,tab:=tab34,isB:=fun _=>false,tabB:=fun _ _ _ _ _=>False,opt:={ unroll:=0,carry:=[] },muts:=(fun o=>match o with | .call { callee:=.value (.func 62),.. }=>true| .call { callee:=.value (.func 75),.. }=>true|o=>mutsD o) }
theorem okKC:CxOK KC:=CxOK.four tab34_ok (by kernel_rfl) (okInl (by kernel_rfl)) (fun _ _ _ _ _ h=>h.elim)
theorem b34 {n a cap tot:Nat} {d:Option Addr} {dl dc:Nat} {rs:List FRow} {ms:List (Int×List Int)} {ds:List Int} {KK:KT} (R:FLr E rs ms) (hn:ms.length=n) (hc:n<=cap/\cap*2<=tot) (hb:1<=n/\n<=100000000000) (hd:Bs E d dl dc ds)
  (hv:validF (lastM ms).1 (lastM ms).2.length) (ha:a+dl+11<=(lastM ms).2.length)
  (h:∀ (n' cap' tot':Nat) (rs':List FRow) (E':Mem),Mem.le E E'->FLr E' rs' (writeL ms a ds)->(writeL ms a ds).length=n'->n'<=cap'/\cap'*2<=tot'->KK (.tup []) [⟨97,.lst [.slc 4 0 n' cap'],1,true⟩,⟨24,.lst [],0,false⟩,⟨24,.lst [],0,false⟩,⟨5,.lst [.raw (.int .u8 90)],1,false⟩,⟨24,.vals (rs'.flatMap rowV),tot',true⟩] E'):
  EntB KC 8 Try.f48 [.loc 0 0,I (a:Nat),L d dl dc] [⟨97,.lst [.slc 1 0 n cap],1,true⟩,⟨24,.vals (rs.flatMap rowV),tot,true⟩] E KK:=by
 refine sm_ (?_:∃ (zs:List Int),Bs E d dl dc zs/\dl<=70000/\∀ (b':Option Addr) (l' c':Nat) (ys:List Int) (E':Mem),Mem.le E E'->Hyp (ys=hidB zs)->Bs E' b' l' c' ys->Mem.le E E'/\req ((0:Int)<=WI ((NI n)-1)/\WI ((NI n)-1)<(NI n)) (∃ (n_1:Int),∃ (base:Option Addr),∃ (len:Nat),∃ (cap_1:Nat),LoadV KC.P 24 (List.flatMap rowV rs) (0+Int.toNat (WI ((NI n)-1))*2) (SV.agg [I n_1,L base len cap_1])/\∃ (zs:List Int),∃ (ds:List Int),Bs E' base len cap_1 zs/\Bs E' b' l' c' ds/\∀ (b':Option Addr) (l' c':Nat) (ms:List (Int×List Int)) (e:Int) (E'_1:Mem),Mem.le E' E'_1->Hyp (progF n_1 zs (WI ((NI a)+1)) ds=(ms,e))->FL E'_1 b' l' c' ms->Mem.le E' E'_1/\Sx.Alike al2 (bif decide ((NI l')>0) then req (l'<=c') (req ((0:Int)<=(1:Int)/\1<=(NI (toN none l'))) (∀ (base':Option Addr) (E':Mem),Mem.le E'_1 E'->(∀ (cs:List Value),E'_1 (VS b' l' c') cs->E' (VS base' (toN none l'-1) (toN none c'-1)) (List.take ((toN none l'-1)*2) (List.drop 2 cs)))->Option.isNone base'=Option.isNone b'->∃ (cs:List Value),(cs=[]\/E' (VS base' (toN none l'-1) (toN none c'-1)) cs)/\(toN none l'-1)*2<=List.length cs/\(∀ (x:Value),List.Mem x cs->Value.oneCell' x=true)/\n*2<=List.length (Row.cells (Row.vals (List.flatMap rowV rs)))/\cap*2<=tot/\n<=cap/\req ((n+(toN none l'-1))*32<=140737488355328) (∀ (cap' tot':Nat),n+(toN none l'-1)<=cap'->cap'*2<=tot'->req ((0:Int)<=WI ((NI (n+(toN none l'-1)))-(1:Int))/\WI ((NI (n+(toN none l'-1)))-(1:Int))<(NI (n+(toN none l'-1)))) (∃ (n_2:Int),∃ (base:Option Addr),∃ (len:Nat),∃ (cap:Nat),LoadV KC.P 24 (List.take (n*2) (List.flatMap rowV rs)++List.take ((toN none l'-1)*2) cs) (0+Int.toNat (WI ((NI (n+(toN none l'-(1:Nat))))-(1:Int)))*2) (SV.agg [I n_2,L base len cap])/\∀ (base_1:Option Addr) (E'_2:Mem),Mem.le E' E'_2->WinE E'_2 base_1 [U8 90]->∃ (zs:List Int),∃ (ds:List Int),Bs E'_2 base len cap zs/\Bs E'_2 (Option.map (fun (x:Addr)=>Addr.add x 0) base_1) 1 1 ds/\∀ (b':Option Addr) (l'_1 c':Nat) (ms:List (Int×List Int)) (e:Int) (E':Mem),Mem.le E'_2 E'->Hyp (progF n_2 zs (NI a) ds=(ms,e))->FL E' b' l'_1 c' ms->Sx.Alike al2 (bif decide ((NI l'_1)>0) then req (l'_1<=c') (req ((0:Int)<=(1:Int)/\1<=(NI (toN none l'_1))) (∀ (base':Option Addr) (E'_3:Mem),Mem.le E' E'_3->(∀ (cs:List Value),E' (VS b' l'_1 c') cs->E'_3 (VS base' (toN none l'_1-(1:Nat)) (toN none c'-(1:Nat))) (List.take ((toN none l'_1-(1:Nat))*(2:Nat)) (List.drop 2 cs)))->Option.isNone base'=Option.isNone b'->∃ (cs_1:List Value),(cs_1=[]\/E'_3 (VS base' (toN none l'_1-(1:Nat)) (toN none c'-(1:Nat))) cs_1)/\(toN none l'_1-(1:Nat))*(2:Nat)<=List.length cs_1/\(∀ (x:Value),List.Mem x cs_1->Value.oneCell' x=true)/\(n+(toN none l'-(1:Nat)))*(2:Nat)<=List.length (Row.cells (Row.vals (List.take (n*(2:Nat)) (List.flatMap rowV rs)++List.take ((toN none l'-(1:Nat))*(2:Nat)) cs)))/\cap'*(2:Nat)<=tot'/\n+(toN none l'-(1:Nat))<=cap'/\req ((n+(toN none l'-(1:Nat))+(toN none l'_1-(1:Nat)))*(32:Nat)<=(140737488355328:Nat)) (∀ (cap' tot':Nat),n+(toN none l'-(1:Nat))+(toN none l'_1-(1:Nat))<=cap'->cap'*(2:Nat)<=tot'->KK (SV.tup []) [⟨(97:Nat),Row.lst [SV.slc 4 0 (n+(toN none l'-(1:Nat))+(toN none l'_1-(1:Nat))) cap'],(1:Nat),true⟩,⟨(24:Nat),Row.lst [],(0:Nat),false⟩,⟨(24:Nat),Row.lst [],(0:Nat),false⟩,⟨(5:Nat),Row.lst [SV.raw (U8 90)],(1:Nat),false⟩,⟨(24:Nat),Row.vals (List.take ((n+(toN none l'-(1:Nat)))*(2:Nat)) (List.take (n*(2:Nat)) (List.flatMap rowV rs)++List.take ((toN none l'-(1:Nat))*(2:Nat)) cs)++List.take ((toN none l'_1-(1:Nat))*(2:Nat)) cs_1),tot',true⟩] E'_3))) else KK (SV.tup []) [⟨(97:Nat),Row.lst [SV.slc 2 0 (n+(toN none l'-(1:Nat))) cap'],(1:Nat),true⟩,⟨(24:Nat),Row.lst [],(0:Nat),false⟩,⟨(24:Nat),Row.vals (List.take (n*(2:Nat)) (List.flatMap rowV rs)++List.take ((toN none l'-(1:Nat))*(2:Nat)) cs),tot',true⟩,⟨(5:Nat),Row.lst [SV.raw (U8 90)],(1:Nat),false⟩] E'))))) else req ((0:Int)<=WI ((NI n)-1)/\WI ((NI n)-1)<(NI n)) (∃ (n_2:Int),∃ (base:Option Addr),∃ (len:Nat),∃ (cap_2:Nat),LoadV KC.P 24 (List.flatMap rowV rs) (0+Int.toNat (WI ((NI n)-1))*2) (SV.agg [I n_2,L base len cap_2])/\∀ (base_1:Option Addr) (E':Mem),Mem.le E'_1 E'->WinE E' base_1 [U8 90]->∃ (zs:List Int),∃ (ds:List Int),Bs E' base len cap_2 zs/\Bs E' (Option.map (fun (x:Addr)=>Addr.add x 0) base_1) 1 1 ds/\∀ (b':Option Addr) (l' c':Nat) (ms:List (Int×List Int)) (e:Int) (E'_2:Mem),Mem.le E' E'_2->Hyp (progF n_2 zs (NI a) ds=(ms,e))->FL E'_2 b' l' c' ms->Sx.Alike al2 (bif decide ((NI l')>0) then req (l'<=c') (req ((0:Int)<=(1:Int)/\1<=(NI (toN none l'))) (∀ (base':Option Addr) (E':Mem),Mem.le E'_2 E'->(∀ (cs:List Value),E'_2 (VS b' l' c') cs->E' (VS base' (toN none l'-1) (toN none c'-1)) (List.take ((toN none l'-(1:Nat))*2) (List.drop 2 cs)))->Option.isNone base'=Option.isNone b'->∃ (cs:List Value),(cs=[]\/E' (VS base' (toN none l'-(1:Nat)) (toN none c'-(1:Nat))) cs)/\(toN none l'-(1:Nat))*(2:Nat)<=List.length cs/\(∀ (x:Value),List.Mem x cs->Value.oneCell' x=true)/\n*(2:Nat)<=List.length (Row.cells (Row.vals (List.flatMap rowV rs)))/\cap*(2:Nat)<=tot/\n<=cap/\req ((n+(toN none l'-(1:Nat)))*(32:Nat)<=(140737488355328:Nat)) (∀ (cap' tot':Nat),n+(toN none l'-(1:Nat))<=cap'->cap'*(2:Nat)<=tot'->KK (SV.tup []) [⟨(97:Nat),Row.lst [SV.slc 3 0 (n+(toN none l'-(1:Nat))) cap'],(1:Nat),true⟩,⟨(24:Nat),Row.lst [],(0:Nat),false⟩,⟨(5:Nat),Row.lst [SV.raw (U8 90)],(1:Nat),false⟩,⟨(24:Nat),Row.vals (List.take (n*(2:Nat)) (List.flatMap rowV rs)++List.take ((toN none l'-(1:Nat))*(2:Nat)) cs),tot',true⟩] E'))) else KK (SV.tup []) [⟨97,.lst [SV.slc 1 0 n cap],1,true⟩,⟨24,.vals (List.flatMap rowV rs),tot,true⟩,⟨5,.lst [SV.raw (U8 90)],1,false⟩] E'_2)))))
 delta WI NI U8 VS
 have hdl:=hd.2.1
 have hvl:(lastM ms).2.length<=16384:=hv.2.2.2.1
 refine ⟨ds,hd,by omega,fun b1 l1 c1 ys E1 k1 r1 B1=>⟨k1,?_⟩⟩
 have r1:ys=hidB ds:=r1
 rw [hidB_eq] at r1
 subst r1
 obtain ⟨n1,b2,l2,c2,ld,lb⟩:=last_load (R.mono k1) hn hb.1 (by omega)
 refine req_intro n1 ⟨_,b2,l2,c2,ld,_,_,lb,B1,fun b3 l3 c3 m3 e3 E2 k2 r2 F2=>⟨k2,alike ?_⟩⟩
 have r2:progF (lastM ms).1 (lastM ms).2 (IntKind.wrap .i64 ((a:Int)+1)) (bodyF ds)=(m3,e3):=r2
 rw [wrap_i64 (x:=(a:Int)+1) (by omega),show (a:Int)+1=((a+1:Nat):Int) by simp] at r2
 have hl3:m3.length=dl+11:=by
  rw [progF_mk hv (by omega) (by rw [bodyF_len];omega)] at r2
  rw [← (Prod.mk.inj r2).1,mems_len,bodyF_len,hdl]
 have hl3':=F2.len
 have ht3:toN none l3=l3:=rfl
 refine condC (fun g=>?_) (fun g=>by simp at g;omega)
 refine tail_app F2 (by omega) (R.mono (mt_ k1 k2)) hn hc (by omega) fun base' E3 cs cap3 tot3 rs3 ec k3 R3 n3 g1 g2=>?_
 have ep:chgF ms m3=progL ms (a+1) (bodyF ds):=by unfold progL;rw [r2]
 rw [ep] at R3 n3
 obtain ⟨pl,pn⟩:=progL_ok (l:=ms) (a:=a+1) (ds:=bodyF ds) hv (by rw [bodyF_len];omega) (by rw [bodyF_len];omega)
 have hv2:validF (lastM (progL ms (a+1) (bodyF ds))).1 (lastM (progL ms (a+1) (bodyF ds))).2.length:=by rw [pl];simp only [stp_len];exact hv
 have hz2:(lastM (progL ms (a+1) (bodyF ds))).2.length=(lastM ms).2.length:=by rw [pl];simp only [stp_len]
 rw [ec]
 obtain ⟨n4,b4,l4,c4,ld4,lb4⟩:=last_load R3 n3 (by omega) (by omega)
 refine req_intro n4 ⟨_,b4,l4,c4,ld4,fun base5 E5 k5 w5=>⟨_,[90],lb4.mono k5,Bs.win (zs:=[90]) w5 rfl rfl (Nat.le_refl _) (by decide),fun b6 l6 c6 m6 e6 E6 k6 r6 F6=>alike ?_⟩⟩
 have r6:progF (lastM (progL ms (a+1) (bodyF ds))).1 (lastM (progL ms (a+1) (bodyF ds))).2 (a:Int) [90]=(m6,e6):=r6
 have hl6:m6.length=2:=by
  rw [progF_mk hv2 (by omega) (by simp only [List.length_singleton];omega)] at r6
  rw [← (Prod.mk.inj r6).1,mems_len];rfl
 have hl6':=F6.len
 refine condC (fun g=>?_) (fun g=>by simp at g;omega)
 refine tail_app F6 (by omega) (R3.mono (mt_ k5 k6)) n3 ⟨g1,g2⟩ (by omega) fun base7 E7 cs7 cap7 tot7 rs7 ec7 k7 R7 n7 g3 g4=>?_
 rw [ec7]
 have ep7:chgF (progL ms (a+1) (bodyF ds)) m6=writeL ms a ds:=by
  show _=progL (progL ms (a+1) (bodyF ds)) a [90]
  rw [show progL (progL ms (a+1) (bodyF ds)) a [90]=chgF (progL ms (a+1) (bodyF ds)) (progF (lastM (progL ms (a+1) (bodyF ds))).1 (lastM (progL ms (a+1) (bodyF ds))).2 (a:Int) [90]).1 from rfl,r6]
 rw [ep7] at R7 n7
 exact h _ cap7 tot7 rs7 E7 (mt_ k1 (mt_ k2 (mt_ k3 (mt_ k5 (mt_ k6 k7))))) R7 n7 ⟨g3,g4⟩
theorem CallSem.wr {P:Program} {f:FuncId} {bx:List Box} {iw ir:Nat} {vs:List Value} {tot n cap:Nat} {args args':List SV} {E:Mem} {K:KT} (hw:bx[iw]? =some ⟨97,.lst [.slc ir 0 n cap],1,true⟩) (hb:bx[ir]? =some ⟨24,.vals vs,tot,true⟩) (hne:iw≠ir) (ha:args=SV.renL [iw,ir] bx.length args')
  (h:CallSem P f args' [⟨97,.lst [.slc 1 0 n cap],1,true⟩,⟨24,.vals vs,tot,true⟩] E (cloK 2 fun s bx' E'=>∃ n' cap' vs' tot',s= .tup []/\bx'=[⟨97,.lst [.slc 2 0 n' cap'],1,true⟩,⟨24,.lst [],0,false⟩,⟨24,.vals vs',tot',true⟩]/\K (.tup []) ((bx.set iw ⟨97,.lst [.slc bx.length 0 n' cap'],1,true⟩).set ir ⟨24,.lst [],0,false⟩++[⟨24,.vals vs',tot',true⟩]) E')):
  CallSem P f args bx E K:=by
 refine frame (σ:=[iw,ir]) ⟨by simp [hne],rfl,fun i y hy=>?_⟩ ha h.clo ?_
 ·match i,hy with
  | 0,hy=>
   simp only [List.getElem?_cons_zero,Option.some.injEq] at hy;subst hy
   exact ⟨rfl,iw,rfl,hw⟩
  | 1,hy=>
   simp only [List.getElem?_cons_succ,List.getElem?_cons_zero,Option.some.injEq] at hy;subst hy
   exact ⟨rfl,ir,rfl,hb⟩
 ·rintro s bxs' E' ⟨n',cap',vs',tot',rfl,rfl,hK⟩
  simpa [merge,setAll,SV.ren,renF,Box.ren,Row.ren,SV.renL] using hK
noncomputable def tabW:CallT:=fun f args bx E K=>match f with
  | 48=>d3 args fun x0 x1 x2=>dI x1 fun a=>dS x2 fun d dl dc=>match x0 with
    | .loc iw 0=>match bx[iw]? with
      | some ⟨97,.lst [.slc ir 0 n cap],1,true⟩=>match bx[ir]? with
        | some ⟨e,r,tot,true⟩=>match r.val with
          | some vs=>∃ (rs:List FRow) (ms:List (Int×List Int)) (ds:List Int),(iw≠ir/\e=24/\vs=rs.flatMap rowV/\FLr E rs ms/\ms.length=n/\(n<=cap/\cap*2<=tot)/\(1<=n/\n<=100000000000)/\Bs E d dl dc ds/\validF (lastM ms).1 (lastM ms).2.length/\0<=a/\a.toNat+dl+11<=(lastM ms).2.length)/\
             ∀ (n' cap' tot':Nat) (rs':List FRow) (E':Mem),Mem.le E E'->FLr E' rs' (writeL ms a.toNat ds)->Hyp ((writeL ms a.toNat ds).length=n')->n'<=cap'/\cap'*2<=tot'->K (.tup []) ((bx.set iw ⟨97,.lst [.slc bx.length 0 n' cap'],1,true⟩).set ir ⟨24,.lst [],0,false⟩++[⟨24,.vals (rs'.flatMap rowV),tot',true⟩]) E'
          | none=>False
        | _=>False
      | _=>False
    | _=>False
  | _=>False
theorem tabW_ok:∀ f args bx E K,tabW f args bx E K->CallSem Try.prog f args bx E K:=by
 intro f args bx E K h
 unfold tabW at h
 split at h
 case h_2=>exact h.elim
 obtain ⟨x0,x1,x2,rfl,h1⟩:=d3_elim h
 obtain ⟨a,rfl,h2⟩:=dI_elim h1
 obtain ⟨d,dl,dc,rfl,h3⟩:=dS_elim h2
 clear h h1 h2
 split at h3
 case h_2=>exact h3.elim
 rename_i iw
 split at h3
 case h_2=>exact h3.elim
 rename_i ir n cap hw
 split at h3
 case h_2=>exact h3.elim
 rename_i e r tot hb
 split at h3
 case h_2=>exact h3.elim
 rename_i vs hr
 obtain ⟨rs,ms,ds,⟨hne,rfl,rfl,R,hn,hc,hbd,hd,hv,h0,ha⟩,h⟩:=h3
 obtain ⟨a,rfl⟩:∃ k:Nat,a=k:=⟨a.toNat,by omega⟩
 rw [Int.toNat_natCast] at ha h
 refine CallSem.asV hb hr ?_
 have hb2:(bx.set ir ⟨24,.vals (rs.flatMap rowV),tot,true⟩)[ir]? =some ⟨24,.vals (rs.flatMap rowV),tot,true⟩:=by
  rw [List.getElem?_set_self (List.getElem?_eq_some_iff.1 hb).1]
 have hw2:(bx.set ir ⟨24,.vals (rs.flatMap rowV),tot,true⟩)[iw]? =some ⟨97,.lst [.slc ir 0 n cap],1,true⟩:=by
  rw [List.getElem?_set_ne (Ne.symm hne)];exact hw
 refine CallSem.wr (args':=[.loc 0 0,I (a:Nat),L d dl dc]) hw2 hb2 hne (by simp [SV.renL,SV.ren,renF]) (bsm okKC Try.func48 (b34 R hn hc hbd hd hv ha fun n' cap' tot' rs' E' h1 h2 h3 h4=>?_))
 refine cloK_intro [some 0,some 1,some 4] ⟨n',cap',_,tot',rfl,rfl,?_⟩ (wkG mr_ (h6:=(by repeat' first|exact True.intro|exact rfl|exact Or.inl rfl|exact (by decide:1<5)|refine And.intro ?_ ?_)))
 have:=h n' cap' tot' rs' E' h1 h2 h3 h4
 rw [List.length_set,List.set_comm _ _ (Ne.symm hne),List.set_set]
 exact this
end Go.Proofs.Ytdaakdbkmjgloaa.CustodyOwn
