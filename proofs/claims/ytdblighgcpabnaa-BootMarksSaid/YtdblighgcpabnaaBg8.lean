/- What functions of the program compute; plain lemmas on it. Conditions: none. -/
import Derived.Test.YtdblighgcpabnaaProg
import Derived.Test.YtdblighgcpabnaaSyBB
import Derived.Lib.Bytes
import Derived.Lib.Walk
import Derived.Lib.Strings
namespace Go.Proofs.Ytdblighgcpabnaa.BootOwn
open Go Go.Sx
set_option maxRecDepth 100000
set_option maxHeartbeats 4000000
set_option linter.unusedVariables false
set_option linter.unusedSimpArgs false
variable {E:Mem} {K:SV->Mem->Prop}
abbrev WI (x:Int):Int:=IntKind.wrap .i64 x
abbrev NI (n:Nat):Int:=(n:Int)
abbrev U8 (x:Int):Value:=.int .u8 x
abbrev VS (b:Option Addr) (l c:Nat):Value:=.slice b l c
abbrev no2 (t:List (Option SV)):List (Option SV):=none::none::t
abbrev no4 (t:List (Option SV)):List (Option SV):=none::none::none::none::t
abbrev no8 (t:List (Option SV)):List (Option SV):=none::none::none::none::none::none::none::none::t
abbrev no16 (t:List (Option SV)):List (Option SV):=none::none::none::none::none::none::none::none::none::none::none::none::none::none::none::none::t
abbrev no32 (t:List (Option SV)):List (Option SV):=none::none::none::none::none::none::none::none::none::none::none::none::none::none::none::none::none::none::none::none::none::none::none::none::none::none::none::none::none::none::none::none::t
abbrev oI (x:Int):Option SV:=some (.raw (.int .i64 x))
abbrev oB (x:Bool):Option SV:=some (.raw (.bool x))
abbrev oL (b:Option Addr) (l c:Nat):Option SV:=some (.raw (.slice b l c))
abbrev oc (b o:Nat):Option SV:=some (.loc b o)
abbrev os (b o l c:Nat):Option SV:=some (.slc b o l c)
abbrev oU:Option SV:=some (.raw (.tuple #[]))
abbrev al2:AlikeT:=.n .l .l
theorem mr_ {E:Mem}:Mem.le E E:=Mem.le_refl E
theorem mt_ {E F G:Mem} (h:Mem.le E F) (k:Mem.le F G):Mem.le E G:=Mem.le_trans h k
theorem sm_ {p q:Prop} (h:q) (e:p=q:=by kernel_rfl):p:=e.mpr h
theorem esm {C:Cx} (hC:CxOK C) {n:Nat} {f:FuncId} {fn:Func} (hf:C.P.funcs[f]? =some fn) {args:List SV} {vs:List Value} {E:Mem} {K:SV->Mem->Prop}
  (hv:SV.valL args=some vs) (h:Ent C n fn args E K) (hok:okFn fn:=by exact ⟨by kernel_rfl,by kernel_rfl⟩) (ho:C.opt.om=none:=by rfl):TabSem C.P f args E K:=Ent.sem hC hf hok hv h ho
theorem bsm {C:Cx} (hC:CxOK C) {n:Nat} {f:FuncId} {fn:Func} (hf:C.P.funcs[f]? =some fn) {args:List SV} {bx:List Box} {E:Mem} {K:KT}
  (h:EntB C n fn args bx E K) (hok:okFn fn:=by exact ⟨by kernel_rfl,by kernel_rfl⟩) (ho:C.opt.om=none:=by rfl):CallSem C.P f args bx E K:=EntB.sem hC hf hok h ho
def nodB:List Nat->Bool
 | []=>true
 | x::l=> !l.contains x&&nodB l
theorem nodB_ok:∀ {l:List Nat},nodB l=true->l.Nodup
 | [],_=>List.nodup_nil
 | x::l,h=>by
  simp only [nodB,Bool.and_eq_true,Bool.not_eq_true',List.contains_eq_mem,decide_eq_false_iff_not] at h
  exact List.nodup_cons.2 ⟨h.1,nodB_ok h.2⟩
theorem wkG {n0:Nat} {τ:Tau} {S T:St} (hE:Mem.le T.E S.E) (h1:n0<=S.bx.length:=by first|(simp;done)|(simp [St.pub];done)) (h2:n0<=τ.length:=by first|(simp;done)|(simp [St.pub];done))
  (h3:∀ j,j<n0->τ[j]? =some (some j):=by decide) (h4:T.bx.length=τ.length:=by rfl)
  (h5:wkFr τ S.bx.length S.fr T.fr:=by repeat' first|exact True.intro|refine And.intro (Or.inl rfl) ?_|refine And.intro (Or.inr ⟨rfl,rfl⟩) ?_)
  (h6:wkBx τ S.bx.length S.bx 0 T.bx:=by repeat' first|exact True.intro|exact rfl|exact Or.inl rfl|fail|refine And.intro ?_ ?_)
  (h7:nodB (liveSrc τ T.bx)=true:=by kernel_rfl):S.wk n0 τ T:=⟨⟨h1,h2,h3⟩,h4,h5,h6,nodB_ok h7,hE⟩
theorem wkH {n0:Nat} {τ:Tau} {S T:St} (hE:Mem.le T.E S.E) (h1:n0<=S.bx.length:=by first|(simp;done)|(simp [St.pub];done)) (h2:n0<=τ.length:=by first|(simp;done)|(simp [St.pub];done))
  (h3:∀ j,j<n0->τ[j]? =some (some j):=by decide) (h4:T.bx.length=τ.length:=by rfl)
  (h5:wkFr τ S.bx.length S.fr T.fr:=by repeat' first|exact True.intro|refine And.intro (Or.inl rfl) ?_|refine And.intro (Or.inr ⟨rfl,rfl⟩) ?_)
  (h6:wkBx τ S.bx.length S.bx 0 T.bx:=by repeat' first|exact True.intro|exact rfl|exact Or.inl rfl|exact Or.inr ⟨rfl,rfl⟩|refine And.intro ?_ ?_|exact Nat.le_of_ble_eq_true rfl)
  (h7:nodB (liveSrc τ T.bx)=true:=by kernel_rfl):S.wk n0 τ T:=⟨⟨h1,h2,h3⟩,h4,h5,h6,nodB_ok h7,hE⟩
noncomputable def F1:Cx:={ P:=Try.prog,inl:=fun f=>List.contains [] f,tab:=fun _ _ _ _=>False,isB:=fun _=>false,tabB:=fun _ _ _ _ _=>False,opt:={ unroll:=0,carry:=[],cuts:=[5] },muts:=mutsD }
theorem okF1:CxOK F1:=CxOK.four (fun _ _ _ _ h=>h.elim) (by kernel_rfl) (okInl (by kernel_rfl)) (fun _ _ _ _ _ h=>h.elim)
theorem condC {c:Bool} {p q:Prop} (h1:c=true->p) (h0:c=false->q):bif c then p else q:=by cases c;exact h0 rfl;exact h1 rfl
abbrev vB (l:List Int):List Value:=l.map (.int .u8)
theorem wu8 {x:Int} (h:0<=x/\x<=255):IntKind.wrap .u8 x=x:=by
 rw [show IntKind.wrap .u8 x=x % 256 from rfl];omega
theorem wu8b (x:Int):0<=IntKind.wrap .u8 x/\IntKind.wrap .u8 x<=255:=by
 rw [show IntKind.wrap .u8 x=x % 256 from rfl];omega
abbrev FRow:=Int×Option Addr×Nat×Nat
def rowV (r:FRow):List Value:=[.int .i64 r.1,.slice r.2.1 r.2.2.1 r.2.2.2]
def FLr (E:Mem) (rs:List FRow) (ms:List (Int×List Int)):Prop:=rs.length=ms.length/\∀ (i:Nat) r m,rs[i]? =some r->ms[i]? =some m->r.1=m.1/\Bs E r.2.1 r.2.2.1 r.2.2.2 m.2
theorem FLr.mono {E E':Mem} {rs:List FRow} {ms:List (Int×List Int)} (h:FLr E rs ms) (he:Mem.le E E'):FLr E' rs ms:=⟨h.1,fun i r m h1 h2=>⟨(h.2 i r m h1 h2).1,(h.2 i r m h1 h2).2.mono he⟩⟩
theorem FLr.nil (E:Mem):FLr E [] []:=⟨rfl,fun i r m h=>by simp at h⟩
theorem FLr.snoc {E:Mem} {rs:List FRow} {ms:List (Int×List Int)} (h:FLr E rs ms) {r:FRow} {m:Int×List Int} (h1:r.1=m.1) (h2:Bs E r.2.1 r.2.2.1 r.2.2.2 m.2):FLr E (rs++[r]) (ms++[m]):=by
 refine ⟨by simp [h.1],fun i r' m' g1 g2=>?_⟩
 have hl:=h.1
 by_cases hi:i<rs.length
 ·rw [List.getElem?_append_left hi] at g1
  rw [List.getElem?_append_left (by omega)] at g2
  exact h.2 i r' m' g1 g2
 ·rw [List.getElem?_append_right (by omega)] at g1
  rw [List.getElem?_append_right (by omega),← hl] at g2
  cases hk:i-rs.length with
  | zero=>rw [hk] at g1 g2;simp at g1 g2;subst g1;subst g2;exact ⟨h1,h2⟩
  | succ k=>rw [hk] at g1;simp at g1
theorem rows_len (rs:List FRow):(rs.flatMap rowV).length=rs.length*2:=by
 induction rs with
 | nil=>rfl
 | cons r rs ih=>simp only [List.flatMap_cons,List.length_append,ih,rowV,List.length_cons,List.length_nil];omega
theorem rows_snoc (rs:List FRow) (r:FRow):(rs++[r]).flatMap rowV=rs.flatMap rowV++rowV r:=by simp
def FL (E:Mem) (b:Option Addr) (n c:Nat) (ms:List (Int×List Int)):Prop:=∃ rs:List FRow,FLr E rs ms/\ms.length=n/\n<=c/\(n=0\/E (.slice b n c) (rs.flatMap rowV))/\(b=none->n=0)
theorem FL.mono {E E':Mem} {b:Option Addr} {n c:Nat} {ms:List (Int×List Int)} (h:FL E b n c ms) (he:Mem.le E E'):FL E' b n c ms:=
 let ⟨rs,h1,h2,h3,h4,h5⟩:=h;⟨rs,h1.mono he,h2,h3,h4.imp_right (he _ _),h5⟩
theorem FL.nil (E:Mem):FL E none 0 0 []:=⟨[],FLr.nil E,rfl,Nat.le_refl _,.inl rfl,fun _=>rfl⟩
theorem FL.win {E:Mem} {base:Option Addr} {vs:List Value} (h:WinE E base vs) {rs:List FRow} (e:vs=rs.flatMap rowV) {ms:List (Int×List Int)} (hr:FLr E rs ms) {n c:Nat} (hn:ms.length=n) (hc:n<=c):FL E (base.map fun x=>x.add 0) n c ms:=by
 subst e
 have hl:(rs.flatMap rowV).length=n*2:=by rw [rows_len,hr.1,hn]
 have:=h.2 0 (rs.flatMap rowV).length n c (by simp)
 simp only [List.drop_zero] at this
 rw [List.take_of_length_le (Nat.le_refl _)] at this
 refine ⟨rs,hr,hn,hc,.inr this,fun e=>?_⟩
 cases base with
 | none=>have:=h.1 rfl;rw [this] at hl;simp at hl;omega
 | some a=>cases e
def stp (g:Nat->Int->Int) (a:Nat) (zs:List Int):Nat->List Int
 | 0=>zs
 | i+1=>(stp g a zs i).set (a+i) (g i ((stp g a zs i).getD (a+i) 0))
theorem stp_len (g:Nat->Int->Int) (a:Nat) (zs:List Int):∀ i,(stp g a zs i).length=zs.length
 | 0=>rfl
 | i+1=>by simp [stp,stp_len g a zs i]
theorem stp_byte {g:Nat->Int->Int} {a:Nat} {zs:List Int} (hz:∀ z∈zs,0<=z/\z<=255) (hg:∀ i x,0<=g i x/\g i x<=255):∀ i,∀ z∈stp g a zs i,0<=z/\z<=255
 | 0,z,h=>hz z h
 | i+1,z,h=>by
  rcases List.mem_or_eq_of_mem_set h with h|rfl
  ·exact stp_byte hz hg i z h
  ·exact hg _ _
def mems (s:Int) (g:Nat->Int->Int) (a:Nat) (zs:List Int) (n:Nat):List (Int×List Int):=(List.range n).map fun i=>(s,stp g a zs i)
theorem mems_succ (s:Int) (g:Nat->Int->Int) (a:Nat) (zs:List Int) (n:Nat):mems s g a zs (n+1)=mems s g a zs n++[(s,stp g a zs n)]:=by simp [mems,List.range_succ]
theorem mems_len (s:Int) (g:Nat->Int->Int) (a:Nat) (zs:List Int) (n:Nat):(mems s g a zs n).length=n:=by simp [mems]
def band8 (x y:Int):Int:=IntKind.wrap .u8 (((BitVec.ofInt (IntKind.bits .u8) x&&& BitVec.ofInt (IntKind.bits .u8) y).toNat:Nat):Int)
theorem layV_set {zs:List Int} {p:Nat} (h:p<zs.length) (x:Int):layV (vB zs) p [.int .u8 x]=vB (zs.set p x):=by
 unfold layV vB
 rw [← List.map_take,← List.map_drop,List.set_eq_take_append_cons_drop,if_pos h]
 simp
theorem loadV_byte {P:Program} {T:TypeId} (ht:P.underlying T=some (.int .u8)) {zs:List Int} {p:Nat} (h:p<zs.length):LoadV P T (vB zs) p (.raw (.int .u8 (zs.getD p 0))):=by
 unfold LoadV loadW
 rw [ht]
 simp [h]
theorem vB_one (zs:List Int):∀ x:Value,List.Mem x (vB zs)->x.oneCell'=true:=fun x hx=>by
 obtain ⟨z,_,rfl⟩:=List.mem_map.1 hx
 rfl
noncomputable def F2:Cx:={ P:=Try.prog,inl:=fun f=>List.contains [78,86,38] f,tab:=fun _ _ _ _=>False,isB:=fun _=>false,tabB:=fun _ _ _ _ _=>False,opt:={ unroll:=0,carry:=[7] },muts:=(fun o=>match o with | .call { callee:=.value (.tmp 20),.. }=>true| .call { callee:=.value (.func 38),.. }=>true| .call { callee:=.value (.tmp 40),.. }=>true|o=>mutsD o) }
theorem okF2:CxOK F2:=CxOK.four (fun _ _ _ _ h=>h.elim) (by kernel_rfl) (okInl (by kernel_rfl)) (fun _ _ _ _ _ h=>h.elim)
abbrev fr27 (n:Int):List (Option SV):=[some (.clo 87 [] [.loc 2 0,.loc 4 0,.loc 5 0,.loc 3 0]),oI n,none,none,oL none 0 0,oc 7 0,none,oI n,os 6 0 0 (Int.toNat n),
 some (.clo 87 [] [.loc 2 0,.loc 4 0,.loc 5 0,.loc 3 0]),none,none,none,none,none,none]
noncomputable def FY (n:Int) (c:Rc):Cx:=YCx F2 F1 6 (fr27 n) (sub (bodyOf Try.f79) [1,1,0,1,0]) c
def sh33 (s:Int) (a:Nat) (b db:Option Addr) (l c dl dc m:Nat) (rc:Rc) (i cap tot:Nat) (vs:List Value) (zs:List Int) (E:Mem):St:=⟨[some (.raw (.func (.yield rc.l) #[] #[])),oc 2 0,oc 4 0,oc 5 0,oc 3 0,none,oc 9 0,oI (i:Nat)]++List.replicate 43 none,
 [⟨24,.lst [I s,L b l c],2,true⟩,⟨22,.lst [L db dl dc],1,true⟩,⟨24,.lst [I s,L b l c],2,true⟩,⟨3,.lst [I (a:Nat)],1,true⟩,⟨3,.lst [I (m:Nat)],1,true⟩,⟨99,.lst [.clo 78 [] [.loc 1 0]],1,true⟩]++[⟨24,.lst [],0,false⟩,⟨33,.lst [.slc 10 0 i cap],1,true⟩,⟨5,.vals (vB zs),l*1,true⟩,⟨24,.lst [I s,.slc 8 0 l l],2,true⟩,⟨24,.vals vs,tot,true⟩],E⟩
def sh5 (s:Int) (a:Nat) (b db:Option Addr) (l c dl dc m:Nat) (n cap tot:Nat) (vs:List Value) (E:Mem):St:=⟨[some (.clo 87 [] [.loc 2 0,.loc 4 0,.loc 5 0,.loc 3 0]),none,none,none,none,oc 6 0]++List.replicate 10 none,
 [⟨24,.lst [I s,L b l c],2,true⟩,⟨22,.lst [L db dl dc],1,true⟩,⟨24,.lst [I s,L b l c],2,true⟩,⟨3,.lst [I (a:Nat)],1,true⟩,⟨3,.lst [I (m:Nat)],1,true⟩,⟨99,.lst [.clo 78 [] [.loc 1 0]],1,true⟩]++[⟨33,.lst [.slc 7 0 n cap],1,true⟩,⟨24,.vals vs,tot,true⟩],E⟩
structure I33 (E0 E:Mem) (s:Int) (g:Nat->Int->Int) (a l m:Nat) (zs0:List Int) (i cap tot:Nat) (vs:List Value) (zs:List Int) (rs:List FRow):Prop where
 le:Mem.le E0 E
 lm:1<=l/\l<=16384/\a+m<=l
 len:zs0.length=l
 byte:∀ z∈zs0,0<=z/\z<=255
 im:i<=m
 cap:i<=cap/\cap*2<=tot
 vs:i*2<=vs.length/\List.take (i*2) vs=rs.flatMap rowV
 zs:zs=stp g a zs0 i
 rs:FLr E rs (mems s g a zs0 i)
def gP (ds:List Int):Nat->Int->Int:=fun i x=>band8 x (ds.getD i 0)
theorem cn27 {K:KT} {s:Int} {a:Nat} {b db:Option Addr} {l c dl dc m k cap tot:Nat} {n0:Int} {vs x8 x12:List Value} {t8 t12:Nat} {b3 b4:Option Addr} {l3 c3 l4 c4:Nat}
  (h:Ct F1 6 Try.f79 [1,1,1] 6 K (sh5 s a b db l c dl dc m k cap tot vs E)):
  Pn F1 6 Try.f79 [1,1,0,1,0] 6 K ⟨fr27 n0,[⟨24,.lst [I s,L b l c],2,true⟩,⟨22,.lst [L db dl dc],1,true⟩,⟨24,.lst [I s,L b l c],2,true⟩,⟨3,.lst [I (a:Nat)],1,true⟩,⟨3,.lst [I (m:Nat)],1,true⟩,⟨99,.lst [.clo 78 [] [.loc 1 0]],1,true⟩]++[⟨24,.lst [],0,false⟩,⟨33,.lst [.slc 15 0 k cap],1,true⟩,⟨5,.vals x8,t8,true⟩,⟨24,.lst [I s,.slc 8 0 l l],2,true⟩,⟨24,.lst [],0,false⟩,⟨5,.lst [],0,false⟩,⟨5,.vals x12,t12,false⟩,⟨24,.lst [I s,L b3 l3 c3],2,true⟩,⟨24,.lst [I s,L b4 l4 c4],2,true⟩,⟨24,.vals vs,tot,true⟩],E⟩:=by
 refine sm_ (?_:Ct F1 6 Try.f79 [1,1,1] 6 K { fr:=some (SV.clo 87 [] [SV.loc 2 0,SV.loc 4 0,SV.loc 5 0,SV.loc 3 0])::oI n0::none::none::oL none 0 0::oc 7 0::none::oI n0::os 6 0 0 (Int.toNat n0)::some (SV.clo 87 [] [SV.loc 2 0,SV.loc 4 0,SV.loc 5 0,SV.loc 3 0])::no4 (no2 []),bx:=[(⟨24,.lst [I s,L b l c],2,true⟩:Box),⟨22,.lst [L db dl dc],1,true⟩,⟨24,.lst [I s,L b l c],2,true⟩,⟨3,.lst [I (NI a)],1,true⟩,⟨3,.lst [I (NI m)],1,true⟩,⟨99,.lst [SV.clo 78 [] [SV.loc 1 0]],1,true⟩,⟨24,.lst [],0,false⟩,⟨33,.lst [SV.slc 15 0 k cap],1,true⟩,⟨5,.vals x8,t8,true⟩,⟨24,.lst [I s,SV.slc 8 0 l l],2,true⟩,⟨24,.lst [],0,false⟩,⟨5,.lst [],0,false⟩,⟨5,.vals x12,t12,false⟩,⟨24,.lst [I s,L b3 l3 c3],2,true⟩,⟨24,.lst [I s,L b4 l4 c4],2,true⟩,⟨24,.vals vs,tot,true⟩],E:=E:St })
 delta NI no2 no4
 exact Ct_re [some 0,some 1,some 2,some 3,some 4,some 5,some 7,some 15] h (wkG mr_)
theorem rnd33 {E0:Mem} {K:KT} {s:Int} {a:Nat} {b db:Option Addr} {l c dl dc m:Nat} {rc:Rc} {i cap tot:Nat} {vs:List Value} {zs zs0 ds:List Int} {rs:List FRow} {n0:Int} (hn:n0=((m+1:Nat):Int))
  (hI:I33 E0 E s (gP ds) a l m zs0 i cap tot vs zs rs) (hd:Bs E0 db dl dc ds) (hdl:m=dl)
  (hK:∀ (E':Mem) (rs:List FRow) (vs:List Value) (cap tot:Nat),Mem.le E0 E'->m+1<=cap->cap*2<=tot->vs=rs.flatMap rowV->FLr E' rs (mems s (gP ds) a zs0 (m+1))->Ct F1 6 Try.f79 [1,1,1] 6 K (sh5 s a b db l c dl dc m (m+1) cap tot vs E'))
  (ih:∀ (E':Mem) (cap tot:Nat) (vs:List Value) (zs:List Int) (rs:List FRow),i<m->I33 E0 E' s (gP ds) a l m zs0 (i+1) cap tot vs zs rs->
   Lp (FY n0 rc) 6 Try.f87 [1,1,1,0] 8 (fun _ bx E=>Cn F1 6 Try.f79 [1,1,0,1,0] 6 K { fr:=fr27 n0,bx:=bx,E:=E }) (sh33 s a b db l c dl dc m rc (i+1) cap tot vs zs E')):
  Rnd (FY n0 rc) 6 Try.f87 [1,1,1,0] 8 (fun _ bx E=>Cn F1 6 Try.f79 [1,1,0,1,0] 6 K { fr:=fr27 n0,bx:=bx,E:=E }) (sh33 s a b db l c dl dc m rc i cap tot vs zs E):=by
 refine sm_ (?_:Sx.Alike al2 (∀ (r:Bool),(r=true->Sx.Alike al2 (l=0))->bif r then rc.l=rc.l/\i*2<=List.length (Row.cells (Row.vals vs))/\cap*2<=tot/\i<=cap/\req ((i+1)*32<=140737488355328) (∀ (cap' tot':Nat),i+1<=cap'->cap'*2<=tot'->Sx.Alike al2 (bif bif true then decide ((NI i)<(NI m)) else false then req ((0:Int)<=WI ((NI a)+(NI i))/\WI ((NI a)+(NI i))<(NI l)) (∃ (n:Int),LoadV (FY n0 rc).P 5 (vB zs) (0+Int.toNat (WI ((NI a)+(NI i)))*1) (SV.raw (U8 n))/\Sx.Alike (AlikeT.n al2 (AlikeT.n al2 AlikeT.l)) (req (0<=(NI i)/\(NI i)<(NI dl)) ((∃ (cs:List Value),E (VS db dl dc) cs/\(cs=[]->False))/\∃ (n_1:Int),LoadE (FY n0 rc).P E 5 (VS db dl dc) (Int.toNat (NI i)*1) (SV.raw (U8 n_1))/\req ((0:Int)<=WI ((NI a)+(NI i))/\WI ((NI a)+(NI i))<(NI l)) (0+Int.toNat (WI ((NI a)+(NI i)))*1+1<=List.length (vB zs)/\Lp (FY n0 rc) 6 Try.f87 [1,1,1,0] 8 (fun (x:SV) (bx:List Box) (E:Mem)=>Cn F1 6 Try.f79 [1,1,0,1,0] 6 K { fr:=fr27 n0,bx:=bx,E:=E:St }) { fr:=some (SV.raw (Value.func (Fn.yield rc.l) #[] #[]))::oc 2 0::oc 4 0::oc 5 0::oc 3 0::none::oc 9 0::oI (WI ((NI i)+1))::no32 (no8 (no2 (none::[]))),bx:=[(⟨24,.lst [I s,L b l c],2,true⟩:Box),⟨22,.lst [L db dl dc],1,true⟩,⟨24,.lst [I s,L b l c],2,true⟩,⟨3,.lst [I (NI a)],1,true⟩,⟨3,.lst [I (NI m)],1,true⟩,⟨99,.lst [SV.clo 78 [] [SV.loc 1 0]],1,true⟩,⟨24,.lst [],0,false⟩,⟨33,.lst [SV.slc 13 0 (i+1) cap'],1,true⟩,⟨5,.vals (layV (vB zs) (0+Int.toNat (WI ((NI a)+(NI i)))*1) [U8 (IntKind.wrap IntKind.u8 (NI (BitVec.toNat (BitVec.ofInt (IntKind.bits IntKind.u8) n&&& BitVec.ofInt (IntKind.bits IntKind.u8) n_1))))]),l*1,true⟩,⟨24,.lst [I s,SV.slc 8 0 l l],2,true⟩,⟨24,.lst [],0,false⟩,⟨24,.lst [I s,L none 0 0],2,true⟩,⟨24,.lst [I s,L none 0 0],2,true⟩,⟨24,.vals (List.take (i*2) vs++[Value.int IntKind.i64 s,VS none 0 0]),tot',true⟩],E:=E:St })))) else Cn F1 6 Try.f79 [1,1,0,1,0] 6 K { fr:=some (SV.clo 87 [] [SV.loc 2 0,SV.loc 4 0,SV.loc 5 0,SV.loc 3 0])::oI n0::none::none::oL none 0 0::oc 7 0::none::oI n0::os 6 0 0 (Int.toNat n0)::some (SV.clo 87 [] [SV.loc 2 0,SV.loc 4 0,SV.loc 5 0,SV.loc 3 0])::no4 (no2 []),bx:=[(⟨24,.lst [I s,L b l c],2,true⟩:Box),⟨22,.lst [L db dl dc],1,true⟩,⟨24,.lst [I s,L b l c],2,true⟩,⟨3,.lst [I (NI a)],1,true⟩,⟨3,.lst [I (NI m)],1,true⟩,⟨99,.lst [SV.clo 78 [] [SV.loc 1 0]],1,true⟩,⟨24,.lst [],0,false⟩,⟨33,.lst [SV.slc 13 0 (i+1) cap'],1,true⟩,⟨5,.vals (vB zs),l*1,true⟩,⟨24,.lst [I s,SV.slc 8 0 l l],2,true⟩,⟨24,.lst [],0,false⟩,⟨24,.lst [I s,L none 0 0],2,true⟩,⟨24,.lst [I s,L none 0 0],2,true⟩,⟨24,.vals (List.take (i*2) vs++[Value.int IntKind.i64 s,VS none 0 0]),tot',true⟩],E:=E:St })) else 0+l*1<=List.length (vB zs)/\(∀ (x:Value),List.Mem x (vB zs)->Value.oneCell' x=true)/\0<=0/\0<=0/\0<=0/\req ((0+l)*1<=140737488355328) (∀ (cap' tot':Nat),0+l<=cap'->cap'*1<=tot'->rc.l=rc.l/\∀ (base:Option Addr) (E':Mem),Mem.le E E'->WinE E' base ([]++List.take (l*1) (List.drop 0 (vB zs)))->i*2<=List.length (Row.cells (Row.vals vs))/\cap*2<=tot/\i<=cap/\req ((i+1)*32<=140737488355328) (∀ (cap'_1 tot'_1:Nat),i+1<=cap'_1->cap'_1*2<=tot'_1->Sx.Alike al2 (bif bif true then decide ((NI i)<(NI m)) else false then req ((0:Int)<=WI ((NI a)+(NI i))/\WI ((NI a)+(NI i))<(NI l)) (∃ (n:Int),LoadV (FY n0 rc).P 5 (vB zs) (0+Int.toNat (WI ((NI a)+(NI i)))*1) (SV.raw (U8 n))/\Sx.Alike (AlikeT.n al2 (AlikeT.n al2 AlikeT.l)) (req (0<=(NI i)/\(NI i)<(NI dl)) ((∃ (cs:List Value),E' (VS db dl dc) cs/\(cs=[]->False))/\∃ (n_1:Int),LoadE (FY n0 rc).P E' 5 (VS db dl dc) (Int.toNat (NI i)*1) (SV.raw (U8 n_1))/\req ((0:Int)<=WI ((NI a)+(NI i))/\WI ((NI a)+(NI i))<(NI l)) (0+Int.toNat (WI ((NI a)+(NI i)))*1+1<=List.length (vB zs)/\Lp (FY n0 rc) 6 Try.f87 [1,1,1,0] 8 (fun (x:SV) (bx:List Box) (E:Mem)=>Cn F1 6 Try.f79 [1,1,0,1,0] 6 K { fr:=fr27 n0,bx:=bx,E:=E:St }) { fr:=some (SV.raw (Value.func (Fn.yield rc.l) #[] #[]))::oc 2 0::oc 4 0::oc 5 0::oc 3 0::none::oc 9 0::oI (WI ((NI i)+1))::no32 (no8 (no2 (none::[]))),bx:=[(⟨24,.lst [I s,L b l c],2,true⟩:Box),⟨22,.lst [L db dl dc],1,true⟩,⟨24,.lst [I s,L b l c],2,true⟩,⟨3,.lst [I (NI a)],1,true⟩,⟨3,.lst [I (NI m)],1,true⟩,⟨99,.lst [SV.clo 78 [] [SV.loc 1 0]],1,true⟩,⟨24,.lst [],0,false⟩,⟨33,.lst [SV.slc 15 0 (i+1) cap'_1],1,true⟩,⟨5,.vals (layV (vB zs) (0+Int.toNat (WI ((NI a)+(NI i)))*1) [U8 (IntKind.wrap IntKind.u8 (NI (BitVec.toNat (BitVec.ofInt (IntKind.bits IntKind.u8) n&&& BitVec.ofInt (IntKind.bits IntKind.u8) n_1))))]),l*1,true⟩,⟨24,.lst [I s,SV.slc 8 0 l l],2,true⟩,⟨24,.lst [],0,false⟩,⟨5,.lst [],0,false⟩,⟨5,.vals ([]++List.take (l*1) (List.drop 0 (vB zs))),tot',false⟩,⟨24,.lst [I s,L (Option.map (fun (x:Addr)=>Addr.add x 0) base) (0+l) cap'],2,true⟩,⟨24,.lst [I s,L (Option.map (fun (x:Addr)=>Addr.add x 0) base) (0+l) cap'],2,true⟩,⟨24,.vals (List.take (i*2) vs++[Value.int IntKind.i64 s,slcAs base 0 (0+l) cap']),tot'_1,true⟩],E:=E':St })))) else Cn F1 6 Try.f79 [1,1,0,1,0] 6 K { fr:=some (SV.clo 87 [] [SV.loc 2 0,SV.loc 4 0,SV.loc 5 0,SV.loc 3 0])::oI n0::none::none::oL none 0 0::oc 7 0::none::oI n0::os 6 0 0 (Int.toNat n0)::some (SV.clo 87 [] [SV.loc 2 0,SV.loc 4 0,SV.loc 5 0,SV.loc 3 0])::no4 (no2 []),bx:=[(⟨24,.lst [I s,L b l c],2,true⟩:Box),⟨22,.lst [L db dl dc],1,true⟩,⟨24,.lst [I s,L b l c],2,true⟩,⟨3,.lst [I (NI a)],1,true⟩,⟨3,.lst [I (NI m)],1,true⟩,⟨99,.lst [SV.clo 78 [] [SV.loc 1 0]],1,true⟩,⟨24,.lst [],0,false⟩,⟨33,.lst [SV.slc 15 0 (i+1) cap'_1],1,true⟩,⟨5,.vals (vB zs),l*1,true⟩,⟨24,.lst [I s,SV.slc 8 0 l l],2,true⟩,⟨24,.lst [],0,false⟩,⟨5,.lst [],0,false⟩,⟨5,.vals ([]++List.take (l*1) (List.drop 0 (vB zs))),tot',false⟩,⟨24,.lst [I s,L (Option.map (fun (x:Addr)=>Addr.add x 0) base) (0+l) cap'],2,true⟩,⟨24,.lst [I s,L (Option.map (fun (x:Addr)=>Addr.add x 0) base) (0+l) cap'],2,true⟩,⟨24,.vals (List.take (i*2) vs++[Value.int IntKind.i64 s,slcAs base 0 (0+l) cap']),tot'_1,true⟩],E:=E':St })))))
 delta WI NI U8 VS no2 no4 no8 no32
 obtain ⟨hle,⟨l1,l2,l3⟩,hlen,hbyte,him,⟨hc1,hc2⟩,⟨hv1,hv2⟩,hzs,hrs⟩:=hI
 have hzl:zs.length=l:=by rw [hzs,stp_len];exact hlen
 have hzb:∀ z∈zs,0<=z/\z<=255:=by rw [hzs];exact stp_byte hbyte (fun i x=>wu8b _) i
 have him2:i<=16384:=by omega
 have eai:IntKind.wrap .i64 ((a:Int)+(i:Int))=((a+i:Nat):Int):=by rw [wrap_i64 (by omega)];simp
 have ei1:IntKind.wrap .i64 ((i:Int)+1)=((i+1:Nat):Int):=by rw [wrap_i64 (by omega)];simp
 have hld:zs.length<=l:=Nat.le_of_eq hzl
 refine alike (fun r hr=>condC (fun h1=>by subst h1;exact absurd (show l=0 from (hr rfl).1) (by omega)) (fun _=>?_))
 refine ⟨by simp only [List.length_map,hzl];omega,vB_one zs,Nat.le_refl _,Nat.le_refl _,Nat.le_refl _,req_intro (by omega) (fun cap1 tot1 c1 c2=>⟨rfl,fun base E1 hE1 hW=>⟨?_,hc2,hc1,req_intro (by omega) (fun cap2 tot2 c3 c4=>?_)⟩⟩)⟩
 ·simp only [Row.cells,List.length_map];exact hv1
 have etk:[]++List.take (l*1) (List.drop 0 (vB zs))=vB zs:=by rw [List.nil_append,List.drop_zero,List.take_of_length_le (by simp only [List.length_map,hzl];omega)]
 rw [etk] at hW
 have hBs:Bs E1 (base.map fun x=>x.add 0) (0+l) cap1 zs:=Bs.win hW rfl (by omega) c1 hzb
 have hrs1:FLr E1 (rs++[(s,base.map fun x=>x.add 0,0+l,cap1)]) (mems s (gP ds) a zs0 (i+1)):=by
  rw [mems_succ];exact (hrs.mono hE1).snoc rfl (by rw [← hzs];exact hBs)
 have hvs1:List.take (i*2) vs++[Value.int IntKind.i64 s,slcAs base 0 (0+l) cap1]=(rs++[(s,base.map fun x=>x.add 0,0+l,cap1)]).flatMap rowV:=by
  rw [rows_snoc,hv2];rfl
 have hrl:rs.length=i:=by rw [hrs.1,mems_len]
 have hle1:Mem.le E0 E1:=mt_ hle hE1
 refine alike (condC (fun hlt=>?_) (fun hge=>?_))
 ·have hlt:i<m:=by simpa using hlt
  have hal:a+i<l:=by omega
  have hget:zs.getD (a+i) 0=zs[a+i]'(by omega):=by rw [List.getD_eq_getElem?_getD,List.getElem?_eq_getElem (by omega)];rfl
  refine req_intro (by rw [eai];omega) ⟨zs.getD (a+i) 0,?_,alike (req_intro (by omega) ⟨(hd.mono hle1).ne (i:=i) (by omega),ds.getD i 0,?_,req_intro (by rw [eai];omega) ⟨?_,?_⟩⟩)⟩
  ·rw [eai]
   show LoadV _ _ _ (0+((a+i:Nat):Int).toNat*1) _
   rw [show 0+((a+i:Nat):Int).toNat*1=a+i by omega]
   exact loadV_byte rfl (by omega)
  ·exact (hd.mono hle1).load (i:=i) rfl (by omega)
  ·rw [eai];simp only [List.length_map];omega
  ·have e1:0+Int.toNat (IntKind.wrap IntKind.i64 ((a:Int)+(i:Int)))*1=a+i:=by rw [eai];omega
   rw [e1,ei1,layV_set (by omega)]
   refine Lp_re [some 0,some 1,some 2,some 3,some 4,some 5,some 6,some 7,some 8,some 9,some 15] (ih E1 cap2 tot2 _ _ _ hlt ⟨hle1,⟨l1,l2,l3⟩,hlen,hbyte,by omega,⟨c3,c4⟩,⟨?_,?_⟩,?_,hrs1⟩) (wkG mr_ (h6:=(by repeat' first|exact True.intro|exact rfl|exact Or.inl rfl|exact (by decide:6<16)|refine And.intro ?_ ?_)))
   ·rw [hvs1,rows_len];simp [hrl]
   ·rw [hvs1,List.take_of_length_le (by rw [rows_len];simp [hrl])]
   ·rw [hzs];rfl
 ·have hge:i=m:=by simp at hge;omega
  subst hge
  subst hn
  exact Cn_intro (cn27 (hK E1 _ _ cap2 tot2 hle1 c3 c4 hvs1 hrs1))
abbrev Q27 (K:KT) (n0:Int):KT:=fun _ bx E=>Cn F1 6 Try.f79 [1,1,0,1,0] 6 K { fr:=fr27 n0,bx:=bx,E:=E }
theorem lp33 {E0:Mem} {K:KT} {s:Int} {a:Nat} {b db:Option Addr} {l c dl dc m:Nat} {rc:Rc} {zs0 ds:List Int} {n0:Int} (hn:n0=((m+1:Nat):Int)) (hd:Bs E0 db dl dc ds) (hdl:m=dl) (hrc:CxOK (FY n0 rc))
  (hK:∀ (E':Mem) (rs:List FRow) (vs:List Value) (cap tot:Nat),Mem.le E0 E'->m+1<=cap->cap*2<=tot->vs=rs.flatMap rowV->FLr E' rs (mems s (gP ds) a zs0 (m+1))->Ct F1 6 Try.f79 [1,1,1] 6 K (sh5 s a b db l c dl dc m (m+1) cap tot vs E'))
  {i cap tot:Nat} {vs:List Value} {zs:List Int} {rs:List FRow} {E:Mem} (hI:I33 E0 E s (gP ds) a l m zs0 i cap tot vs zs rs):
  Lp (FY n0 rc) 6 Try.f87 [1,1,1,0] 8 (Q27 K n0) (sh33 s a b db l c dl dc m rc i cap tot vs zs E):=by
 have key:=Lp_ind hrc (n:=6) (fn:=Try.f87) (p:=[1,1,1,0]) (n0:=8) (K:=Q27 K n0)
  (fun x:{x:Mem×Nat×Nat×Nat×List Value×List Int×List FRow//I33 E0 x.1 s (gP ds) a l m zs0 x.2.1 x.2.2.1 x.2.2.2.1 x.2.2.2.2.1 x.2.2.2.2.2.1 x.2.2.2.2.2.2}=>sh33 s a b db l c dl dc m rc x.1.2.1 x.1.2.2.1 x.1.2.2.2.1 x.1.2.2.2.2.1 x.1.2.2.2.2.2.1 x.1.1)
  (fun x=>m-x.1.2.1) (fun x ih=>rnd33 hn x.2 hd hdl hK fun E' cap tot vs zs rs hlt h'=>ih ⟨⟨E',x.1.2.1+1,cap,tot,vs,zs,rs⟩,h'⟩ (by show m-(_+1)<m-_;omega))
 exact key ⟨⟨E,i,cap,tot,vs,zs,rs⟩,hI⟩
theorem ent33 {K:KT} {s:Int} {a:Nat} {b db:Option Addr} {l c dl dc m:Nat} {rc:Rc} {zs0 ds:List Int} {n0:Int} (hn:n0=((m+1:Nat):Int)) (hd:Bs E db dl dc ds) (hdl:m=dl) (hrc:CxOK (FY n0 rc))
  (hz:Bs E b l c zs0) (hl:1<=l/\l<=16384/\a+m<=l)
  (hK:∀ (E':Mem) (rs:List FRow) (vs:List Value) (cap tot:Nat),Mem.le E E'->m+1<=cap->cap*2<=tot->vs=rs.flatMap rowV->FLr E' rs (mems s (gP ds) a zs0 (m+1))->Ct F1 6 Try.f79 [1,1,1] 6 K (sh5 s a b db l c dl dc m (m+1) cap tot vs E')):
  EntB (FY n0 rc) 6 Try.f87 [.raw (.func (.yield rc.l) #[] #[]),.loc 2 0,.loc 4 0,.loc 5 0,.loc 3 0]
  ([⟨24,.lst [I s,L b l c],2,true⟩,⟨22,.lst [L db dl dc],1,true⟩,⟨24,.lst [I s,L b l c],2,true⟩,⟨3,.lst [I (a:Nat)],1,true⟩,⟨3,.lst [I (m:Nat)],1,true⟩,⟨99,.lst [.clo 78 [] [.loc 1 0]],1,true⟩]++[⟨24,.vals (zerosV [.int .i64 0,.slice none 0 0] (Int.toNat n0)),Int.toNat n0*2,true⟩,⟨33,.lst [.slc 6 0 0 (Int.toNat n0)],1,true⟩]) E (Q27 K n0):=by
 refine sm_ (?_:req (0<=(NI l)/\(NI l)<=(NI l)) (req ((NI l)*1<=(140737488355328:Int)) (∃ (cs:List Value),(cs=[]\/E (VS b l c) cs)/\l*1<=List.length cs/\(∀ (x:Value),List.Mem x cs->Value.oneCell' x=true)/\0+Int.toNat (NI l)*1<=List.length (zerosV [U8 0] (Int.toNat (NI l)))/\Lp (FY n0 rc) 6 Try.f87 [1,1,1,0] 8 (Q27 K n0) { fr:=some (SV.raw (Value.func (Fn.yield rc.l) #[] #[]))::oc 2 0::oc 4 0::oc 5 0::oc 3 0::none::oc 9 0::oI 0::oc 2 0::oI s::oc 2 1::oL b l c::oI (NI l)::os 8 0 (Int.toNat (NI l)) (Int.toNat (NI l))::some (SV.agg [I s,SV.slc 8 0 (Int.toNat (NI l)) (Int.toNat (NI l))])::oc 9 1::os 8 0 (Int.toNat (NI l)) (Int.toNat (NI l))::oc 2 1::oL b l c::oI (NI (min l (Int.toNat (NI l))))::no16 (no8 (no4 (no2 (none::[])))),bx:=[(⟨24,.lst [I s,L b l c],2,true⟩:Box),⟨22,.lst [L db dl dc],1,true⟩,⟨24,.lst [I s,L b l c],2,true⟩,⟨3,.lst [I (NI a)],1,true⟩,⟨3,.lst [I (NI m)],1,true⟩,⟨99,.lst [SV.clo 78 [] [SV.loc 1 0]],1,true⟩,⟨24,.vals (zerosV [Value.int IntKind.i64 0,VS none 0 0] (Int.toNat n0)),Int.toNat n0*2,true⟩,⟨33,.lst [SV.slc 6 0 0 (Int.toNat n0)],1,true⟩,⟨5,.vals (layV (zerosV [U8 0] (Int.toNat (NI l))) 0 (List.take (min l (Int.toNat (NI l))*1) (List.take (l*1) cs))),Int.toNat (NI l)*1,true⟩,⟨24,.lst [I s,SV.slc 8 0 (Int.toNat (NI l)) (Int.toNat (NI l))],2,true⟩],E:=E:St })))
 delta NI U8 VS no2 no4 no8 no16
 obtain ⟨l1,l2,l3⟩:=hl
 obtain ⟨t1,t2,t3⟩:=hz.src
 have hzl:=hz.2.1
 refine req_intro (by omega) (req_intro (by simp;omega) ⟨_,t1,t2,t3,?_,?_⟩)
 ·simp [zerosV]
 have hn2:Int.toNat n0=m+1:=by omega
 have e1:layV (zerosV [Value.int IntKind.u8 0] (Int.toNat (l:Int))) 0 (List.take (min l (Int.toNat (l:Int))*1) (List.take (l*1) (zs0.map (Value.int .u8))))=vB zs0:=by
  rw [Int.toNat_natCast,Nat.min_self,List.take_of_length_le (l:=List.take _ _) (by simp only [List.length_take,List.length_map];omega),List.take_of_length_le (by simp;omega)]
  unfold layV
  rw [List.take_zero,List.nil_append,List.drop_eq_nil_of_le (by simp [zerosV];omega),List.append_nil]
 rw [e1,Int.toNat_natCast]
 exact Lp_re [some 0,some 1,some 2,some 3,some 4,some 5,some 6,some 7,some 8,some 9,some 6] (lp33 hn hd hdl hrc hK (i:=0) (cap:=Int.toNat n0) (tot:=Int.toNat n0*2) (vs:=zerosV [.int .i64 0,.slice none 0 0] (Int.toNat n0)) (zs:=zs0) (rs:=[]) ⟨mr_,⟨l1,l2,l3⟩,hzl,hz.2.2.2.1,Nat.zero_le _,⟨Nat.zero_le _,Nat.le_refl _⟩,⟨by simp,by simp⟩,rfl,FLr.nil _⟩) (wkG mr_ (h6:=(by repeat' first|exact True.intro|exact rfl|exact Or.inl rfl|exact (by decide:6<10)|refine And.intro ?_ ?_)))
theorem leaf27 {K:KT} {s:Int} {a:Nat} {b db:Option Addr} {l c dl dc m:Nat} {zs0 ds:List Int} {n0:Int} (hn:n0=((m+1:Nat):Int)) (hd:Bs E db dl dc ds) (hdl:m=dl)
  (hz:Bs E b l c zs0) (hl:1<=l/\l<=16384/\a+m<=l)
  (hK:∀ (E':Mem) (rs:List FRow) (vs:List Value) (cap tot:Nat),Mem.le E E'->m+1<=cap->cap*2<=tot->vs=rs.flatMap rowV->FLr E' rs (mems s (gP ds) a zs0 (m+1))->Ct F1 6 Try.f79 [1,1,1] 6 K (sh5 s a b db l c dl dc m (m+1) cap tot vs E')):
  Ct F1 6 Try.f79 [1,1,0,1,0] 6 K ⟨fr27 n0,[⟨24,.lst [I s,L b l c],2,true⟩,⟨22,.lst [L db dl dc],1,true⟩,⟨24,.lst [I s,L b l c],2,true⟩,⟨3,.lst [I (a:Nat)],1,true⟩,⟨3,.lst [I (m:Nat)],1,true⟩,⟨99,.lst [.clo 78 [] [.loc 1 0]],1,true⟩]++[⟨24,.vals (zerosV [.int .i64 0,.slice none 0 0] (Int.toNat n0)),Int.toNat n0*2,true⟩,⟨33,.lst [.slc 6 0 0 (Int.toNat n0)],1,true⟩],E⟩:=
 RfY okF1 okF2 (by kernel_rfl) (by kernel_rfl) Try.func87 ⟨by kernel_rfl,by kernel_rfl⟩ (gf:=87) (gfn:=Try.f87) (first:=[]) (caps:=[.loc 2 0,.loc 4 0,.loc 5 0,.loc 3 0]) (m:=6) (fun rc hrc=>ent33 hn hd hdl hrc hz hl hK) rfl rfl
theorem pc5 {K:KT} {s:Int} {a:Nat} {b db:Option Addr} {l c dl dc m n cap tot:Nat} {vs:List Value} (h:K (.slc 7 0 n cap) (sh5 s a b db l c dl dc m n cap tot vs E).bx E):Pc F1 6 Try.f79 [1,1,1] 6 K (sh5 s a b db l c dl dc m n cap tot vs E):=by
 refine sm_ (?_:K (SV.slc 7 0 n cap) [⟨24,Row.lst [I s,L b l c],2,true⟩,⟨22,Row.lst [L db dl dc],1,true⟩,⟨24,Row.lst [I s,L b l c],2,true⟩,⟨3,Row.lst [I (↑a:Int)],1,true⟩,⟨3,Row.lst [I (↑m:Int)],1,true⟩,⟨99,Row.lst [SV.clo 78 [] [SV.loc 1 0]],1,true⟩,⟨33,Row.lst [SV.slc 7 0 n cap],1,true⟩,⟨24,Row.vals vs,tot,true⟩] E)
 exact h
theorem out27 {K:KT} {s:Int} {a:Nat} {b db:Option Addr} {l c dl dc m n cap tot:Nat} {rs:List FRow} {ms:List (Int×List Int)} (hr:FLr E rs ms) (hn:ms.length=n) (hc:n<=cap)
  (h:∀ (fb:Option Addr) (E':Mem),Mem.le E E'->FL E' fb n cap ms->K (L fb n cap) ([⟨24,.lst [I s,L b l c],2,true⟩,⟨22,.lst [L db dl dc],1,true⟩,⟨24,.lst [I s,L b l c],2,true⟩,⟨3,.lst [I (a:Nat)],1,true⟩,⟨3,.lst [I (m:Nat)],1,true⟩,⟨99,.lst [.clo 78 [] [.loc 1 0]],1,true⟩]) E'):pubB (cloK 6 K) (.slc 7 0 n cap) (sh5 s a b db l c dl dc m n cap tot (rs.flatMap rowV) E).bx E:=by
 refine same (q:=∀ (base:Option Addr) (E2:Mem),Mem.le E E2->WinE E2 base (rs.flatMap rowV)->cloK 6 K (.raw (slcAs base 0 n cap)) ([⟨24,.lst [I s,L b l c],2,true⟩,⟨22,.lst [L db dl dc],1,true⟩,⟨24,.lst [I s,L b l c],2,true⟩,⟨3,.lst [I (a:Nat)],1,true⟩,⟨3,.lst [I (m:Nat)],1,true⟩,⟨99,.lst [.clo 78 [] [.loc 1 0]],1,true⟩]++[⟨33,.lst [.raw (slcAs base 0 n cap)],1,true⟩,⟨24,.vals (rs.flatMap rowV),tot,false⟩]) E2) (by kernel_rfl) ?_
 intro base E2 h1 h2
 exact cloK_intro [some 0,some 1,some 2,some 3,some 4,some 5] (h _ E2 h1 (FL.win h2 rfl (hr.mono h1) hn hc)) (wkG mr_)
theorem s27 {K:KT} {s:Int} {a:Nat} {b db:Option Addr} {l c dl dc m:Nat} {zs0 ds:List Int} {n0:Int} (hn:n0=((m+1:Nat):Int)) (hd:Bs E db dl dc ds) (hdl:m=dl)
  (hz:Bs E b l c zs0) (hl:1<=l/\l<=16384/\a+m<=l)
  (h:∀ (fb:Option Addr) (cap:Nat) (E':Mem),Mem.le E E'->FL E' fb (m+1) cap (mems s (gP ds) a zs0 (m+1))->K (L fb (m+1) cap) ([⟨24,.lst [I s,L b l c],2,true⟩,⟨22,.lst [L db dl dc],1,true⟩,⟨24,.lst [I s,L b l c],2,true⟩,⟨3,.lst [I (a:Nat)],1,true⟩,⟨3,.lst [I (m:Nat)],1,true⟩,⟨99,.lst [.clo 78 [] [.loc 1 0]],1,true⟩]) E'):
  EntB F1 6 Try.f79 [.clo 87 [] [.loc 2 0,.loc 4 0,.loc 5 0,.loc 3 0],I n0] ([⟨24,.lst [I s,L b l c],2,true⟩,⟨22,.lst [L db dl dc],1,true⟩,⟨24,.lst [I s,L b l c],2,true⟩,⟨3,.lst [I (a:Nat)],1,true⟩,⟨3,.lst [I (m:Nat)],1,true⟩,⟨99,.lst [.clo 78 [] [.loc 1 0]],1,true⟩]) E (pubB (cloK 6 K)):=by
 refine sm_ (?_:req ((0:Int)<=(0:Int)/\(0:Int)<=n0) (req (n0*(32:Int)<=(140737488355328:Int)) (Ct F1 6 Try.f79 [1,1,0,1,0] 6 (pubB (cloK 6 K)) { fr:=[some (SV.clo 87 [] [SV.loc 2 0,SV.loc 4 0,SV.loc 5 0,SV.loc 3 0]),oI n0,none,none,oL none 0 0,oc 7 0,none,oI n0,os 6 0 0 (Int.toNat n0),some (SV.clo 87 [] [SV.loc 2 0,SV.loc 4 0,SV.loc 5 0,SV.loc 3 0]),none,none,none,none,none,none],bx:=[(⟨24,Row.lst [I s,L b l c],2,true⟩:Box),⟨22,Row.lst [L db dl dc],1,true⟩,⟨24,Row.lst [I s,L b l c],2,true⟩,⟨3,Row.lst [I (↑a:Int)],1,true⟩,⟨3,Row.lst [I (↑m:Int)],1,true⟩,⟨99,Row.lst [SV.clo 78 [] [SV.loc 1 0]],1,true⟩,⟨24,Row.vals (zerosV [Value.int IntKind.i64 (0:Int),Value.slice none 0 0] (Int.toNat n0)),Int.toNat n0*2,true⟩,⟨33,Row.lst [SV.slc 6 0 0 (Int.toNat n0)],1,true⟩],E:=E:St })))
 refine req_intro (by omega) (req_intro (by omega) (leaf27 hn hd hdl hz hl fun E' rs vs cap tot h1 h2 h3 h4 h5=>?_))
 subst h4
 exact Ct_intro okF1 (pc5 (out27 h5 (by simp [mems_len]) h2 fun fb E2 g1 g2=>h fb cap E2 (mt_ h1 g1) g2))
theorem sem27 {K:KT} {s:Int} {a:Nat} {b db:Option Addr} {l c dl dc m:Nat} {zs0 ds:List Int} {n0:Int} (hn:n0=((m+1:Nat):Int)) (hd:Bs E db dl dc ds) (hdl:m=dl)
  (hz:Bs E b l c zs0) (hl:1<=l/\l<=16384/\a+m<=l)
  (h:∀ (fb:Option Addr) (cap:Nat) (E':Mem),Mem.le E E'->FL E' fb (m+1) cap (mems s (gP ds) a zs0 (m+1))->K (L fb (m+1) cap) ([⟨24,.lst [I s,L b l c],2,true⟩,⟨22,.lst [L db dl dc],1,true⟩,⟨24,.lst [I s,L b l c],2,true⟩,⟨3,.lst [I (a:Nat)],1,true⟩,⟨3,.lst [I (m:Nat)],1,true⟩,⟨99,.lst [.clo 78 [] [.loc 1 0]],1,true⟩]) E'):
  CallSem Try.prog 79 [.clo 87 [] [.loc 2 0,.loc 4 0,.loc 5 0,.loc 3 0],I n0] ([⟨24,.lst [I s,L b l c],2,true⟩,⟨22,.lst [L db dl dc],1,true⟩,⟨24,.lst [I s,L b l c],2,true⟩,⟨3,.lst [I (a:Nat)],1,true⟩,⟨3,.lst [I (m:Nat)],1,true⟩,⟨99,.lst [.clo 78 [] [.loc 1 0]],1,true⟩]) E K:=
 (bsm okF1 Try.func79 (s27 hn hd hdl hz hl h)).pubB.clo
def gE:Nat->Int->Int:=fun _ _=>255
def sh33e (s:Int) (a:Nat) (b:Option Addr) (l c m:Nat) (rc:Rc) (i cap tot:Nat) (vs:List Value) (zs:List Int) (E:Mem):St:=⟨[some (.raw (.func (.yield rc.l) #[] #[])),oc 2 0,oc 4 0,oc 5 0,oc 3 0,none,oc 9 0,oI (i:Nat)]++List.replicate 43 none,
 [⟨24,.lst [I s,L b l c],2,true⟩,⟨24,.lst [I s,L b l c],2,true⟩,⟨24,.lst [I s,L b l c],2,true⟩,⟨3,.lst [I (a:Nat)],1,true⟩,⟨3,.lst [I (m:Nat)],1,true⟩,⟨99,.lst [.clo 86 [] []],1,true⟩]++[⟨24,.lst [],0,false⟩,⟨33,.lst [.slc 10 0 i cap],1,true⟩,⟨5,.vals (vB zs),l*1,true⟩,⟨24,.lst [I s,.slc 8 0 l l],2,true⟩,⟨24,.vals vs,tot,true⟩],E⟩
def sh5e (s:Int) (a:Nat) (b:Option Addr) (l c m:Nat) (n cap tot:Nat) (vs:List Value) (E:Mem):St:=⟨[some (.clo 87 [] [.loc 2 0,.loc 4 0,.loc 5 0,.loc 3 0]),none,none,none,none,oc 6 0]++List.replicate 10 none,
 [⟨24,.lst [I s,L b l c],2,true⟩,⟨24,.lst [I s,L b l c],2,true⟩,⟨24,.lst [I s,L b l c],2,true⟩,⟨3,.lst [I (a:Nat)],1,true⟩,⟨3,.lst [I (m:Nat)],1,true⟩,⟨99,.lst [.clo 86 [] []],1,true⟩]++[⟨33,.lst [.slc 7 0 n cap],1,true⟩,⟨24,.vals vs,tot,true⟩],E⟩
theorem cn27e {K:KT} {s:Int} {a:Nat} {b:Option Addr} {l c m k cap tot:Nat} {n0:Int} {vs x8 x12:List Value} {t8 t12:Nat} {b3 b4:Option Addr} {l3 c3 l4 c4:Nat}
  (h:Ct F1 6 Try.f79 [1,1,1] 6 K (sh5e s a b l c m k cap tot vs E)):
  Pn F1 6 Try.f79 [1,1,0,1,0] 6 K ⟨fr27 n0,[⟨24,.lst [I s,L b l c],2,true⟩,⟨24,.lst [I s,L b l c],2,true⟩,⟨24,.lst [I s,L b l c],2,true⟩,⟨3,.lst [I (a:Nat)],1,true⟩,⟨3,.lst [I (m:Nat)],1,true⟩,⟨99,.lst [.clo 86 [] []],1,true⟩]++[⟨24,.lst [],0,false⟩,⟨33,.lst [.slc 15 0 k cap],1,true⟩,⟨5,.vals x8,t8,true⟩,⟨24,.lst [I s,.slc 8 0 l l],2,true⟩,⟨24,.lst [],0,false⟩,⟨5,.lst [],0,false⟩,⟨5,.vals x12,t12,false⟩,⟨24,.lst [I s,L b3 l3 c3],2,true⟩,⟨24,.lst [I s,L b4 l4 c4],2,true⟩,⟨24,.vals vs,tot,true⟩],E⟩:=by
 refine sm_ (?_:Ct F1 6 Try.f79 [1,1,1] 6 K { fr:=some (SV.clo 87 [] [SV.loc 2 0,SV.loc 4 0,SV.loc 5 0,SV.loc 3 0])::oI n0::none::none::oL none 0 0::oc 7 0::none::oI n0::os 6 0 0 (Int.toNat n0)::some (SV.clo 87 [] [SV.loc 2 0,SV.loc 4 0,SV.loc 5 0,SV.loc 3 0])::no4 (no2 []),bx:=[(⟨24,.lst [I s,L b l c],2,true⟩:Box),⟨24,.lst [I s,L b l c],2,true⟩,⟨24,.lst [I s,L b l c],2,true⟩,⟨3,.lst [I (NI a)],1,true⟩,⟨3,.lst [I (NI m)],1,true⟩,⟨99,.lst [SV.clo 86 [] []],1,true⟩,⟨24,.lst [],0,false⟩,⟨33,.lst [SV.slc 15 0 k cap],1,true⟩,⟨5,.vals x8,t8,true⟩,⟨24,.lst [I s,SV.slc 8 0 l l],2,true⟩,⟨24,.lst [],0,false⟩,⟨5,.lst [],0,false⟩,⟨5,.vals x12,t12,false⟩,⟨24,.lst [I s,L b3 l3 c3],2,true⟩,⟨24,.lst [I s,L b4 l4 c4],2,true⟩,⟨24,.vals vs,tot,true⟩],E:=E:St })
 delta NI no2 no4
 exact Ct_re [some 0,some 1,some 2,some 3,some 4,some 5,some 7,some 15] h (wkG mr_)
theorem rnd33e {E0:Mem} {K:KT} {s:Int} {a:Nat} {b:Option Addr} {l c m:Nat} {rc:Rc} {i cap tot:Nat} {vs:List Value} {zs zs0:List Int} {rs:List FRow} {n0:Int} (hn:n0=((m+1:Nat):Int))
  (hI:I33 E0 E s (gE) a l m zs0 i cap tot vs zs rs)
  (hK:∀ (E':Mem) (rs:List FRow) (vs:List Value) (cap tot:Nat),Mem.le E0 E'->m+1<=cap->cap*2<=tot->vs=rs.flatMap rowV->FLr E' rs (mems s (gE) a zs0 (m+1))->Ct F1 6 Try.f79 [1,1,1] 6 K (sh5e s a b l c m (m+1) cap tot vs E'))
  (ih:∀ (E':Mem) (cap tot:Nat) (vs:List Value) (zs:List Int) (rs:List FRow),i<m->I33 E0 E' s (gE) a l m zs0 (i+1) cap tot vs zs rs->
   Lp (FY n0 rc) 6 Try.f87 [1,1,1,0] 8 (fun _ bx E=>Cn F1 6 Try.f79 [1,1,0,1,0] 6 K { fr:=fr27 n0,bx:=bx,E:=E }) (sh33e s a b l c m rc (i+1) cap tot vs zs E')):
  Rnd (FY n0 rc) 6 Try.f87 [1,1,1,0] 8 (fun _ bx E=>Cn F1 6 Try.f79 [1,1,0,1,0] 6 K { fr:=fr27 n0,bx:=bx,E:=E }) (sh33e s a b l c m rc i cap tot vs zs E):=by
 refine sm_ (?_:Sx.Alike al2 (∀ (r:Bool),(r=true->Sx.Alike al2 (l=0))->bif r then rc.l=rc.l/\i*2<=List.length (Row.cells (Row.vals vs))/\cap*2<=tot/\i<=cap/\req ((i+1)*32<=140737488355328) (∀ (cap' tot':Nat),i+1<=cap'->cap'*2<=tot'->Sx.Alike al2 (bif bif true then decide ((NI i)<(NI m)) else false then req ((0:Int)<=WI ((NI a)+(NI i))/\WI ((NI a)+(NI i))<(NI l)) (∃ (n:Int),LoadV (FY n0 rc).P 5 (vB zs) (0+Int.toNat (WI ((NI a)+(NI i)))*1) (SV.raw (U8 n))/\Sx.Alike (AlikeT.n al2 (AlikeT.n al2 AlikeT.l)) (Mem.le E E/\req ((0:Int)<=WI ((NI a)+(NI i))/\WI ((NI a)+(NI i))<(NI l)) (0+Int.toNat (WI ((NI a)+(NI i)))*1+1<=List.length (vB zs)/\Lp (FY n0 rc) 6 Try.f87 [1,1,1,0] 8 (fun (x:SV) (bx:List Box) (E:Mem)=>Cn F1 6 Try.f79 [1,1,0,1,0] 6 K { fr:=fr27 n0,bx:=bx,E:=E:St }) { fr:=some (SV.raw (Value.func (Fn.yield rc.l) #[] #[]))::oc 2 0::oc 4 0::oc 5 0::oc 3 0::none::oc 9 0::oI (WI ((NI i)+1))::no32 (no8 (no2 (none::[]))),bx:=[(⟨24,.lst [I s,L b l c],2,true⟩:Box),⟨24,.lst [I s,L b l c],2,true⟩,⟨24,.lst [I s,L b l c],2,true⟩,⟨3,.lst [I (NI a)],1,true⟩,⟨3,.lst [I (NI m)],1,true⟩,⟨99,.lst [SV.clo 86 [] []],1,true⟩,⟨24,.lst [],0,false⟩,⟨33,.lst [SV.slc 13 0 (i+1) cap'],1,true⟩,⟨5,.vals (layV (vB zs) (0+Int.toNat (WI ((NI a)+(NI i)))*1) [U8 255]),l*1,true⟩,⟨24,.lst [I s,SV.slc 8 0 l l],2,true⟩,⟨24,.lst [],0,false⟩,⟨24,.lst [I s,L none 0 0],2,true⟩,⟨24,.lst [I s,L none 0 0],2,true⟩,⟨24,.vals (List.take (i*2) vs++[Value.int IntKind.i64 s,VS none 0 0]),tot',true⟩],E:=E:St }))) else Cn F1 6 Try.f79 [1,1,0,1,0] 6 K { fr:=some (SV.clo 87 [] [SV.loc 2 0,SV.loc 4 0,SV.loc 5 0,SV.loc 3 0])::oI n0::none::none::oL none 0 0::oc 7 0::none::oI n0::os 6 0 0 (Int.toNat n0)::some (SV.clo 87 [] [SV.loc 2 0,SV.loc 4 0,SV.loc 5 0,SV.loc 3 0])::no4 (no2 []),bx:=[(⟨24,.lst [I s,L b l c],2,true⟩:Box),⟨24,.lst [I s,L b l c],2,true⟩,⟨24,.lst [I s,L b l c],2,true⟩,⟨3,.lst [I (NI a)],1,true⟩,⟨3,.lst [I (NI m)],1,true⟩,⟨99,.lst [SV.clo 86 [] []],1,true⟩,⟨24,.lst [],0,false⟩,⟨33,.lst [SV.slc 13 0 (i+1) cap'],1,true⟩,⟨5,.vals (vB zs),l*1,true⟩,⟨24,.lst [I s,SV.slc 8 0 l l],2,true⟩,⟨24,.lst [],0,false⟩,⟨24,.lst [I s,L none 0 0],2,true⟩,⟨24,.lst [I s,L none 0 0],2,true⟩,⟨24,.vals (List.take (i*2) vs++[Value.int IntKind.i64 s,VS none 0 0]),tot',true⟩],E:=E:St })) else 0+l*1<=List.length (vB zs)/\(∀ (x:Value),List.Mem x (vB zs)->Value.oneCell' x=true)/\0<=0/\0<=0/\0<=0/\req ((0+l)*1<=140737488355328) (∀ (cap' tot':Nat),0+l<=cap'->cap'*1<=tot'->rc.l=rc.l/\∀ (base:Option Addr) (E':Mem),Mem.le E E'->WinE E' base ([]++List.take (l*1) (List.drop 0 (vB zs)))->i*2<=List.length (Row.cells (Row.vals vs))/\cap*2<=tot/\i<=cap/\req ((i+1)*32<=140737488355328) (∀ (cap'_1 tot'_1:Nat),i+1<=cap'_1->cap'_1*2<=tot'_1->Sx.Alike al2 (bif bif true then decide ((NI i)<(NI m)) else false then req ((0:Int)<=WI ((NI a)+(NI i))/\WI ((NI a)+(NI i))<(NI l)) (∃ (n:Int),LoadV (FY n0 rc).P 5 (vB zs) (0+Int.toNat (WI ((NI a)+(NI i)))*1) (SV.raw (U8 n))/\Sx.Alike (AlikeT.n al2 (AlikeT.n al2 AlikeT.l)) (Mem.le E' E'/\req ((0:Int)<=WI ((NI a)+(NI i))/\WI ((NI a)+(NI i))<(NI l)) (0+Int.toNat (WI ((NI a)+(NI i)))*1+1<=List.length (vB zs)/\Lp (FY n0 rc) 6 Try.f87 [1,1,1,0] 8 (fun (x:SV) (bx:List Box) (E:Mem)=>Cn F1 6 Try.f79 [1,1,0,1,0] 6 K { fr:=fr27 n0,bx:=bx,E:=E:St }) { fr:=some (SV.raw (Value.func (Fn.yield rc.l) #[] #[]))::oc 2 0::oc 4 0::oc 5 0::oc 3 0::none::oc 9 0::oI (WI ((NI i)+1))::no32 (no8 (no2 (none::[]))),bx:=[(⟨24,.lst [I s,L b l c],2,true⟩:Box),⟨24,.lst [I s,L b l c],2,true⟩,⟨24,.lst [I s,L b l c],2,true⟩,⟨3,.lst [I (NI a)],1,true⟩,⟨3,.lst [I (NI m)],1,true⟩,⟨99,.lst [SV.clo 86 [] []],1,true⟩,⟨24,.lst [],0,false⟩,⟨33,.lst [SV.slc 15 0 (i+1) cap'_1],1,true⟩,⟨5,.vals (layV (vB zs) (0+Int.toNat (WI ((NI a)+(NI i)))*1) [U8 255]),l*1,true⟩,⟨24,.lst [I s,SV.slc 8 0 l l],2,true⟩,⟨24,.lst [],0,false⟩,⟨5,.lst [],0,false⟩,⟨5,.vals ([]++List.take (l*1) (List.drop 0 (vB zs))),tot',false⟩,⟨24,.lst [I s,L (Option.map (fun (x:Addr)=>Addr.add x 0) base) (0+l) cap'],2,true⟩,⟨24,.lst [I s,L (Option.map (fun (x:Addr)=>Addr.add x 0) base) (0+l) cap'],2,true⟩,⟨24,.vals (List.take (i*2) vs++[Value.int IntKind.i64 s,slcAs base 0 (0+l) cap']),tot'_1,true⟩],E:=E':St }))) else Cn F1 6 Try.f79 [1,1,0,1,0] 6 K { fr:=some (SV.clo 87 [] [SV.loc 2 0,SV.loc 4 0,SV.loc 5 0,SV.loc 3 0])::oI n0::none::none::oL none 0 0::oc 7 0::none::oI n0::os 6 0 0 (Int.toNat n0)::some (SV.clo 87 [] [SV.loc 2 0,SV.loc 4 0,SV.loc 5 0,SV.loc 3 0])::no4 (no2 []),bx:=[(⟨24,.lst [I s,L b l c],2,true⟩:Box),⟨24,.lst [I s,L b l c],2,true⟩,⟨24,.lst [I s,L b l c],2,true⟩,⟨3,.lst [I (NI a)],1,true⟩,⟨3,.lst [I (NI m)],1,true⟩,⟨99,.lst [SV.clo 86 [] []],1,true⟩,⟨24,.lst [],0,false⟩,⟨33,.lst [SV.slc 15 0 (i+1) cap'_1],1,true⟩,⟨5,.vals (vB zs),l*1,true⟩,⟨24,.lst [I s,SV.slc 8 0 l l],2,true⟩,⟨24,.lst [],0,false⟩,⟨5,.lst [],0,false⟩,⟨5,.vals ([]++List.take (l*1) (List.drop 0 (vB zs))),tot',false⟩,⟨24,.lst [I s,L (Option.map (fun (x:Addr)=>Addr.add x 0) base) (0+l) cap'],2,true⟩,⟨24,.lst [I s,L (Option.map (fun (x:Addr)=>Addr.add x 0) base) (0+l) cap'],2,true⟩,⟨24,.vals (List.take (i*2) vs++[Value.int IntKind.i64 s,slcAs base 0 (0+l) cap']),tot'_1,true⟩],E:=E':St })))))
 delta WI NI U8 VS no2 no4 no8 no32
 obtain ⟨hle,⟨l1,l2,l3⟩,hlen,hbyte,him,⟨hc1,hc2⟩,⟨hv1,hv2⟩,hzs,hrs⟩:=hI
 have hzl:zs.length=l:=by rw [hzs,stp_len];exact hlen
 have hzb:∀ z∈zs,0<=z/\z<=255:=by rw [hzs];exact stp_byte hbyte (fun i x=>⟨(by decide:(0:Int)<=255),(by decide:(255:Int)<=255)⟩) i
 have him2:i<=16384:=by omega
 have eai:IntKind.wrap .i64 ((a:Int)+(i:Int))=((a+i:Nat):Int):=by rw [wrap_i64 (by omega)];simp
 have ei1:IntKind.wrap .i64 ((i:Int)+1)=((i+1:Nat):Int):=by rw [wrap_i64 (by omega)];simp
 have hld:zs.length<=l:=Nat.le_of_eq hzl
 refine alike (fun r hr=>condC (fun h1=>by subst h1;exact absurd (show l=0 from (hr rfl).1) (by omega)) (fun _=>?_))
 refine ⟨by simp only [List.length_map,hzl];omega,vB_one zs,Nat.le_refl _,Nat.le_refl _,Nat.le_refl _,req_intro (by omega) (fun cap1 tot1 c1 c2=>⟨rfl,fun base E1 hE1 hW=>⟨?_,hc2,hc1,req_intro (by omega) (fun cap2 tot2 c3 c4=>?_)⟩⟩)⟩
 ·simp only [Row.cells,List.length_map];exact hv1
 have etk:[]++List.take (l*1) (List.drop 0 (vB zs))=vB zs:=by rw [List.nil_append,List.drop_zero,List.take_of_length_le (by simp only [List.length_map,hzl];omega)]
 rw [etk] at hW
 have hBs:Bs E1 (base.map fun x=>x.add 0) (0+l) cap1 zs:=Bs.win hW rfl (by omega) c1 hzb
 have hrs1:FLr E1 (rs++[(s,base.map fun x=>x.add 0,0+l,cap1)]) (mems s (gE) a zs0 (i+1)):=by
  rw [mems_succ];exact (hrs.mono hE1).snoc rfl (by rw [← hzs];exact hBs)
 have hvs1:List.take (i*2) vs++[Value.int IntKind.i64 s,slcAs base 0 (0+l) cap1]=(rs++[(s,base.map fun x=>x.add 0,0+l,cap1)]).flatMap rowV:=by
  rw [rows_snoc,hv2];rfl
 have hrl:rs.length=i:=by rw [hrs.1,mems_len]
 have hle1:Mem.le E0 E1:=mt_ hle hE1
 refine alike (condC (fun hlt=>?_) (fun hge=>?_))
 ·have hlt:i<m:=by simpa using hlt
  have hal:a+i<l:=by omega
  have hget:zs.getD (a+i) 0=zs[a+i]'(by omega):=by rw [List.getD_eq_getElem?_getD,List.getElem?_eq_getElem (by omega)];rfl
  refine req_intro (by rw [eai];omega) ⟨zs.getD (a+i) 0,?_,alike ⟨mr_,req_intro (by rw [eai];omega) ⟨?_,?_⟩⟩⟩
  ·rw [eai]
   show LoadV _ _ _ (0+((a+i:Nat):Int).toNat*1) _
   rw [show 0+((a+i:Nat):Int).toNat*1=a+i by omega]
   exact loadV_byte rfl (by omega)
  ·rw [eai];simp only [List.length_map];omega
  ·have e1:0+Int.toNat (IntKind.wrap IntKind.i64 ((a:Int)+(i:Int)))*1=a+i:=by rw [eai];omega
   rw [e1,ei1,layV_set (by omega)]
   refine Lp_re [some 0,some 1,some 2,some 3,some 4,some 5,some 6,some 7,some 8,some 9,some 15] (ih E1 cap2 tot2 _ _ _ hlt ⟨hle1,⟨l1,l2,l3⟩,hlen,hbyte,by omega,⟨c3,c4⟩,⟨?_,?_⟩,?_,hrs1⟩) (wkG mr_ (h6:=(by repeat' first|exact True.intro|exact rfl|exact Or.inl rfl|exact (by decide:6<16)|refine And.intro ?_ ?_)))
   ·rw [hvs1,rows_len];simp [hrl]
   ·rw [hvs1,List.take_of_length_le (by rw [rows_len];simp [hrl])]
   ·rw [hzs];rfl
 ·have hge:i=m:=by simp at hge;omega
  subst hge
  subst hn
  exact Cn_intro (cn27e (hK E1 _ _ cap2 tot2 hle1 c3 c4 hvs1 hrs1))
theorem lp33e {E0:Mem} {K:KT} {s:Int} {a:Nat} {b:Option Addr} {l c m:Nat} {rc:Rc} {zs0:List Int} {n0:Int} (hn:n0=((m+1:Nat):Int)) (hrc:CxOK (FY n0 rc))
  (hK:∀ (E':Mem) (rs:List FRow) (vs:List Value) (cap tot:Nat),Mem.le E0 E'->m+1<=cap->cap*2<=tot->vs=rs.flatMap rowV->FLr E' rs (mems s (gE) a zs0 (m+1))->Ct F1 6 Try.f79 [1,1,1] 6 K (sh5e s a b l c m (m+1) cap tot vs E'))
  {i cap tot:Nat} {vs:List Value} {zs:List Int} {rs:List FRow} {E:Mem} (hI:I33 E0 E s (gE) a l m zs0 i cap tot vs zs rs):
  Lp (FY n0 rc) 6 Try.f87 [1,1,1,0] 8 (Q27 K n0) (sh33e s a b l c m rc i cap tot vs zs E):=by
 have key:=Lp_ind hrc (n:=6) (fn:=Try.f87) (p:=[1,1,1,0]) (n0:=8) (K:=Q27 K n0)
  (fun x:{x:Mem×Nat×Nat×Nat×List Value×List Int×List FRow//I33 E0 x.1 s (gE) a l m zs0 x.2.1 x.2.2.1 x.2.2.2.1 x.2.2.2.2.1 x.2.2.2.2.2.1 x.2.2.2.2.2.2}=>sh33e s a b l c m rc x.1.2.1 x.1.2.2.1 x.1.2.2.2.1 x.1.2.2.2.2.1 x.1.2.2.2.2.2.1 x.1.1)
  (fun x=>m-x.1.2.1) (fun x ih=>rnd33e hn x.2 hK fun E' cap tot vs zs rs hlt h'=>ih ⟨⟨E',x.1.2.1+1,cap,tot,vs,zs,rs⟩,h'⟩ (by show m-(_+1)<m-_;omega))
 exact key ⟨⟨E,i,cap,tot,vs,zs,rs⟩,hI⟩
theorem ent33e {K:KT} {s:Int} {a:Nat} {b:Option Addr} {l c m:Nat} {rc:Rc} {zs0:List Int} {n0:Int} (hn:n0=((m+1:Nat):Int)) (hrc:CxOK (FY n0 rc))
  (hz:Bs E b l c zs0) (hl:1<=l/\l<=16384/\a+m<=l)
  (hK:∀ (E':Mem) (rs:List FRow) (vs:List Value) (cap tot:Nat),Mem.le E E'->m+1<=cap->cap*2<=tot->vs=rs.flatMap rowV->FLr E' rs (mems s (gE) a zs0 (m+1))->Ct F1 6 Try.f79 [1,1,1] 6 K (sh5e s a b l c m (m+1) cap tot vs E')):
  EntB (FY n0 rc) 6 Try.f87 [.raw (.func (.yield rc.l) #[] #[]),.loc 2 0,.loc 4 0,.loc 5 0,.loc 3 0]
  ([⟨24,.lst [I s,L b l c],2,true⟩,⟨24,.lst [I s,L b l c],2,true⟩,⟨24,.lst [I s,L b l c],2,true⟩,⟨3,.lst [I (a:Nat)],1,true⟩,⟨3,.lst [I (m:Nat)],1,true⟩,⟨99,.lst [.clo 86 [] []],1,true⟩]++[⟨24,.vals (zerosV [.int .i64 0,.slice none 0 0] (Int.toNat n0)),Int.toNat n0*2,true⟩,⟨33,.lst [.slc 6 0 0 (Int.toNat n0)],1,true⟩]) E (Q27 K n0):=by
 refine sm_ (?_:req (0<=(NI l)/\(NI l)<=(NI l)) (req ((NI l)*1<=(140737488355328:Int)) (∃ (cs:List Value),(cs=[]\/E (VS b l c) cs)/\l*1<=List.length cs/\(∀ (x:Value),List.Mem x cs->Value.oneCell' x=true)/\0+Int.toNat (NI l)*1<=List.length (zerosV [U8 0] (Int.toNat (NI l)))/\Lp (FY n0 rc) 6 Try.f87 [1,1,1,0] 8 (Q27 K n0) { fr:=some (SV.raw (Value.func (Fn.yield rc.l) #[] #[]))::oc 2 0::oc 4 0::oc 5 0::oc 3 0::none::oc 9 0::oI 0::oc 2 0::oI s::oc 2 1::oL b l c::oI (NI l)::os 8 0 (Int.toNat (NI l)) (Int.toNat (NI l))::some (SV.agg [I s,SV.slc 8 0 (Int.toNat (NI l)) (Int.toNat (NI l))])::oc 9 1::os 8 0 (Int.toNat (NI l)) (Int.toNat (NI l))::oc 2 1::oL b l c::oI (NI (min l (Int.toNat (NI l))))::no16 (no8 (no4 (no2 (none::[])))),bx:=[(⟨24,.lst [I s,L b l c],2,true⟩:Box),⟨24,.lst [I s,L b l c],2,true⟩,⟨24,.lst [I s,L b l c],2,true⟩,⟨3,.lst [I (NI a)],1,true⟩,⟨3,.lst [I (NI m)],1,true⟩,⟨99,.lst [SV.clo 86 [] []],1,true⟩,⟨24,.vals (zerosV [Value.int IntKind.i64 0,VS none 0 0] (Int.toNat n0)),Int.toNat n0*2,true⟩,⟨33,.lst [SV.slc 6 0 0 (Int.toNat n0)],1,true⟩,⟨5,.vals (layV (zerosV [U8 0] (Int.toNat (NI l))) 0 (List.take (min l (Int.toNat (NI l))*1) (List.take (l*1) cs))),Int.toNat (NI l)*1,true⟩,⟨24,.lst [I s,SV.slc 8 0 (Int.toNat (NI l)) (Int.toNat (NI l))],2,true⟩],E:=E:St })))
 delta NI U8 VS no2 no4 no8 no16
 obtain ⟨l1,l2,l3⟩:=hl
 obtain ⟨t1,t2,t3⟩:=hz.src
 have hzl:=hz.2.1
 refine req_intro (by omega) (req_intro (by simp;omega) ⟨_,t1,t2,t3,?_,?_⟩)
 ·simp [zerosV]
 have hn2:Int.toNat n0=m+1:=by omega
 have e1:layV (zerosV [Value.int IntKind.u8 0] (Int.toNat (l:Int))) 0 (List.take (min l (Int.toNat (l:Int))*1) (List.take (l*1) (zs0.map (Value.int .u8))))=vB zs0:=by
  rw [Int.toNat_natCast,Nat.min_self,List.take_of_length_le (l:=List.take _ _) (by simp only [List.length_take,List.length_map];omega),List.take_of_length_le (by simp;omega)]
  unfold layV
  rw [List.take_zero,List.nil_append,List.drop_eq_nil_of_le (by simp [zerosV];omega),List.append_nil]
 rw [e1,Int.toNat_natCast]
 exact Lp_re [some 0,some 1,some 2,some 3,some 4,some 5,some 6,some 7,some 8,some 9,some 6] (lp33e hn hrc hK (i:=0) (cap:=Int.toNat n0) (tot:=Int.toNat n0*2) (vs:=zerosV [.int .i64 0,.slice none 0 0] (Int.toNat n0)) (zs:=zs0) (rs:=[]) ⟨mr_,⟨l1,l2,l3⟩,hzl,hz.2.2.2.1,Nat.zero_le _,⟨Nat.zero_le _,Nat.le_refl _⟩,⟨by simp,by simp⟩,rfl,FLr.nil _⟩) (wkG mr_ (h6:=(by repeat' first|exact True.intro|exact rfl|exact Or.inl rfl|exact (by decide:6<10)|refine And.intro ?_ ?_)))
theorem leaf27e {K:KT} {s:Int} {a:Nat} {b:Option Addr} {l c m:Nat} {zs0:List Int} {n0:Int} (hn:n0=((m+1:Nat):Int))
  (hz:Bs E b l c zs0) (hl:1<=l/\l<=16384/\a+m<=l)
  (hK:∀ (E':Mem) (rs:List FRow) (vs:List Value) (cap tot:Nat),Mem.le E E'->m+1<=cap->cap*2<=tot->vs=rs.flatMap rowV->FLr E' rs (mems s (gE) a zs0 (m+1))->Ct F1 6 Try.f79 [1,1,1] 6 K (sh5e s a b l c m (m+1) cap tot vs E')):
  Ct F1 6 Try.f79 [1,1,0,1,0] 6 K ⟨fr27 n0,[⟨24,.lst [I s,L b l c],2,true⟩,⟨24,.lst [I s,L b l c],2,true⟩,⟨24,.lst [I s,L b l c],2,true⟩,⟨3,.lst [I (a:Nat)],1,true⟩,⟨3,.lst [I (m:Nat)],1,true⟩,⟨99,.lst [.clo 86 [] []],1,true⟩]++[⟨24,.vals (zerosV [.int .i64 0,.slice none 0 0] (Int.toNat n0)),Int.toNat n0*2,true⟩,⟨33,.lst [.slc 6 0 0 (Int.toNat n0)],1,true⟩],E⟩:=
 RfY okF1 okF2 (by kernel_rfl) (by kernel_rfl) Try.func87 ⟨by kernel_rfl,by kernel_rfl⟩ (gf:=87) (gfn:=Try.f87) (first:=[]) (caps:=[.loc 2 0,.loc 4 0,.loc 5 0,.loc 3 0]) (m:=6) (fun rc hrc=>ent33e hn hrc hz hl hK) rfl rfl
theorem pc5e {K:KT} {s:Int} {a:Nat} {b:Option Addr} {l c m n cap tot:Nat} {vs:List Value} (h:K (.slc 7 0 n cap) (sh5e s a b l c m n cap tot vs E).bx E):Pc F1 6 Try.f79 [1,1,1] 6 K (sh5e s a b l c m n cap tot vs E):=by
 refine sm_ (?_:K (SV.slc 7 0 n cap) [⟨24,Row.lst [I s,L b l c],2,true⟩,⟨24,Row.lst [I s,L b l c],2,true⟩,⟨24,Row.lst [I s,L b l c],2,true⟩,⟨3,Row.lst [I (↑a:Int)],1,true⟩,⟨3,Row.lst [I (↑m:Int)],1,true⟩,⟨99,Row.lst [SV.clo 86 [] []],1,true⟩,⟨33,Row.lst [SV.slc 7 0 n cap],1,true⟩,⟨24,Row.vals vs,tot,true⟩] E)
 exact h
theorem out27e {K:KT} {s:Int} {a:Nat} {b:Option Addr} {l c m n cap tot:Nat} {rs:List FRow} {ms:List (Int×List Int)} (hr:FLr E rs ms) (hn:ms.length=n) (hc:n<=cap)
  (h:∀ (fb:Option Addr) (E':Mem),Mem.le E E'->FL E' fb n cap ms->K (L fb n cap) ([⟨24,.lst [I s,L b l c],2,true⟩,⟨24,.lst [I s,L b l c],2,true⟩,⟨24,.lst [I s,L b l c],2,true⟩,⟨3,.lst [I (a:Nat)],1,true⟩,⟨3,.lst [I (m:Nat)],1,true⟩,⟨99,.lst [.clo 86 [] []],1,true⟩]) E'):pubB (cloK 6 K) (.slc 7 0 n cap) (sh5e s a b l c m n cap tot (rs.flatMap rowV) E).bx E:=by
 refine same (q:=∀ (base:Option Addr) (E2:Mem),Mem.le E E2->WinE E2 base (rs.flatMap rowV)->cloK 6 K (.raw (slcAs base 0 n cap)) ([⟨24,.lst [I s,L b l c],2,true⟩,⟨24,.lst [I s,L b l c],2,true⟩,⟨24,.lst [I s,L b l c],2,true⟩,⟨3,.lst [I (a:Nat)],1,true⟩,⟨3,.lst [I (m:Nat)],1,true⟩,⟨99,.lst [.clo 86 [] []],1,true⟩]++[⟨33,.lst [.raw (slcAs base 0 n cap)],1,true⟩,⟨24,.vals (rs.flatMap rowV),tot,false⟩]) E2) (by kernel_rfl) ?_
 intro base E2 h1 h2
 exact cloK_intro [some 0,some 1,some 2,some 3,some 4,some 5] (h _ E2 h1 (FL.win h2 rfl (hr.mono h1) hn hc)) (wkG mr_)
theorem s27e {K:KT} {s:Int} {a:Nat} {b:Option Addr} {l c m:Nat} {zs0:List Int} {n0:Int} (hn:n0=((m+1:Nat):Int))
  (hz:Bs E b l c zs0) (hl:1<=l/\l<=16384/\a+m<=l)
  (h:∀ (fb:Option Addr) (cap:Nat) (E':Mem),Mem.le E E'->FL E' fb (m+1) cap (mems s (gE) a zs0 (m+1))->K (L fb (m+1) cap) ([⟨24,.lst [I s,L b l c],2,true⟩,⟨24,.lst [I s,L b l c],2,true⟩,⟨24,.lst [I s,L b l c],2,true⟩,⟨3,.lst [I (a:Nat)],1,true⟩,⟨3,.lst [I (m:Nat)],1,true⟩,⟨99,.lst [.clo 86 [] []],1,true⟩]) E'):
  EntB F1 6 Try.f79 [.clo 87 [] [.loc 2 0,.loc 4 0,.loc 5 0,.loc 3 0],I n0] ([⟨24,.lst [I s,L b l c],2,true⟩,⟨24,.lst [I s,L b l c],2,true⟩,⟨24,.lst [I s,L b l c],2,true⟩,⟨3,.lst [I (a:Nat)],1,true⟩,⟨3,.lst [I (m:Nat)],1,true⟩,⟨99,.lst [.clo 86 [] []],1,true⟩]) E (pubB (cloK 6 K)):=by
 refine sm_ (?_:req ((0:Int)<=(0:Int)/\(0:Int)<=n0) (req (n0*(32:Int)<=(140737488355328:Int)) (Ct F1 6 Try.f79 [1,1,0,1,0] 6 (pubB (cloK 6 K)) { fr:=[some (SV.clo 87 [] [SV.loc 2 0,SV.loc 4 0,SV.loc 5 0,SV.loc 3 0]),oI n0,none,none,oL none 0 0,oc 7 0,none,oI n0,os 6 0 0 (Int.toNat n0),some (SV.clo 87 [] [SV.loc 2 0,SV.loc 4 0,SV.loc 5 0,SV.loc 3 0]),none,none,none,none,none,none],bx:=[(⟨24,Row.lst [I s,L b l c],2,true⟩:Box),⟨24,Row.lst [I s,L b l c],2,true⟩,⟨24,Row.lst [I s,L b l c],2,true⟩,⟨3,Row.lst [I (↑a:Int)],1,true⟩,⟨3,Row.lst [I (↑m:Int)],1,true⟩,⟨99,Row.lst [SV.clo 86 [] []],1,true⟩,⟨24,Row.vals (zerosV [Value.int IntKind.i64 (0:Int),Value.slice none 0 0] (Int.toNat n0)),Int.toNat n0*2,true⟩,⟨33,Row.lst [SV.slc 6 0 0 (Int.toNat n0)],1,true⟩],E:=E:St })))
 refine req_intro (by omega) (req_intro (by omega) (leaf27e hn hz hl fun E' rs vs cap tot h1 h2 h3 h4 h5=>?_))
 subst h4
 exact Ct_intro okF1 (pc5e (out27e h5 (by simp [mems_len]) h2 fun fb E2 g1 g2=>h fb cap E2 (mt_ h1 g1) g2))
theorem sem27e {K:KT} {s:Int} {a:Nat} {b:Option Addr} {l c m:Nat} {zs0:List Int} {n0:Int} (hn:n0=((m+1:Nat):Int))
  (hz:Bs E b l c zs0) (hl:1<=l/\l<=16384/\a+m<=l)
  (h:∀ (fb:Option Addr) (cap:Nat) (E':Mem),Mem.le E E'->FL E' fb (m+1) cap (mems s (gE) a zs0 (m+1))->K (L fb (m+1) cap) ([⟨24,.lst [I s,L b l c],2,true⟩,⟨24,.lst [I s,L b l c],2,true⟩,⟨24,.lst [I s,L b l c],2,true⟩,⟨3,.lst [I (a:Nat)],1,true⟩,⟨3,.lst [I (m:Nat)],1,true⟩,⟨99,.lst [.clo 86 [] []],1,true⟩]) E'):
  CallSem Try.prog 79 [.clo 87 [] [.loc 2 0,.loc 4 0,.loc 5 0,.loc 3 0],I n0] ([⟨24,.lst [I s,L b l c],2,true⟩,⟨24,.lst [I s,L b l c],2,true⟩,⟨24,.lst [I s,L b l c],2,true⟩,⟨3,.lst [I (a:Nat)],1,true⟩,⟨3,.lst [I (m:Nat)],1,true⟩,⟨99,.lst [.clo 86 [] []],1,true⟩]) E K:=
 (bsm okF1 Try.func79 (s27e hn hz hl h)).pubB.clo
def validF (s:Int) (l:Nat):Prop:=1<=s/\s<=1024/\s<=l/\l<=16384/\(l:Int) % s=0
instance (s:Int) (l:Nat):Decidable (validF s l):=by unfold validF;infer_instance
def progF (s:Int) (zs:List Int) (a:Int) (ds:List Int):List (Int×List Int)×Int:=
 if ¬ validF s zs.length\/a<0 then ([],1) else if a>zs.length\/(ds.length:Int)>zs.length-a then ([],3) else (mems s (gP ds) a.toNat zs (ds.length+1),0)
def erasF (s:Int) (zs:List Int) (k:Int):List (Int×List Int)×Int:=
 if ¬ validF s zs.length\/k<0\/k>=(zs.length:Int) / s then ([],1) else (mems s gE (k*s).toNat zs (s.toNat+1),0)
def tabP:CallT:=fun f args bx E K=>f=79/\∃ (s:Int) (a:Nat) (b db:Option Addr) (l c dl dc m:Nat) (zs0 ds:List Int) (n0:Int),args=[.clo 87 [] [.loc 2 0,.loc 4 0,.loc 5 0,.loc 3 0],I n0]/\bx=[⟨24,.lst [I s,L b l c],2,true⟩,⟨22,.lst [L db dl dc],1,true⟩,⟨24,.lst [I s,L b l c],2,true⟩,⟨3,.lst [I (a:Nat)],1,true⟩,⟨3,.lst [I (m:Nat)],1,true⟩,⟨99,.lst [.clo 78 [] [.loc 1 0]],1,true⟩]/\
 n0=((m+1:Nat):Int)/\Bs E db dl dc ds/\m=dl/\Bs E b l c zs0/\(1<=l/\l<=16384/\a+m<=l)/\(∀ (fb:Option Addr) (cap:Nat) (E':Mem),Mem.le E E'->FL E' fb (m+1) cap (mems s (gP ds) a zs0 (m+1))->K (L fb (m+1) cap) bx E')
theorem tabP_ok (f:FuncId) (args:List SV) (bx:List Box) (E:Mem) (K:KT) (h:tabP f args bx E K):CallSem Try.prog f args bx E K:=by
 obtain ⟨rfl,s,a,b,db,l,c,dl,dc,m,zs0,ds,n0,rfl,rfl,h1,h2,h3,h4,h5,h6⟩:=h
 exact sem27 h1 h2 h3 h4 h5 h6
def tabE:CallT:=fun f args bx E K=>f=79/\∃ (s:Int) (a:Nat) (b:Option Addr) (l c m:Nat) (zs0:List Int) (n0:Int),args=[.clo 87 [] [.loc 2 0,.loc 4 0,.loc 5 0,.loc 3 0],I n0]/\bx=[⟨24,.lst [I s,L b l c],2,true⟩,⟨24,.lst [I s,L b l c],2,true⟩,⟨24,.lst [I s,L b l c],2,true⟩,⟨3,.lst [I (a:Nat)],1,true⟩,⟨3,.lst [I (m:Nat)],1,true⟩,⟨99,.lst [.clo 86 [] []],1,true⟩]/\
 n0=((m+1:Nat):Int)/\Bs E b l c zs0/\(1<=l/\l<=16384/\a+m<=l)/\(∀ (fb:Option Addr) (cap:Nat) (E':Mem),Mem.le E E'->FL E' fb (m+1) cap (mems s gE a zs0 (m+1))->K (L fb (m+1) cap) bx E')
theorem tabE_ok (f:FuncId) (args:List SV) (bx:List Box) (E:Mem) (K:KT) (h:tabE f args bx E K):CallSem Try.prog f args bx E K:=by
 obtain ⟨rfl,s,a,b,l,c,m,zs0,n0,rfl,rfl,h1,h4,h5,h6⟩:=h
 exact sem27e h1 h4 h5 h6
noncomputable def F5:Cx:={ P:=Try.prog,inl:=fun f=>List.contains [] f,tab:=fun _ _ _ _=>False,isB:=fun _=>false,tabB:=fun _ _ _ _ _=>False,opt:={ unroll:=0,carry:=[] },muts:=mutsD }
theorem okF5:CxOK F5:=CxOK.four (fun _ _ _ _ h=>h.elim) (by kernel_rfl) (okInl (by kernel_rfl)) (fun _ _ _ _ _ h=>h.elim)
theorem validF_mod {s:Int} {l:Nat} (h1:1<=s):(Int.tmod (l:Int) s==0)=decide ((l:Int) % s=0):=by
 rw [Int.tmod_eq_emod_of_nonneg (by omega)]
 by_cases h:(l:Int) % s=0<;>simp [h]
theorem validF_no {s:Int} {l:Nat} (h:¬ validF s l):decide (validF s l)=false:=by simp [h]
theorem s18 {a1:Int} {b2:Option Addr} {l3:Nat} {c4:Nat} (h:K (B (decide (validF a1 l3))) E):
  Ent F5 6 Try.f77 [.agg [I a1,L b2 l3 c4]] E K:=by
 refine sm_ (?_:bif decide (a1<(1:Int)) then Mem.le E E/\K (B false) E else bif bif false then true else decide (a1>(1024:Int)) then Mem.le E E/\K (B false) E else bif decide ((↑l3:Int)<a1) then Mem.le E E/\K (B false) E else bif bif false then true else decide ((↑l3:Int)>(16384:Int)) then Mem.le E E/\K (B false) E else (a1=(0:Int)->False)/\Mem.le E E/\K (B (Int.tmod (↑l3:Int) a1==(0:Int))) E)
 have bad:¬ validF a1 l3->Mem.le E E/\K (B false) E:=fun hn=>⟨mr_,by rw [validF_no hn] at h;exact h⟩
 unfold validF at bad
 refine condC (fun g=>bad (by simp at g;omega)) (fun g1=>?_)
 refine condC (fun g=>bad (by simp at g;omega)) (fun g2=>?_)
 refine condC (fun g=>bad (by simp at g;omega)) (fun g3=>?_)
 refine condC (fun g=>bad (by simp at g;omega)) (fun g4=>?_)
 have g1:1<=a1:=by simpa using g1
 have g2:a1<=1024:=by simpa using g2
 have g3:a1<=l3:=by simpa using g3
 have g4:l3<=16384:=by simp at g4;omega
 refine ⟨by omega,mr_,?_⟩
 rw [validF_mod g1]
 rw [show decide (validF a1 l3)=decide ((l3:Int) % a1=0) from by unfold validF;simp [g1,g2,g3,g4]] at h
 exact h
noncomputable def tab18:FuncId->List SV->Mem->(SV->Mem->Prop)->Prop:=fun f args E K=>match f with
 | 77=>d1 args fun x0=>dC x0 fun l1=>d2 l1 fun x0_0 x0_1=>dI x0_0 fun a1=>dS x0_1 fun b2 l3 c4=>(K (B (decide (validF a1 l3))) E)
 | _=>False
theorem tab18_ok:TabOK Try.prog tab18:=by
 intro f args E K h
 unfold tab18 at h
 split at h
 ·replace h:=d1_elim h
  obtain ⟨x0,rfl,h⟩:=h
  replace h:=dC_elim h
  obtain ⟨l1,hl1,h⟩:=h
  replace h:=d2_elim h
  obtain ⟨x0_0,x0_1,rfl,h⟩:=h
  replace h:=dI_elim h
  obtain ⟨a1,rfl,h⟩:=h
  replace h:=dS_elim h
  obtain ⟨b2,l3,c4,rfl,h⟩:=h
  exact TabSem.congr (valL_cons (asCells_val hl1) rfl) (esm okF5 Try.func77 rfl (s18 h))
 ·exact h.elim
noncomputable def F3:Cx:={ P:=Try.prog,inl:=fun f=>List.contains [80] f,tab:=tab18,isB:=fun f=>f==79,tabB:=tabP,opt:={ unroll:=0,carry:=[] },muts:=(fun o=>match o with | .call { callee:=.value (.func 80),.. }=>true| .call { callee:=.value (.func 79),.. }=>true|o=>mutsD o) }
theorem okF3:CxOK F3:=CxOK.four tab18_ok (by kernel_rfl) (okInl (by kernel_rfl)) tabP_ok
noncomputable def F4:Cx:={ P:=Try.prog,inl:=fun f=>List.contains [77,80] f,tab:=fun _ _ _ _=>False,isB:=fun f=>f==79,tabB:=tabE,opt:={ unroll:=0,carry:=[] },muts:=(fun o=>match o with | .call { callee:=.value (.func 80),.. }=>true| .call { callee:=.value (.func 79),.. }=>true|o=>mutsD o) }
theorem okF4:CxOK F4:=CxOK.four (fun _ _ _ _ h=>h.elim) (by kernel_rfl) (okInl (by kernel_rfl)) tabE_ok
theorem s14 {a1:Int} {b2:Option Addr} {l3:Nat} {c4:Nat} {a5:Int} {b6:Option Addr} {l7:Nat} {c8:Nat} {zs:List Int} {ds:List Int} (h0:Bs E b2 l3 c4 zs) (h1:Bs E b6 l7 c8 ds) (h:∀ (b':Option Addr) (l' c':Nat) (ms:List (Int×List Int)) (e:Int) (E':Mem),Mem.le E E'->Hyp (progF a1 zs a5 ds=(ms,e))->FL E' b' l' c' ms->K (.tup [L b' l' c',I e]) E'):
  Ent F3 6 Try.f51 [.agg [I a1,L b2 l3 c4],I a5,L b6 l7 c8] E K:=by
 refine sm_ (?_:Mem.le E E/\bif !decide (validF a1 l3) then Mem.le E E/\K (SV.tup [L none 0 0,I 1]) E else bif bif false then true else decide (a5<(0:Int)) then Mem.le E E/\K (SV.tup [L none 0 0,I 1]) E else bif decide (a5>(NI l3)) then Mem.le E E/\K (SV.tup [L none 0 0,I 3]) E else bif bif false then true else decide ((NI l7)>WI ((NI l3)-a5)) then Mem.le E E/\K (SV.tup [L none 0 0,I 3]) E else Sx.Alike (AlikeT.n AlikeT.l al2) (79=79/\∃ (s:Int),∃ (a:Nat),∃ (b:Option Addr),∃ (db:Option Addr),∃ (l:Nat),∃ (c:Nat),∃ (dl:Nat),∃ (dc:Nat),∃ (m:Nat),∃ (zs0:List Int),∃ (ds:List Int),∃ (n0:Int),[SV.clo 87 [] [SV.loc 2 0,SV.loc 4 0,SV.loc 5 0,SV.loc 3 0],I (WI ((NI l7)+1))]=[SV.clo 87 [] [SV.loc 2 0,SV.loc 4 0,SV.loc 5 0,SV.loc 3 0],I n0]/\[(⟨24,.lst [I a1,L b2 l3 c4],2,true⟩:Box),⟨22,.lst [L b6 l7 c8],1,true⟩,⟨24,.lst [I a1,L b2 l3 c4],2,true⟩,⟨3,.lst [I a5],1,true⟩,⟨3,.lst [I (NI l7)],1,true⟩,⟨99,.lst [SV.clo 78 [] [SV.loc 1 0]],1,true⟩]=[(⟨24,.lst [I s,L b l c],2,true⟩:Box),⟨22,.lst [L db dl dc],1,true⟩,⟨24,.lst [I s,L b l c],2,true⟩,⟨3,.lst [I (NI a)],1,true⟩,⟨3,.lst [I (NI m)],1,true⟩,⟨99,.lst [SV.clo 78 [] [SV.loc 1 0]],1,true⟩]/\n0=(NI (m+1))/\Bs E db dl dc ds/\m=dl/\Bs E b l c zs0/\(1<=l/\l<=16384/\a+m<=l)/\∀ (fb:Option Addr) (cap:Nat) (E':Mem),Mem.le E E'->FL E' fb (m+1) cap (mems s (gP ds) a zs0 (m+1))->Mem.le E E'/\K (SV.tup [L fb (m+1) cap,I 0]) E'))
 delta WI NI
 have hz:=h0.2.1
 have hd:=h1.2.1
 have ex:∀ {ms:List (Int×List Int)} {e:Int},progF a1 zs a5 ds=(ms,e)->(∀ (b':Option Addr) (l' c':Nat) (E':Mem),Mem.le E E'->FL E' b' l' c' ms->K (.tup [L b' l' c',I e]) E'):=fun he b' l' c' E' hE hF=>h b' l' c' _ _ E' hE he hF
 unfold progF at ex
 rw [hz,hd] at ex
 refine ⟨mr_,condC (fun g=>?_) (fun g=>?_)⟩
 ·have g:¬ validF a1 l3:=by simpa using g
  exact ⟨mr_,ex (if_pos (.inl g)) none 0 0 E mr_ (FL.nil _)⟩
 have g:validF a1 l3:=by simpa using g
 have gl:=g
 unfold validF at gl
 refine condC (fun g1=>?_) (fun g1=>?_)
 ·exact ⟨mr_,ex (if_pos (.inr (by simpa using g1))) none 0 0 E mr_ (FL.nil _)⟩
 have g1:0<=a5:=by simpa using g1
 rw [if_neg (by simp only [not_or,Decidable.not_not];exact ⟨g,by omega⟩)] at ex
 refine condC (fun g2=>?_) (fun g2=>?_)
 ·exact ⟨mr_,ex (if_pos (.inl (by simpa using g2))) none 0 0 E mr_ (FL.nil _)⟩
 have g2:a5<=l3:=by simpa using g2
 rw [wrap_i64 (by omega)]
 refine condC (fun g3=>?_) (fun g3=>?_)
 ·exact ⟨mr_,ex (if_pos (.inr (by simpa using g3))) none 0 0 E mr_ (FL.nil _)⟩
 have g3:(l7:Int)<=l3-a5:=by simpa using g3
 rw [if_neg (by omega)] at ex
 obtain ⟨a,rfl⟩:∃ a:Nat,a5=a:=⟨a5.toNat,by omega⟩
 refine alike ⟨rfl,a1,a,b2,b6,l3,c4,l7,c8,l7,zs,ds,_,rfl,rfl,by rw [wrap_i64 (by omega)];simp,h1,rfl,h0,⟨by omega,by omega,by omega⟩,fun fb cap E' hE hF=>⟨hE,?_⟩⟩
 exact ex (by rw [Int.toNat_natCast]) fb _ cap E' hE hF
theorem s16 {a1:Int} {b2:Option Addr} {l3:Nat} {c4:Nat} {a5:Int} {zs:List Int} (h0:Bs E b2 l3 c4 zs) (h:∀ (b':Option Addr) (l' c':Nat) (ms:List (Int×List Int)) (e:Int) (E':Mem),Mem.le E E'->Hyp (erasF a1 zs a5=(ms,e))->FL E' b' l' c' ms->K (.tup [L b' l' c',I e]) E'):
  Ent F4 6 Try.f71 [.agg [I a1,L b2 l3 c4],I a5] E K:=by
 refine sm_ (?_:bif decide (a1<(1:Int)) then Mem.le E E/\Mem.le E E/\K (SV.tup [L none 0 0,I 1]) E else bif bif false then true else decide (a1>(1024:Int)) then Mem.le E E/\Mem.le E E/\K (SV.tup [L none 0 0,I 1]) E else bif decide ((NI l3)<a1) then Mem.le E E/\Mem.le E E/\K (SV.tup [L none 0 0,I 1]) E else bif bif false then true else decide ((NI l3)>16384) then Mem.le E E/\Mem.le E E/\K (SV.tup [L none 0 0,I 1]) E else (a1=(0:Int)->False)/\Mem.le E E/\bif !Int.tmod (NI l3) a1==(0:Int) then Mem.le E E/\K (SV.tup [L none 0 0,I 1]) E else bif bif false then true else decide (a5<(0:Int)) then Mem.le E E/\K (SV.tup [L none 0 0,I 1]) E else (a1=(0:Int)->False)/\bif bif false then true else decide (a5>=WI (Int.tdiv (NI l3) a1)) then Mem.le E E/\K (SV.tup [L none 0 0,I 1]) E else Sx.Alike al2 (79=79/\∃ (s:Int),∃ (a:Nat),∃ (b:Option Addr),∃ (l:Nat),∃ (c:Nat),∃ (m:Nat),∃ (zs0:List Int),∃ (n0:Int),[SV.clo 87 [] [SV.loc 2 0,SV.loc 4 0,SV.loc 5 0,SV.loc 3 0],I (WI (a1+(1:Int)))]=[SV.clo 87 [] [SV.loc 2 0,SV.loc 4 0,SV.loc 5 0,SV.loc 3 0],I n0]/\[(⟨24,.lst [I a1,L b2 l3 c4],2,true⟩:Box),⟨24,.lst [I a1,L b2 l3 c4],2,true⟩,⟨24,.lst [I a1,L b2 l3 c4],2,true⟩,⟨3,.lst [I (WI (a5*a1))],1,true⟩,⟨3,.lst [I a1],1,true⟩,⟨99,.lst [SV.clo 86 [] []],1,true⟩]=[(⟨24,.lst [I s,L b l c],2,true⟩:Box),⟨24,.lst [I s,L b l c],2,true⟩,⟨24,.lst [I s,L b l c],2,true⟩,⟨3,.lst [I (NI a)],1,true⟩,⟨3,.lst [I (NI m)],1,true⟩,⟨99,.lst [SV.clo 86 [] []],1,true⟩]/\n0=(NI (m+1))/\Bs E b l c zs0/\(1<=l/\l<=16384/\a+m<=l)/\∀ (fb:Option Addr) (cap:Nat) (E':Mem),Mem.le E E'->FL E' fb (m+1) cap (mems s gE a zs0 (m+1))->Mem.le E E'/\K (SV.tup [L fb (m+1) cap,I 0]) E'))
 delta WI NI
 have hz:=h0.2.1
 have ex:∀ {ms:List (Int×List Int)} {e:Int},erasF a1 zs a5=(ms,e)->(∀ (b':Option Addr) (l' c':Nat) (E':Mem),Mem.le E E'->FL E' b' l' c' ms->K (.tup [L b' l' c',I e]) E'):=fun he b' l' c' E' hE hF=>h b' l' c' _ _ E' hE he hF
 unfold erasF at ex
 rw [hz] at ex
 have bad:¬ validF a1 l3\/a5<0\/a5>=(l3:Int) / a1->K (.tup [L none 0 0,I 1]) E:=fun hb=>ex (if_pos hb) none 0 0 E mr_ (FL.nil _)
 have bad1:¬ validF a1 l3->Mem.le E E/\Mem.le E E/\K (.tup [L none 0 0,I 1]) E:=fun hb=>⟨mr_,mr_,bad (.inl hb)⟩
 unfold validF at bad1
 refine condC (fun g=>bad1 (by simp at g;omega)) (fun g1=>?_)
 refine condC (fun g=>bad1 (by simp at g;omega)) (fun g2=>?_)
 refine condC (fun g=>bad1 (by simp at g;omega)) (fun g3=>?_)
 refine condC (fun g=>bad1 (by simp at g;omega)) (fun g4=>?_)
 have g1:1<=a1:=by simpa using g1
 have g2:a1<=1024:=by simpa using g2
 have g3:a1<=l3:=by simpa using g3
 have g4:l3<=16384:=by simp at g4;omega
 refine ⟨by omega,mr_,condC (fun g=>?_) (fun g5=>?_)⟩
 ·rw [validF_mod g1] at g
  exact (bad1 (by simp at g;omega)).2
 have g5:(l3:Int) % a1=0:=by rw [validF_mod g1] at g5;simpa using g5
 have hv:validF a1 l3:=⟨g1,g2,g3,g4,g5⟩
 refine condC (fun g=>⟨mr_,bad (.inr (.inl (by simpa using g)))⟩) (fun g6=>?_)
 have g6:0<=a5:=by simpa using g6
 have hdv:Int.tdiv (l3:Int) a1=(l3:Int) / a1:=Int.tdiv_eq_ediv_of_nonneg (by omega)
 have hd1:(l3:Int) / a1<=l3:=Int.ediv_le_self _ (by omega)
 have hd0:0<=(l3:Int) / a1:=Int.ediv_nonneg (by omega) (by omega)
 refine ⟨by omega,?_⟩
 rw [hdv,wrap_i64 (x:=(l3:Int) / a1) (by omega)]
 refine condC (fun g=>⟨mr_,bad (.inr (.inr (by simpa using g)))⟩) (fun g7=>?_)
 have g7:a5<(l3:Int) / a1:=by simpa using g7
 rw [if_neg (fun q=>q.elim (fun q=>q hv) (fun q=>by omega))] at ex
 have h8:(a5+1)*a1<=l3:=by
  have:=Int.mul_le_mul_of_nonneg_right (show a5+1<=(l3:Int) / a1 by omega) (show 0<=a1 by omega)
  have h2:=Int.ediv_mul_le (l3:Int) (show a1≠0 by omega)
  omega
 have h9:0<=a5*a1:=Int.mul_nonneg g6 (by omega)
 rw [Int.add_mul,Int.one_mul] at h8
 obtain ⟨a,ha⟩:∃ a:Nat,a5*a1=a:=⟨(a5*a1).toNat,by omega⟩
 obtain ⟨m,rfl⟩:∃ m:Nat,a1=m:=⟨a1.toNat,by omega⟩
 rw [ha] at ex h8
 rw [ha,wrap_i64 (x:=(a:Int)) (by omega)]
 refine alike ⟨rfl,m,a,b2,l3,c4,m,zs,_,rfl,rfl,by rw [wrap_i64 (by omega)];simp,h0,⟨by omega,by omega,by omega⟩,fun fb cap E' hE hF=>⟨hE,?_⟩⟩
 exact ex (by rw [Int.toNat_natCast,Int.toNat_natCast]) fb _ cap E' hE hF
theorem wu64 {x:Int} (h:0<=x/\x<=100000000):IntKind.wrap .u64 x=x:=by
 rw [show IntKind.wrap .u64 x=x % 18446744073709551616 from rfl];omega
theorem and32 {n:Int} (h:0<=n/\n<=16384):IntKind.wrap .u64 (((BitVec.ofInt (IntKind.bits .u64) n&&& BitVec.ofInt (IntKind.bits .u64) 4294967295).toNat:Nat):Int)=n:=by
 obtain ⟨m,rfl⟩:∃ m:Nat,n=m:=⟨n.toNat,by omega⟩
 rw [show IntKind.bits .u64=64 from rfl,BitVec.toNat_and,show BitVec.ofInt 64 (m:Int)=BitVec.ofNat 64 m from BitVec.ofInt_natCast _ _,show BitVec.ofInt 64 4294967295=BitVec.ofNat 64 (2 ^ 32-1) from rfl,
  BitVec.toNat_ofNat,BitVec.toNat_ofNat,Nat.mod_eq_of_lt (by omega),Nat.mod_eq_of_lt (a:=2 ^ 32-1) (by decide),Nat.and_two_pow_sub_one_eq_mod,Nat.mod_eq_of_lt (by omega),wu64 (by omega)]
theorem fd32 {n:Int} (h:0<=n/\n<=16384):Int.fdiv n 4294967296=0:=by
 rw [Int.fdiv_eq_ediv_of_nonneg _ (by omega)];omega
def tabZ:CallT:=fun f args bx E K=>f=82/\∃ n:Nat,args=[I n]/\n<=281474976710656/\∀ zs:List Int,n<=zs.length->K (.slc bx.length 0 n zs.length) (bx++[⟨5,.vals (vB zs),zs.length,true⟩]) E
theorem tabZ_ok (f:FuncId) (args:List SV) (bx:List Box) (E:Mem) (K:KT) (h:tabZ f args bx E K):CallSem Try.prog f args bx E K:=by
 obtain ⟨rfl,n,rfl,h1,h2⟩:=h
 exact makeNoZero_sem Try.func82 (by kernel_rfl) (by kernel_rfl) (by kernel_rfl) (ps:=#[3]) (t:=22) (e:=5) (by kernel_rfl) (by kernel_rfl) h1 h2
noncomputable def F7:Cx:={ P:=Try.prog,inl:=fun f=>List.contains [89] f,tab:=fun _ _ _ _=>False,isB:=fun _=>false,tabB:=fun _ _ _ _ _=>False,opt:={ unroll:=0,carry:=[] },muts:=mutsD }
theorem okF7:CxOK F7:=CxOK.four (fun _ _ _ _ h=>h.elim) (by kernel_rfl) (okInl (by kernel_rfl)) (fun _ _ _ _ _ h=>h.elim)
theorem s31 {a1:Int} {a2:Int} (h0:(a1=1/\0<=a2/\a2<=16384)) (h:K (.tup [.raw (.int .u64 0),.raw (.int .u64 a2)]) E):
  Ent F7 8 Try.f81 [.raw (.int .u64 a1),.raw (.int .u64 a2)] E K:=by
 refine sm_ (?_:Mem.le E E/\Mem.le E E/\K (SV.tup [SV.raw (Value.int IntKind.u64 (IntKind.wrap IntKind.u64 (IntKind.wrap IntKind.u64 (IntKind.wrap IntKind.u64 (Int.fdiv a1 (4294967296:Int)*Int.fdiv a2 4294967296)+Int.fdiv (IntKind.wrap IntKind.u64 (IntKind.wrap IntKind.u64 (Int.fdiv a1 (4294967296:Int)*IntKind.wrap IntKind.u64 (NI (BitVec.toNat (BitVec.ofInt (IntKind.bits IntKind.u64) a2&&& BitVec.ofInt (IntKind.bits IntKind.u64) 4294967295))))+Int.fdiv (IntKind.wrap IntKind.u64 (IntKind.wrap IntKind.u64 (NI (BitVec.toNat (BitVec.ofInt (IntKind.bits IntKind.u64) a1&&& BitVec.ofInt (IntKind.bits IntKind.u64) 4294967295)))*IntKind.wrap IntKind.u64 (NI (BitVec.toNat (BitVec.ofInt (IntKind.bits IntKind.u64) a2&&& BitVec.ofInt (IntKind.bits IntKind.u64) 4294967295))))) 4294967296)) 4294967296)+Int.fdiv (IntKind.wrap IntKind.u64 (IntKind.wrap IntKind.u64 (NI (BitVec.toNat (BitVec.ofInt (IntKind.bits IntKind.u64) (IntKind.wrap IntKind.u64 (IntKind.wrap IntKind.u64 (Int.fdiv a1 ((2:Int) ^ min (Int.toNat 32) (IntKind.bits IntKind.u64))*IntKind.wrap IntKind.u64 (NI (BitVec.toNat (BitVec.ofInt (IntKind.bits IntKind.u64) a2&&& BitVec.ofInt (IntKind.bits IntKind.u64) 4294967295))))+Int.fdiv (IntKind.wrap IntKind.u64 (IntKind.wrap IntKind.u64 (NI (BitVec.toNat (BitVec.ofInt (IntKind.bits IntKind.u64) a1&&& BitVec.ofInt (IntKind.bits IntKind.u64) 4294967295)))*IntKind.wrap IntKind.u64 (NI (BitVec.toNat (BitVec.ofInt (IntKind.bits IntKind.u64) a2&&& BitVec.ofInt (IntKind.bits IntKind.u64) 4294967295))))) ((2:Int) ^ min (Int.toNat 32) (IntKind.bits IntKind.u64))))&&& BitVec.ofInt (IntKind.bits IntKind.u64) 4294967295)))+IntKind.wrap IntKind.u64 (IntKind.wrap IntKind.u64 (NI (BitVec.toNat (BitVec.ofInt (IntKind.bits IntKind.u64) a1&&& BitVec.ofInt (IntKind.bits IntKind.u64) 4294967295)))*Int.fdiv a2 4294967296))) 4294967296))),SV.raw (Value.int IntKind.u64 (IntKind.wrap IntKind.u64 (a1*a2)))]) E)
 delta NI
 obtain ⟨rfl,h0⟩:=h0
 rw [show min (Int.toNat 32) (IntKind.bits .u64)=32 from rfl,show (2:Int) ^ 32=4294967296 from rfl,show Int.fdiv 1 4294967296=0 from rfl,fd32 h0,and32 h0,and32 (n:=1) (by omega)]
 rw [show (0:Int)*0=0 from rfl,Int.zero_mul,Int.one_mul,Int.mul_zero,wu64 (x:=a2) (by omega),wu64 (x:=0) (by omega),Int.zero_add,fd32 h0,Int.add_zero,wu64 (x:=0) (by omega),and32 (n:=0) (by omega),Int.add_zero,wu64 (x:=0) (by omega),show Int.fdiv 0 4294967296=0 from rfl,Int.add_zero,wu64 (x:=0) (by omega)]
 exact ⟨mr_,mr_,h⟩
noncomputable def tab31:FuncId->List SV->Mem->(SV->Mem->Prop)->Prop:=fun f args E K=>match f with
 | 81=>d2 args fun x0 x1=>dN .u64 x0 fun a1=>dN .u64 x1 fun a2=>(a1=1/\0<=a2/\a2<=16384)/\(K (.tup [.raw (.int .u64 0),.raw (.int .u64 a2)]) E)
 | _=>False
theorem tab31_ok:TabOK Try.prog tab31:=by
 intro f args E K h
 unfold tab31 at h
 split at h
 ·replace h:=d2_elim h
  obtain ⟨x0,x1,rfl,h⟩:=h
  replace h:=dN_elim h
  obtain ⟨a1,rfl,h⟩:=h
  replace h:=dN_elim h
  obtain ⟨a2,rfl,h⟩:=h
  obtain ⟨g0,h⟩:=h
  exact TabSem.congr (valL_cons rfl (valL_cons rfl rfl)) (esm okF7 Try.func81 rfl (s31 g0 h))
 ·exact h.elim
noncomputable def F6:Cx:={ P:=Try.prog,inl:=fun f=>List.contains [] f,tab:=tab31,isB:=fun f=>f==82,tabB:=tabZ,opt:={ unroll:=0,carry:=[7,8,9,10],cuts:=[17] },muts:=mutsD }
theorem okF6:CxOK F6:=CxOK.four tab31_ok (by kernel_rfl) (okInl (by kernel_rfl)) tabZ_ok
def sh17 (n ch tot:Nat) (zs:List Int) (E:Mem):St:=⟨[os 1 0 1 1,none,none,none,none,none,none,oI (n:Nat),oI (ch:Nat),os 2 0 n n]++List.replicate 67 none,[⟨24,.lst [I 0,L none 0 0],2,true⟩,⟨5,.lst [.raw (.int .u8 255)],1,true⟩]++[⟨5,.vals (vB zs),tot,true⟩],E⟩
def sh18 (n ch bp tot:Nat) (zs:List Int) (E:Mem):St:=⟨[none,none,none,none,none,none,none,oI (n:Nat),oI (ch:Nat),os 2 0 n n,oI (bp:Nat)]++List.replicate 66 none,[⟨24,.lst [I 0,L none 0 0],2,true⟩,⟨5,.lst [.raw (.int .u8 255)],1,true⟩]++[⟨5,.vals (vB zs),tot,true⟩],E⟩
theorem ent25 {n:Nat} {K:KT} (hn:1<=n/\n<=16384) (h:∀ (ch tot:Nat) (zs:List Int),1<=ch->n<=zs.length->Ct F6 8 Try.f54 [1,1,1,1,1,1,1,1,1,1] 2 K (sh17 n ch tot zs E)):EntB F6 8 Try.f54 [.slc 1 0 1 1,I n] [⟨24,.lst [I 0,L none 0 0],2,true⟩,⟨5,.lst [.raw (.int .u8 255)],1,true⟩] E K:=by
 refine sm_ (?_:bif (NI n)==0 then K (SV.slc 2 0 0 0) [⟨24,.lst [I 0,L none 0 0],2,true⟩,⟨5,.lst [SV.raw (U8 255)],1,true⟩,⟨5,.lst [],0,true⟩] E else IntKind.u64=IntKind.u64/\IntKind.u64=IntKind.u64/\((1:Int)=(1:Int)/\(0:Int)<=IntKind.wrap IntKind.u64 (NI n)/\IntKind.wrap IntKind.u64 (NI n)<=16384)/\Mem.le E E/\bif bif false then true else decide (IntKind.wrap IntKind.u64 (NI n)>9223372036854775807) then False else bif decide (WI (IntKind.wrap IntKind.u64 (NI n))>(8192:Int)) then ((1:Int)=(0:Int)->False)/\82=82/\∃ (n_1:Nat),[I (WI (IntKind.wrap IntKind.u64 (NI n)))]=[I (NI n_1)]/\n_1<=281474976710656/\∀ (zs:List Int),n_1<=List.length zs->Mem.le E E/\req ((0:Int)<=WI (IntKind.wrap IntKind.u64 (NI n))/\WI (IntKind.wrap IntKind.u64 (NI n))<=(NI (List.length zs))) (req ((0:Int)<=WI (IntKind.wrap IntKind.u64 (NI n))/\WI (IntKind.wrap IntKind.u64 (NI n))<=(NI (toN (some (WI (IntKind.wrap IntKind.u64 (NI n)))) (List.length zs)))) (Ct F6 8 Try.f54 [1,1,1,1,1,1,1,1,1,1] 2 K { fr:=some (SV.slc 1 0 1 1)::oI (NI n)::none::none::oL none 0 0::some (SV.raw (Value.int IntKind.u64 0))::some (SV.raw (Value.int IntKind.u64 (IntKind.wrap IntKind.u64 (NI n))))::oI (WI (IntKind.wrap IntKind.u64 (NI n)))::oI 8192::os 2 (if toN (some (WI (IntKind.wrap IntKind.u64 (NI n)))) (List.length zs)=0 then 0 else 0) (toN (some (WI (IntKind.wrap IntKind.u64 (NI n)))) n_1-0) (toN (some (WI (IntKind.wrap IntKind.u64 (NI n)))) (List.length zs)-0)::none::none::oI (NI n)::oB ((NI n)==0)::none::oI (NI n)::oB false::none::some (SV.tup [SV.raw (Value.int IntKind.u64 0),SV.raw (Value.int IntKind.u64 (IntKind.wrap IntKind.u64 (NI n)))])::os 1 0 1 1::oI 1::some (SV.raw (Value.int IntKind.u64 1))::oI (NI n)::some (SV.raw (Value.int IntKind.u64 (IntKind.wrap IntKind.u64 (NI n))))::some (SV.tup [SV.raw (Value.int IntKind.u64 0),SV.raw (Value.int IntKind.u64 (IntKind.wrap IntKind.u64 (NI n)))])::some (SV.raw (Value.int IntKind.u64 0))::some (SV.raw (Value.int IntKind.u64 (IntKind.wrap IntKind.u64 (NI n))))::some (SV.raw (Value.int IntKind.u64 0))::oB false::oB false::some (SV.raw (Value.int IntKind.u64 (IntKind.wrap IntKind.u64 (NI n))))::oB (decide (IntKind.wrap IntKind.u64 (NI n)>9223372036854775807))::oB (bif false then true else decide (IntKind.wrap IntKind.u64 (NI n)>9223372036854775807))::none::some (SV.raw (Value.int IntKind.u64 (IntKind.wrap IntKind.u64 (NI n))))::oI (WI (IntKind.wrap IntKind.u64 (NI n)))::os 1 0 1 1::oI 1::oB false::none::oI (WI (IntKind.wrap IntKind.u64 (NI n)))::oI (WI (IntKind.wrap IntKind.u64 (NI n)))::oB (decide (WI (IntKind.wrap IntKind.u64 (NI n))>(8192:Int)))::os 1 0 1 1::oI 1::oI 8192::os 1 0 1 1::oI 1::oI 8192::oI 8192::oB false::none::none::oI (WI (IntKind.wrap IntKind.u64 (NI n)))::os 2 0 n_1 (List.length zs)::oI (WI (IntKind.wrap IntKind.u64 (NI n)))::oI (WI (IntKind.wrap IntKind.u64 (NI n)))::os 2 (if toN (some (WI (IntKind.wrap IntKind.u64 (NI n)))) (List.length zs)=0 then 0 else 0) (toN (some (WI (IntKind.wrap IntKind.u64 (NI n)))) n_1-0) (toN (some (WI (IntKind.wrap IntKind.u64 (NI n)))) (List.length zs)-0)::no16 (no2 (none::[])),bx:=[(⟨24,.lst [I 0,L none 0 0],2,true⟩:Box),⟨5,.lst [SV.raw (U8 255)],1,true⟩,⟨5,.vals (vB zs),List.length zs,true⟩],E:=E:St })) else 82=82/\∃ (n_1:Nat),[I (WI (IntKind.wrap IntKind.u64 (NI n)))]=[I (NI n_1)]/\n_1<=281474976710656/\∀ (zs:List Int),n_1<=List.length zs->Mem.le E E/\req ((0:Int)<=WI (IntKind.wrap IntKind.u64 (NI n))/\WI (IntKind.wrap IntKind.u64 (NI n))<=(NI (List.length zs))) (req ((0:Int)<=WI (IntKind.wrap IntKind.u64 (NI n))/\WI (IntKind.wrap IntKind.u64 (NI n))<=(NI (toN (some (WI (IntKind.wrap IntKind.u64 (NI n)))) (List.length zs)))) (Ct F6 8 Try.f54 [1,1,1,1,1,1,1,1,1,1] 2 K { fr:=some (SV.slc 1 0 1 1)::oI (NI n)::none::none::oL none 0 0::some (SV.raw (Value.int IntKind.u64 0))::some (SV.raw (Value.int IntKind.u64 (IntKind.wrap IntKind.u64 (NI n))))::oI (WI (IntKind.wrap IntKind.u64 (NI n)))::oI (WI (IntKind.wrap IntKind.u64 (NI n)))::os 2 (if toN (some (WI (IntKind.wrap IntKind.u64 (NI n)))) (List.length zs)=0 then 0 else 0) (toN (some (WI (IntKind.wrap IntKind.u64 (NI n)))) n_1-0) (toN (some (WI (IntKind.wrap IntKind.u64 (NI n)))) (List.length zs)-0)::none::none::oI (NI n)::oB ((NI n)==0)::none::oI (NI n)::oB false::none::some (SV.tup [SV.raw (Value.int IntKind.u64 0),SV.raw (Value.int IntKind.u64 (IntKind.wrap IntKind.u64 (NI n)))])::os 1 0 1 1::oI 1::some (SV.raw (Value.int IntKind.u64 1))::oI (NI n)::some (SV.raw (Value.int IntKind.u64 (IntKind.wrap IntKind.u64 (NI n))))::some (SV.tup [SV.raw (Value.int IntKind.u64 0),SV.raw (Value.int IntKind.u64 (IntKind.wrap IntKind.u64 (NI n)))])::some (SV.raw (Value.int IntKind.u64 0))::some (SV.raw (Value.int IntKind.u64 (IntKind.wrap IntKind.u64 (NI n))))::some (SV.raw (Value.int IntKind.u64 0))::oB false::oB false::some (SV.raw (Value.int IntKind.u64 (IntKind.wrap IntKind.u64 (NI n))))::oB (decide (IntKind.wrap IntKind.u64 (NI n)>9223372036854775807))::oB (bif false then true else decide (IntKind.wrap IntKind.u64 (NI n)>9223372036854775807))::none::some (SV.raw (Value.int IntKind.u64 (IntKind.wrap IntKind.u64 (NI n))))::oI (WI (IntKind.wrap IntKind.u64 (NI n)))::os 1 0 1 1::oI 1::oB false::none::oI (WI (IntKind.wrap IntKind.u64 (NI n)))::oI (WI (IntKind.wrap IntKind.u64 (NI n)))::oB (decide (WI (IntKind.wrap IntKind.u64 (NI n))>(8192:Int)))::no8 (no2 (oI (WI (IntKind.wrap IntKind.u64 (NI n)))::os 2 0 n_1 (List.length zs)::oI (WI (IntKind.wrap IntKind.u64 (NI n)))::oI (WI (IntKind.wrap IntKind.u64 (NI n)))::os 2 (if toN (some (WI (IntKind.wrap IntKind.u64 (NI n)))) (List.length zs)=0 then 0 else 0) (toN (some (WI (IntKind.wrap IntKind.u64 (NI n)))) n_1-0) (toN (some (WI (IntKind.wrap IntKind.u64 (NI n)))) (List.length zs)-0)::no16 (no2 (none::[])))),bx:=[(⟨24,.lst [I 0,L none 0 0],2,true⟩:Box),⟨5,.lst [SV.raw (U8 255)],1,true⟩,⟨5,.vals (vB zs),List.length zs,true⟩],E:=E:St })))
 delta WI NI U8 no2 no8 no16
 have e1:IntKind.wrap .u64 (n:Int)=n:=wu64 (by omega)
 have e2:IntKind.wrap .i64 (n:Int)=n:=wrap_i64 (by omega)
 have e3:∀ d,toN (some (n:Int)) d=n:=fun d=>by simp [toN]
 simp only [e1,e2,e3,ite_self,Nat.sub_zero]
 refine condC (fun g=>absurd g (by simp;omega)) (fun _=>⟨trivial,trivial,⟨trivial,by omega,by omega⟩,mr_,condC (fun g=>absurd g (by simp;omega)) (fun _=>condC (fun g=>?_) (fun g=>?_))⟩)
 ·refine ⟨by omega,trivial,n,rfl,by omega,fun zs hz=>⟨mr_,req_intro (by omega) (req_intro (by omega) ?_)⟩⟩
  exact Ct_re [some 0,some 1,some 2] (h 8192 _ zs (by omega) hz) (wkG mr_)
 ·refine ⟨trivial,n,rfl,by omega,fun zs hz=>⟨mr_,req_intro (by omega) (req_intro (by omega) ?_)⟩⟩
  exact Ct_re [some 0,some 1,some 2] (h n _ zs (by omega) hz) (wkG mr_)
theorem rep_step {zs:List Int} {bp q n:Nat} (h:zs.take bp=List.replicate bp 255) (hb:bp<n) (hn:n<=zs.length) (hq:q<=bp):
  (zs.take bp++(zs.take q).take (min q (n-bp))++zs.drop (bp+min q (n-bp))).take (bp+min q (n-bp))=List.replicate (bp+min q (n-bp)) 255/\n<=(zs.take bp++(zs.take q).take (min q (n-bp))++zs.drop (bp+min q (n-bp))).length:=by
 have h1:(zs.take q).take (min q (n-bp))=List.replicate (min q (n-bp)) 255:=by
  have :zs.take (min q (n-bp))=(zs.take bp).take (min q (n-bp)):=by rw [List.take_take,Nat.min_eq_left (a:=min q (n-bp)) (b:=bp) (by omega)]
  rw [List.take_take,Nat.min_eq_left (a:=min q (n-bp)) (b:=q) (by omega),this,h,List.take_replicate,Nat.min_eq_left (a:=min q (n-bp)) (b:=bp) (by omega)]
 rw [h1,h]
 refine ⟨?_,?_⟩
 ·rw [List.take_append_of_le_length (by simp),List.take_of_length_le (by simp),List.replicate_append_replicate]
 ·simp;omega
theorem pc17 {k ch tot:Nat} {zs:List Int} {K:KT} (hz:k+1<=zs.length) (h:Lp F6 8 Try.f54 [1,1,1,1,1,1,1,1,1,1,1,0,0] 2 K (sh18 (k+1) ch 1 tot (255::zs.drop 1) E)):Pc F6 8 Try.f54 [1,1,1,1,1,1,1,1,1,1] 2 K (sh17 (k+1) ch tot zs E):=by
 refine sm_ (?_:0+(k+1)*1<=List.length (vB zs)/\Lp F6 8 Try.f54 [1,1,1,1,1,1,1,1,1,1,1,0,0] 2 K { fr:=some (SV.slc 1 0 1 1)::no4 (no2 (oI (NI (k+1))::oI (NI ch)::os 2 0 (k+1) (k+1)::oI 1::no32 (no8 (no4 (no2 (none::(os 2 0 (k+1) (k+1)::os 1 0 1 1::oI 1::no16 []))))))),bx:=[(⟨24,.lst [I 0,L none 0 0],2,true⟩:Box),⟨5,.lst [SV.raw (U8 255)],1,true⟩,⟨5,.vals (U8 (255:Int)::(List.drop 1 (vB zs))),tot,true⟩],E:=E:St })
 delta NI U8 no2 no4 no8 no16 no32
 refine ⟨by simp;omega,?_⟩
 have e:Value.int IntKind.u8 255::(List.drop 1 (vB zs))=vB (255::zs.drop 1):=by simp
 rw [e]
 exact Lp_re [some 0,some 1,some 2] h (wkG mr_)
theorem rnd18 {n ch bp tot:Nat} {zs:List Int} {K:KT} (hn:1<=n/\n<=16384) (hc:1<=ch) (hb:1<=bp/\bp<=n) (hz:n<=zs.length) (hr:zs.take bp=List.replicate bp 255)
  (h:∀ zs:List Int,n<=zs.length->zs.take n=List.replicate n 255->K (.slc 2 0 n n) ([⟨24,.lst [I 0,L none 0 0],2,true⟩,⟨5,.lst [.raw (.int .u8 255)],1,true⟩]++[⟨5,.vals (vB zs),tot,true⟩]) E)
  (ih:∀ (bp':Nat) (zs:List Int),bp<bp'->bp'<=n->n<=zs.length->zs.take bp'=List.replicate bp' 255->Lp F6 8 Try.f54 [1,1,1,1,1,1,1,1,1,1,1,0,0] 2 K (sh18 n ch bp' tot zs E)):
  Rnd F6 8 Try.f54 [1,1,1,1,1,1,1,1,1,1,1,0,0] 2 K (sh18 n ch bp tot zs E):=by
 refine sm_ (?_:bif decide ((NI bp)<(NI n)) then req (0<=(NI bp)/\(NI bp)<=(NI (toN none n))) (req (((0:Int)<=if (NI ch)<(NI bp) then (NI ch) else (NI bp))/\(if (NI ch)<(NI bp) then (NI ch) else (NI bp))<=(NI (toN none n))) ((if toN none n=0 then 0 else 0)+min (toN (some (if (NI ch)<(NI bp) then (NI ch) else (NI bp))) n-0) (toN none n-toN (some (NI bp)) 0)*1<=List.length (vB zs)/\(if toN none n=toN (some (NI bp)) 0 then 0 else 0+toN (some (NI bp)) 0*1)<=List.length (vB zs)/\((if toN none n=toN (some (NI bp)) 0 then 0 else 0+toN (some (NI bp)) 0*1)+min (toN (some (if (NI ch)<(NI bp) then (NI ch) else (NI bp))) n-0) (toN none n-toN (some (NI bp)) 0)*1<=List.length (vB zs)\/(if toN none n=toN (some (NI bp)) 0 then 0 else 0+toN (some (NI bp)) 0*1)+min (toN (some (if (NI ch)<(NI bp) then (NI ch) else (NI bp))) n-0) (toN none n-toN (some (NI bp)) 0)*1<=tot)/\(∀ (x:Value),List.Mem x (vB zs)->Value.oneCell' x=true)/\Lp F6 8 Try.f54 [1,1,1,1,1,1,1,1,1,1,1,0,0] 2 K { fr:=no4 (no2 (none::(oI (NI n)::oI (NI ch)::os 2 0 n n::oI (WI ((NI bp)+(NI (min (toN (some (if (NI ch)<(NI bp) then (NI ch) else (NI bp))) n-0) (toN none n-toN (some (NI bp)) 0)))))::no32 (no32 (no2 []))))),bx:=[(⟨24,.lst [I 0,L none 0 0],2,true⟩:Box),⟨5,.lst [SV.raw (U8 255)],1,true⟩,⟨5,.vals (layV (vB zs) (if toN none n=toN (some (NI bp)) 0 then 0 else 0+toN (some (NI bp)) 0*1) (List.take (min (toN (some (if (NI ch)<(NI bp) then (NI ch) else (NI bp))) n-0) (toN none n-toN (some (NI bp)) 0)*1) (List.drop (if toN none n=0 then 0 else 0) (vB zs)))),tot,true⟩],E:=E:St })) else K (SV.slc 2 0 n n) [⟨24,.lst [I 0,L none 0 0],2,true⟩,⟨5,.lst [SV.raw (U8 255)],1,true⟩,⟨5,.vals (vB zs),tot,true⟩] E)
 delta WI NI U8 no2 no4 no32
 refine condC (fun g=>?_) (fun g=>?_)
 ·have g:bp<n:=by simpa using g
  obtain ⟨q,hq⟩:∃ q,q=min bp ch:=⟨_,rfl⟩
  have eq:(if (ch:Int)<(bp:Int) then (ch:Int) else (bp:Int))=(q:Int):=by split<;>omega
  have e2:∀ d,toN (some (q:Int)) d=q:=fun d=>by simp [toN]
  have e3:∀ d,toN (some (bp:Int)) d=bp:=fun d=>by simp [toN]
  have e4:∀ d,toN none d=d:=fun d=>rfl
  have e5:IntKind.wrap .i64 ((bp:Int)+((min q (n-bp):Nat):Int))=((bp+min q (n-bp):Nat):Int):=by rw [wrap_i64 (by omega)];simp
  rw [eq]
  simp only [e2,e3,e4,ite_self,Nat.sub_zero]
  rw [if_neg (show ¬ n=bp by omega)]
  refine req_intro (by omega) (req_intro (by omega) ⟨by simp;omega,by simp;omega,.inl (by simp;omega),vB_one zs,?_⟩)
  obtain ⟨s1,s2⟩:=rep_step hr g hz (show q<=bp by omega)
  have e6:layV (vB zs) (0+bp*1) (List.take (min q (n-bp)*1) (List.drop 0 (vB zs)))=vB (zs.take bp++(zs.take q).take (min q (n-bp))++zs.drop (bp+min q (n-bp))):=by
   unfold layV vB
   rw [Nat.zero_add,Nat.mul_one,Nat.mul_one,List.drop_zero,show (zs.take q).take (min q (n-bp))=zs.take (min q (n-bp)) by rw [List.take_take,Nat.min_eq_left (Nat.min_le_left _ _)]]
   simp only [← List.map_take,← List.map_drop,← List.map_append,List.length_map]
   rw [show (zs.take (min q (n-bp))).length=min q (n-bp) by simp;omega]
  rw [e5,e6]
  exact Lp_re [some 0,some 1,some 2] (ih _ _ (by omega) (by omega) s2 s1) (wkG mr_)
 ·have g:bp=n:=by simp at g;omega
  subst g
  exact h zs hz hr
theorem lp18 {n ch bp tot:Nat} {zs:List Int} {K:KT} (hn:1<=n/\n<=16384) (hc:1<=ch) (hb:1<=bp/\bp<=n) (hz:n<=zs.length) (hr:zs.take bp=List.replicate bp 255)
  (h:∀ zs:List Int,n<=zs.length->zs.take n=List.replicate n 255->K (.slc 2 0 n n) ([⟨24,.lst [I 0,L none 0 0],2,true⟩,⟨5,.lst [.raw (.int .u8 255)],1,true⟩]++[⟨5,.vals (vB zs),tot,true⟩]) E):
  Lp F6 8 Try.f54 [1,1,1,1,1,1,1,1,1,1,1,0,0] 2 K (sh18 n ch bp tot zs E):=
 Lp_ind okF6 (fun x:{x:Nat×List Int//1<=x.1/\x.1<=n/\n<=x.2.length/\x.2.take x.1=List.replicate x.1 255}=>sh18 n ch x.1.1 tot x.1.2 E) (fun x=>n-x.1.1)
  (fun x ih=>rnd18 hn hc ⟨x.2.1,x.2.2.1⟩ x.2.2.2.1 x.2.2.2.2 h fun bp' zs g1 g2 g3 g4=>ih ⟨(bp',zs),by have:=x.2.1;exact ⟨by omega,g2,g3,g4⟩⟩ (by show n-bp'<n-x.1.1;omega)) ⟨(bp,zs),hb.1,hb.2,hz,hr⟩
theorem s25 {n:Nat} {K:KT} (hn:1<=n/\n<=16384) (h:∀ (tot:Nat) (zs:List Int),n<=zs.length->zs.take n=List.replicate n 255->K (.slc 2 0 n n) ([⟨24,.lst [I 0,L none 0 0],2,true⟩,⟨5,.lst [.raw (.int .u8 255)],1,true⟩]++[⟨5,.vals (vB zs),tot,true⟩]) E):EntB F6 8 Try.f54 [.slc 1 0 1 1,I n] [⟨24,.lst [I 0,L none 0 0],2,true⟩,⟨5,.lst [.raw (.int .u8 255)],1,true⟩] E K:=by
 obtain ⟨k,rfl⟩:∃ k,n=k+1:=⟨n-1,by omega⟩
 exact ent25 hn fun ch tot zs hc hz=>Ct_intro okF6 (pc17 hz (lp18 hn hc ⟨by omega,by omega⟩ (by simp;omega) (by simp) (h tot)))
def newF (s n:Int):(Int×List Int)×Int:=if s<1\/s>1024\/n<1\/n>16384 / s then ((0,[]),1) else ((s,List.replicate (s*n).toNat 255),0)
def tabR:CallT:=fun f args bx E K=>f=54/\∃ n:Nat,args=[.slc 1 0 1 1,I n]/\bx=[⟨24,.lst [I 0,L none 0 0],2,true⟩,⟨5,.lst [.raw (.int .u8 255)],1,true⟩]/\(1<=n/\n<=16384)/\∀ (tot:Nat) (zs:List Int),n<=zs.length->zs.take n=List.replicate n 255->K (.slc 2 0 n n) (bx++[⟨5,.vals (vB zs),tot,true⟩]) E
theorem tabR_ok (f:FuncId) (args:List SV) (bx:List Box) (E:Mem) (K:KT) (h:tabR f args bx E K):CallSem Try.prog f args bx E K:=by
 obtain ⟨rfl,n,rfl,rfl,h1,h2⟩:=h
 exact bsm okF6 Try.func54 (s25 h1 h2)
noncomputable def F8:Cx:={ P:=Try.prog,inl:=fun f=>List.contains [] f,tab:=fun _ _ _ _=>False,isB:=fun f=>f==54,tabB:=tabR,opt:={ unroll:=0,carry:=[] },muts:=mutsD }
theorem okF8:CxOK F8:=CxOK.four (fun _ _ _ _ h=>h.elim) (by kernel_rfl) (okInl (by kernel_rfl)) tabR_ok
noncomputable def F9:Cx:={ P:=Try.prog,inl:=fun f=>List.contains [] f,tab:=fun _ _ _ _=>False,isB:=fun _=>false,tabB:=fun _ _ _ _ _=>False,opt:={ unroll:=0,carry:=[7] },muts:=mutsD }
theorem okF9:CxOK F9:=CxOK.four (fun _ _ _ _ h=>h.elim) (by kernel_rfl) (okInl (by kernel_rfl)) (fun _ _ _ _ _ h=>h.elim)
def sh12a (a1 a2:Int) (i:Nat) (E:Mem):St:=⟨[oI a1,oI a2,none,none,oc 0 0,oI 0,oc 1 0,oI (i:Nat)]++List.replicate 32 none,[⟨24,.lst [I 0,L none 0 0],2,true⟩,⟨24,.lst [I a1,L none 0 0],2,true⟩],E⟩
def sh12 (a1 a2:Int) (i cap tot:Nat) (E:Mem):St:=⟨[oI a1,oI a2,none,none,oc 0 0,oI 0,oc 1 0,oI (i:Nat)]++List.replicate 32 none,[⟨24,.lst [I 0,L none 0 0],2,true⟩,⟨24,.lst [I a1,.slc 2 0 i cap],2,true⟩,⟨5,.vals (vB (List.replicate i 255)),tot,true⟩],E⟩
noncomputable def FA:Cx:={ P:=Try.prog,inl:=fun f=>List.contains [] f,tab:=fun _ _ _ _=>False,isB:=fun _=>false,tabB:=fun _ _ _ _ _=>False,opt:={ unroll:=0,carry:=[5] },muts:=mutsD }
theorem okFA:CxOK FA:=CxOK.four (fun _ _ _ _ h=>h.elim) (by kernel_rfl) (okInl (by kernel_rfl)) (fun _ _ _ _ _ h=>h.elim)
def sh13 (a1 a5:Int) (b2 b6:Option Addr) (l3 c4 l7 c8 i:Nat) (E:Mem):St:=⟨[none,none,oc 0 0,oc 1 0,none,oI (i:Nat)]++List.replicate 32 none,[⟨24,.lst [I a1,L b2 l3 c4],2,true⟩,⟨24,.lst [I a5,L b6 l7 c8],2,true⟩],E⟩
theorem take_getD {zs:List Int} {i:Nat} (h:i<zs.length):zs.take (i+1)=zs.take i++[zs.getD i 0]:=by
 rw [List.take_succ_eq_append_getElem h,List.getD_eq_getElem?_getD,List.getElem?_eq_getElem h];rfl
theorem rnd13 {a1 a5:Int} {b2 b6:Option Addr} {l3 c4 l7 c8 i:Nat} {zs ys:List Int} {E0:Mem} {K:SV->Mem->Prop} (h0:Bs E b2 l3 c4 zs) (h1:Bs E b6 l7 c8 ys) (h2:l3<=100000) (hl:l3=l7) (hi:i<=l3) (hp:zs.take i=ys.take i)
  (hE:Mem.le E0 E) (h:K (B (decide (zs=ys))) E) (ih:i<l3->zs.take (i+1)=ys.take (i+1)->Lp FA 8 Try.f13 [1,1,0,1,0] 0 (pubK E0 K) (sh13 a1 a5 b2 b6 l3 c4 l7 c8 (i+1) E)):
  Rnd FA 8 Try.f13 [1,1,0,1,0] 0 (pubK E0 K) (sh13 a1 a5 b2 b6 l3 c4 l7 c8 i E):=by
 refine sm_ (?_:bif decide ((NI i)<(NI l3)) then req (0<=(NI i)/\(NI i)<(NI l3)) ((∃ (cs:List Value),E (VS b2 l3 c4) cs/\(cs=[]->False))/\∃ (n:Int),LoadE FA.P E 5 (VS b2 l3 c4) (Int.toNat (NI i)*1) (SV.raw (U8 n))/\req (0<=(NI i)/\(NI i)<(NI l7)) ((∃ (cs:List Value),E (VS b6 l7 c8) cs/\(cs=[]->False))/\∃ (n_1:Int),LoadE FA.P E 5 (VS b6 l7 c8) (Int.toNat (NI i)*1) (SV.raw (U8 n_1))/\bif n !=n_1 then Mem.le E0 E/\K (B false) E else Lp FA 8 Try.f13 [1,1,0,1,0] 0 (pubK E0 K) { fr:=none::none::oc 0 0::oc 1 0::none::oI (WI ((NI i)+1))::no32 [],bx:=[(⟨24,.lst [I a1,L b2 l3 c4],2,true⟩:Box),⟨24,.lst [I a5,L b6 l7 c8],2,true⟩],E:=E:St })) else Mem.le E0 E/\K (B true) E)
 delta WI NI U8 VS no32
 have z0:=h0.2.1
 have z1:=h1.2.1
 refine condC (fun g=>?_) (fun g=>?_)
 ·have g:i<l3:=by simpa using g
  refine req_intro (by omega) ⟨h0.ne g,zs.getD i 0,h0.load rfl g,req_intro (by omega) ⟨h1.ne (i:=i) (by omega),ys.getD i 0,h1.load (i:=i) rfl (by omega),condC (fun q=>?_) (fun q=>?_)⟩⟩
  ·have q:¬ zs.getD i 0=ys.getD i 0:=by simpa using q
   rw [decide_eq_false (fun e=>q (by rw [e]))] at h
   exact ⟨hE,h⟩
  ·have q:zs.getD i 0=ys.getD i 0:=by simpa using q
   rw [wrap_i64 (by omega),show (i:Int)+1=((i+1:Nat):Int) by simp]
   exact Lp_re [some 0,some 1] (ih g (by rw [take_getD (by omega),take_getD (by omega),hp,q])) (wkG mr_)
 ·have g:i=l3:=by simp at g;omega
  subst g
  rw [decide_eq_true (by rw [← List.take_of_length_le (l:=zs) (i:=i) (by omega),hp,List.take_of_length_le (by omega)])] at h
  exact ⟨hE,h⟩
theorem lp13 {a1 a5:Int} {b2 b6:Option Addr} {l3 c4 l7 c8 i:Nat} {zs ys:List Int} {E0:Mem} {K:SV->Mem->Prop} (h0:Bs E b2 l3 c4 zs) (h1:Bs E b6 l7 c8 ys) (h2:l3<=100000) (hl:l3=l7) (hi:i<=l3) (hp:zs.take i=ys.take i)
  (hE:Mem.le E0 E) (h:K (B (decide (zs=ys))) E):Lp FA 8 Try.f13 [1,1,0,1,0] 0 (pubK E0 K) (sh13 a1 a5 b2 b6 l3 c4 l7 c8 i E):=
 Lp_ind okFA (fun x:{i:Nat//i<=l3/\zs.take i=ys.take i}=>sh13 a1 a5 b2 b6 l3 c4 l7 c8 x.1 E) (fun x=>l3-x.1) (fun x ih=>rnd13 h0 h1 h2 hl x.2.1 x.2.2 hE h fun g e=>ih ⟨x.1+1,by omega,e⟩ (by show l3-(_+1)<l3-_;omega)) ⟨i,hi,hp⟩
theorem s13 {a1:Int} {b2:Option Addr} {l3:Nat} {c4:Nat} {a5:Int} {b6:Option Addr} {l7:Nat} {c8:Nat} {zs:List Int} {ys:List Int} (h0:Bs E b2 l3 c4 zs) (h1:Bs E b6 l7 c8 ys) (h2:l3<=100000) (h:K (B (decide (a1=a5/\zs=ys))) E):
  Ent FA 8 Try.f13 [.agg [I a1,L b2 l3 c4],.agg [I a5,L b6 l7 c8]] E K:=by
 refine sm_ (?_:bif a1 !=a5 then Mem.le E E/\K (B false) E else bif bif false then true else (NI l3) !=(NI l7) then Mem.le E E/\K (B false) E else Lp FA 8 Try.f13 [1,1,0,1,0] 0 (pubK E K) { fr:=some (SV.agg [I a1,L b2 l3 c4])::some (SV.agg [I a5,L b6 l7 c8])::oc 0 0::oc 1 0::none::oI 0::oc 0 0::oI a1::oc 1 0::oI a5::oB (a1 !=a5)::oB false::oc 0 1::oL b2 l3 c4::oI (NI l3)::oc 1 1::oL b6 l7 c8::oI (NI l7)::oB ((NI l3) !=(NI l7))::oB (bif false then true else (NI l3) !=(NI l7))::no16 (no2 []),bx:=[(⟨24,.lst [I a1,L b2 l3 c4],2,true⟩:Box),⟨24,.lst [I a5,L b6 l7 c8],2,true⟩],E:=E:St })
 delta NI no2 no16
 have z0:=h0.2.1
 have z1:=h1.2.1
 refine condC (fun g=>?_) (fun ge=>condC (fun g=>?_) (fun g=>?_))
 ·have g:¬ a1=a5:=by simpa using g
  rw [decide_eq_false (fun q=>g q.1)] at h
  exact ⟨mr_,h⟩
 ·have g:¬ l3=l7:=by simp at g;omega
  rw [decide_eq_false (fun q=>g (by rw [← z0,← z1,q.2]))] at h
  exact ⟨mr_,h⟩
 have e:a1=a5:=by simpa using ge
 have g:l3=l7:=by simp at g;omega
 rw [show decide (a1=a5/\zs=ys)=decide (zs=ys) by simp [e]] at h
 exact Lp_re [some 0,some 1] (lp13 (i:=0) h0 h1 h2 g (Nat.zero_le _) rfl mr_ h) (wkG mr_)
theorem loadW_row {rs:List FRow} {i:Nat} {r:FRow} (h:rs[i]? =some r):loadW Try.prog 24 ((rs.flatMap rowV).map .raw) (i*2)=some (.agg [I r.1,L r.2.1 r.2.2.1 r.2.2.2]):=by
 have key:∀ (rs:List FRow) (i:Nat),rs[i]? =some r->(((rs.flatMap rowV).map SV.raw).drop (i*2)).take 2=[I r.1,L r.2.1 r.2.2.1 r.2.2.2]:=by
  intro rs
  induction rs with
  | nil=>intro i h;simp at h
  | cons x rs ih=>
   intro i h
   cases i with
   | zero=>simp at h;subst h;simp [rowV]
   | succ i=>
    have:=ih i (by simpa using h)
    rw [show (i+1)*2=i*2+2 by omega,List.flatMap_cons,List.map_append,List.drop_append,List.drop_eq_nil_of_le (by simp [rowV]),List.nil_append]
    simpa [rowV] using this
 have hu:(match Try.prog.underlying 24 with |some (.struct _)=>true|_=>false)=true:=by kernel_rfl
 have hi:(Try.prog.info? 24).map (·.size)=some 2:=by kernel_rfl
 unfold loadW
 split at hu
 ·rename_i fs hfs
  rw [hfs]
  cases hinf:Try.prog.info? 24 with
  | none=>rw [hinf] at hi;cases hi
  | some inf=>
   rw [hinf] at hi
   simp only [Option.map_some,Option.some.injEq] at hi
   simp only [hi,key rs i h]
   rfl
 ·cases hu
theorem FL.load {b:Option Addr} {n c:Nat} {ms:List (Int×List Int)} (h:FL E b n c ms) {i:Nat} {m:Int×List Int} (hm:ms[i]? =some m):
  (∃ cs,E (.slice b n c) cs/\(cs=[]->False))/\∃ (b':Option Addr) (l' c':Nat),LoadE Try.prog E 24 (.slice b n c) (i*2) (.agg [I m.1,L b' l' c'])/\Bs E b' l' c' m.2:=by
 obtain ⟨rs,h1,h2,h3,h4,h5⟩:=h
 have hi:i<ms.length:=(List.getElem?_eq_some_iff.1 hm).1
 have hE:=h4.resolve_left (by omega)
 obtain ⟨r,er⟩:∃ r,rs[i]? =some r:=⟨_,List.getElem?_eq_getElem (by rw [h1.1];exact hi)⟩
 obtain ⟨q1,q2⟩:=h1.2 i r m er hm
 refine ⟨⟨_,hE,fun e=>?_⟩,r.2.1,r.2.2.1,r.2.2.2,⟨_,hE,?_⟩,q2⟩
 ·have:=rows_len rs
  rw [e,h1.1] at this
  simp at this;omega
 ·rw [← q1];exact loadW_row er
theorem FL.len {b:Option Addr} {n c:Nat} {ms:List (Int×List Int)} (h:FL E b n c ms):ms.length=n:=by
 obtain ⟨rs,h1,h2,_⟩:=h;exact h2
theorem calls61 (v1 v2:Value) (xs ys:List Int) (w:World)
  (h1:(convert 22 9 v1).run Try.prog w= .ok (.string (strOfNums xs)) w) (h2:(convert 22 9 v2).run Try.prog w= .ok (.string (strOfNums ys)) w):
  Calls Try.prog 63 #[v1,v2] w fun e w'=>e= .returned (.bool (Lib.bytesOf xs==Lib.bytesOf ys))/\w'=w:=by
 rw [← Lib.strOfNums_toList,← Lib.strOfNums_toList]
 go_enter Try.func63,(show Try.f63.ntmps=10 from rfl)
 go_wp2
 go_ret
 exact ⟨rfl,rfl⟩
theorem bytes_inj:∀ {xs ys:List Int},(∀ z∈xs,0<=z/\z<=255)->(∀ z∈ys,0<=z/\z<=255)->(Lib.bytesOf xs==Lib.bytesOf ys)=decide (xs=ys)
 | [],[],_,_=>rfl
 | [],y::ys,_,_=>by simp [Lib.bytesOf]
 | x::xs,[],_,_=>by simp [Lib.bytesOf]
 | x::xs,y::ys,hx,hy=>by
  have ih:=bytes_inj (xs:=xs) (ys:=ys) (fun z hz=>hx z (List.mem_cons_of_mem _ hz)) (fun z hz=>hy z (List.mem_cons_of_mem _ hz))
  have a:=hx x (by simp)
  have b:=hy y (by simp)
  have e:(UInt8.ofNat x.toNat=UInt8.ofNat y.toNat)↔x=y:=by
   rw [← UInt8.toNat_inj,UInt8.toNat_ofNat',UInt8.toNat_ofNat',Nat.mod_eq_of_lt (by omega),Nat.mod_eq_of_lt (by omega)]
   omega
  have ih2:(Lib.bytesOf xs=Lib.bytesOf ys)↔xs=ys:=by simpa using congrArg (· =true) ih
  rw [Bool.eq_iff_iff]
  show ((UInt8.ofNat x.toNat::Lib.bytesOf xs)==(UInt8.ofNat y.toNat::Lib.bytesOf ys))=true↔_
  simp only [beq_iff_eq,List.cons.injEq,decide_eq_true_eq,e,ih2]
theorem conv61 {b:Option Addr} {l c:Nat} {zs:List Int} (h:Bs E b l c zs) {w:World} (hE:Hold E w):(convert 22 9 (.slice b l c)).run Try.prog w= .ok (.string (strOfNums zs)) w:=by
 have key:∀ zs:List Int,RowAt w (.slice b l c) (zs.map (.int .u8))->zs.length=l->(b=none->zs=[])->(convert 22 9 (.slice b l c)).run Try.prog w= .ok (.string (strOfNums zs)) w:=by
  intro zs hr hl hn
  cases b with
  | none=>
   rw [hn rfl]
   exact run_convert_bytes_nil w 22 5 (by kernel_rfl) (by kernel_rfl) l c 9 (by kernel_rfl)
  | some a=>
   rcases hr with hr|⟨a',n',c',e,hs,hr⟩
   ·rw [List.map_eq_nil_iff] at hr
    subst hr
    obtain rfl:l=0:=by simpa using hl.symm
    rw [run_convert_bytes_string w 22 9 5 (some a) 0 c (by kernel_rfl) (by kernel_rfl) (by kernel_rfl)]
    simp [Conv.bytesToString,loadCells]
    all_goals rfl
   ·cases e
    obtain ⟨bk,o,sp⟩:=a
    simp only at hs
    subst hs
    refine run_convert_bytes_arg w 22 5 (by kernel_rfl) (by kernel_rfl) bk o l c zs hl (fun i hi=>?_) 9 (by kernel_rfl)
    exact hr i _ (by simp [hl,hi])
 rcases h.1 with h1|h1
 ·refine key zs (.inl (by rw [h1];rfl)) h.2.1 h.2.2.2.2
 ·exact key zs (hE _ _ h1) h.2.1 h.2.2.2.2
theorem s61 {b1 b4:Option Addr} {l2 c3 l5 c6:Nat} {xs ys:List Int} (h0:Bs E b1 l2 c3 xs) (h1:Bs E b4 l5 c6 ys) (h:K (B (decide (xs=ys))) E):TabSem Try.prog 63 [L b1 l2 c3,L b4 l5 c6] E K:=by
 refine ⟨⟨_,Try.func63,by kernel_rfl,by kernel_rfl⟩,_,rfl,fun w hw=>(calls61 _ _ xs ys w (conv61 h0 hw) (conv61 h1 hw)).mono ?_⟩
 rintro e w' ⟨rfl,rfl⟩
 rw [bytes_inj h0.2.2.2.1 h1.2.2.2.1]
 exact ⟨_,_,E,rfl,rfl,Keep.refl _ _,mr_,hw,fun v cs g hne=>.inr ⟨v,cs,g,hne,rfl⟩,h⟩
def numF (zs:List Int):Int:=zs.foldl (fun n x=>256*n+x) 0
theorem numF_take {zs:List Int} {i:Nat} {x:Int} (h:zs[i]? =some x):numF (zs.take (i+1))=256*numF (zs.take i)+x:=by
 unfold numF;rw [take_get' h];simp
theorem numF_bd:∀ {zs:List Int},(∀ z∈zs,0<=z/\z<=255)->0<=numF zs/\numF zs<256 ^ zs.length:=by
 have key:∀ (zs:List Int) (n:Int),0<=n->(∀ z∈zs,0<=z/\z<=255)->0<=zs.foldl (fun n x=>256*n+x) n/\zs.foldl (fun n x=>256*n+x) n<(n+1)*256 ^ zs.length:=by
  intro zs
  induction zs with
  | nil=>intro n h _;simp;omega
  | cons x zs ih=>
   intro n h hz
   have hx:=hz x (by simp)
   obtain ⟨h1,h2⟩:=ih (256*n+x) (by omega) (fun z hz'=>hz z (List.mem_cons_of_mem _ hz'))
   refine ⟨h1,?_⟩
   simp only [List.foldl_cons,List.length_cons]
   refine Int.lt_of_lt_of_le h2 ?_
   rw [Int.pow_succ,← Int.mul_assoc,Int.mul_right_comm]
   refine Int.mul_le_mul_of_nonneg_right (by omega) ?_
   have :(0:Int)<256 ^ zs.length:=Int.pow_pos (by decide)
   omega
 intro zs hz
 have:=key zs 0 (by decide) hz
 unfold numF
 simpa using this
def storF (n:Int):Nat->List Int
 | 0=>[]
 | i+1=>(n / 256 ^ i) % 256::storF n i
theorem storF_len (n:Int):∀ i,(storF n i).length=i
 | 0=>rfl
 | i+1=>by simp [storF,storF_len n i]
theorem storF_byte (n:Int):∀ i,∀ z∈storF n i,0<=z/\z<=255
 | 0,z,h=>by cases h
 | i+1,z,h=>by
  rcases List.mem_cons.1 h with rfl|h
  ·omega
  ·exact storF_byte n i z h
def stepF (s x:Int):Int:=IntKind.wrap .u64 (IntKind.wrap .u64 (((BitVec.ofInt (IntKind.bits .u64) s ^^^ BitVec.ofInt (IntKind.bits .u64) x).toNat:Nat):Int)*1099511628211)
def fnvF (s:Int) (zs:List Int):Int:=zs.foldl stepF s
theorem fnvF_take {s:Int} {zs:List Int} {i:Nat} {x:Int} (h:zs[i]? =some x):fnvF s (zs.take (i+1))=stepF (fnvF s (zs.take i)) x:=by
 unfold fnvF;rw [take_get' h];simp
def sumF (zs:List Int):Int:=fnvF 14695981039346656037 zs
theorem wu64' {x:Int} (h:0<=x/\x<18446744073709551616):IntKind.wrap .u64 x=x:=by
 rw [show IntKind.wrap .u64 x=x % 18446744073709551616 from rfl];omega
theorem or8 {n x:Int} (h:0<=n/\n<1099511627776) (hx:0<=x/\x<=255):IntKind.wrap .i64 (((BitVec.ofInt (IntKind.bits .i64) (IntKind.wrap .i64 (n*2 ^ min (Int.toNat 8) (IntKind.bits .i64)))|||BitVec.ofInt (IntKind.bits .i64) (IntKind.wrap .i64 x)).toNat:Nat):Int)=256*n+x:=by
 obtain ⟨a,rfl⟩:∃ a:Nat,n=a:=⟨n.toNat,by omega⟩
 obtain ⟨b,rfl⟩:∃ b:Nat,x=b:=⟨x.toNat,by omega⟩
 rw [show min (Int.toNat 8) (IntKind.bits .i64)=8 from rfl,show (2:Int) ^ 8=256 from rfl,wrap_i64 (x:=(a:Int)*256) (by omega),wrap_i64 (x:=(b:Int)) (by omega),show IntKind.bits .i64=64 from rfl,
  show ((a:Int)*256)=((a*256:Nat):Int) by simp,BitVec.toNat_or,BitVec.ofInt_natCast,BitVec.ofInt_natCast,BitVec.toNat_ofNat,BitVec.toNat_ofNat,Nat.mod_eq_of_lt (by omega),Nat.mod_eq_of_lt (by omega)]
 have e:a*256|||b=a*256+b:=by
  have:=Nat.shiftLeft_add_eq_or_of_lt (i:=8) (b:=b) (by omega) a
  rw [Nat.shiftLeft_eq] at this
  exact this.symm
 rw [e,wrap_i64 (by omega)];omega
theorem numF_small {zs:List Int} {l:Nat} (hz:∀ z∈zs,0<=z/\z<=255) (hl:zs.length=l) (h4:l<=4) (i:Nat):0<=numF (zs.take i)/\numF (zs.take i)<4294967296:=by
 obtain ⟨h1,h2⟩:=numF_bd (zs:=zs.take i) (fun z h=>hz z (List.mem_of_mem_take h))
 refine ⟨h1,Int.lt_of_lt_of_le h2 ?_⟩
 have hk:(zs.take i).length<=4:=by rw [List.length_take];omega
 have :∀ k:Nat,k<=4->(256:Int) ^ k<=4294967296:=by decide
 exact this _ hk
theorem Bs.get {b:Option Addr} {l c:Nat} {zs:List Int} (h:Bs E b l c zs) {i:Nat} (hi:i<l):zs[i]? =some (zs.getD i 0)/\0<=zs.getD i 0/\zs.getD i 0<=255:=by
 have hl:i<zs.length:=by rw [h.2.1];exact hi
 have e:zs[i]? =some (zs.getD i 0):=by rw [List.getD_eq_getElem?_getD,List.getElem?_eq_getElem hl];rfl
 exact ⟨e,h.2.2.2.1 _ (List.mem_of_getElem? e)⟩
noncomputable def J1:Cx:={ P:=Try.prog,inl:=fun f=>List.contains [] f,tab:=fun _ _ _ _=>False,isB:=fun _=>false,tabB:=fun _ _ _ _ _=>False,opt:={ unroll:=0,carry:=[3,8] },muts:=mutsD }
theorem okJ1:CxOK J1:=CxOK.four (fun _ _ _ _ h=>h.elim) (by kernel_rfl) (okInl (by kernel_rfl)) (fun _ _ _ _ _ h=>h.elim)
def sh43 (b:Option Addr) (l:Nat) (c:Nat) (zs:List Int) (i:Nat) (E:Mem):St:=⟨[none,none,none,oI (numF (zs.take i)),none,none,oL b l c,oI (l:Nat),oI (i:Nat),none,none,none,none,none,none,none,none,none,none],[],E⟩
theorem rnd43 {b:Option Addr} {l:Nat} {c:Nat} {zs:List Int} {i:Nat} {E0:Mem} (hz:Bs E b l c zs) (hl:l<=4) (hi:i<=l) (hE:Mem.le E0 E) (h:K (I (numF zs)) E)
  (ih:(i<l)->Lp J1 8 Try.f62 [1,1,0,1,0] 0 (pubK E0 K) (sh43 b l c zs (i+1) E)):Rnd J1 8 Try.f62 [1,1,0,1,0] 0 (pubK E0 K) (sh43 b l c zs i E):=by
 refine sm_ (?_:bif decide ((NI i)<(NI l)) then req (0<=(NI i)/\(NI i)<(NI l)) ((∃ (cs:List Value),E (VS b l c) cs/\(cs=[]->False))/\∃ (n:Int),LoadE J1.P E 5 (VS b l c) (Int.toNat (NI i)*1) (SV.raw (U8 n))/\Lp J1 8 Try.f62 [1,1,0,1,0] 0 (pubK E0 K) { fr:=none::none::none::oI (WI (NI (BitVec.toNat (BitVec.ofInt (IntKind.bits IntKind.i64) (WI (numF (List.take i zs)*(2:Int) ^ min (Int.toNat 8) (IntKind.bits IntKind.i64)))|||BitVec.ofInt (IntKind.bits IntKind.i64) (WI n)))))::none::none::oL b l c::oI (NI l)::oI (WI ((NI i)+1))::no8 (no2 []),bx:=[],E:=E:St }) else Mem.le E0 E/\K (I (numF (List.take i zs))) E)
 delta WI NI U8 VS no2 no8
 have hn:=hz.2.1
 refine condC (fun g=>?_) (fun g=>?_)
 ·have g:i<l:=by simpa using g
  obtain ⟨e,b1,b2⟩:=Bs.get hz g
  have sm:=numF_small hz.2.2.2.1 hn hl i
  refine req_intro (by omega) ⟨Bs.ne hz g,zs.getD i 0,Bs.load hz rfl g,?_⟩
  rw [or8 (by omega) ⟨b1,b2⟩,← numF_take e,wrap_i64 (x:=(i:Int)+1) (by omega),show (i:Int)+1=((i+1:Nat):Int) by simp]
  exact Lp_re [] (ih g) (wkG mr_)
 ·have g:i=l:=by simp at g;omega
  subst g
  rw [List.take_of_length_le (by omega)]
  exact ⟨hE,h⟩
theorem lp43 {b:Option Addr} {l:Nat} {c:Nat} {zs:List Int} {i:Nat} {E0:Mem} (hz:Bs E b l c zs) (hl:l<=4) (hi:i<=l) (hE:Mem.le E0 E) (h:K (I (numF zs)) E):Lp J1 8 Try.f62 [1,1,0,1,0] 0 (pubK E0 K) (sh43 b l c zs i E):=
 Lp_ind okJ1 (fun q0:{i:Nat//i<=l}=>sh43 b l c zs q0.1 E) (fun q0=>l-q0.1) (fun q0 ih=>rnd43 hz hl q0.2 hE h fun g=>ih ⟨q0.1+1,by have:=q0.2;omega⟩ (by show l-(_+1)<l-_;have:=q0.2;omega)) ⟨i,hi⟩
theorem s43 {b1:Option Addr} {l2:Nat} {c3:Nat} {zs:List Int} (h0:Bs E b1 l2 c3 zs) (h1:l2<=4) (h:K (I (numF zs)) E):
  Ent J1 8 Try.f62 [L b1 l2 c3] E K:=by
 refine sm_ (?_:Lp J1 8 Try.f62 [1,1,0,1,0] 0 (pubK E K) { fr:=some (L b1 l2 c3)::none::oI 0::oI 0::none::none::oL b1 l2 c3::oI (NI l2)::oI 0::no8 (no2 []),bx:=[],E:=E:St })
 delta NI no2 no8
 exact Lp_re [] (lp43 (i:=0) h0 h1 (Nat.zero_le _) mr_ h) (wkG mr_)
theorem CallSem.see {P:Program} {f:FuncId} {bx:List Box} {b:Nat} {e:TypeId} {vs:List Value} {tot:Nat} {args args':List SV} {E:Mem} {K:KT} (hb:bx[b]? =some ⟨e,.vals vs,tot,true⟩) (ha:args=SV.renL [b] bx.length args')
  (h:CallSem P f args' [⟨e,.vals vs,tot,true⟩] E (cloK 1 fun s bx' E'=>∃ r:Value,s= .raw r/\bx'=[⟨e,.vals vs,tot,true⟩]/\K (.raw r) bx E')):CallSem P f args bx E K:=by
 refine frame (σ:=[b]) ⟨by simp,rfl,fun i y hy=>?_⟩ ha h.clo ?_
 ·match i,hy with
  | 0,hy=>
   simp only [List.getElem?_cons_zero,Option.some.injEq] at hy;subst hy
   exact ⟨rfl,b,rfl,hb⟩
 ·rintro s bxs' E' ⟨r,rfl,rfl,hK⟩
  have e2:bx.set b ⟨e,.vals vs,tot,true⟩=bx:=by
   apply List.ext_getElem?
   intro i
   rw [List.getElem?_set]
   split
   ·rename_i h';subst h'
    have hlt:b<bx.length:=(List.getElem?_eq_some_iff.1 hb).1
    simp only [hlt,if_true];exact hb.symm
   ·rfl
  simpa [merge,setAll,SV.ren,renF,Box.ren,Row.ren,SV.renL,e2] using hK
def sumD (b:Nat) (l:Nat) (bx:List Box) (k:List Int->Prop):Prop:=match bx[b]? with
 | some ⟨e,.vals vs,tot,true⟩=>∃ zs:List Int,(e=5/\vs=vB zs/\l<=zs.length/\l<=100000/\∀ z∈zs,0<=z/\z<=255)/\k (zs.take l)
 | _=>False
theorem sumD_elim {b l:Nat} {bx:List Box} {k:List Int->Prop} (h:sumD b l bx k):∃ (tot:Nat) (zs:List Int),bx[b]? =some ⟨5,.vals (vB zs),tot,true⟩/\((∀ z∈zs,0<=z/\z<=255)/\l<=zs.length/\l<=100000)/\k (zs.take l):=by
 unfold sumD at h
 split at h
 case h_2=>exact h.elim
 rename_i e vs tot hb
 obtain ⟨zs,⟨rfl,rfl,h1,h2,h3⟩,h4⟩:=h
 exact ⟨tot,zs,hb,⟨h3,h1,h2⟩,h4⟩
noncomputable def D1:Cx:={ P:=Try.prog,inl:=fun f=>List.contains [83,84] f,tab:=fun _ _ _ _=>False,isB:=fun _=>false,tabB:=fun _ _ _ _ _=>False,opt:={ unroll:=0,carry:=[],cuts:=[] },muts:=mutsD }
theorem okD1:CxOK D1:=CxOK.four (fun _ _ _ _ h=>h.elim) (by kernel_rfl) (okInl (by kernel_rfl)) (fun _ _ _ _ _ h=>h.elim)
noncomputable def D2:Cx:={ P:=Try.prog,inl:=fun f=>List.contains [] f,tab:=fun _ _ _ _=>False,isB:=fun _=>false,tabB:=fun _ _ _ _ _=>False,opt:={ unroll:=0,carry:=[9,15] },muts:=(fun o=>match o with | .call { callee:=.value (.tmp 19),.. }=>true|o=>mutsD o) }
theorem okD2:CxOK D2:=CxOK.four (fun _ _ _ _ h=>h.elim) (by kernel_rfl) (okInl (by kernel_rfl)) (fun _ _ _ _ _ h=>h.elim)
abbrev fr76 (a:Int) (l c:Nat):List (Option SV):=[some (.raw (.int .u64 a)),os 0 0 l c,none,none,some (.raw (.int .u64 0)),oc 1 0,none,some (.raw (.int .u64 a)),os 0 0 l c,os 2 0 1 1,some (.clo 90 [] [.loc 3 0]),none,none,none,none,none]
abbrev bx76 (n:Int) (l c tot:Nat) (zs:List Int):List Box:=[⟨5,.vals (vB zs),tot,true⟩,⟨108,.lst [.raw (.int .u64 n)],1,true⟩,⟨22,.lst [.slc 0 0 l c],1,true⟩,⟨119,.lst [.slc 2 0 1 1],1,true⟩]
noncomputable def DY (a:Int) (l c:Nat) (rc:Rc):Cx:=YCx D2 D1 8 (fr76 a l c) (sub (bodyOf Try.f56) [1,1,0,1,0]) rc
def sh79o (n:Int) (l c tot:Nat) (zs:List Int) (rc:Rc) (i:Nat) (E:Mem):St:=⟨[some (.raw (.func (.yield rc.l) #[] #[])),none,none,none,none,none,none,os 2 0 1 1,oI 1,oI (i:Nat),none,none,none,none,none,none,none,none,none,none,none,none,none,none,none,none],bx76 n l c tot zs,E⟩
def sh79i (n:Int) (l c tot:Nat) (zs:List Int) (rc:Rc) (j:Nat) (E:Mem):St:=⟨[some (.raw (.func (.yield rc.l) #[] #[])),none,none,none,none,none,none,os 2 0 1 1,oI 1,oI 0,none,none,none,os 0 0 l c,oI (l:Nat),oI (j:Nat),none,none,none,none,none,none,none,none,none,none],bx76 n l c tot zs,E⟩
theorem rnd79z {a n:Int} {l c tot:Nat} {rc:Rc} {K:KT} {zs:List Int} (h:Cn D1 8 Try.f56 [1,1,0,1,0] 1 K ⟨fr76 a l c,bx76 n l c tot zs,E⟩):Rnd (DY a l c rc) 8 Try.f90 [1,0] 4 (fun _ bx E=>Cn D1 8 Try.f56 [1,1,0,1,0] 1 K ⟨fr76 a l c,bx,E⟩) (sh79o n l c tot zs rc 1 E):=by
 refine sm_ (?_:Cn D1 8 Try.f56 [1,1,0,1,0] 1 K { fr:=[some (SV.raw (Value.int IntKind.u64 a)),os 0 0 l c,none,none,some (SV.raw (Value.int IntKind.u64 (0:Int))),oc 1 0,none,some (SV.raw (Value.int IntKind.u64 a)),os 0 0 l c,os 2 0 1 1,some (SV.clo 90 [] [SV.loc 3 0]),none,none,none,none,none],bx:=[(⟨5,Row.vals (vB zs),tot,true⟩:Box),⟨108,Row.lst [SV.raw (Value.int IntKind.u64 n)],1,true⟩,⟨22,Row.lst [SV.slc 0 0 l c],1,true⟩,⟨119,Row.lst [SV.slc 2 0 1 1],1,true⟩],E:=E:St })
 exact h
theorem rnd79i {a n:Int} {l c j tot:Nat} {rc:Rc} {K:KT} {zs:List Int} (hz:(∀ z∈zs,0<=z/\z<=255)/\l<=zs.length/\l<=100000) (hj:j<=l) (hn:n=fnvF a (zs.take j)) (h:Lp (DY a l c rc) 8 Try.f90 [1,0] 4 (fun _ bx E=>Cn D1 8 Try.f56 [1,1,0,1,0] 1 K ⟨fr76 a l c,bx,E⟩) (sh79o (fnvF a (zs.take l)) l c tot zs rc 1 E))
  (ih:j<l->Lp (DY a l c rc) 8 Try.f90 [1,0,0,1,1,0,0,1,1,0] 4 (fun _ bx E=>Cn D1 8 Try.f56 [1,1,0,1,0] 1 K ⟨fr76 a l c,bx,E⟩) (sh79i (fnvF a (zs.take (j+1))) l c tot zs rc (j+1) E)):Rnd (DY a l c rc) 8 Try.f90 [1,0,0,1,1,0,0,1,1,0] 4 (fun _ bx E=>Cn D1 8 Try.f56 [1,1,0,1,0] 1 K ⟨fr76 a l c,bx,E⟩) (sh79i n l c tot zs rc j E):=by
 refine sm_ (?_:bif decide ((NI j)<(NI l)) then req (0<=(NI j)/\(NI j)<(NI l)) (∃ (n_1:Int),LoadV (DY a l c rc).P 5 (vB zs) (0+Int.toNat (NI j)*1) (SV.raw (U8 n_1))/\rc.l=rc.l/\Mem.le E E/\Lp (DY a l c rc) 8 Try.f90 [1,0,0,1,1,0,0,1,1,0] 4 (fun (x:SV) (bx:List Box) (E:Mem)=>Cn D1 8 Try.f56 [1,1,0,1,0] 1 K { fr:=fr76 a l c,bx:=bx,E:=E:St }) { fr:=some (SV.raw (Value.func (Fn.yield rc.l) #[] #[]))::no4 (no2 (os 2 0 1 1::oI 1::oI 0::none::none::none::os 0 0 l c::oI (NI l)::oI (WI ((NI j)+1))::no8 (no2 []))),bx:=[(⟨5,.vals (vB zs),tot,true⟩:Box),⟨108,.lst [SV.raw (Value.int IntKind.u64 (IntKind.wrap IntKind.u64 (IntKind.wrap IntKind.u64 (NI (BitVec.toNat (BitVec.ofInt (IntKind.bits IntKind.u64) n ^^^ BitVec.ofInt (IntKind.bits IntKind.u64) (IntKind.wrap IntKind.u64 n_1))))*(1099511628211:Int))))],1,true⟩,⟨22,.lst [SV.slc 0 0 l c],1,true⟩,⟨119,.lst [SV.slc 2 0 1 1],1,true⟩],E:=E:St }) else Lp (DY a l c rc) 8 Try.f90 [1,0] 4 (fun (x:SV) (bx:List Box) (E:Mem)=>Cn D1 8 Try.f56 [1,1,0,1,0] 1 K { fr:=fr76 a l c,bx:=bx,E:=E:St }) { fr:=some (SV.raw (Value.func (Fn.yield rc.l) #[] #[]))::no4 (no2 (os 2 0 1 1::oI 1::oI 1::none::none::none::none::none::oI (NI j)::no8 (no2 []))),bx:=[(⟨5,.vals (vB zs),tot,true⟩:Box),⟨108,.lst [SV.raw (Value.int IntKind.u64 n)],1,true⟩,⟨22,.lst [SV.slc 0 0 l c],1,true⟩,⟨119,.lst [SV.slc 2 0 1 1],1,true⟩],E:=E:St })
 delta WI NI U8 no2 no4 no8
 obtain ⟨hb,hn0,hl⟩:=hz
 refine condC (fun g=>?_) (fun g=>?_)
 ·have g:j<l:=by simpa using g
  have e:zs[j]? =some (zs.getD j 0):=by rw [List.getD_eq_getElem?_getD,List.getElem?_eq_getElem (by omega)];rfl
  obtain ⟨b1,b2⟩:=hb _ (List.mem_of_getElem? e)
  refine req_intro (by omega) ⟨zs.getD j 0,?_,rfl,mr_,?_⟩
  ·show LoadV _ _ (vB zs) (0+((j:Nat):Int).toNat*1) _
   rw [show 0+((j:Nat):Int).toNat*1=j by omega]
   exact loadV_byte rfl (by omega)
  subst hn
  rw [wu64' (x:=zs.getD j 0) (by omega),show IntKind.wrap .u64 (IntKind.wrap .u64 (((BitVec.ofInt (IntKind.bits .u64) (fnvF a (zs.take j)) ^^^ BitVec.ofInt (IntKind.bits .u64) (zs.getD j 0)).toNat:Nat):Int)*1099511628211)=stepF (fnvF a (zs.take j)) (zs.getD j 0) from rfl,← fnvF_take e,wrap_i64 (x:=(j:Int)+1) (by omega),show (j:Int)+1=((j+1:Nat):Int) by simp]
  exact Lp_re [some 0,some 1,some 2,some 3] (ih g) (wkG mr_)
 ·have g:j=l:=by simp at g;omega
  subst g
  subst hn
  exact Lp_re [some 0,some 1,some 2,some 3] (h) (wkG mr_)
theorem rnd79o {a:Int} {l c tot:Nat} {rc:Rc} {K:KT} {zs:List Int} (h:Lp (DY a l c rc) 8 Try.f90 [1,0,0,1,1,0,0,1,1,0] 4 (fun _ bx E=>Cn D1 8 Try.f56 [1,1,0,1,0] 1 K ⟨fr76 a l c,bx,E⟩) (sh79i a l c tot zs rc 0 E)):Rnd (DY a l c rc) 8 Try.f90 [1,0] 4 (fun _ bx E=>Cn D1 8 Try.f56 [1,1,0,1,0] 1 K ⟨fr76 a l c,bx,E⟩) (sh79o a l c tot zs rc 0 E):=by
 refine sm_ (?_:Lp (DY a l c rc) 8 Try.f90 [1,0,0,1,1,0,0,1,1,0] 4 (fun (x:SV) (bx:List Box) (E:Mem)=>Cn D1 8 Try.f56 [1,1,0,1,0] 1 K { fr:=fr76 a l c,bx:=bx,E:=E:St }) { fr:=[some (SV.raw (Value.func (Fn.yield rc.l) #[] #[])),none,none,none,os 0 0 l c,none,none,os 2 0 1 1,oI (1:Int),oI (0:Int),oB true,oc 2 0,os 0 0 l c,os 0 0 l c,oI (↑l:Int),oI (0:Int),none,none,none,none,none,none,none,none,none,none],bx:=[(⟨5,Row.vals (vB zs),tot,true⟩:Box),⟨108,Row.lst [SV.raw (Value.int IntKind.u64 a)],1,true⟩,⟨22,Row.lst [SV.slc 0 0 l c],1,true⟩,⟨119,Row.lst [SV.slc 2 0 1 1],1,true⟩],E:=E:St })
 exact Lp_re [some 0,some 1,some 2,some 3] (h) (wkG mr_)
theorem ent79 {a:Int} {l c tot:Nat} {rc:Rc} {K:KT} {zs:List Int} (h:Lp (DY a l c rc) 8 Try.f90 [1,0] 4 (fun _ bx E=>Cn D1 8 Try.f56 [1,1,0,1,0] 1 K ⟨fr76 a l c,bx,E⟩) (sh79o a l c tot zs rc 0 E)):EntB (DY a l c rc) 8 Try.f90 [.raw (.func (.yield rc.l) #[] #[]),.loc 3 0] (bx76 a l c tot zs) E (fun _ bx E=>Cn D1 8 Try.f56 [1,1,0,1,0] 1 K ⟨fr76 a l c,bx,E⟩):=by
 refine sm_ (?_:Lp (DY a l c rc) 8 Try.f90 [1,0] 4 (fun (x:SV) (bx:List Box) (E:Mem)=>Cn D1 8 Try.f56 [1,1,0,1,0] 1 K { fr:=fr76 a l c,bx:=bx,E:=E:St }) { fr:=some (SV.raw (Value.func (Fn.yield rc.l) #[] #[]))::oc 3 0::none::none::none::none::none::os 2 0 1 1::oI 1::oI 0::no16 [],bx:=[(⟨5,.vals (vB zs),tot,true⟩:Box),⟨108,.lst [SV.raw (Value.int IntKind.u64 a)],1,true⟩,⟨22,.lst [SV.slc 0 0 l c],1,true⟩,⟨119,.lst [SV.slc 2 0 1 1],1,true⟩],E:=E:St })
 delta no16
 exact Lp_re [some 0,some 1,some 2,some 3] (h) (wkG mr_)
theorem cn76 {a n:Int} {l c tot:Nat} {K:KT} {zs:List Int} (h:K (.raw (.int .u64 n)) (bx76 n l c tot zs) E):Pn D1 8 Try.f56 [1,1,0,1,0] 1 K ⟨fr76 a l c,bx76 n l c tot zs,E⟩:=by
 refine sm_ (?_:K (SV.raw (Value.int IntKind.u64 n)) [⟨5,Row.vals (vB zs),tot,true⟩,⟨108,Row.lst [SV.raw (Value.int IntKind.u64 n)],1,true⟩,⟨22,Row.lst [SV.slc 0 0 l c],1,true⟩,⟨119,Row.lst [SV.slc 2 0 1 1],1,true⟩] E)
 exact h
theorem lp79z {a n:Int} {l c tot:Nat} {rc:Rc} {K:KT} {zs:List Int} (hC:CxOK (DY a l c rc)) (h:Cn D1 8 Try.f56 [1,1,0,1,0] 1 K ⟨fr76 a l c,bx76 n l c tot zs,E⟩):Lp (DY a l c rc) 8 Try.f90 [1,0] 4 (fun _ bx E=>Cn D1 8 Try.f56 [1,1,0,1,0] 1 K ⟨fr76 a l c,bx,E⟩) (sh79o n l c tot zs rc 1 E):=
 Lp_ind (ι:=Unit) hC (fun _=>sh79o n l c tot zs rc 1 E) (fun _=>0) (fun _ _=>rnd79z h) ()
theorem lp79i {a n:Int} {l c j tot:Nat} {rc:Rc} {K:KT} {zs:List Int} (hC:CxOK (DY a l c rc)) (hz:(∀ z∈zs,0<=z/\z<=255)/\l<=zs.length/\l<=100000) (hj:j<=l) (hn:n=fnvF a (zs.take j)) (h:Cn D1 8 Try.f56 [1,1,0,1,0] 1 K ⟨fr76 a l c,bx76 (fnvF a (zs.take l)) l c tot zs,E⟩):Lp (DY a l c rc) 8 Try.f90 [1,0,0,1,1,0,0,1,1,0] 4 (fun _ bx E=>Cn D1 8 Try.f56 [1,1,0,1,0] 1 K ⟨fr76 a l c,bx,E⟩) (sh79i n l c tot zs rc j E):=by
 subst hn
 exact Lp_ind hC (fun y:{y:Nat//y<=l}=>sh79i (fnvF a (zs.take y.1)) l c tot zs rc y.1 E) (fun y=>l-y.1) (fun y ih=>rnd79i hz y.2 rfl (lp79z hC h) fun g=>ih ⟨y.1+1,by omega⟩ (by show l-(_+1)<l-_;omega)) ⟨j,hj⟩
theorem lp79o {a:Int} {l c tot:Nat} {rc:Rc} {K:KT} {zs:List Int} (hC:CxOK (DY a l c rc)) (hz:(∀ z∈zs,0<=z/\z<=255)/\l<=zs.length/\l<=100000) (h:Cn D1 8 Try.f56 [1,1,0,1,0] 1 K ⟨fr76 a l c,bx76 (fnvF a (zs.take l)) l c tot zs,E⟩):Lp (DY a l c rc) 8 Try.f90 [1,0] 4 (fun _ bx E=>Cn D1 8 Try.f56 [1,1,0,1,0] 1 K ⟨fr76 a l c,bx,E⟩) (sh79o a l c tot zs rc 0 E):=
 Lp_ind (ι:=Unit) hC (fun _=>sh79o a l c tot zs rc 0 E) (fun _=>0) (fun _ _=>rnd79o (lp79i hC hz (Nat.zero_le _) rfl h)) ()
theorem b76 {KK:KT} {a:Int} {l c tot:Nat} {zs:List Int} (hz:(∀ z∈zs,0<=z/\z<=255)/\l<=zs.length/\l<=100000) (h:KK (.raw (.int .u64 (fnvF a (zs.take l)))) (bx76 (fnvF a (zs.take l)) l c tot zs) E):EntB D1 8 Try.f56 [.raw (.int .u64 a),.slc 0 0 l c] [⟨5,.vals (vB zs),tot,true⟩] E KK:=by
 refine sm_ (?_:Ct D1 8 Try.f56 [1,1,0,1,0] 1 KK { fr:=[some (SV.raw (Value.int IntKind.u64 a)),os 0 0 l c,none,none,some (SV.raw (Value.int IntKind.u64 (0:Int))),oc 1 0,none,some (SV.raw (Value.int IntKind.u64 a)),os 0 0 l c,os 2 0 1 1,some (SV.clo 90 [] [SV.loc 3 0]),none,none,none,none,none],bx:=[(⟨5,Row.vals (vB zs),tot,true⟩:Box),⟨108,Row.lst [SV.raw (Value.int IntKind.u64 a)],1,true⟩,⟨22,Row.lst [SV.slc 0 0 l c],1,true⟩,⟨119,Row.lst [SV.slc 2 0 1 1],1,true⟩],E:=E:St })
 exact RfY okD1 okD2 (by kernel_rfl) (by kernel_rfl) Try.func90 ⟨by kernel_rfl,by kernel_rfl⟩ (gf:=90) (gfn:=Try.f90) (first:=[]) (caps:=[.loc 3 0]) (m:=8) (fun rc hrc=>ent79 (lp79o hrc hz (Cn_intro (cn76 h)))) rfl rfl
noncomputable def tabB76:CallT:=fun f args bx E K=>match f with
 | 56=>d2 args fun x0 x1=>dN .u64 x0 fun a=>match x1 with
  | .slc b 0 l c=>sumD b l bx fun zs=>K (.raw (.int .u64 (fnvF a zs))) bx E
  | _=>False
 | _=>False
theorem see_introN {K:KT} {vs:List Value} {tot:Nat} {bx:List Box} {r:Value} {y:Box} {more:List Box} (h:K (.raw r) bx E) (hy:y=⟨5,.vals vs,tot,true⟩):cloK 1 (fun s bx' E'=>∃ r:Value,s= .raw r/\bx'=[⟨5,.vals vs,tot,true⟩]/\K (.raw r) bx E') (.raw r) (y::more) E:=by
 subst hy
 exact cloK_intro [some 0] ⟨r,rfl,rfl,h⟩ (wkG mr_)
theorem tabB76_ok:∀ f args bx E K,tabB76 f args bx E K->CallSem Try.prog f args bx E K:=by
 intro f args bx E K h
 unfold tabB76 at h
 split at h
 case h_2=>exact h.elim
 obtain ⟨x0,x1,rfl,h1⟩:=d2_elim h
 obtain ⟨a,rfl,h2⟩:=dN_elim h1
 clear h h1
 split at h2
 case h_2=>exact h2.elim
 rename_i b l c
 obtain ⟨tot,zs,hb,hz,h⟩:=sumD_elim h2
 exact CallSem.see (args':=[.raw (.int .u64 a),.slc 0 0 l c]) hb (by simp [SV.renL,SV.ren,renF]) (bsm okD1 Try.func56 (b76 hz (see_introN h rfl)))
noncomputable def D3:Cx:={ P:=Try.prog,inl:=fun f=>List.contains [] f,tab:=fun _ _ _ _=>False,isB:=fun f=>f==56,tabB:=tabB76,opt:={ unroll:=0,carry:=[] },muts:=mutsD }
theorem okD3:CxOK D3:=CxOK.four (fun _ _ _ _ h=>h.elim) (by kernel_rfl) (okInl (by kernel_rfl)) tabB76_ok
theorem b68 {KK:KT} {l c tot:Nat} {zs:List Int} (hz:(∀ z∈zs,0<=z/\z<=255)/\l<=zs.length/\l<=100000) (h:KK (.raw (.int .u64 (sumF (zs.take l)))) [⟨5,.vals (vB zs),tot,true⟩] E):EntB D3 8 Try.f57 [.slc 0 0 l c] [⟨5,.vals (vB zs),tot,true⟩] E KK:=by
 refine sm_ (?_:IntKind.u64=IntKind.u64/\∃ (zs_1:List Int),(5=5/\vB zs=vB zs_1/\l<=List.length zs_1/\l<=100000/\∀ (z:Int),List.Mem z zs_1->(0:Int)<=z/\z<=(255:Int))/\KK (SV.raw (Value.int IntKind.u64 (fnvF (14695981039346656037:Int) (List.take l zs_1)))) [⟨5,Row.vals (vB zs),tot,true⟩] E)
 exact ⟨rfl,zs,⟨rfl,rfl,hz.2.1,hz.2.2,hz.1⟩,h⟩
abbrev fr76R (a:Int) (b:Option Addr) (l c:Nat):List (Option SV):=[some (.raw (.int .u64 a)),oL b l c,none,none,some (.raw (.int .u64 0)),oc 0 0,none,some (.raw (.int .u64 a)),oL b l c,os 1 0 1 1,some (.clo 90 [] [.loc 2 0]),none,none,none,none,none]
abbrev bx76R (n:Int) (b:Option Addr) (l c:Nat):List Box:=[⟨108,.lst [.raw (.int .u64 n)],1,true⟩,⟨22,.lst [L b l c],1,true⟩,⟨119,.lst [.slc 1 0 1 1],1,true⟩]
noncomputable def DYR (a:Int) (b:Option Addr) (l c:Nat) (rc:Rc):Cx:=YCx D2 D1 8 (fr76R a b l c) (sub (bodyOf Try.f56) [1,1,0,1,0]) rc
def sh79oR (n:Int) (b:Option Addr) (l c:Nat) (rc:Rc) (i:Nat) (E:Mem):St:=⟨[some (.raw (.func (.yield rc.l) #[] #[])),none,none,none,none,none,none,os 1 0 1 1,oI 1,oI (i:Nat),none,none,none,none,none,none,none,none,none,none,none,none,none,none,none,none],bx76R n b l c,E⟩
def sh79iR (n:Int) (b:Option Addr) (l c:Nat) (rc:Rc) (j:Nat) (E:Mem):St:=⟨[some (.raw (.func (.yield rc.l) #[] #[])),none,none,none,none,none,none,os 1 0 1 1,oI 1,oI 0,none,none,none,oL b l c,oI (l:Nat),oI (j:Nat),none,none,none,none,none,none,none,none,none,none],bx76R n b l c,E⟩
theorem rnd79zR {a n:Int} {b:Option Addr} {l c:Nat} {rc:Rc} {K:KT} (h:Cn D1 8 Try.f56 [1,1,0,1,0] 0 K ⟨fr76R a b l c,bx76R n b l c,E⟩):Rnd (DYR a b l c rc) 8 Try.f90 [1,0] 3 (fun _ bx E=>Cn D1 8 Try.f56 [1,1,0,1,0] 0 K ⟨fr76R a b l c,bx,E⟩) (sh79oR n b l c rc 1 E):=by
 refine sm_ (?_:Cn D1 8 Try.f56 [1,1,0,1,0] 0 K { fr:=[some (SV.raw (Value.int IntKind.u64 a)),oL b l c,none,none,some (SV.raw (Value.int IntKind.u64 (0:Int))),oc 0 0,none,some (SV.raw (Value.int IntKind.u64 a)),oL b l c,os 1 0 1 1,some (SV.clo 90 [] [SV.loc 2 0]),none,none,none,none,none],bx:=[(⟨108,Row.lst [SV.raw (Value.int IntKind.u64 n)],1,true⟩:Box),⟨22,Row.lst [L b l c],1,true⟩,⟨119,Row.lst [SV.slc 1 0 1 1],1,true⟩],E:=E:St })
 exact h
theorem rnd79iR {a n:Int} {b:Option Addr} {l c j:Nat} {rc:Rc} {K:KT} {zs:List Int} (hz:Bs E b l c zs/\l<=100000) (hj:j<=l) (hn:n=fnvF a (zs.take j)) (h:Lp (DYR a b l c rc) 8 Try.f90 [1,0] 3 (fun _ bx E=>Cn D1 8 Try.f56 [1,1,0,1,0] 0 K ⟨fr76R a b l c,bx,E⟩) (sh79oR (fnvF a (zs.take l)) b l c rc 1 E))
  (ih:j<l->Lp (DYR a b l c rc) 8 Try.f90 [1,0,0,1,1,0,0,1,1,0] 3 (fun _ bx E=>Cn D1 8 Try.f56 [1,1,0,1,0] 0 K ⟨fr76R a b l c,bx,E⟩) (sh79iR (fnvF a (zs.take (j+1))) b l c rc (j+1) E)):Rnd (DYR a b l c rc) 8 Try.f90 [1,0,0,1,1,0,0,1,1,0] 3 (fun _ bx E=>Cn D1 8 Try.f56 [1,1,0,1,0] 0 K ⟨fr76R a b l c,bx,E⟩) (sh79iR n b l c rc j E):=by
 refine sm_ (?_:bif decide ((NI j)<(NI l)) then req (0<=(NI j)/\(NI j)<(NI l)) ((∃ (cs:List Value),E (VS b l c) cs/\(cs=[]->False))/\∃ (n_1:Int),LoadE (DYR a b l c rc).P E 5 (VS b l c) (Int.toNat (NI j)*1) (SV.raw (U8 n_1))/\rc.l=rc.l/\Mem.le E E/\Lp (DYR a b l c rc) 8 Try.f90 [1,0,0,1,1,0,0,1,1,0] 3 (fun (x:SV) (bx:List Box) (E:Mem)=>Cn D1 8 Try.f56 [1,1,0,1,0] 0 K { fr:=fr76R a b l c,bx:=bx,E:=E:St }) { fr:=some (SV.raw (Value.func (Fn.yield rc.l) #[] #[]))::no4 (no2 (os 1 0 1 1::oI 1::oI 0::none::none::none::oL b l c::oI (NI l)::oI (WI ((NI j)+1))::no8 (no2 []))),bx:=[(⟨108,.lst [SV.raw (Value.int IntKind.u64 (IntKind.wrap IntKind.u64 (IntKind.wrap IntKind.u64 (NI (BitVec.toNat (BitVec.ofInt (IntKind.bits IntKind.u64) n ^^^ BitVec.ofInt (IntKind.bits IntKind.u64) (IntKind.wrap IntKind.u64 n_1))))*(1099511628211:Int))))],1,true⟩:Box),⟨22,.lst [L b l c],1,true⟩,⟨119,.lst [SV.slc 1 0 1 1],1,true⟩],E:=E:St }) else Lp (DYR a b l c rc) 8 Try.f90 [1,0] 3 (fun (x:SV) (bx:List Box) (E:Mem)=>Cn D1 8 Try.f56 [1,1,0,1,0] 0 K { fr:=fr76R a b l c,bx:=bx,E:=E:St }) { fr:=some (SV.raw (Value.func (Fn.yield rc.l) #[] #[]))::no4 (no2 (os 1 0 1 1::oI 1::oI 1::none::none::none::none::none::oI (NI j)::no8 (no2 []))),bx:=[(⟨108,.lst [SV.raw (Value.int IntKind.u64 n)],1,true⟩:Box),⟨22,.lst [L b l c],1,true⟩,⟨119,.lst [SV.slc 1 0 1 1],1,true⟩],E:=E:St })
 delta WI NI U8 VS no2 no4 no8
 obtain ⟨hB,hl⟩:=hz
 have hn0:=hB.2.1
 have hb:=hB.2.2.2.1
 refine condC (fun g=>?_) (fun g=>?_)
 ·have g:j<l:=by simpa using g
  have e:zs[j]? =some (zs.getD j 0):=by rw [List.getD_eq_getElem?_getD,List.getElem?_eq_getElem (by omega)];rfl
  obtain ⟨b1,b2⟩:=hb _ (List.mem_of_getElem? e)
  refine req_intro (by omega) ⟨hB.ne g,zs.getD j 0,hB.load rfl g,rfl,mr_,?_⟩
  subst hn
  rw [wu64' (x:=zs.getD j 0) (by omega),show IntKind.wrap .u64 (IntKind.wrap .u64 (((BitVec.ofInt (IntKind.bits .u64) (fnvF a (zs.take j)) ^^^ BitVec.ofInt (IntKind.bits .u64) (zs.getD j 0)).toNat:Nat):Int)*1099511628211)=stepF (fnvF a (zs.take j)) (zs.getD j 0) from rfl,← fnvF_take e,wrap_i64 (x:=(j:Int)+1) (by omega),show (j:Int)+1=((j+1:Nat):Int) by simp]
  exact Lp_re [some 0,some 1,some 2] (ih g) (wkG mr_)
 ·have g:j=l:=by simp at g;omega
  subst g
  subst hn
  exact Lp_re [some 0,some 1,some 2] (h) (wkG mr_)
theorem rnd79oR {a:Int} {b:Option Addr} {l c:Nat} {rc:Rc} {K:KT} (h:Lp (DYR a b l c rc) 8 Try.f90 [1,0,0,1,1,0,0,1,1,0] 3 (fun _ bx E=>Cn D1 8 Try.f56 [1,1,0,1,0] 0 K ⟨fr76R a b l c,bx,E⟩) (sh79iR a b l c rc 0 E)):Rnd (DYR a b l c rc) 8 Try.f90 [1,0] 3 (fun _ bx E=>Cn D1 8 Try.f56 [1,1,0,1,0] 0 K ⟨fr76R a b l c,bx,E⟩) (sh79oR a b l c rc 0 E):=by
 refine sm_ (?_:Lp (DYR a b l c rc) 8 Try.f90 [1,0,0,1,1,0,0,1,1,0] 3 (fun (x:SV) (bx:List Box) (E:Mem)=>Cn D1 8 Try.f56 [1,1,0,1,0] 0 K { fr:=fr76R a b l c,bx:=bx,E:=E:St }) { fr:=[some (SV.raw (Value.func (Fn.yield rc.l) #[] #[])),none,none,none,oL b l c,none,none,os 1 0 1 1,oI (1:Int),oI (0:Int),oB true,oc 1 0,oL b l c,oL b l c,oI (↑l:Int),oI (0:Int),none,none,none,none,none,none,none,none,none,none],bx:=[(⟨108,Row.lst [SV.raw (Value.int IntKind.u64 a)],1,true⟩:Box),⟨22,Row.lst [L b l c],1,true⟩,⟨119,Row.lst [SV.slc 1 0 1 1],1,true⟩],E:=E:St })
 exact Lp_re [some 0,some 1,some 2] (h) (wkG mr_)
theorem ent79R {a:Int} {b:Option Addr} {l c:Nat} {rc:Rc} {K:KT} (h:Lp (DYR a b l c rc) 8 Try.f90 [1,0] 3 (fun _ bx E=>Cn D1 8 Try.f56 [1,1,0,1,0] 0 K ⟨fr76R a b l c,bx,E⟩) (sh79oR a b l c rc 0 E)):EntB (DYR a b l c rc) 8 Try.f90 [.raw (.func (.yield rc.l) #[] #[]),.loc 2 0] (bx76R a b l c) E (fun _ bx E=>Cn D1 8 Try.f56 [1,1,0,1,0] 0 K ⟨fr76R a b l c,bx,E⟩):=by
 refine sm_ (?_:Lp (DYR a b l c rc) 8 Try.f90 [1,0] 3 (fun (x:SV) (bx:List Box) (E:Mem)=>Cn D1 8 Try.f56 [1,1,0,1,0] 0 K { fr:=fr76R a b l c,bx:=bx,E:=E:St }) { fr:=some (SV.raw (Value.func (Fn.yield rc.l) #[] #[]))::oc 2 0::none::none::none::none::none::os 1 0 1 1::oI 1::oI 0::no16 [],bx:=[(⟨108,.lst [SV.raw (Value.int IntKind.u64 a)],1,true⟩:Box),⟨22,.lst [L b l c],1,true⟩,⟨119,.lst [SV.slc 1 0 1 1],1,true⟩],E:=E:St })
 delta no16
 exact Lp_re [some 0,some 1,some 2] (h) (wkG mr_)
theorem cn76R {a n:Int} {b:Option Addr} {l c:Nat} {K:KT} (h:K (.raw (.int .u64 n)) (bx76R n b l c) E):Pn D1 8 Try.f56 [1,1,0,1,0] 0 K ⟨fr76R a b l c,bx76R n b l c,E⟩:=by
 refine sm_ (?_:K (SV.raw (Value.int IntKind.u64 n)) [⟨108,Row.lst [SV.raw (Value.int IntKind.u64 n)],1,true⟩,⟨22,Row.lst [L b l c],1,true⟩,⟨119,Row.lst [SV.slc 1 0 1 1],1,true⟩] E)
 exact h
theorem lp79zR {a n:Int} {b:Option Addr} {l c:Nat} {rc:Rc} {K:KT} (hC:CxOK (DYR a b l c rc)) (h:Cn D1 8 Try.f56 [1,1,0,1,0] 0 K ⟨fr76R a b l c,bx76R n b l c,E⟩):Lp (DYR a b l c rc) 8 Try.f90 [1,0] 3 (fun _ bx E=>Cn D1 8 Try.f56 [1,1,0,1,0] 0 K ⟨fr76R a b l c,bx,E⟩) (sh79oR n b l c rc 1 E):=
 Lp_ind (ι:=Unit) hC (fun _=>sh79oR n b l c rc 1 E) (fun _=>0) (fun _ _=>rnd79zR h) ()
theorem lp79iR {a n:Int} {b:Option Addr} {l c j:Nat} {rc:Rc} {K:KT} {zs:List Int} (hC:CxOK (DYR a b l c rc)) (hz:Bs E b l c zs/\l<=100000) (hj:j<=l) (hn:n=fnvF a (zs.take j)) (h:Cn D1 8 Try.f56 [1,1,0,1,0] 0 K ⟨fr76R a b l c,bx76R (fnvF a (zs.take l)) b l c,E⟩):Lp (DYR a b l c rc) 8 Try.f90 [1,0,0,1,1,0,0,1,1,0] 3 (fun _ bx E=>Cn D1 8 Try.f56 [1,1,0,1,0] 0 K ⟨fr76R a b l c,bx,E⟩) (sh79iR n b l c rc j E):=by
 subst hn
 exact Lp_ind hC (fun y:{y:Nat//y<=l}=>sh79iR (fnvF a (zs.take y.1)) b l c rc y.1 E) (fun y=>l-y.1) (fun y ih=>rnd79iR hz y.2 rfl (lp79zR hC h) fun g=>ih ⟨y.1+1,by omega⟩ (by show l-(_+1)<l-_;omega)) ⟨j,hj⟩
theorem lp79oR {a:Int} {b:Option Addr} {l c:Nat} {rc:Rc} {K:KT} {zs:List Int} (hC:CxOK (DYR a b l c rc)) (hz:Bs E b l c zs/\l<=100000) (h:Cn D1 8 Try.f56 [1,1,0,1,0] 0 K ⟨fr76R a b l c,bx76R (fnvF a (zs.take l)) b l c,E⟩):Lp (DYR a b l c rc) 8 Try.f90 [1,0] 3 (fun _ bx E=>Cn D1 8 Try.f56 [1,1,0,1,0] 0 K ⟨fr76R a b l c,bx,E⟩) (sh79oR a b l c rc 0 E):=
 Lp_ind (ι:=Unit) hC (fun _=>sh79oR a b l c rc 0 E) (fun _=>0) (fun _ _=>rnd79oR (lp79iR hC hz (Nat.zero_le _) rfl h)) ()
theorem b76R {KK:KT} {a:Int} {b:Option Addr} {l c:Nat} {zs:List Int} (hz:Bs E b l c zs/\l<=100000) (h:KK (.raw (.int .u64 (fnvF a (zs.take l)))) (bx76R (fnvF a (zs.take l)) b l c) E):EntB D1 8 Try.f56 [.raw (.int .u64 a),L b l c] [] E KK:=by
 refine sm_ (?_:Ct D1 8 Try.f56 [1,1,0,1,0] 0 KK { fr:=[some (SV.raw (Value.int IntKind.u64 a)),oL b l c,none,none,some (SV.raw (Value.int IntKind.u64 (0:Int))),oc 0 0,none,some (SV.raw (Value.int IntKind.u64 a)),oL b l c,os 1 0 1 1,some (SV.clo 90 [] [SV.loc 2 0]),none,none,none,none,none],bx:=[(⟨108,Row.lst [SV.raw (Value.int IntKind.u64 a)],1,true⟩:Box),⟨22,Row.lst [L b l c],1,true⟩,⟨119,Row.lst [SV.slc 1 0 1 1],1,true⟩],E:=E:St })
 exact RfY okD1 okD2 (by kernel_rfl) (by kernel_rfl) Try.func90 ⟨by kernel_rfl,by kernel_rfl⟩ (gf:=90) (gfn:=Try.f90) (first:=[]) (caps:=[.loc 2 0]) (m:=8) (fun rc hrc=>ent79R (lp79oR hrc hz (Cn_intro (cn76R h)))) rfl rfl
theorem CallSem.see0 {P:Program} {f:FuncId} {bx:List Box} {args:List SV} {E:Mem} {K:KT} (ha:args=SV.renL [] bx.length args)
  (h:CallSem P f args [] E (cloK 0 fun s bx' E'=>∃ r:Value,s= .raw r/\bx'=[]/\K (.raw r) bx E')):CallSem P f args bx E K:=by
 refine frame (σ:=[]) ⟨by simp,rfl,fun i y hy=>by simp at hy⟩ ha h.clo ?_
 rintro s bxs' E' ⟨r,rfl,rfl,hK⟩
 simpa [merge,setAll,SV.ren,renF,Box.ren,Row.ren,SV.renL] using hK
theorem see_intro0 {K:KT} {bx:List Box} {r:Value} {bx1:List Box} (h:K (.raw r) bx E):cloK 0 (fun s bx' E'=>∃ r:Value,s= .raw r/\bx'=[]/\K (.raw r) bx E') (.raw r) bx1 E:=
 cloK_intro [] ⟨r,rfl,rfl,h⟩ (wkG mr_)
noncomputable def tab56:CallT:=fun f args bx E K=>match f with
 | 56=>d2 args fun x0 x1=>dN .u64 x0 fun a=>match x1 with
  | .slc b 0 l c=>sumD b l bx fun zs=>K (.raw (.int .u64 (fnvF a zs))) bx E
  | .raw (.slice b l c)=>∃ zs:List Int,Bs E b l c zs/\l<=100000/\K (.raw (.int .u64 (fnvF a zs))) bx E
  | _=>False
 | _=>False
theorem tab56_ok:∀ f args bx E K,tab56 f args bx E K->CallSem Try.prog f args bx E K:=by
 intro f args bx E K h
 unfold tab56 at h
 split at h
 case h_2=>exact h.elim
 obtain ⟨x0,x1,rfl,h1⟩:=d2_elim h
 obtain ⟨a,rfl,h2⟩:=dN_elim h1
 clear h h1
 split at h2
 case h_3=>exact h2.elim
 ·rename_i b l c
  obtain ⟨tot,zs,hb,hz,h⟩:=sumD_elim h2
  exact CallSem.see (args':=[.raw (.int .u64 a),.slc 0 0 l c]) hb (by simp [SV.renL,SV.ren,renF]) (bsm okD1 Try.func56 (b76 hz (see_introN h rfl)))
 ·rename_i b l c
  obtain ⟨zs,hz,hl,h⟩:=h2
  have e:zs.take l=zs:=List.take_of_length_le (by rw [hz.2.1];exact Nat.le_refl _)
  exact CallSem.see0 (by simp [SV.renL,SV.ren]) (bsm okD1 Try.func56 (b76R ⟨hz,hl⟩ (by rw [e];exact see_intro0 h)))
def hdrF (v:Int) (p:List Int):List Int:=storF v 4++(storF (p.length:Int) 2++storF (sumF (storF v 4++(storF (p.length:Int) 2++p))) 8)
theorem hdrF_len (v:Int) (p:List Int):(hdrF v p).length=14:=by simp [hdrF,storF_len]
theorem hdrF_byte (v:Int) (p:List Int):∀ x∈hdrF v p,0<=x/\x<=255:=fun x hx=>by
 unfold hdrF at hx
 rcases List.mem_append.1 hx with h|h
 ·exact storF_byte _ _ x h
 ·rcases List.mem_append.1 h with h|h
  ·exact storF_byte _ _ x h
  ·exact storF_byte _ _ x h
theorem hidH_ex:∃ f:Int->List Int->List Int,∀ v p,f v p=hdrF v p:=⟨hdrF,fun _ _=>rfl⟩
noncomputable def hidH:Int->List Int->List Int:=hidH_ex.choose
theorem hidH_eq (v:Int) (p:List Int):hidH v p=hdrF v p:=hidH_ex.choose_spec v p
theorem dv256 (n:Int) (k:Nat):n / 256 ^ (k+1)=n / 256 ^ k / 256:=by rw [Int.pow_succ,Int.ediv_ediv_of_nonneg (Int.le_of_lt (Int.pow_pos (by decide)))]
theorem fd256 (n:Int):Int.fdiv n 256=n / 256:=Int.fdiv_eq_ediv_of_nonneg _ (by decide)
theorem w8m (x:Int):IntKind.wrap .u8 x=x % 256:=rfl
theorem stor2 (n:Int):storF n 2=[n / 256 % 256,n % 256]:=by simp only [storF,dv256,Int.pow_zero,Int.ediv_one]
theorem stor4 (n:Int):storF n 4=[n / 256 / 256 / 256 % 256,n / 256 / 256 % 256,n / 256 % 256,n % 256]:=by simp only [storF,dv256,Int.pow_zero,Int.ediv_one]
theorem stor8 (n:Int):storF n 8=[n / 256 / 256 / 256 / 256 / 256 / 256 / 256 % 256,n / 256 / 256 / 256 / 256 / 256 / 256 % 256,n / 256 / 256 / 256 / 256 / 256 % 256,n / 256 / 256 / 256 / 256 % 256,n / 256 / 256 / 256 % 256,n / 256 / 256 % 256,n / 256 % 256,n % 256]:=by simp only [storF,dv256,Int.pow_zero,Int.ediv_one]
theorem fnvF_app (s:Int) (xs ys:List Int):fnvF (fnvF s xs) ys=fnvF s (xs++ys):=by unfold fnvF;rw [List.foldl_append]
noncomputable def tabBh:CallT:=fun f args bx E K=>match f with
 | 57=>d1 args fun x0=>match x0 with
  | .slc b 0 l c=>sumD b l bx fun zs=>K (.raw (.int .u64 (sumF zs))) bx E
  | _=>False
 | f=>tab56 f args bx E K
theorem tabBh_ok:∀ f args bx E K,tabBh f args bx E K->CallSem Try.prog f args bx E K:=by
 intro f args bx E K h
 unfold tabBh at h
 split at h
 ·obtain ⟨x0,rfl,k1⟩:=d1_elim h
  clear h
  split at k1
  case h_2=>exact k1.elim
  rename_i b l c
  obtain ⟨tot,zs,hb,hz,h⟩:=sumD_elim k1
  exact CallSem.see (args':=[.slc 0 0 l c]) hb (by simp [SV.renL,SV.ren,renF]) (bsm okD3 Try.func57 (b68 hz (see_introN h rfl)))
 ·exact tab56_ok _ _ _ _ _ h
noncomputable def H1:Cx:={ P:=Try.prog,inl:=fun f=>List.contains [55] f,tab:=fun _ _ _ _=>False,isB:=fun f=>f==56||f==57,tabB:=tabBh,opt:={ unroll:=20,carry:=[] },muts:=(fun o=>match o with | .call _=>true|o=>mutsD o) }
theorem okH1:CxOK H1:=CxOK.four (fun _ _ _ _ h=>h.elim) (by kernel_rfl) (okInl (by kernel_rfl)) tabBh_ok
theorem q31 {a1:Int} {b2:Option Addr} {l3:Nat} {c4:Nat} {zs:List Int} (h0:Bs E b2 l3 c4 zs) (h1:0<=a1) (h2:a1<=1000000000) (h3:l3<=4096) (h:∀ (b':Option Addr) (l' c':Nat) (ys:List Int) (E':Mem),Mem.le E E'->Hyp (ys=hidH a1 zs)->Bs E' b' l' c' ys->K (L b' l' c') E'):
  Ent H1 8 Try.f31 [I a1,L b2 l3 c4] E K:=by
 refine sm_ (?_:4<=14/\3<=14/\2<=14/\1<=14/\6<=14/\5<=14/\∃ (zs:List Int),(5=5/\[U8 (IntKind.wrap IntKind.u8 (Int.fdiv (Int.fdiv (Int.fdiv (IntKind.wrap IntKind.u64 a1) 256) 256) 256)),U8 (IntKind.wrap IntKind.u8 (Int.fdiv (Int.fdiv (IntKind.wrap IntKind.u64 a1) 256) 256)),U8 (IntKind.wrap IntKind.u8 (Int.fdiv (IntKind.wrap IntKind.u64 a1) 256)),U8 (IntKind.wrap IntKind.u8 (IntKind.wrap IntKind.u64 a1)),U8 (IntKind.wrap IntKind.u8 (Int.fdiv (IntKind.wrap IntKind.u64 (NI l3)) 256)),U8 (IntKind.wrap IntKind.u8 (IntKind.wrap IntKind.u64 (NI l3))),U8 0,U8 0,U8 0,U8 0,U8 0,U8 0,U8 0,U8 0]=vB zs/\6<=List.length zs/\6<=100000/\∀ (z:Int),List.Mem z zs->(0:Int)<=z/\z<=(255:Int))/\IntKind.u64=IntKind.u64/\∃ (zs_1:List Int),Bs E b2 l3 c4 zs_1/\l3<=100000/\Mem.le E E/\14<=14/\13<=14/\12<=14/\11<=14/\10<=14/\9<=14/\8<=14/\7<=14/\∀ (base:Option Addr) (E':Mem),Mem.le E E'->WinE E' base [U8 (IntKind.wrap IntKind.u8 (Int.fdiv (Int.fdiv (Int.fdiv (IntKind.wrap IntKind.u64 a1) 256) 256) 256)),U8 (IntKind.wrap IntKind.u8 (Int.fdiv (Int.fdiv (IntKind.wrap IntKind.u64 a1) 256) 256)),U8 (IntKind.wrap IntKind.u8 (Int.fdiv (IntKind.wrap IntKind.u64 a1) 256)),U8 (IntKind.wrap IntKind.u8 (IntKind.wrap IntKind.u64 a1)),U8 (IntKind.wrap IntKind.u8 (Int.fdiv (IntKind.wrap IntKind.u64 (NI l3)) 256)),U8 (IntKind.wrap IntKind.u8 (IntKind.wrap IntKind.u64 (NI l3))),U8 (IntKind.wrap IntKind.u8 (Int.fdiv (Int.fdiv (Int.fdiv (Int.fdiv (Int.fdiv (Int.fdiv (Int.fdiv (fnvF (sumF (List.take 6 zs)) zs_1) 256) 256) 256) 256) 256) 256) 256)),U8 (IntKind.wrap IntKind.u8 (Int.fdiv (Int.fdiv (Int.fdiv (Int.fdiv (Int.fdiv (Int.fdiv (fnvF (sumF (List.take 6 zs)) zs_1) 256) 256) 256) 256) 256) 256)),U8 (IntKind.wrap IntKind.u8 (Int.fdiv (Int.fdiv (Int.fdiv (Int.fdiv (Int.fdiv (fnvF (sumF (List.take 6 zs)) zs_1) 256) 256) 256) 256) 256)),U8 (IntKind.wrap IntKind.u8 (Int.fdiv (Int.fdiv (Int.fdiv (Int.fdiv (fnvF (sumF (List.take 6 zs)) zs_1) 256) 256) 256) 256)),U8 (IntKind.wrap IntKind.u8 (Int.fdiv (Int.fdiv (Int.fdiv (fnvF (sumF (List.take 6 zs)) zs_1) 256) 256) 256)),U8 (IntKind.wrap IntKind.u8 (Int.fdiv (Int.fdiv (fnvF (sumF (List.take 6 zs)) zs_1) 256) 256)),U8 (IntKind.wrap IntKind.u8 (Int.fdiv (fnvF (sumF (List.take 6 zs)) zs_1) 256)),U8 (IntKind.wrap IntKind.u8 (fnvF (sumF (List.take 6 zs)) zs_1))]->Mem.le E E'/\K (L (Option.map (fun (x:Addr)=>Addr.add x 0) base) 14 14) E')
 delta NI U8
 have hl:=h0.2.1
 rw [wu64' (x:=a1) (by omega),wu64' (x:=(l3:Int)) (by omega)]
 have e6:(storF a1 4++(storF (l3:Int) 2++List.replicate 8 0)).take 6=storF a1 4++storF (l3:Int) 2:=by rw [← List.append_assoc,List.take_left' (by simp [storF_len])]
 refine ⟨by decide,by decide,by decide,by decide,by decide,by decide,storF a1 4++(storF (l3:Int) 2++List.replicate 8 0),⟨rfl,?_,by simp [storF_len],by decide,?_⟩,rfl,zs,h0,by omega,mr_,by decide,by decide,by decide,by decide,by decide,by decide,by decide,by decide,fun base E' k w=>⟨k,h _ _ _ _ E' k rfl ?_⟩⟩
 ·rw [stor4,stor2]
  simp only [fd256,w8m]
  rfl
 ·intro z hz
  rcases List.mem_append.1 hz with q|q
  ·exact storF_byte _ _ z q
  rcases List.mem_append.1 q with q|q
  ·exact storF_byte _ _ z q
  ·have:=List.eq_of_mem_replicate q;omega
 ·rw [hidH_eq]
  refine Bs.win w ?_ (hdrF_len _ _) (Nat.le_refl _) (hdrF_byte _ _)
  rw [e6]
  unfold hdrF
  rw [show sumF (storF a1 4++(storF (zs.length:Int) 2++zs))=fnvF (sumF (storF a1 4++storF (l3:Int) 2)) zs by rw [hl];unfold sumF;rw [fnvF_app,List.append_assoc],hl,stor4,stor2,stor8]
  simp only [fd256,w8m]
  rfl
def chgF (l ms:List (Int×List Int)):List (Int×List Int):=l++ms.drop 1
def lastM (l:List (Int×List Int)):Int×List Int:=l.getLastD (0,[])
def progL (l:List (Int×List Int)) (a:Nat) (ds:List Int):List (Int×List Int):=chgF l (progF (lastM l).1 (lastM l).2 a ds).1
def erasL (l:List (Int×List Int)) (k:Nat):List (Int×List Int):=chgF l (erasF (lastM l).1 (lastM l).2 k).1
theorem progF_mk {s:Int} {zs:List Int} {a:Int} {ds:List Int} (h1:validF s zs.length) (h2:0<=a) (h3:a+ds.length<=zs.length):progF s zs a ds=(mems s (gP ds) a.toNat zs (ds.length+1),0):=by
 unfold progF
 rw [if_neg (by simp only [not_or,Decidable.not_not];exact ⟨h1,by omega⟩),if_neg (by omega)]
theorem erasF_mk {s:Int} {zs:List Int} {k:Int} (h1:validF s zs.length) (h2:0<=k) (h3:k<(zs.length:Int) / s):erasF s zs k=(mems s gE (k*s).toNat zs (s.toNat+1),0):=by
 unfold erasF
 rw [if_neg (by simp only [not_or,Decidable.not_not];exact ⟨h1,by omega⟩)]
theorem mems_get {s:Int} {g:Nat->Int->Int} {a n i:Nat} {zs:List Int} (h:i<n):(mems s g a zs n)[i]? =some (s,stp g a zs i):=by
 simp [mems,List.getElem?_range h]
theorem chgF_len (ms ms2:List (Int×List Int)):(chgF ms ms2).length=ms.length+(ms2.length-1):=by simp [chgF]
theorem mems_last {s:Int} {g:Nat->Int->Int} {a n:Nat} {zs:List Int} {l:List (Int×List Int)} (h:1<=n):lastM (chgF l (mems s g a zs (n+1)))=(s,stp g a zs n):=by
 unfold lastM chgF
 rw [mems_succ,List.drop_append_of_le_length (by rw [mems_len];exact h),← List.append_assoc,List.getLastD_concat]
theorem progL_ok {l:List (Int×List Int)} {a:Nat} {ds:List Int} (hv:validF (lastM l).1 (lastM l).2.length) (ha:a+ds.length<=(lastM l).2.length) (hd:1<=ds.length):
  lastM (progL l a ds)=((lastM l).1,stp (gP ds) a (lastM l).2 ds.length)/\(progL l a ds).length=l.length+ds.length:=by
 unfold progL
 rw [progF_mk hv (by omega) (by omega)]
 simp only [Int.toNat_natCast]
 exact ⟨mems_last hd,by rw [chgF_len,mems_len];omega⟩
theorem band8_eq (x y:Int):band8 x y=((BitVec.ofInt 8 x&&& BitVec.ofInt 8 y).toNat:Int):=by
 have h:=(BitVec.ofInt 8 x&&& BitVec.ofInt 8 y).isLt
 exact wu8 ⟨by omega,by show ((BitVec.ofInt 8 x&&& BitVec.ofInt 8 y).toNat:Int)<=255;omega⟩
theorem band8_255 {y:Int} (h:0<=y/\y<=255):band8 255 y=y:=by
 rw [band8_eq]
 obtain ⟨n,rfl⟩:∃ n:Nat,y=n:=⟨y.toNat,by omega⟩
 have :n<256:=by omega
 rw [show BitVec.ofInt 8 255=BitVec.allOnes 8 from by decide,BitVec.allOnes_and]
 simp;omega
theorem band8_bd (x y:Int):0<=band8 x y/\band8 x y<=255:=wu8b _
theorem getD_set (zs:List Int) (p:Nat) (x:Int) (j:Nat):(zs.set p x).getD j 0=if p=j/\j<zs.length then x else zs.getD j 0:=by
 rw [List.getD_eq_getElem?_getD,List.getD_eq_getElem?_getD,List.getElem?_set]
 by_cases h:p=j
 ·subst h
  by_cases h2:p<zs.length
  ·simp [h2]
  ·simp [h2]
 ·simp [h]
theorem stp_get (g:Nat->Int->Int) (a:Nat) (zs:List Int):∀ i j,(stp g a zs i).getD j 0=if a<=j/\j<a+i/\j<zs.length then g (j-a) (zs.getD j 0) else zs.getD j 0
 | 0,j=>by rw [if_neg (by omega)];rfl
 | i+1,j=>by
  show ((stp g a zs i).set (a+i) (g i ((stp g a zs i).getD (a+i) 0))).getD j 0=_
  rw [getD_set,stp_len,stp_get g a zs i j,stp_get g a zs i (a+i),if_neg (c:=a<=a+i/\a+i<a+i/\a+i<zs.length) (by omega)]
  by_cases h:a+i=j/\j<zs.length
  ·obtain ⟨rfl,h⟩:=h
   rw [if_pos ⟨rfl,h⟩,if_pos ⟨by omega,by omega,h⟩,show a+i-a=i by omega]
  ·rw [if_neg h]
   by_cases h2:a<=j/\j<a+i/\j<zs.length
   ·rw [if_pos h2,if_pos (by omega)]
   ·rw [if_neg h2,if_neg (by omega)]
theorem ext_getD {xs ys:List Int} (hl:xs.length=ys.length) (h:∀ j,j<xs.length->xs.getD j 0=ys.getD j 0):xs=ys:=by
 apply List.ext_getElem hl
 intro i h1 h2
 have:=h i h1
 simpa [List.getD_eq_getElem?_getD,h1,h2] using this
theorem numF_cons (x:Int) (zs:List Int):numF (x::zs)=x*256 ^ zs.length+numF zs:=by
 have key:∀ (zs:List Int) (n:Int),zs.foldl (fun n x=>256*n+x) n=n*256 ^ zs.length+zs.foldl (fun n x=>256*n+x) 0:=by
  intro zs
  induction zs with
  | nil=>intro n;simp
  | cons y zs ih=>
   intro n
   simp only [List.foldl_cons,List.length_cons]
   rw [ih (256*n+y),ih (256*0+y),Int.mul_zero,Int.zero_add,Int.add_mul,Int.pow_succ,Int.mul_comm 256 n,Int.mul_assoc n 256,Int.mul_comm 256 (256 ^ zs.length),Int.add_assoc]
 unfold numF
 simp only [List.foldl_cons]
 rw [key];simp
theorem numF_stor {n:Int} (hn:0<=n):∀ k,numF (storF n k)=n % 256 ^ k
 | 0=>by simp [storF,numF]
 | k+1=>by
  rw [storF,numF_cons,storF_len,numF_stor hn k,Int.pow_succ]
  have hp:(0:Int)<256 ^ k:=Int.pow_pos (by decide)
  generalize (256:Int) ^ k=m at *
  have e1:=Int.mul_ediv_add_emod n m
  have e2:=Int.mul_ediv_add_emod (n / m) 256
  have e3:n % (m*256)=n-m*256*(n / (m*256)):=by have:=Int.mul_ediv_add_emod n (m*256);omega
  have e4:n / (m*256)=n / m / 256:=by rw [Int.ediv_ediv_of_nonneg (Int.le_of_lt hp)]
  rw [e3,e4,Int.mul_assoc m 256]
  have e5:m*(256*(n / m / 256))=m*(n / m)-m*(n / m % 256):=by rw [show 256*(n / m / 256)=n / m-n / m % 256 by omega,Int.mul_sub]
  rw [e5,Int.mul_comm (n / m % 256) m]
  omega
theorem getA (X Y:List Int) (j:Nat):(X++Y).getD j 0=if j<X.length then X.getD j 0 else Y.getD (j-X.length) 0:=by
 rw [List.getD_eq_getElem?_getD]
 by_cases h:j<X.length
 ·rw [if_pos h,List.getElem?_append_left h,List.getD_eq_getElem?_getD]
 ·rw [if_neg h,List.getElem?_append_right (by omega),List.getD_eq_getElem?_getD]
theorem getTake (X:List Int) (n j:Nat) (h:j<n):(X.take n).getD j 0=X.getD j 0:=by
 rw [List.getD_eq_getElem?_getD,List.getElem?_take,if_pos h,List.getD_eq_getElem?_getD]
theorem getDrop (X:List Int) (n j:Nat):(X.drop n).getD j 0=X.getD (n+j) 0:=by
 rw [List.getD_eq_getElem?_getD,List.getElem?_drop,List.getD_eq_getElem?_getD]
def AllM (s:Int) (N:Nat) (P R:List Int->Prop) (l:List (Int×List Int)):Prop:=
 l≠[]/\(∀ m∈l,m.1=s/\m.2.length=N/\(∀ x∈m.2,0<=x/\x<=255)/\R m.2)/\P (lastM l).2
def Out (w z:List Int) (lo hi:Nat):Prop:=w.length=z.length/\∀ j,j<lo\/hi<=j->w.getD j 0=z.getD j 0
theorem Out.trans {w v z:List Int} {lo hi lo1 hi1:Nat} (h:Out w v lo1 hi1) (g:Out v z lo hi) (h1:lo<=lo1) (h2:hi1<=hi):Out w z lo hi:=
 ⟨h.1.trans g.1,fun j hj=>(h.2 j (by omega)).trans (g.2 j hj)⟩
theorem Out.refl (z:List Int) (lo hi:Nat):Out z z lo hi:=⟨rfl,fun _ _=>rfl⟩
theorem Out.mono {w z:List Int} {lo hi lo1 hi1:Nat} (h:Out w z lo1 hi1) (h1:lo<=lo1) (h2:hi1<=hi):Out w z lo hi:=⟨h.1,fun j hj=>h.2 j (by omega)⟩
def Er (z:List Int) (lo hi:Nat):Prop:=∀ j,lo<=j->j<hi->z.getD j 0=255
def At (z:List Int) (a:Nat) (ds:List Int):Prop:=∀ j,j<ds.length->z.getD (a+j) 0=ds.getD j 0
def Keeps (lo hi:Nat) (P:List Int->Prop):Prop:=∀ z w:List Int,P z->Out w z lo hi->P w
theorem last_mem {l:List (Int×List Int)} (h:l≠[]):lastM l∈l:=by
 unfold lastM
 rw [List.getLastD_eq_getLast?,List.getLast?_eq_some_getLast h]
 exact List.getLast_mem h
theorem stp_out (g:Nat->Int->Int) (a:Nat) (z:List Int) (i:Nat):Out (stp g a z i) z a (a+i):=
 ⟨stp_len _ _ _ _,fun j hj=>by rw [stp_get,if_neg (by omega)]⟩
theorem chg_all {s:Int} {a lo hi n N:Nat} {g:Nat->Int->Int} {P R:List Int->Prop} {l:List (Int×List Int)} (hP:Keeps lo hi P) (hR:∀ z,P z->R z) (hg:∀ i x,0<=g i x/\g i x<=255)
  (h:AllM s N P R l) (h1:lo<=a) (h2:a+n<=hi) (hn:1<=n):AllM s N P R (chgF l (mems s g a (lastM l).2 (n+1))):=by
 obtain ⟨hl,ha,hp⟩:=h
 obtain ⟨z1,z2,z3,z4⟩:=ha _ (last_mem hl)
 have hst:∀ i,i<=n->P (stp g a (lastM l).2 i):=fun i hi'=>hP _ _ hp ((stp_out g a _ i).mono h1 (by omega))
 refine ⟨by simp [chgF,hl],fun m hm=>?_,?_⟩
 ·rcases List.mem_append.1 hm with h|h
  ·exact ha m h
  ·have h:=List.mem_of_mem_drop h
   simp only [mems,List.mem_map,List.mem_range] at h
   obtain ⟨i,hi',rfl⟩:=h
   exact ⟨rfl,by rw [stp_len];exact z2,stp_byte z3 hg i,hR _ (hst i (by omega))⟩
 ·rw [mems_last hn];exact hst n (Nat.le_refl _)
theorem progL_all {s:Int} {N lo hi:Nat} {P R:List Int->Prop} (hv:validF s N) (hP:Keeps lo hi P) (hR:∀ z,P z->R z) {a:Nat} {ds:List Int} {l:List (Int×List Int)} (h1:lo<=a) (h2:a+ds.length<=hi) (hN:a+ds.length<=N) (hn:1<=ds.length) (h:AllM s N P R l):AllM s N P R (progL l a ds):=by
 obtain ⟨z1,z2,z3,z4⟩:=h.2.1 _ (last_mem h.1)
 unfold progL
 rw [z1,progF_mk (by rw [z2];exact hv) (by omega) (by omega)]
 exact chg_all hP hR (fun i x=>band8_bd _ _) h (by simpa using h1) (by simpa using h2) hn
theorem erasL_eq {st N:Nat} {P R:List Int->Prop} (hv:validF st N) {k:Nat} {l:List (Int×List Int)} (h:AllM st N P R l) (hN:(k+1)*st<=N):erasL l k=chgF l (mems st gE (k*st) (lastM l).2 (st+1)):=by
 obtain ⟨z1,z2,z3,z4⟩:=h.2.1 _ (last_mem h.1)
 have h1:1<=st:=by have:=hv.1;omega
 unfold erasL
 rw [z1,erasF_mk (by rw [z2];exact hv) (by omega) (by
   rw [Int.lt_iff_add_one_le,Int.le_ediv_iff_mul_le (by omega),z2]
   have :(((k+1)*st:Nat):Int)<=(N:Int):=by omega
   rw [Int.natCast_mul] at this
   simpa using this),← Int.natCast_mul,Int.toNat_natCast,Int.toNat_natCast]
theorem prog_last {s:Int} {N a:Nat} {ds z:List Int} {l:List (Int×List Int)} (hv:validF s N) (hl:lastM l=(s,z)) (hN:z.length=N) (ha:a+ds.length<=N) (hd:1<=ds.length) (hds:∀ x∈ds,0<=x/\x<=255) (he:Er z a (a+ds.length)):
  ∃ w,lastM (progL l a ds)=(s,w)/\At w a ds/\Out w z a (a+ds.length):=by
 obtain ⟨e1,_⟩:=progL_ok (l:=l) (a:=a) (ds:=ds) (by rw [hl];simp only;rw [hN];exact hv) (by rw [hl];simp only;omega) hd
 rw [hl] at e1
 refine ⟨_,e1,fun j hj=>?_,stp_out _ _ _ _⟩
 show (stp (gP ds) a z ds.length).getD _ _=_
 rw [stp_get,if_pos (by omega),he _ (by omega) (by omega)]
 show band8 255 (ds.getD (a+j-a) 0)=_
 rw [show a+j-a=j by omega]
 refine band8_255 (hds _ ?_)
 rw [List.getD_eq_getElem?_getD,List.getElem?_eq_getElem hj]
 exact List.getElem_mem hj
theorem At.out {w z:List Int} {a lo hi:Nat} {xs:List Int} (h:At z a xs) (g:Out w z lo hi) (h1:a+xs.length<=lo\/hi<=a):At w a xs:=fun j hj=>(g.2 _ (by omega)).trans (h j hj)
theorem Er.out {w z:List Int} {a b lo hi:Nat} (h:Er z a b) (g:Out w z lo hi) (h1:b<=lo\/hi<=a):Er w a b:=fun j q1 q2=>(g.2 _ (by omega)).trans (h j q1 q2)
theorem Er.sub {z:List Int} {a b c d:Nat} (h:Er z a b) (h1:a<=c) (h2:d<=b):Er z c d:=fun j q1 q2=>h j (by omega) (by omega)
theorem at_part {r:List Int} {k:Nat} {xs:List Int} (h:At r k xs) (hl:k+xs.length<=r.length):(r.drop k).take xs.length=xs:=by
 apply ext_getD (by rw [List.length_take,List.length_drop];omega)
 intro j hj
 rw [List.length_take,List.length_drop] at hj
 rw [getTake _ _ _ (by omega),getDrop]
 exact h j (by omega)
def progB (b:List Int):Int×List Int:=
 if b.getD 14 0≠80\/4096<(numF ((b.drop 4).take 2)).toNat then (0,[])
 else if ¬ (1<=numF (b.take 4)/\numF (b.take 4)<=1000000000)\/hdrF (numF (b.take 4)) ((b.drop 32).take (numF ((b.drop 4).take 2)).toNat)≠b.take 14 then (0,[])
 else (numF (b.take 4),(b.drop 32).take (numF ((b.drop 4).take 2)).toNat)
def bankF (z:List Int) (k:Nat):List Int:=(z.drop (4224*k)).take 4224
def classB (b:List Int):Int×Int:=
 if (progB b).1=0 then (-1,0) else if b.getD 17 0=0 then (0,(progB b).1) else if b.getD 15 0=0 then (2,(progB b).1) else (1,(progB b).1)
def selF (z:List Int):Int:=
 if (classB (bankF z 0)).1<0/\(classB (bankF z 1)).1<0 then -1
 else if (classB (bankF z 1)).1>(classB (bankF z 0)).1\/((classB (bankF z 1)).1=(classB (bankF z 0)).1/\(classB (bankF z 1)).2>(classB (bankF z 0)).2) then 1 else 0
def memB (s:Int) (n:Nat):Prop:=s=128/\n=8448
instance (s:Int) (n:Nat):Decidable (memB s n):=by unfold memB;infer_instance
def selectF (s:Int) (z:List Int):(Int×List Int)×Int:=
 if ¬ memB s z.length then ((0,[]),1) else if selF z<0 then ((0,[]),4) else (progB (bankF z (selF z).toNat),0)
def findF (z:List Int) (v:Int):Int:=
 if (progB (bankF z 0)).1≠0/\(progB (bankF z 0)).1=v then 0 else if (progB (bankF z 1)).1≠0/\(progB (bankF z 1)).1=v then 1 else -1
def markB (b:List Int):Int:=if b.getD 17 0=0 then 3 else if b.getD 16 0=0 then 2 else if b.getD 15 0=0 then 1 else 0
def marksF (s:Int) (z:List Int) (v:Int):Int:=
 if ¬ memB s z.length then -1 else if findF z v<0 then -1 else markB (bankF z (findF z v).toNat)
def fitsF (v:Int) (p:List Int):Prop:=1<=v/\v<=1000000000/\p.length<=4096
instance (v:Int) (p:List Int):Decidable (fitsF v p):=by unfold fitsF;infer_instance
def formatB (v:Int) (p:List Int):(Int×List Int)×Int:=
 if fitsF v p then ((128,hdrF v p++([80,0,0]++(List.replicate 15 255++(p++List.replicate (8416-p.length) 255)))),0) else ((0,[]),1)
def usedS (z:List Int) (k i:Nat):Bool:=((z.drop (4224*k+128*i)).take 128).any fun x=>decide (x≠255)
def cleanL (z:List Int) (k:Nat) (l:List (Int×List Int)):Nat->List (Int×List Int)
 | 0=>l
 | n+1=>if usedS z k n then erasL (cleanL z k l n) (33*k+n) else cleanL z k l n
def instL (s:Int) (z:List Int) (k:Nat) (v:Int) (p:List Int):List (Int×List Int):=
 let l0:List (Int×List Int):=if z.getD (4224*k+14) 0≠255 then progL [(s,z)] (4224*k+14) [0] else [(s,z)]
 progL (progL (progL (cleanL z k l0 33) (4224*k+32) p) (4224*k) (hdrF v p)) (4224*k+14) [80]
def installF (s:Int) (z:List Int) (v:Int) (p:List Int):List (Int×List Int)×Int:=
 if (selectF s z).2≠0 then ([],(selectF s z).2)
 else if ¬ fitsF v p then ([],1)
 else if v<=max (progB (bankF z 0)).1 (progB (bankF z 1)).1 then ([],14)
 else (instL s z (1-selF z).toNat v p,0)
def markF (s:Int) (z:List Int) (v m:Int):List (Int×List Int)×Int:=
 if ¬ memB s z.length\/m<1\/3<m then ([],1)
 else if findF z v<0 then ([],4)
 else progF s z (4224*findF z v+14+m) [0]
theorem bank_get {z:List Int} {k j:Nat} (h:j<4224):(bankF z k).getD j 0=z.getD (4224*k+j) 0:=by
 unfold bankF;rw [getTake _ _ _ h,getDrop]
theorem bank_len {z:List Int} {k:Nat} (hz:z.length=8448) (hk:k<2):(bankF z k).length=4224:=by
 unfold bankF;rw [List.length_take,List.length_drop];omega
structure Hold (z:List Int) (o:Nat) (v:Int) (p:List Int):Prop where
 fit:fitsF v p
 byt:∀ x∈p,0<=x/\x<=255
 hdr:At z o (hdrF v p)
 who:z.getD (o+14) 0=80
 dat:At z (o+32) p
theorem Hold.prog {z:List Int} {k:Nat} {v:Int} {p:List Int} (h:Hold z (4224*k) v p) (hz:z.length=8448) (hk:k<2):progB (bankF z k)=(v,p):=by
 have hl:=bank_len hz hk
 obtain ⟨f1,f2,f3⟩:=h.fit
 have aH:At (bankF z k) 0 (hdrF v p):=fun j hj=>by
  rw [Nat.zero_add,bank_get (by rw [hdrF_len] at hj;omega)];exact h.hdr j hj
 have aD:At (bankF z k) 32 p:=fun j hj=>by
  rw [bank_get (by omega),show 4224*k+(32+j)=4224*k+32+j by omega];exact h.dat j hj
 have w:(bankF z k).getD 14 0=80:=by rw [bank_get (by omega)];exact h.who
 generalize bankF z k=b at *
 have e14:b.take 14=hdrF v p:=by
  have:=at_part aH (by rw [hdrF_len];omega)
  rwa [hdrF_len,List.drop_zero] at this
 have e4:b.take 4=storF v 4:=by
  rw [show b.take 4=(b.take 14).take 4 by rw [List.take_take];rfl,e14]
  unfold hdrF;rw [List.take_left' (storF_len _ _)]
 have e6:(b.drop 4).take 2=storF (p.length:Int) 2:=by
  rw [show (b.drop 4).take 2=((b.take 14).drop 4).take 2 by rw [List.drop_take,List.take_take];rfl,e14]
  unfold hdrF;rw [List.drop_left' (storF_len _ _),List.take_left' (storF_len _ _)]
 have n4:numF (b.take 4)=v:=by
  rw [e4,numF_stor (by omega)];exact Int.emod_eq_of_lt (by omega) (by omega)
 have n6:(numF ((b.drop 4).take 2)).toNat=p.length:=by
  rw [e6,numF_stor (by omega)];omega
 have eD:(b.drop 32).take p.length=p:=at_part aD (by omega)
 unfold progB
 rw [n6,n4,eD,if_neg (by rw [w];omega),if_neg (by rw [e14];simp;omega)]
theorem not_whole {z:List Int} {k:Nat} (h:z.getD (4224*k+14) 0≠80):(progB (bankF z k)).1=0:=by
 unfold progB
 rw [if_pos (.inl (by rw [bank_get (by omega)];exact h))]
theorem chg_all2 {s:Int} {a n N:Nat} {g:Nat->Int->Int} {P Q R:List Int->Prop} {l:List (Int×List Int)} (hR:∀ z,Q z->R z) (hg:∀ i x,0<=g i x/\g i x<=255)
  (h:AllM s N P R l) (hst:∀ i,1<=i->i<=n->Q (stp g a (lastM l).2 i)) (hn:1<=n):AllM s N Q R (chgF l (mems s g a (lastM l).2 (n+1))):=by
 obtain ⟨hl,ha,hp⟩:=h
 obtain ⟨z1,z2,z3,z4⟩:=ha _ (last_mem hl)
 refine ⟨by simp [chgF,hl],fun m hm=>?_,?_⟩
 ·rcases List.mem_append.1 hm with h|h
  ·exact ha m h
  ·rw [List.mem_iff_getElem?] at h
   obtain ⟨i,h⟩:=h
   rw [List.getElem?_drop] at h
   have hi':1+i<n+1:=by
    have:=(List.getElem?_eq_some_iff.1 h).1
    rwa [mems_len] at this
   rw [mems_get hi'] at h
   cases h
   exact ⟨rfl,by rw [stp_len];exact z2,stp_byte z3 hg _,hR _ (hst _ (by omega) (by omega))⟩
 ·rw [mems_last hn];exact hst n hn (Nat.le_refl _)
theorem progL_nil {s:Int} {N a:Nat} {l:List (Int×List Int)} {z:List Int} (hv:validF s N) (hl:lastM l=(s,z)) (hN:z.length=N) (ha:a<=N):progL l a []=l:=by
 unfold progL
 rw [hl]
 simp only
 rw [progF_mk (by rw [hN];exact hv) (by omega) (by simp;omega)]
 simp [chgF,mems]
def Step1 (z w:List Int):Prop:=w.length=z.length/\∃ p,∀ j,j≠p->w.getD j 0=z.getD j 0
def Chain (l:List (Int×List Int)):Prop:=∀ (i:Nat) (a b:Int×List Int),l[i]? =some a->l[i+1]? =some b->Step1 a.2 b.2
theorem stp_step (g:Nat->Int->Int) (a:Nat) (z:List Int) (i:Nat):Step1 (stp g a z i) (stp g a z (i+1)):=
 ⟨by rw [stp_len,stp_len],a+i,fun j hj=>by
  rw [stp_get,stp_get]
  by_cases c:a<=j/\j<a+i/\j<z.length
  ·rw [if_pos c,if_pos ⟨c.1,by omega,c.2.2⟩]
  ·rw [if_neg c,if_neg (by omega)]⟩
theorem chain_chg {s:Int} {a n:Nat} {g:Nat->Int->Int} {l:List (Int×List Int)} (hl:l≠[]) (h:Chain l):Chain (chgF l (mems s g a (lastM l).2 (n+1))):=by
 intro i x y h1 h2
 unfold chgF at h1 h2
 by_cases c:i+1<l.length
 ·rw [List.getElem?_append_left (by omega)] at h1 h2
  exact h i x y h1 h2
 ·rw [List.getElem?_append_right (by omega),List.getElem?_drop] at h2
  have b2:1+(i+1-l.length)<n+1:=by
   have:=(List.getElem?_eq_some_iff.1 h2).1
   rwa [mems_len] at this
  rw [mems_get b2] at h2
  cases h2
  by_cases c2:i<l.length
  ·rw [List.getElem?_append_left c2] at h1
   have e:l[i]? =some (lastM l):=by
    unfold lastM
    rw [List.getLastD_eq_getLast?,List.getLast?_eq_getElem?,show l.length-1=i by omega,h1];rfl
   rw [h1] at e
   cases e
   rw [show 1+(i+1-l.length)=0+1 by omega]
   exact stp_step g a _ 0
  ·rw [List.getElem?_append_right (by omega),List.getElem?_drop] at h1
   rw [mems_get (by omega)] at h1
   cases h1
   rw [show 1+(i+1-l.length)=(1+(i-l.length))+1 by omega]
   exact stp_step g a _ _
theorem chain_one (x:Int×List Int):Chain [x]:=fun i a b h1 h2=>by simp at h2
theorem progL_eq {s:Int} {N a:Nat} {ds z:List Int} {l:List (Int×List Int)} (hv:validF s N) (hl:lastM l=(s,z)) (hN:z.length=N) (ha:a+ds.length<=N):progL l a ds=chgF l (mems s (gP ds) a z (ds.length+1)):=by
 unfold progL
 rw [hl]
 simp only
 rw [progF_mk (by rw [hN];exact hv) (by omega) (by omega),Int.toNat_natCast]
theorem AllM.last {s:Int} {N:Nat} {P R:List Int->Prop} {l:List (Int×List Int)} (h:AllM s N P R l):lastM l=(s,(lastM l).2)/\(lastM l).2.length=N:=by
 obtain ⟨z1,z2,_⟩:=h.2.1 _ (last_mem h.1)
 exact ⟨Prod.ext z1 rfl,z2⟩
theorem validB:validF 128 8448:=by unfold validF;decide
theorem clean_all {z:List Int} {k:Nat} {P R:List Int->Prop} {l:List (Int×List Int)} (hz:z.length=8448) (hk:k<2) (hPQ:P=fun w=>Out w z (4224*k) (4224*k+4224)/\(w.getD (4224*k+14) 0=0\/w.getD (4224*k+14) 0=255)) (hR:∀ w,P w->R w)
  (h:AllM 128 8448 P R l) (hc:Chain l) (h0:(∀ j,j≠4224*k+14->(lastM l).2.getD j 0=z.getD j 0)/\(z.getD (4224*k+14) 0=255->(lastM l).2.getD (4224*k+14) 0=255)):
  ∀ n,n<=33->AllM 128 8448 P R (cleanL z k l n)/\Chain (cleanL z k l n)/\Er (lastM (cleanL z k l n)).2 (4224*k) (4224*k+128*n)/\
   (∀ j,j<4224*k\/4224*k+128*n<=j->j≠4224*k+14->(lastM (cleanL z k l n)).2.getD j 0=z.getD j 0)/\(n=0->z.getD (4224*k+14) 0=255->(lastM (cleanL z k l n)).2.getD (4224*k+14) 0=255)
 | 0,_=>⟨h,hc,fun j h1 h2=>by omega,fun j _ hj=>h0.1 j hj,fun _=>h0.2⟩
 | n+1,hn=>by
  obtain ⟨a1,a2,a3,a4,a5⟩:=clean_all hz hk hPQ hR h hc h0 n (by omega)
  unfold cleanL
  by_cases u:usedS z k n=true
  ·rw [if_pos u]
   obtain ⟨e1,e2⟩:=a1.last
   have hm:(33*k+n+1)*128<=8448:=by omega
   have ee:erasL (cleanL z k l n) (33*k+n)=chgF (cleanL z k l n) (mems 128 gE ((33*k+n)*128) (lastM (cleanL z k l n)).2 (128+1)):=by
    have:=erasL_eq (st:=128) (N:=8448) (P:=P) (R:=R) validB (k:=33*k+n) a1 hm
    exact this
   have ea:(33*k+n)*128=4224*k+128*n:=by omega
   rw [ea] at ee
   have gs:∀ i j,(stp gE (4224*k+128*n) (lastM (cleanL z k l n)).2 i).getD j 0=if 4224*k+128*n<=j/\j<4224*k+128*n+i/\j<8448 then 255 else (lastM (cleanL z k l n)).2.getD j 0:=fun i j=>by
    rw [stp_get,e2];rfl
   have pl:=a1.2.2
   rw [hPQ] at pl
   obtain ⟨pl1,pl2⟩:=pl
   have hst:∀ i,1<=i->i<=128->P (stp gE (4224*k+128*n) (lastM (cleanL z k l n)).2 i):=fun i _ hi=>by
    rw [hPQ]
    refine ⟨⟨by rw [stp_len];exact pl1.1,fun j hj=>?_⟩,?_⟩
    ·rw [gs,if_neg (by omega)];exact pl1.2 j hj
    ·rw [gs]
     split
     ·exact .inr rfl
     ·exact pl2
   have L:lastM (erasL (cleanL z k l n) (33*k+n))=(128,stp gE (4224*k+128*n) (lastM (cleanL z k l n)).2 128):=by rw [ee,mems_last (by decide)]
   refine ⟨by rw [ee];exact chg_all2 hR (fun i x=>by simp [gE]) a1 hst (by decide),by rw [ee];exact chain_chg a1.1 a2,?_,?_,fun h=>by omega⟩
   ·intro j h1 h2
    rw [L]
    simp only
    rw [gs]
    split
    ·rfl
    ·exact a3 j h1 (by omega)
   ·intro j h1 h2
    rw [L]
    simp only
    rw [gs,if_neg (by omega)]
    exact a4 j (by omega) h2
  ·rw [if_neg u]
   have un:∀ j,4224*k+128*n<=j->j<4224*k+128*n+128->z.getD j 0=255:=fun j h1 h2=>by
    have hq:((z.drop (4224*k+128*n)).take 128).getD (j-(4224*k+128*n)) 0=z.getD j 0:=by rw [getTake _ _ _ (by omega),getDrop];congr 1;omega
    have hl:j-(4224*k+128*n)<((z.drop (4224*k+128*n)).take 128).length:=by rw [List.length_take,List.length_drop];omega
    rw [← hq,List.getD_eq_getElem?_getD,List.getElem?_eq_getElem hl]
    simp only [Option.getD_some]
    refine Decidable.byContradiction fun q=>u ?_
    unfold usedS
    rw [List.any_eq_true]
    exact ⟨_,List.getElem_mem hl,by simpa using q⟩
   refine ⟨a1,a2,fun j h1 h2=>?_,fun j h1 h2=>a4 j (by omega) h2,fun h=>by omega⟩
   by_cases c:j<4224*k+128*n
   ·exact a3 j h1 c
   ·by_cases c2:j=4224*k+14
    ·have :n=0:=by omega
     subst this
     rw [c2]
     exact a5 rfl (by rw [← c2];exact un j (by omega) (by omega))
    ·rw [a4 j (by omega) c2];exact un j (by omega) (by omega)
theorem inst_all {z:List Int} {k:Nat} {v:Int} {p:List Int} (hz:z.length=8448) (hb:∀ x∈z,0<=x/\x<=255) (hk:k<2) (hf:fitsF v p) (pb:∀ x∈p,0<=x/\x<=255):
  ∃ X w,instL 128 z k v p=X++[(128,w)]/\X≠[]/\(∀ m∈X,m.1=128/\m.2.length=8448/\(∀ x∈m.2,0<=x/\x<=255)/\Out m.2 z (4224*k) (4224*k+4224)/\(m.2=z\/m.2.getD (4224*k+14) 0≠80))/\
   w.length=8448/\(∀ x∈w,0<=x/\x<=255)/\Out w z (4224*k) (4224*k+4224)/\Hold w (4224*k) v p/\Er w (4224*k+15) (4224*k+32)/\Er w (4224*k+32+p.length) (4224*k+4224)/\Chain (X++[(128,w)]):=by
 obtain ⟨f1,f2,f3⟩:=hf
 have hh:=hdrF_len v p
 generalize hP:(fun w:List Int=>Out w z (4224*k) (4224*k+4224)/\(w.getD (4224*k+14) 0=0\/w.getD (4224*k+14) 0=255))=P
 generalize hR0:(fun w:List Int=>Out w z (4224*k) (4224*k+4224)/\(w=z\/w.getD (4224*k+14) 0≠80))=R
 have hR:∀ w,P w->R w:=fun w h=>by
  rw [← hP] at h;rw [← hR0];exact ⟨h.1,.inr (by omega)⟩
 have hRz:R z:=by rw [← hR0];exact ⟨Out.refl _ _ _,.inl rfl⟩
 -- the first memories
 have st0:∃ l0:List (Int×List Int),(if z.getD (4224*k+14) 0≠255 then progL [(128,z)] (4224*k+14) [0] else [(128,z)])=l0/\AllM 128 8448 P R l0/\Chain l0/\
   (∀ j,j≠4224*k+14->(lastM l0).2.getD j 0=z.getD j 0)/\(z.getD (4224*k+14) 0=255->(lastM l0).2.getD (4224*k+14) 0=255):=by
  have h1:AllM 128 8448 R R [(128,z)]:=⟨by simp,fun m hm=>by
   rw [List.mem_singleton] at hm;subst hm;exact ⟨rfl,hz,hb,hRz⟩,hRz⟩
  by_cases q:z.getD (4224*k+14) 0≠255
  ·rw [if_pos q,progL_eq (z:=z) validB rfl hz (by simp;omega)]
   have gs:∀ j,(stp (gP [0]) (4224*k+14) z 1).getD j 0=if j=4224*k+14 then 0 else z.getD j 0:=fun j=>by
    rw [stp_get]
    by_cases c:j=4224*k+14
    ·rw [if_pos (by omega),if_pos c]
     subst c
     show band8 _ ([(0:Int)].getD _ 0)=0
     rw [Nat.sub_self]
     show band8 _ 0=0
     rw [band8_eq];simp
    ·rw [if_neg (by omega),if_neg c]
   refine ⟨_,rfl,chg_all2 (P:=R) (n:=1) hR (fun i x=>band8_bd _ _) h1 (fun i h1 h2=>?_) (by decide),chain_chg (by simp) (chain_one _),?_,fun h=>absurd h q⟩
   ·have :i=1:=by omega
    subst this
    rw [← hP]
    show Out (stp (gP [0]) (4224*k+14) z 1) z _ _/\_
    exact ⟨⟨stp_len _ _ _ _,fun j hj=>by rw [gs,if_neg (by omega)]⟩,.inl (by rw [show (lastM [((128:Int),z)]).2=z from rfl,gs,if_pos rfl])⟩
   ·intro j hj
    have:=mems_last (s:=128) (g:=gP [0]) (a:=4224*k+14) (n:=1) (zs:=z) (l:=[((128:Int),z)]) (by decide)
    rw [show [(0:Int)].length+1=1+1 from rfl,this]
    simp only
    rw [gs,if_neg hj]
  ·rw [if_neg q]
   have q:z.getD (4224*k+14) 0=255:=Decidable.byContradiction q
   refine ⟨_,rfl,⟨h1.1,h1.2.1,?_⟩,chain_one _,fun _ _=>rfl,fun _=>q⟩
   rw [← hP]
   exact ⟨Out.refl _ _ _,.inr q⟩
 obtain ⟨l0,e0,c0,d0,g0⟩:=st0
 obtain ⟨c1,d1,r1,s1,_⟩:=clean_all hz hk hP.symm hR c0 d0 g0 33 (by decide)
 obtain ⟨e1,n1⟩:=c1.last
 have kp:∀ lo hi,4224*k<=lo->hi<=4224*k+4224->(4224*k+14<lo\/hi<=4224*k+14)->Keeps lo hi P:=fun lo hi h1 h2 h3 y w hy ho=>by
  rw [← hP] at hy ⊢
  refine ⟨(ho.mono h1 h2).trans hy.1 (Nat.le_refl _) (Nat.le_refl _),?_⟩
  rw [ho.2 _ (by omega)];exact hy.2
 -- the data
 have c2:AllM 128 8448 P R (progL (cleanL z k l0 33) (4224*k+32) p)/\Chain (progL (cleanL z k l0 33) (4224*k+32) p)/\∃ w2,lastM (progL (cleanL z k l0 33) (4224*k+32) p)=(128,w2)/\At w2 (4224*k+32) p/\Out w2 (lastM (cleanL z k l0 33)).2 (4224*k+32) (4224*k+32+p.length):=by
  by_cases q:1<=p.length
  ·have ep:=progL_eq (a:=4224*k+32) (ds:=p) validB e1 n1 (by omega)
   refine ⟨progL_all (lo:=4224*k+32) (hi:=4224*k+4224) validB (kp _ _ (by omega) (by omega) (by omega)) hR (by omega) (by omega) (by omega) q c1,by rw [ep];exact chain_chg c1.1 d1,?_⟩
   exact prog_last validB e1 n1 (by omega) q pb (r1.sub (by omega) (by omega))
  ·have :p=[]:=List.length_eq_zero_iff.1 (by omega)
   subst this
   rw [progL_nil (s:=128) validB e1 n1 (by omega)]
   exact ⟨c1,d1,_,e1,fun j hj=>by simp at hj,Out.refl _ _ _⟩
 obtain ⟨c2,d2,w2,e2,t2,o2⟩:=c2
 have n2:w2.length=8448:=o2.1.trans n1
 -- the header
 have ep3:=progL_eq (a:=4224*k) (ds:=hdrF v p) validB e2 n2 (by omega)
 have c3:=progL_all (a:=4224*k) (ds:=hdrF v p) (lo:=4224*k) (hi:=4224*k+14) validB (kp _ _ (by omega) (by omega) (by omega)) hR (by omega) (by omega) (by omega) (by omega) c2
 have d3:Chain (progL (progL (cleanL z k l0 33) (4224*k+32) p) (4224*k) (hdrF v p)):=by
  rw [ep3]
  have:=chain_chg (s:=128) (a:=4224*k) (n:=(hdrF v p).length) (g:=gP (hdrF v p)) c2.1 d2
  rw [e2] at this
  exact this
 obtain ⟨w3,e3,t3,o3⟩:=prog_last (a:=4224*k) (ds:=hdrF v p) validB e2 n2 (by omega) (by omega) (hdrF_byte v p) ((r1.sub (Nat.le_refl _) (by omega)).out o2 (.inl (by omega)))
 rw [hh] at o3
 have n3:w3.length=8448:=o3.1.trans n2
 have er14:Er w3 (4224*k+14) (4224*k+14+[(80:Int)].length):=((r1.sub (show 4224*k<=4224*k+14 by omega) (show 4224*k+14+[(80:Int)].length<=_ by simp<;>omega)).out o2 (.inl (by simp<;>omega))).out o3 (.inr (by omega))
 obtain ⟨w,e4,t4,o4⟩:=prog_last (a:=4224*k+14) (ds:=[80]) validB e3 n3 (by simp;omega) (by simp) (by simp) er14
 have o4:Out w w3 (4224*k+14) (4224*k+15):=o4
 have hI:instL 128 z k v p=progL (progL (progL (cleanL z k l0 33) (4224*k+32) p) (4224*k) (hdrF v p)) (4224*k+14) [80]:=by
  unfold instL
  rw [e0]
 have hX:=progL_eq (a:=4224*k+14) (ds:=[80]) validB e3 n3 (by simp;omega)
 have hY:progL (progL (progL (cleanL z k l0 33) (4224*k+32) p) (4224*k) (hdrF v p)) (4224*k+14) [80]=progL (progL (cleanL z k l0 33) (4224*k+32) p) (4224*k) (hdrF v p)++[(128,w)]:=by
  rw [hX] at e4 ⊢
  have e9:chgF (progL (progL (cleanL z k l0 33) (4224*k+32) p) (4224*k) (hdrF v p)) (mems 128 (gP [80]) (4224*k+14) w3 ([(80:Int)].length+1))=progL (progL (cleanL z k l0 33) (4224*k+32) p) (4224*k) (hdrF v p)++[(128,stp (gP [80]) (4224*k+14) w3 1)]:=rfl
  rw [e9] at e4 ⊢
  unfold lastM at e4
  rw [List.getLastD_concat] at e4
  rw [e4]
 have d4:Chain (progL (progL (cleanL z k l0 33) (4224*k+32) p) (4224*k) (hdrF v p)++[(128,w)]):=by
  rw [← hY,hX]
  have:=chain_chg (s:=128) (a:=4224*k+14) (n:=[(80:Int)].length) (g:=gP [80]) c3.1 d3
  rw [e3] at this
  exact this
 have oA:Out w3 z (4224*k) (4224*k+4224):=by
  have:=c3.2.2
  rw [← hP,e3] at this
  exact this.1
 have b3:=c3.2.1 _ (last_mem c3.1)
 rw [e3] at b3
 refine ⟨_,w,by rw [hI,hY],c3.1,fun m hm=>?_,o4.1.trans n3,?_,(o4.mono (by omega) (by omega)).trans oA (Nat.le_refl _) (Nat.le_refl _),⟨⟨f1,f2,f3⟩,pb,t3.out o4 (.inl (by omega)),?_,(t2.out o3 (.inr (by omega))).out o4 (.inr (by omega))⟩,?_,?_,d4⟩
 ·obtain ⟨m1,m2,m3,m4⟩:=c3.2.1 m hm
  rw [← hR0] at m4
  exact ⟨m1,m2,m3,m4.1,m4.2⟩
 ·have:=stp_byte (g:=gP [80]) (a:=4224*k+14) b3.2.2.1 (fun i x=>band8_bd _ _) 1
  rw [hX] at e4
  have e9:=mems_last (s:=128) (g:=gP [80]) (a:=4224*k+14) (n:=1) (zs:=w3) (l:=progL (progL (cleanL z k l0 33) (4224*k+32) p) (4224*k) (hdrF v p)) (by decide)
  have e10:((128:Int),w)=(128,stp (gP [80]) (4224*k+14) w3 1):=e4.symm.trans e9
  have e11:w=stp (gP [80]) (4224*k+14) w3 1:=(Prod.mk.inj e10).2
  rw [e11];exact this
 ·exact t4 0 (by simp)
 ·exact (((r1.sub (by omega) (by omega)).out o2 (.inl (by omega))).out o3 (.inr (by omega))).out o4 (.inr (by omega))
 ·exact (((r1.sub (by omega) (by omega)).out o2 (.inr (by omega))).out o3 (.inr (by omega))).out o4 (.inr (by omega))
theorem cls_none {z:List Int} {k:Nat} (h:(progB (bankF z k)).1=0):classB (bankF z k)=(-1,0):=by unfold classB;rw [if_pos h]
theorem Hold.cls {z:List Int} {k:Nat} {v:Int} {p:List Int} (h:Hold z (4224*k) v p) (hz:z.length=8448) (hk:k<2):
  classB (bankF z k)=(if z.getD (4224*k+17) 0=0 then 0 else if z.getD (4224*k+15) 0=0 then 2 else 1,v):=by
 have hp:=h.prog hz hk
 obtain ⟨f1,_⟩:=h.fit
 unfold classB
 rw [hp,bank_get (by omega),bank_get (by omega)]
 simp only
 rw [if_neg (by omega)]
 split
 ·rfl
 ·split<;>rfl
theorem Hold.congr {z w:List Int} {o:Nat} {v:Int} {p:List Int} (h:Hold z o v p) (hw:∀ j,j<4128->¬ (15<=j/\j<=31)->w.getD (o+j) 0=z.getD (o+j) 0):Hold w o v p:=by
 obtain ⟨f1,f2,f3⟩:=h.fit
 refine ⟨h.fit,h.byt,fun j hj=>?_,by rw [hw 14 (by decide) (by decide)];exact h.who,fun j hj=>?_⟩
 ·have hj':=hj
  rw [hdrF_len] at hj'
  rw [hw j (by omega) (by omega)];exact h.hdr j hj
 ·rw [show o+32+j=o+(32+j) by omega,hw (32+j) (by omega) (by omega),← Nat.add_assoc];exact h.dat j hj
theorem selF_eq {z:List Int} {a x b y:Int} (h0:classB (bankF z 0)=(a,x)) (h1:classB (bankF z 1)=(b,y)):selF z=if a<0/\b<0 then -1 else if b>a\/(b=a/\y>x) then 1 else 0:=by
 unfold selF;rw [h0,h1]
theorem select_eq {z:List Int} {k:Nat} {v:Int} {p:List Int} (hz:z.length=8448) (hs:selF z=(k:Nat)) (hp:progB (bankF z k)=(v,p)):selectF 128 z=((v,p),0):=by
 unfold selectF
 rw [if_neg (fun h=>h ⟨rfl,hz⟩),hs,if_neg (by omega),Int.toNat_natCast,hp]
theorem inst_eq {z:List Int} {c:Nat} {v:Int} {p:List Int} (hz:z.length=8448) (hs:selF z=(c:Nat)) (hf:fitsF v p) (hv:(progB (bankF z 0)).1<v/\(progB (bankF z 1)).1<v):installF 128 z v p=(instL 128 z (1-c) v p,0):=by
 unfold installF
 have e:(selectF 128 z).2=0:=by
  unfold selectF
  rw [if_neg (fun h=>h ⟨rfl,hz⟩),hs,if_neg (by omega)]
 rw [e,if_neg (by decide),if_neg (fun h=>h hf),if_neg (by omega),hs]
 congr 1
 congr 1
 omega
theorem inst_old {z:List Int} {c:Nat} {v:Int} {p:List Int} (hz:z.length=8448) (hs:selF z=(c:Nat)) (hf:fitsF v p) (hv:v<=(progB (bankF z 0)).1\/v<=(progB (bankF z 1)).1):installF 128 z v p=([],14):=by
 unfold installF
 have e:(selectF 128 z).2=0:=by
  unfold selectF
  rw [if_neg (fun h=>h ⟨rfl,hz⟩),hs,if_neg (by omega)]
 rw [e,if_neg (by decide),if_neg (fun h=>h hf),if_pos (by omega)]
theorem find_eq {z:List Int} {k:Nat} {v:Int} (hk:(k=0/\(progB (bankF z 0)).1=v)\/(k=1/\(progB (bankF z 0)).1≠v/\(progB (bankF z 1)).1=v)) (hv:v≠0):findF z v=(k:Nat):=by
 unfold findF
 rcases hk with ⟨rfl,h⟩|⟨rfl,h,h1⟩
 ·rw [if_pos ⟨by omega,h⟩];rfl
 ·rw [if_neg (fun q=>h q.2),if_pos ⟨by omega,h1⟩];rfl
theorem mark_ok {z:List Int} {k m:Nat} {v:Int} (hz:z.length=8448) (hb:∀ x∈z,0<=x/\x<=255) (hf:findF z v=(k:Nat)) (hk:k<2) (hm:1<=m/\m<=3):
  ∃ w,markF 128 z v m=([(128,z),(128,w)],0)/\w.length=8448/\(∀ x∈w,0<=x/\x<=255)/\∀ j,w.getD j 0=if j=4224*k+14+m then 0 else z.getD j 0:=by
 refine ⟨stp (gP [0]) (4224*k+14+m) z 1,?_,(stp_len _ _ _ _).trans hz,stp_byte hb (fun i x=>band8_bd _ _) _,fun j=>?_⟩
 ·unfold markF
  rw [if_neg (by
   rintro (h|h|h)
   ·exact h ⟨rfl,hz⟩
   ·omega
   ·omega),hf,if_neg (by omega),show (4224*((k:Nat):Int)+14+(m:Int))=((4224*k+14+m:Nat):Int) by omega,progF_mk (by rw [hz];exact validB) (by omega) (by rw [hz];simp;omega),Int.toNat_natCast]
  rfl
 ·rw [stp_get]
  by_cases c:j=4224*k+14+m
  ·rw [if_pos (by omega),if_pos c]
   subst c
   show band8 _ ([(0:Int)].getD _ 0)=0
   rw [Nat.sub_self]
   show band8 _ 0=0
   rw [band8_eq];simp
  ·rw [if_neg (by omega),if_neg c]
theorem format_ok {v:Int} {p:List Int} (hf:fitsF v p) (pb:∀ x∈p,0<=x/\x<=255):∃ z,formatB v p=((128,z),0)/\z.length=8448/\(∀ x∈z,0<=x/\x<=255)/\Hold z 0 v p/\z.getD 15 0=0/\z.getD 16 0=0/\Er z 17 32/\Er z (32+p.length) 8448:=by
 obtain ⟨f1,f2,f3⟩:=hf
 have hh:=hdrF_len v p
 unfold formatB
 rw [if_pos ⟨f1,f2,f3⟩]
 refine ⟨_,rfl,by simp only [List.length_append,hh,List.length_cons,List.length_nil,List.length_replicate];omega,?_,?_⟩
 ·intro x hx
  rcases List.mem_append.1 hx with h|h
  ·exact hdrF_byte v p x h
  rcases List.mem_append.1 h with h|h
  ·simp at h;omega
  rcases List.mem_append.1 h with h|h
  ·have:=List.eq_of_mem_replicate h;omega
  rcases List.mem_append.1 h with h|h
  ·exact pb x h
  ·have:=List.eq_of_mem_replicate h;omega
 ·have gR:∀ n j:Nat,j<n->(List.replicate n (255:Int)).getD j 0=255:=fun n j h=>by
   rw [List.getD_eq_getElem?_getD,List.getElem?_replicate,if_pos h];rfl
  have g:∀ j,(hdrF v p++([80,0,0]++(List.replicate 15 255++(p++List.replicate (8416-p.length) 255)))).getD j 0=if j<14 then (hdrF v p).getD j 0 else if j<17 then [(80:Int),0,0].getD (j-14) 0 else if j<32 then 255 else if j<32+p.length then p.getD (j-32) 0 else if j<8448 then 255 else 0:=fun j=>by
   rw [getA,hh]
   by_cases c:j<14
   ·rw [if_pos c,if_pos c]
   rw [if_neg c,if_neg c,getA]
   simp only [List.length_cons,List.length_nil]
   by_cases c2:j<17
   ·rw [if_pos (by omega),if_pos c2]
   rw [if_neg (by omega),if_neg c2,getA,List.length_replicate]
   by_cases c3:j<32
   ·rw [if_pos (by omega),if_pos c3,gR _ _ (by omega)]
   rw [if_neg (by omega),if_neg c3,getA]
   by_cases c4:j<32+p.length
   ·rw [if_pos (by omega),if_pos c4];congr 1<;>omega
   rw [if_neg (by omega),if_neg c4]
   by_cases c5:j<8448
   ·rw [if_pos c5,gR _ _ (by omega)]
   ·rw [if_neg c5,List.getD_eq_getElem?_getD,List.getElem?_eq_none (by rw [List.length_replicate];omega)];rfl
  generalize hdrF v p++([80,0,0]++(List.replicate 15 255++(p++List.replicate (8416-p.length) 255)))=z at g
  refine ⟨⟨⟨f1,f2,f3⟩,pb,fun j hj=>?_,by rw [g];rfl,fun j hj=>?_⟩,by rw [g];rfl,by rw [g];rfl,fun j h1 h2=>?_,fun j h1 h2=>?_⟩
  ·rw [hh] at hj
   rw [Nat.zero_add,g,if_pos hj]
  ·rw [g,if_neg (by omega),if_neg (by omega),if_neg (by omega),if_pos (by omega)];congr 1;omega
  ·rw [g,if_neg (by omega),if_neg (by omega),if_pos (by omega)]
  ·rw [g,if_neg (by omega),if_neg (by omega),if_neg (by omega),if_neg (by omega),if_pos h2]
structure Run (z p0 p1:List Int):Prop where
 len:z.length=8448
 byt:∀ x∈z,0<=x/\x<=255
 h0:Hold z 0 3 p0
 a15:z.getD 15 0=0
 a16:z.getD 16 0=0
 a17:z.getD 17 0=255
 h1:Hold z 4224 7 p1
 b15:z.getD 4239 0=0
 b16:z.getD 4240 0=255
 b17:z.getD 4241 0=255
theorem run_ok {p0 p1:List Int} (h0:p0.length<=60) (h1:p1.length<=60) (b0:∀ x∈p0,0<=x/\x<=255) (b1:∀ x∈p1,0<=x/\x<=255):
  ∃ f x y X,formatB 3 p0=((128,f),0)/\installF 128 f 7 p1=(X++[(128,x)],0)/\markF 128 x 7 1=([(128,x),(128,y)],0)/\Run y p0 p1:=by
 obtain ⟨f,e1,fl,fb,fh,f15,f16,f17,fer⟩:=format_ok (v:=3) (p:=p0) ⟨by decide,by decide,by omega⟩ b0
 have p0h:=Hold.prog (k:=0) fh fl (by decide)
 have c0:=Hold.cls (k:=0) fh fl (by decide)
 rw [show 4224*0+17=17 from rfl,show 4224*0+15=15 from rfl,f17 17 (by decide) (by decide),f15] at c0
 have n1:=not_whole (z:=f) (k:=1) (by rw [fer (4224*1+14) (by omega) (by decide)];decide)
 have s0:selF f=((0:Nat):Int):=by rw [selF_eq c0 (cls_none n1)];rfl
 have fit:fitsF 7 p1:=⟨by decide,by decide,by omega⟩
 have e2:=inst_eq fl s0 fit ⟨by rw [p0h];show (3:Int)<7;decide,by rw [n1];decide⟩
 obtain ⟨X,x,x1,x2,x3,x4,x5,x6,x7,x8,x9,x10⟩:=inst_all (k:=1) fl fb (by decide) fit b1
 have x7:Hold x 4224 7 p1:=x7
 have h0x:Hold x 0 3 p0:=fh.congr (fun j hj _=>by rw [Nat.zero_add];exact x6.2 j (.inl (by omega)))
 have px0:=Hold.prog (k:=0) h0x x4 (by decide)
 have px1:=Hold.prog (k:=1) x7 x4 (by decide)
 obtain ⟨y,y1,y2,y3,y4⟩:=mark_ok (k:=1) (m:=1) (v:=7) x4 x5 (find_eq (.inr ⟨rfl,by rw [px0];show (3:Int)≠7;decide,by rw [px1]⟩) (by decide)) (by decide) (by decide)
 have y4:∀ j,y.getD j 0=if j=4239 then 0 else x.getD j 0:=y4
 have x6':∀ j,j<4224->x.getD j 0=f.getD j 0:=fun j hj=>x6.2 j (.inl hj)
 refine ⟨f,x,y,X,e1,by rw [e2,x1],y1,⟨y2,y3,h0x.congr (fun j hj _=>by rw [Nat.zero_add,y4,if_neg (by omega)]),?_,?_,?_,x7.congr (fun j hj hn=>by rw [y4,if_neg (by omega)]),?_,?_,?_⟩⟩
 ·rw [y4,if_neg (by decide),x6' _ (by decide)];exact f15
 ·rw [y4,if_neg (by decide),x6' _ (by decide)];exact f16
 ·rw [y4,if_neg (by decide),x6' _ (by decide)];exact f17 17 (by decide) (by decide)
 ·rw [y4,if_pos rfl]
 ·rw [y4,if_neg (by decide)];exact x8 4240 (by decide) (by decide)
 ·rw [y4,if_neg (by decide)];exact x8 4241 (by decide) (by decide)
theorem hidP_ex:∃ f:List Int->Int×List Int,∀ b,f b=progB b:=⟨progB,fun _=>rfl⟩
noncomputable def hidP:List Int->Int×List Int:=hidP_ex.choose
theorem hidP_eq (b:List Int):hidP b=progB b:=hidP_ex.choose_spec b
theorem Bs.cut {E E':Mem} {b b':Option Addr} {l c lo hi:Nat} {zs:List Int} (h:Bs E b l c zs)
  (hF:∀ cs,E (.slice b l c) cs->E' (.slice b' (hi-lo) (c-lo)) (List.take ((hi-lo)*1) (List.drop (lo*1) cs))) (hN:b'.isNone=b.isNone) (h1:lo<=hi) (h2:hi<=l):Bs E' b' (hi-lo) (c-lo) ((zs.drop lo).take (hi-lo)):=by
 have hlen:=h.2.1
 have hc:=h.2.2.1
 refine ⟨?_,by rw [List.length_take,List.length_drop,hlen];omega,by omega,fun z hz=>h.2.2.2.1 z (List.drop_subset _ _ (List.take_subset _ _ hz)),fun e=>?_⟩
 ·rcases h.1 with q|q
  ·exact .inl (by rw [q];simp)
  ·refine .inr ?_
   have:=hF _ q
   rw [Nat.mul_one,Nat.mul_one,← List.map_drop,← List.map_take] at this
   exact this
 ·have :zs=[]:=h.2.2.2.2 (by cases b with |none=>rfl|some x=>rw [e] at hN;cases hN)
  rw [this];simp
noncomputable def tabP1:FuncId->List SV->Mem->(SV->Mem->Prop)->Prop:=fun f args E K=>match f with
 | 62=>d1 args fun x0=>dS x0 fun b1 l2 c3=>∃ (zs:List Int),Bs E b1 l2 c3 zs/\l2<=4/\(K (I (numF zs)) E)
 | 31=>d2 args fun x0 x1=>dI x0 fun a1=>dS x1 fun b2 l3 c4=>∃ (zs:List Int),Bs E b2 l3 c4 zs/\0<=a1/\a1<=1000000000/\l3<=4096/\(∀ (b':Option Addr) (l' c':Nat) (ys:List Int) (E':Mem),Mem.le E E'->Hyp (ys=hidH a1 zs)->Bs E' b' l' c' ys->K (L b' l' c') E')
 | 63=>d2 args fun x0 x1=>dS x0 fun b1 l2 c3=>dS x1 fun b4 l5 c6=>∃ (xs:List Int) (ys:List Int),Bs E b1 l2 c3 xs/\Bs E b4 l5 c6 ys/\(K (B (decide (xs=ys))) E)
 | _=>False
theorem tabP1_ok:TabOK Try.prog tabP1:=by
 intro f args E K h
 unfold tabP1 at h
 split at h
 ·replace h:=d1_elim h
  obtain ⟨x0,rfl,h⟩:=h
  replace h:=dS_elim h
  obtain ⟨b1,l2,c3,rfl,h⟩:=h
  obtain ⟨zs,g0,g1,h⟩:=h
  exact TabSem.congr (valL_cons rfl rfl) (esm okJ1 Try.func62 rfl (s43 g0 g1 h))
 ·replace h:=d2_elim h
  obtain ⟨x0,x1,rfl,h⟩:=h
  replace h:=dI_elim h
  obtain ⟨a1,rfl,h⟩:=h
  replace h:=dS_elim h
  obtain ⟨b2,l3,c4,rfl,h⟩:=h
  obtain ⟨zs,g0,g1,g2,g3,h⟩:=h
  exact TabSem.congr (valL_cons rfl (valL_cons rfl rfl)) (esm okH1 Try.func31 rfl (q31 g0 g1 g2 g3 h))
 ·replace h:=d2_elim h
  obtain ⟨x0,x1,rfl,h⟩:=h
  replace h:=dS_elim h
  obtain ⟨b1,l2,c3,rfl,h⟩:=h
  replace h:=dS_elim h
  obtain ⟨b4,l5,c6,rfl,h⟩:=h
  obtain ⟨xs,ys,g0,g1,h⟩:=h
  exact TabSem.congr (valL_cons rfl (valL_cons rfl rfl)) (s61 g0 g1 h)
 ·exact h.elim
noncomputable def P1:Cx:={ P:=Try.prog,inl:=fun f=>List.contains [29] f,tab:=tabP1,isB:=fun _=>false,tabB:=fun _ _ _ _ _=>False,opt:={ unroll:=0,carry:=[] },muts:=mutsD }
theorem okP1:CxOK P1:=CxOK.four tabP1_ok (by kernel_rfl) (okInl (by kernel_rfl)) (fun _ _ _ _ _ h=>h.elim)
theorem q37 {b1:Option Addr} {l2:Nat} {c3:Nat} {zs:List Int} (h0:Bs E b1 l2 c3 zs) (h1:l2=4224) (h:∀ (v:Int) (d:List Int) (b':Option Addr) (l' c':Nat) (E':Mem),Mem.le E E'->Hyp (hidP zs=(v,d))->Bs E' b' l' c' d->K (.tup [I v,L b' l' c']) E'):
  Ent P1 8 Try.f37 [L b1 l2 c3] E K:=by
 refine sm_ (?_:req (l2<=c3) (req ((0:Int)<=(6:Int)/\6<=(NI (toN none c3))) (∀ (base':Option Addr) (E':Mem),Mem.le E E'->(∀ (cs:List Value),E (VS b1 l2 c3) cs->E' (VS base' 2 (toN none c3-4)) (List.take 2 (List.drop 4 cs)))->Option.isNone base'=Option.isNone b1->∃ (zs:List Int),Bs E' base' 2 (toN none c3-4) zs/\2<=4/\Mem.le E' E'/\req ((0:Int)<=(14:Int)/\14<(NI l2)) ((∃ (cs:List Value),E' (VS b1 l2 c3) cs/\(cs=[]->False))/\∃ (n:Int),LoadE P1.P E' 5 (VS b1 l2 c3) 14 (SV.raw (U8 n))/\bif n !=(80:Int) then Mem.le E E'/\K (SV.tup [I 0,L none 0 0]) E' else bif bif false then true else decide (numF zs>(4096:Int)) then Mem.le E E'/\K (SV.tup [I 0,L none 0 0]) E' else req (l2<=c3) (req ((0:Int)<=(4:Int)/\4<=(NI (toN none c3))) (∀ (base':Option Addr) (E'_1:Mem),Mem.le E' E'_1->(∀ (cs:List Value),E' (VS b1 l2 c3) cs->E'_1 (VS base' 4 (toN none c3-0)) (List.take 4 (List.drop 0 cs)))->Option.isNone base'=Option.isNone b1->req (l2<=c3) (req ((0:Int)<=WI ((32:Int)+numF zs)/\WI ((32:Int)+numF zs)<=(NI (toN none c3))) (req ((0:Int)<=(32:Int)/\32<=(NI (toN (some (WI ((32:Int)+numF zs))) l2))) (∀ (base'_1:Option Addr) (E':Mem),Mem.le E'_1 E'->(∀ (cs:List Value),E'_1 (VS b1 l2 c3) cs->E' (VS base'_1 (toN (some (WI ((32:Int)+numF zs))) l2-32) (toN none c3-32)) (List.take ((toN (some (WI ((32:Int)+numF zs))) l2-32)*1) (List.drop 32 cs)))->Option.isNone base'_1=Option.isNone b1->∃ (zs_1:List Int),Bs E' base' 4 (toN none c3-0) zs_1/\4<=4/\Mem.le E' E'/\bif decide (numF zs_1>=(1:Int)) then bif bif true then decide (numF zs_1<=(1000000000:Int)) else false then Mem.le E' E'/\bif !bif true then decide ((NI (toN (some (WI ((32:Int)+numF zs))) l2-32))<=(4096:Int)) else false then Mem.le E E'/\K (SV.tup [I 0,L none 0 0]) E' else req (l2<=c3) (req ((0:Int)<=(14:Int)/\14<=(NI (toN none c3))) (∀ (base':Option Addr) (E'_2:Mem),Mem.le E' E'_2->(∀ (cs:List Value),E' (VS b1 l2 c3) cs->E'_2 (VS base' 14 (toN none c3-0)) (List.take 14 (List.drop 0 cs)))->Option.isNone base'=Option.isNone b1->∃ (zs_2:List Int),Bs E'_2 base'_1 (toN (some (WI ((32:Int)+numF zs))) l2-32) (toN none c3-32) zs_2/\(0:Int)<=numF zs_1/\numF zs_1<=(1000000000:Int)/\toN (some (WI ((32:Int)+numF zs))) l2-32<=4096/\∀ (b':Option Addr) (l' c':Nat) (ys:List Int) (E':Mem),Mem.le E'_2 E'->Hyp (ys=hidH (numF zs_1) zs_2)->Bs E' b' l' c' ys->Mem.le E'_2 E'/\∃ (xs:List Int),∃ (ys:List Int),Bs E' b' l' c' xs/\Bs E' base' 14 (toN none c3-(0:Nat)) ys/\Mem.le E' E'/\bif bif false then true else !decide (xs=ys) then Mem.le E E'/\K (SV.tup [I 0,L none 0 0]) E' else Mem.le E E'/\K (SV.tup [I (numF zs_1),L base'_1 (toN (some (WI ((32:Int)+numF zs))) l2-(32:Nat)) (toN none c3-(32:Nat))]) E')) else Mem.le E' E'/\Mem.le E E'/\K (SV.tup [I 0,L none 0 0]) E' else Mem.le E' E'/\Mem.le E E'/\K (SV.tup [I 0,L none 0 0]) E')))))))))
 delta WI NI U8 VS
 have hl:=h0.2.1
 have hb:=h0.2.2.2.1
 have hc:=h0.2.2.1
 have hN:∀ k,numF ((zs.drop k).take 2)=(((numF ((zs.drop k).take 2)).toNat:Nat):Int)/\(numF ((zs.drop k).take 2)).toNat<65536:=fun k=>by
  obtain ⟨b1,b2⟩:=numF_bd (zs:=(zs.drop k).take 2) (fun z hz=>hb z (List.drop_subset _ _ (List.take_subset _ _ hz)))
  have hk:((zs.drop k).take 2).length<=2:=by rw [List.length_take];omega
  have :(256:Int) ^ ((zs.drop k).take 2).length<=65536:=by
   have :∀ m:Nat,m<=2->(256:Int) ^ m<=65536:=by decide
   exact this _ hk
  omega
 obtain ⟨n1,n2⟩:=hN 4
 have pb:hidP zs=progB zs:=hidP_eq zs
 unfold progB at pb
 simp only [toN]
 refine req_intro hc (req_intro (by omega) (fun bA EA kA fA nA=>⟨(zs.drop 4).take 2,Bs.cut (lo:=4) (hi:=6) h0 fA nA (by decide) (by omega),by decide,mr_,req_intro (by omega) ⟨(h0.mono kA).ne (i:=14) (by omega),zs.getD 14 0,(h0.mono kA).load rfl (i:=14) (by omega),?_⟩⟩))
 refine condC (fun q=>⟨kA,?_⟩) (fun q=>condC (fun q2=>⟨kA,?_⟩) (fun q2=>?_))
 ·have q:zs.getD 14 0≠80:=by simpa using q
  rw [if_pos (.inl q)] at pb
  exact h 0 [] none 0 0 EA kA pb (Bs.nil _)
 ·have q2:numF ((zs.drop 4).take 2)>4096:=by simpa using q2
  rw [if_pos (.inr (by omega))] at pb
  exact h 0 [] none 0 0 EA kA pb (Bs.nil _)
 have q:zs.getD 14 0=80:=by simpa using q
 have q2:numF ((zs.drop 4).take 2)<=4096:=by simpa using q2
 rw [if_neg (by omega)] at pb
 generalize hn:(numF ((zs.drop 4).take 2)).toNat=n at *
 rw [n1,wrap_i64 (x:=32+(n:Int)) (by omega),show (32:Int)+(n:Int)=((32+n:Nat):Int) by omega]
 have en:32+n-32=n:=by omega
 simp only [Int.toNat_natCast,en]
 refine req_intro hc (req_intro (by omega) (fun bB EB kB fB nB=>req_intro hc (req_intro (by omega) (req_intro (by omega) (fun bC EC kC fC nC=>⟨zs.take 4,?_,by decide,mr_,?_⟩)))))
 ·have:=Bs.cut (lo:=0) (hi:=4) (h0.mono kA) fB nB (by decide) (by omega)
  rw [List.drop_zero] at this
  exact this.mono kC
 have kc:Mem.le E EC:=mt_ kA (mt_ kB kC)
 have hD:Bs EC bC n (c3-32) ((zs.drop 32).take n):=by
  have:=Bs.cut (lo:=32) (hi:=32+n) (h0.mono (mt_ kA kB)) (by rw [en];exact fC) nC (by omega) (by omega)
  rwa [en] at this
 have ld:=hD.2.1
 have bad:¬ (1<=numF (zs.take 4)/\numF (zs.take 4)<=1000000000)->Mem.le E EC/\K (.tup [I 0,L none 0 0]) EC:=fun w=>by
  rw [if_pos (.inl w)] at pb
  exact ⟨kc,h 0 [] none 0 0 EC kc pb (Bs.nil _)⟩
 refine condC (fun w1=>condC (fun w2=>⟨mr_,condC (fun w3=>?_) (fun w3=>?_)⟩) (fun w2=>⟨mr_,bad ?_⟩)) (fun w1=>⟨mr_,bad ?_⟩)
 ·simp at w3;omega
 ·have w1:1<=numF (zs.take 4):=by simpa using w1
  have w2:numF (zs.take 4)<=1000000000:=by simpa using w2
  refine req_intro hc (req_intro (by omega) (fun bD ED kD fD nD=>⟨(zs.drop 32).take n,hD.mono kD,by omega,w2,by omega,fun bH lH cH yH EH kH eH HH=>⟨kH,yH,zs.take 14,HH,?_,mr_,?_⟩⟩))
  ·have:=Bs.cut (lo:=0) (hi:=14) (h0.mono kc) fD nD (by decide) (by omega)
   rw [List.drop_zero] at this
   exact this.mono kH
  have kh:Mem.le E EH:=mt_ kc (mt_ kD kH)
  have eH:yH=hidH (numF (zs.take 4)) ((zs.drop 32).take n):=eH
  rw [hidH_eq] at eH
  refine condC (fun w=>⟨kh,?_⟩) (fun w=>⟨kh,?_⟩)
  ·have w:yH≠zs.take 14:=by simpa using w
   rw [if_pos (.inr (by rw [← eH];exact w))] at pb
   exact h 0 [] none 0 0 EH kh pb (Bs.nil _)
  ·have w:yH=zs.take 14:=by simpa using w
   rw [if_neg (by rw [← eH,w];simp;omega)] at pb
   exact h _ _ _ _ _ EH kh pb (hD.mono (mt_ kD kH))
 ·simp at w2;omega
 ·simp at w1;omega
def sel2 (x y:List Int):Int:=
 if (classB x).1<0/\(classB y).1<0 then -1 else if (classB y).1>(classB x).1\/((classB y).1=(classB x).1/\(classB y).2>(classB x).2) then 1 else 0
theorem selF_2 (z:List Int):selF z=sel2 (bankF z 0) (bankF z 1):=rfl
theorem progB_len (b:List Int):(progB b).2.length<=4096:=by
 unfold progB
 split
 ·simp
 ·rename_i q
  split
  ·simp
  ·simp only [List.length_take];omega
theorem Bs.cut3 {E E':Mem} {b b':Option Addr} {l c lo hi:Nat} {zs:List Int} (h:Bs E b l c zs)
  (hF:∀ cs,E (.slice b l c) cs->E' (.slice b' (hi-lo) (hi-lo)) (List.take ((hi-lo)*1) (List.drop (lo*1) cs))) (hN:b'.isNone=b.isNone) (h1:lo<=hi) (h2:hi<=l):Bs E' b' (hi-lo) (hi-lo) ((zs.drop lo).take (hi-lo)):=by
 have hlen:=h.2.1
 refine ⟨?_,by rw [List.length_take,List.length_drop,hlen];omega,Nat.le_refl _,fun z hz=>h.2.2.2.1 z (List.drop_subset _ _ (List.take_subset _ _ hz)),fun e=>?_⟩
 ·rcases h.1 with q|q
  ·exact .inl (by rw [q];simp)
  ·refine .inr ?_
   have:=hF _ q
   rw [Nat.mul_one,Nat.mul_one,← List.map_drop,← List.map_take] at this
   exact this
 ·have :zs=[]:=h.2.2.2.2 (by cases b with |none=>rfl|some x=>rw [e] at hN;cases hN)
  rw [this];simp
theorem hidC_ex:∃ f:List Int->Int×Int,∀ b,f b=classB b:=⟨classB,fun _=>rfl⟩
noncomputable def hidC:List Int->Int×Int:=hidC_ex.choose
theorem hidC_eq (b:List Int):hidC b=classB b:=hidC_ex.choose_spec b
theorem hidS_ex:∃ f:List Int->List Int->Int,∀ b c,f b c=sel2 b c:=⟨sel2,fun _ _=>rfl⟩
noncomputable def hidS:List Int->List Int->Int:=hidS_ex.choose
theorem hidS_eq (b c:List Int):hidS b c=sel2 b c:=hidS_ex.choose_spec b c
noncomputable def tabP2:FuncId->List SV->Mem->(SV->Mem->Prop)->Prop:=fun f args E K=>match f with
 | 37=>d1 args fun x0=>dS x0 fun b1 l2 c3=>∃ (zs:List Int),Bs E b1 l2 c3 zs/\l2=4224/\(∀ (v:Int) (d:List Int) (b':Option Addr) (l' c':Nat) (E':Mem),Mem.le E E'->Hyp (hidP zs=(v,d))->Bs E' b' l' c' d->K (.tup [I v,L b' l' c']) E')
 | _=>False
theorem tabP2_ok:TabOK Try.prog tabP2:=by
 intro f args E K h
 unfold tabP2 at h
 split at h
 ·replace h:=d1_elim h
  obtain ⟨x0,rfl,h⟩:=h
  replace h:=dS_elim h
  obtain ⟨b1,l2,c3,rfl,h⟩:=h
  obtain ⟨zs,g0,g1,h⟩:=h
  exact TabSem.congr (valL_cons rfl rfl) (esm okP1 Try.func37 rfl (q37 g0 g1 h))
 ·exact h.elim
noncomputable def P2:Cx:={ P:=Try.prog,inl:=fun f=>List.contains [53] f,tab:=tabP2,isB:=fun _=>false,tabB:=fun _ _ _ _ _=>False,opt:={ unroll:=0,carry:=[] },muts:=mutsD }
theorem okP2:CxOK P2:=CxOK.four tabP2_ok (by kernel_rfl) (okInl (by kernel_rfl)) (fun _ _ _ _ _ h=>h.elim)
theorem q61 {b1:Option Addr} {l2:Nat} {c3:Nat} {zs:List Int} (h0:Bs E b1 l2 c3 zs) (h1:l2=4224) (h:∀ (a x:Int) (E':Mem),Mem.le E E'->Hyp (hidC zs=(a,x))->K (.tup [I a,I x]) E'):
  Ent P2 8 Try.f61 [L b1 l2 c3] E K:=by
 refine sm_ (?_:∃ (zs:List Int),Bs E b1 l2 c3 zs/\l2=4224/\∀ (v:Int) (d:List Int) (b':Option Addr) (l' c':Nat) (E':Mem),Mem.le E E'->Hyp (hidP zs=(v,d))->Bs E' b' l' c' d->Mem.le E E'/\bif v==(0:Int) then Mem.le E E'/\K (SV.tup [I (-1),I 0]) E' else req ((0:Int)<=(17:Int)/\17<(NI l2)) ((∃ (cs:List Value),E' (VS b1 l2 c3) cs/\(cs=[]->False))/\∃ (n:Int),LoadE P2.P E' 5 (VS b1 l2 c3) 17 (SV.raw (U8 n))/\Mem.le E' E'/\bif n==(0:Int) then Mem.le E E'/\K (SV.tup [I 0,I v]) E' else req ((0:Int)<=(15:Int)/\15<(NI l2)) ((∃ (cs:List Value),E' (VS b1 l2 c3) cs/\(cs=[]->False))/\∃ (n:Int),LoadE P2.P E' 5 (VS b1 l2 c3) 15 (SV.raw (U8 n))/\Mem.le E' E'/\bif n==(0:Int) then Mem.le E E'/\K (SV.tup [I 2,I v]) E' else Mem.le E E'/\K (SV.tup [I 1,I v]) E')))
 delta NI U8 VS
 refine ⟨zs,h0,h1,fun v d b' l' c' E' k r B=>⟨k,?_⟩⟩
 have r:hidP zs=(v,d):=r
 rw [hidP_eq] at r
 have pc:=hidC_eq zs
 unfold classB at pc
 rw [r] at pc
 simp only at pc
 have B':=h0.mono k
 refine condC (fun q=>⟨k,h (-1) 0 E' k ?_⟩) (fun q=>req_intro (by omega) ⟨B'.ne (i:=17) (by omega),zs.getD 17 0,B'.load rfl (i:=17) (by omega),mr_,condC (fun q2=>⟨k,h 0 v E' k ?_⟩) (fun q2=>req_intro (by omega) ⟨B'.ne (i:=15) (by omega),zs.getD 15 0,B'.load rfl (i:=15) (by omega),mr_,condC (fun q3=>⟨k,h 2 v E' k ?_⟩) (fun q3=>⟨k,h 1 v E' k ?_⟩)⟩)⟩)
 ·have q:v=0:=by simpa using q
  rw [if_pos q] at pc;exact pc
 ·have q:v≠0:=by simpa using q
  have q2:zs.getD 17 0=0:=by simpa using q2
  rw [if_neg q,if_pos q2] at pc;exact pc
 ·have q:v≠0:=by simpa using q
  have q2:zs.getD 17 0≠0:=by simpa using q2
  have q3:zs.getD 15 0=0:=by simpa using q3
  rw [if_neg q,if_neg q2,if_pos q3] at pc;exact pc
 ·have q:v≠0:=by simpa using q
  have q2:zs.getD 17 0≠0:=by simpa using q2
  have q3:zs.getD 15 0≠0:=by simpa using q3
  rw [if_neg q,if_neg q2,if_neg q3] at pc;exact pc
noncomputable def tabP3:FuncId->List SV->Mem->(SV->Mem->Prop)->Prop:=fun f args E K=>match f with
 | 61=>d1 args fun x0=>dS x0 fun b1 l2 c3=>∃ (zs:List Int),Bs E b1 l2 c3 zs/\l2=4224/\(∀ (a x:Int) (E':Mem),Mem.le E E'->Hyp (hidC zs=(a,x))->K (.tup [I a,I x]) E')
 | _=>False
theorem tabP3_ok:TabOK Try.prog tabP3:=by
 intro f args E K h
 unfold tabP3 at h
 split at h
 ·replace h:=d1_elim h
  obtain ⟨x0,rfl,h⟩:=h
  replace h:=dS_elim h
  obtain ⟨b1,l2,c3,rfl,h⟩:=h
  obtain ⟨zs,g0,g1,h⟩:=h
  exact TabSem.congr (valL_cons rfl rfl) (esm okP2 Try.func61 rfl (q61 g0 g1 h))
 ·exact h.elim
noncomputable def P3:Cx:={ P:=Try.prog,inl:=fun f=>List.contains [] f,tab:=tabP3,isB:=fun _=>false,tabB:=fun _ _ _ _ _=>False,opt:={ unroll:=0,carry:=[] },muts:=mutsD }
theorem okP3:CxOK P3:=CxOK.four tabP3_ok (by kernel_rfl) (okInl (by kernel_rfl)) (fun _ _ _ _ _ h=>h.elim)
theorem q36 {b1:Option Addr} {l2:Nat} {c3:Nat} {b4:Option Addr} {l5:Nat} {c6:Nat} {xs:List Int} {ys:List Int} (h0:Bs E b1 l2 c3 xs) (h1:l2=4224) (h2:Bs E b4 l5 c6 ys) (h3:l5=4224) (h:((∀ E':Mem,Mem.le E E'->Hyp (hidS xs ys= -1)->K (I (-1)) E')/\(∀ E':Mem,Mem.le E E'->Hyp (hidS xs ys=0)->K (I 0) E')/\(∀ E':Mem,Mem.le E E'->Hyp (hidS xs ys=1)->K (I 1) E'))):
  Ent P3 8 Try.f36 [.agg [L b1 l2 c3,L b4 l5 c6]] E K:=by
 refine sm_ (?_:∃ (zs:List Int),Bs E b1 l2 c3 zs/\l2=4224/\∀ (a x:Int) (E':Mem),Mem.le E E'->Hyp (hidC zs=(a,x))->Mem.le E E'/\∃ (zs:List Int),Bs E' b4 l5 c6 zs/\l5=4224/\∀ (a_3 x_1:Int) (E'_1:Mem),Mem.le E' E'_1->Hyp (hidC zs=(a_3,x_1))->Mem.le E' E'_1/\bif decide (a<(0:Int)) then bif bif true then decide (a_3<(0:Int)) else false then Mem.le E E'_1/\K (I (-1:Int)) E'_1 else bif decide (a_3>a) then Mem.le E E'_1/\K (I (1:Int)) E'_1 else bif a_3==a then bif bif false then true else bif true then decide (x_1>x) else false then Mem.le E E'_1/\K (I (1:Int)) E'_1 else Mem.le E E'_1/\K (I (0:Int)) E'_1 else Mem.le E E'_1/\K (I (0:Int)) E'_1 else bif decide (a_3>a) then Mem.le E E'_1/\K (I (1:Int)) E'_1 else bif a_3==a then bif bif false then true else bif true then decide (x_1>x) else false then Mem.le E E'_1/\K (I (1:Int)) E'_1 else Mem.le E E'_1/\K (I (0:Int)) E'_1 else Mem.le E E'_1/\K (I (0:Int)) E'_1)
 obtain ⟨hm,hz,hp⟩:=h
 refine ⟨xs,h0,h1,fun a x E1 k1 r1=>⟨k1,ys,h2.mono k1,h3,fun b y E2 k2 r2=>⟨k2,?_⟩⟩⟩
 have k:=mt_ k1 k2
 have r1:hidC xs=(a,x):=r1
 have r2:hidC ys=(b,y):=r2
 rw [hidC_eq] at r1 r2
 have e:=hidS_eq xs ys
 unfold sel2 at e
 rw [r1,r2] at e
 simp only at e
 have fm:hidS xs ys= -1->Mem.le E E2/\K (I (-1)) E2:=fun q=>⟨k,hm E2 k q⟩
 have fz:hidS xs ys=0->Mem.le E E2/\K (I 0) E2:=fun q=>⟨k,hz E2 k q⟩
 have fp:hidS xs ys=1->Mem.le E E2/\K (I 1) E2:=fun q=>⟨k,hp E2 k q⟩
 refine condC (fun q=>?_) (fun q=>?_)
 ·have q:a<0:=by simpa using q
  refine condC (fun w=>fm ?_) (fun w=>?_)
  ·have w:b<0:=by simpa using w
   rw [e,if_pos ⟨q,w⟩]
  ·have w:¬ b<0:=by simpa using w
   rw [if_neg (fun z=>w z.2)] at e
   refine condC (fun u=>fp ?_) (fun u=>?_)
   ·have u:b>a:=by simpa using u
    rw [e,if_pos (.inl u)]
   ·have u:¬ b>a:=by simpa using u
    omega
 ·have q:¬ a<0:=by simpa using q
  rw [if_neg (fun z=>q z.1)] at e
  refine condC (fun u=>fp ?_) (fun u=>?_)
  ·have u:b>a:=by simpa using u
   rw [e,if_pos (.inl u)]
  ·have u:¬ b>a:=by simpa using u
   refine condC (fun t=>condC (fun v=>fp ?_) (fun v=>fz ?_)) (fun t=>fz ?_)
   ·have t:b=a:=by simpa using t
    have v:y>x:=by simpa using v
    rw [e,if_pos (.inr ⟨t,v⟩)]
   ·have v:¬ y>x:=by simpa using v
    rw [e,if_neg (fun z=>z.elim u (fun z=>v z.2))]
   ·have t:¬ b=a:=by simpa using t
    rw [e,if_neg (fun z=>z.elim u (fun z=>t z.1))]
noncomputable def tabP4:FuncId->List SV->Mem->(SV->Mem->Prop)->Prop:=fun f args E K=>match f with
 | 36=>d1 args fun x0=>dC x0 fun l1=>d2 l1 fun x0_0 x0_1=>dS x0_0 fun b1 l2 c3=>dS x0_1 fun b4 l5 c6=>∃ (xs:List Int) (ys:List Int),Bs E b1 l2 c3 xs/\l2=4224/\Bs E b4 l5 c6 ys/\l5=4224/\(((∀ E':Mem,Mem.le E E'->Hyp (hidS xs ys= -1)->K (I (-1)) E')/\(∀ E':Mem,Mem.le E E'->Hyp (hidS xs ys=0)->K (I 0) E')/\(∀ E':Mem,Mem.le E E'->Hyp (hidS xs ys=1)->K (I 1) E')))
 | 37=>d1 args fun x0=>dS x0 fun b1 l2 c3=>∃ (zs:List Int),Bs E b1 l2 c3 zs/\l2=4224/\(∀ (v:Int) (d:List Int) (b':Option Addr) (l' c':Nat) (E':Mem),Mem.le E E'->Hyp (hidP zs=(v,d))->Bs E' b' l' c' d->K (.tup [I v,L b' l' c']) E')
 | _=>False
theorem tabP4_ok:TabOK Try.prog tabP4:=by
 intro f args E K h
 unfold tabP4 at h
 split at h
 ·replace h:=d1_elim h
  obtain ⟨x0,rfl,h⟩:=h
  replace h:=dC_elim h
  obtain ⟨l1,hl1,h⟩:=h
  replace h:=d2_elim h
  obtain ⟨x0_0,x0_1,rfl,h⟩:=h
  replace h:=dS_elim h
  obtain ⟨b1,l2,c3,rfl,h⟩:=h
  replace h:=dS_elim h
  obtain ⟨b4,l5,c6,rfl,h⟩:=h
  obtain ⟨xs,ys,g0,g1,g2,g3,h⟩:=h
  exact TabSem.congr (valL_cons (asCells_val hl1) rfl) (esm okP3 Try.func36 rfl (q36 g0 g1 g2 g3 h))
 ·replace h:=d1_elim h
  obtain ⟨x0,rfl,h⟩:=h
  replace h:=dS_elim h
  obtain ⟨b1,l2,c3,rfl,h⟩:=h
  obtain ⟨zs,g0,g1,h⟩:=h
  exact TabSem.congr (valL_cons rfl rfl) (esm okP1 Try.func37 rfl (q37 g0 g1 h))
 ·exact h.elim
noncomputable def P4:Cx:={ P:=Try.prog,inl:=fun f=>List.contains [35,38] f,tab:=tabP4,isB:=fun _=>false,tabB:=fun _ _ _ _ _=>False,opt:={ unroll:=0,carry:=[] },muts:=mutsD }
theorem okP4:CxOK P4:=CxOK.four tabP4_ok (by kernel_rfl) (okInl (by kernel_rfl)) (fun _ _ _ _ _ h=>h.elim)
theorem q15 {a1:Int} {b2:Option Addr} {l3:Nat} {c4:Nat} {zs:List Int} (h0:Bs E b2 l3 c4 zs) (h:∀ (v:Int) (d:List Int) (e:Int) (b':Option Addr) (l' c':Nat) (E':Mem),Mem.le E E'->Hyp (selectF a1 zs=((v,d),e))->Bs E' b' l' c' d->K (.tup [I v,L b' l' c',I e]) E'):
  Ent P4 8 Try.f15 [.agg [I a1,L b2 l3 c4]] E K:=by
 refine sm_ (?_:bif a1 !=(128:Int) then Mem.le E E/\Mem.le E E/\K (SV.tup [I 0,L none 0 0,I 1]) E else bif bif false then true else (NI l3) !=8448 then Mem.le E E/\Mem.le E E/\K (SV.tup [I 0,L none 0 0,I 1]) E else req (l3<=c4) (req ((0:Int)<=(4224:Int)/\4224<=(NI c4)) (∀ (base':Option Addr) (E':Mem),Mem.le E E'->(∀ (cs:List Value),E (VS b2 l3 c4) cs->E' (VS base' 4224 4224) (List.take 4224 (List.drop 0 cs)))->Option.isNone base'=Option.isNone b2->req (l3<=c4) (req ((0:Int)<=(8448:Int)/\8448<=(NI c4)) (∀ (base'_1:Option Addr) (E'_1:Mem),Mem.le E' E'_1->(∀ (cs:List Value),E' (VS b2 l3 c4) cs->E'_1 (VS base'_1 4224 4224) (List.take 4224 (List.drop 4224 cs)))->Option.isNone base'_1=Option.isNone b2->Mem.le E E'_1/\∃ (xs:List Int),∃ (ys:List Int),Bs E'_1 base' 4224 4224 xs/\4224=4224/\Bs E'_1 base'_1 4224 4224 ys/\4224=4224/\(∀ (E':Mem),Mem.le E'_1 E'->Hyp (hidS xs ys=(-1:Int))->Mem.le E'_1 E'/\Mem.le E E'/\K (SV.tup [I 0,L none 0 0,I 4]) E')/\(∀ (E':Mem),Mem.le E'_1 E'->Hyp (hidS xs ys=(0:Int))->Mem.le E'_1 E'/\∃ (zs:List Int),Bs E' base' 4224 4224 zs/\4224=4224/\∀ (v:Int) (d:List Int) (b':Option Addr) (l' c':Nat) (E'_2:Mem),Mem.le E' E'_2->Hyp (hidP zs=(v,d))->Bs E'_2 b' l' c' d->Mem.le E' E'_2/\bif Option.isNone b' then Mem.le E'_2 E'_2/\Mem.le E E'_2/\K (SV.tup [I v,L none 0 0,I 0]) E'_2 else ∃ (cs:List Value),(cs=[]\/E'_2 (VS b' l' c') cs)/\l'*1<=List.length cs/\(∀ (x:Value),List.Mem x cs->Value.oneCell' x=true)/\0<=0/\0<=0/\0<=0/\req ((0+l')*1<=140737488355328) (∀ (cap' tot':Nat),0+l'<=cap'->cap'*1<=tot'->Mem.le E'_2 E'_2/\∀ (base:Option Addr) (E':Mem),Mem.le E'_2 E'->WinE E' base ([]++List.take (l'*1) cs)->Mem.le E E'/\K (SV.tup [I v,L (Option.map (fun (x:Addr)=>Addr.add x 0) base) ((0:Nat)+l') cap',I 0]) E'))/\∀ (E':Mem),Mem.le E'_1 E'->Hyp (hidS xs ys=(1:Int))->Mem.le E'_1 E'/\∃ (zs:List Int),Bs E' base'_1 4224 4224 zs/\4224=4224/\∀ (v:Int) (d:List Int) (b':Option Addr) (l' c':Nat) (E'_2:Mem),Mem.le E' E'_2->Hyp (hidP zs=(v,d))->Bs E'_2 b' l' c' d->Mem.le E' E'_2/\bif Option.isNone b' then Mem.le E'_2 E'_2/\Mem.le E E'_2/\K (SV.tup [I v,L none 0 0,I 0]) E'_2 else ∃ (cs:List Value),(cs=[]\/E'_2 (VS b' l' c') cs)/\l'*1<=List.length cs/\(∀ (x:Value),List.Mem x cs->Value.oneCell' x=true)/\0<=0/\0<=0/\0<=0/\req ((0+l')*1<=140737488355328) (∀ (cap' tot':Nat),0+l'<=cap'->cap'*1<=tot'->Mem.le E'_2 E'_2/\∀ (base:Option Addr) (E':Mem),Mem.le E'_2 E'->WinE E' base ([]++List.take (l'*1) cs)->Mem.le E E'/\K (SV.tup [I v,L (Option.map (fun (x:Addr)=>Addr.add x 0) base) ((0:Nat)+l') cap',I 0]) E'))))))
 delta NI VS
 have hl:=h0.2.1
 have hc:=h0.2.2.1
 have sf:∀ x,selectF a1 zs=x->selectF a1 zs=x:=fun _ q=>q
 unfold selectF at sf
 have bad:¬ memB a1 l3->Mem.le E E/\Mem.le E E/\K (.tup [I 0,L none 0 0,I 1]) E:=fun q=>⟨mr_,mr_,h 0 [] 1 none 0 0 E mr_ (by show selectF a1 zs=_;unfold selectF;rw [hl,if_pos q]) (Bs.nil _)⟩
 refine condC (fun q=>bad (fun m=>?_)) (fun q=>condC (fun q2=>bad (fun m=>?_)) (fun q2=>?_))
 ·have q:a1≠128:=by simpa using q
  exact q m.1
 ·have q2:l3≠8448:=by simp at q2;omega
  exact q2 m.2
 have q:a1=128:=by simpa using q
 have q2:l3=8448:=by simp at q2;omega
 have hm:¬ ¬ memB a1 zs.length:=fun z=>z ⟨q,by omega⟩
 refine req_intro hc (req_intro (by omega) (fun bA EA kA fA nA=>req_intro hc (req_intro (by omega) (fun bB EB kB fB nB=>⟨mt_ kA kB,bankF zs 0,bankF zs 1,?_,rfl,?_,rfl,fun E1 k1 r1=>⟨k1,mt_ kA (mt_ kB k1),?_⟩,fun E1 k1 r1=>?_,fun E1 k1 r1=>?_⟩))))
 ·exact (Bs.cut3 (lo:=0) (hi:=4224) h0 fA nA (by decide) (by omega)).mono kB
 ·exact Bs.cut3 (lo:=4224) (hi:=8448) (h0.mono kA) fB nB (by decide) (by omega)
 ·have r1:hidS (bankF zs 0) (bankF zs 1)= -1:=r1
  rw [hidS_eq,← selF_2] at r1
  exact h 0 [] 4 none 0 0 E1 (mt_ kA (mt_ kB k1)) (by show selectF a1 zs=_;unfold selectF;rw [if_neg hm,r1,if_pos (by decide)]) (Bs.nil _)
 ·have r1:hidS (bankF zs 0) (bankF zs 1)=0:=r1
  rw [hidS_eq,← selF_2] at r1
  refine ⟨k1,bankF zs 0,(Bs.cut3 (lo:=0) (hi:=4224) h0 fA nA (by decide) (by omega)).mono (mt_ kB k1),rfl,fun v d b' l' c' E2 k2 r2 B2=>⟨k2,?_⟩⟩
  have r2:hidP (bankF zs 0)=(v,d):=r2
  rw [hidP_eq] at r2
  have hd:d.length<=4096:=by have:=progB_len (bankF zs 0);rw [r2] at this;exact this
  have kk:Mem.le E E2:=mt_ kA (mt_ kB (mt_ k1 k2))
  have hs:selectF a1 zs=((v,d),0):=by unfold selectF;rw [if_neg hm,r1,if_neg (by decide)];show (progB (bankF zs 0),(0:Int))=_;rw [r2]
  have l2:=B2.2.1
  obtain ⟨t1,t2,t3⟩:=B2.src
  refine condC (fun w=>⟨mr_,kk,h v d 0 none 0 0 E2 kk hs ?_⟩) (fun w=>⟨vB d,t1,t2,t3,Nat.le_refl _,Nat.le_refl _,Nat.le_refl _,req_intro (by omega) (fun cap tot q1 q2=>⟨mr_,fun base E3 k3 w3=>⟨mt_ kk k3,h v d 0 _ _ _ E3 (mt_ kk k3) hs ?_⟩⟩)⟩)
  ·have :d=[]:=B2.2.2.2.2 (by cases b' with |none=>rfl|some x=>cases w)
   rw [this];exact Bs.nil _
  ·rw [Nat.zero_add] at q1 ⊢
   rw [List.nil_append,List.take_of_length_le (by simp [l2])] at w3
   exact Bs.win w3 rfl l2 q1 B2.2.2.2.1
 ·have r1:hidS (bankF zs 0) (bankF zs 1)=1:=r1
  rw [hidS_eq,← selF_2] at r1
  refine ⟨k1,bankF zs 1,(Bs.cut3 (lo:=4224) (hi:=8448) (h0.mono kA) fB nB (by decide) (by omega)).mono k1,rfl,fun v d b' l' c' E2 k2 r2 B2=>⟨k2,?_⟩⟩
  have r2:hidP (bankF zs 1)=(v,d):=r2
  rw [hidP_eq] at r2
  have hd:d.length<=4096:=by have:=progB_len (bankF zs 1);rw [r2] at this;exact this
  have kk:Mem.le E E2:=mt_ kA (mt_ kB (mt_ k1 k2))
  have hs:selectF a1 zs=((v,d),0):=by unfold selectF;rw [if_neg hm,r1,if_neg (by decide)];show (progB (bankF zs 1),(0:Int))=_;rw [r2]
  have l2:=B2.2.1
  obtain ⟨t1,t2,t3⟩:=B2.src
  refine condC (fun w=>⟨mr_,kk,h v d 0 none 0 0 E2 kk hs ?_⟩) (fun w=>⟨vB d,t1,t2,t3,Nat.le_refl _,Nat.le_refl _,Nat.le_refl _,req_intro (by omega) (fun cap tot q1 q2=>⟨mr_,fun base E3 k3 w3=>⟨mt_ kk k3,h v d 0 _ _ _ E3 (mt_ kk k3) hs ?_⟩⟩)⟩)
  ·have :d=[]:=B2.2.2.2.2 (by cases b' with |none=>rfl|some x=>cases w)
   rw [this];exact Bs.nil _
  ·rw [Nat.zero_add] at q1 ⊢
   rw [List.nil_append,List.take_of_length_le (by simp [l2])] at w3
   exact Bs.win w3 rfl l2 q1 B2.2.2.2.1
end Go.Proofs.Ytdblighgcpabnaa.BootOwn
