/- What functions of the program compute; plain lemmas on it. Conditions: none. -/
import Derived.Test.YtdaakdbkmjgloaaCu5
import Derived.WalkKit
import Derived.LaidEql
import Derived.Stop.Asserts
import Derived.RowKitTokens
import Derived.OpenShut
namespace Go.Proofs.Ytdaakdbkmjgloaa.CustodyOwn
open Go Go.Sx
set_option maxRecDepth 100000
set_option maxHeartbeats 4000000
set_option linter.unusedVariables false
set_option linter.unusedSimpArgs false
variable {E:Mem} {K:SV->Mem->Prop}
def tabAP:CallT:=fun f args bx E K=>match f with
 | 22=>∃ (s h:Nat) (me cnt o n:Int) (m cap tot:Nat) (xs:List (List Int)) (js:List Value),args=[.loc s 0,I o,I n]/\StAt bx s h me cnt m cap tot xs js/\K (I (idxR o n xs)) bx E
 | 42=>d3 args fun x0 x1 x2=>dI x1 fun p=>dI x2 fun q=>(match x0 with | .slc b 0 m cap=>∃ (a tot:Nat) (xs:List (List Int)) (js:List Value),bx[b]? =some ⟨26,.vals (vR xs++js),tot,true⟩/\(p=(a:Int)/\q=((a+1:Nat):Int))/\W5 xs/\xs.length=m/\m<=16/\a<m/\(m<=cap/\cap*5<=tot)/\(∀ v∈js,v.oneCell'=true)/\(∀ cap' tot':Nat,m<=cap'->cap'*5<=tot'->K (.slc bx.length 0 (m-1) cap') (bx.set b ⟨26,.lst [],0,false⟩++[⟨26,.vals (vR (xs.eraseIdx a)++z5),tot',true⟩]) E)|_=>False)
 | _=>False
theorem tabAP_ok (f:FuncId) (args:List SV) (bx:List Box) (E:Mem) (K:KT) (h:tabAP f args bx E K):CallSem Try.prog f args bx E K:=by
 unfold tabAP at h
 split at h
 ·obtain ⟨s,h0,me,cnt,o,n,m,cap,tot,xs,js,rfl,h1,h2⟩:=h
  exact find_sem h1 h2
 ·replace h:=d3_elim h
  obtain ⟨x0,x1,x2,rfl,h⟩:=h
  replace h:=dI_elim h
  obtain ⟨p,rfl,h⟩:=h
  replace h:=dI_elim h
  obtain ⟨q,rfl,h⟩:=h
  split at h
  case h_2=>exact h.elim
  rename_i b m cap
  obtain ⟨a,tot,xs,js,h1,⟨rfl,rfl⟩,h2,h3,h4,h5,h6,h7,h8⟩:=h
  exact CallSem.own1 h1 (by rfl) (bsm okQA Try.func42 (u42 h2 h3 h4 h5 h6 h7 (fun cap' tot' q1 q2=>⟨_,_,_,_,rfl,rfl,h8 cap' tot' q1 q2⟩) (fun _ _ q=>q)))
 ·exact h.elim
noncomputable def tab21:FuncId->List SV->Mem->(SV->Mem->Prop)->Prop:=fun f args E K=>match f with
 | 21=>d1 args fun x0=>dC x0 fun l1=>d5 l1 fun x0_0 x0_1 x0_2 x0_3 x0_4=>dI x0_0 fun a1=>dI x0_1 fun a2=>dI x0_2 fun a3=>dI x0_3 fun a4=>dI x0_4 fun a5=>(K (B (okR a1 a2 a3 a4 a5)) E)
 | _=>False
theorem tab21_ok:TabOK Try.prog tab21:=by
 intro f args E K h
 unfold tab21 at h
 split at h
 ·replace h:=d1_elim h
  obtain ⟨x0,rfl,h⟩:=h
  replace h:=dC_elim h
  obtain ⟨l1,hl1,h⟩:=h
  replace h:=d5_elim h
  obtain ⟨x0_0,x0_1,x0_2,x0_3,x0_4,rfl,h⟩:=h
  replace h:=dI_elim h
  obtain ⟨a1,rfl,h⟩:=h
  replace h:=dI_elim h
  obtain ⟨a2,rfl,h⟩:=h
  replace h:=dI_elim h
  obtain ⟨a3,rfl,h⟩:=h
  replace h:=dI_elim h
  obtain ⟨a4,rfl,h⟩:=h
  replace h:=dI_elim h
  obtain ⟨a5,rfl,h⟩:=h
  exact TabSem.congr (valL_cons (asCells_val hl1) rfl) (esm okQ1 Try.func21 rfl (c21 h))
 ·exact h.elim
noncomputable def QB:Cx:={ P:=Try.prog,inl:=fun f=>List.contains [28,41] f,tab:=tab21,isB:=fun f=>f==22||f==42,tabB:=tabAP,opt:={ unroll:=0,carry:=[] },muts:=(fun o=>match o with | .call { args:=#[.tmp 79,.tmp 82,.tmp 85],.. }=>true|o=>mutsD o) }
theorem okQB:CxOK QB:=CxOK.four tab21_ok (by kernel_rfl) (okInl (by kernel_rfl)) tabAP_ok
def mx (n c:Int):Int:=if n>c then n else c
def appF (me:Int) (st:List (List Int)×Int) (ns:List Int):Option (List (List Int)×Int):=
 if ns.length=6/\ns.getD 0 0=1 then
  (if okR (ns.getD 1 0) (ns.getD 2 0) (ns.getD 3 0) (ns.getD 4 0) (ns.getD 5 0)=true/\idxR (ns.getD 1 0) (ns.getD 2 0) st.1<0/\st.1.length≠16 then
   some (st.1++[[ns.getD 1 0,ns.getD 2 0,ns.getD 3 0,ns.getD 4 0,ns.getD 5 0]],if ns.getD 1 0=me then mx (ns.getD 2 0) st.2 else st.2) else none)
 else if ns.length=3/\ns.getD 0 0=2 then
  (if 0<=idxR (ns.getD 1 0) (ns.getD 2 0) st.1 then some (st.1.eraseIdx (idxR (ns.getD 1 0) (ns.getD 2 0) st.1).toNat,st.2) else none)
 else if ns.length=2/\ns.getD 0 0=3/\1<=ns.getD 1 0/\ns.getD 1 0<=1000000000 then some (st.1,mx (ns.getD 1 0) st.2) else none
theorem IS_load {b:Option Addr} {l c:Nat} {ns:List Int} (h:SL (RK .i64 1) E b l c (ns.map fun z=>[z])) {i:Nat} (hi:i<l):LoadE Try.prog E 3 (.slice b l c) i (.raw (.int .i64 (ns.getD i 0))):=by
 have hl:ns.length=l:=by have:=h.len;simpa using this
 have:=RK_load (by decide) (T:=3) (k:=1) rfl h (x:=[ns.getD i 0]) (i:=i) (by rw [List.getElem?_map,List.getElem?_eq_getElem (by omega),List.getD_eq_getElem?_getD,List.getElem?_eq_getElem (by omega)];rfl) 0 (by decide)
 rw [show i*1+0=i by omega] at this
 exact this
theorem idxR_b (o n:Int) (xs:List (List Int)): -1<=idxR o n xs/\idxR o n xs<xs.length\/xs=[]/\idxR o n xs= -1:=by
 unfold idxR
 cases q:xs.findIdx? (isN o n) with
 | none=>cases xs with
  | nil=>exact .inr ⟨rfl,rfl⟩
  | cons x xs=>exact .inl ⟨Int.le_refl _,by show (-1:Int)<_;omega⟩
 | some i=>
  obtain ⟨hi,_⟩:=List.findIdx?_eq_some_iff_getElem.1 q
  refine .inl ⟨?_,?_⟩
  ·show (-1:Int)<=(i:Int);omega
  ·show (i:Int)<_;omega
theorem u31 {me cnt:Int} {m cap tot:Nat} {xs:List (List Int)} {js:List Value} {lb:Option Addr} {ln lc:Nat} {ns:List Int} {KK Q:KT} (hl:SL (RK .i64 1) E lb ln lc (ns.map fun z=>[z])) (S:StAt [⟨58,.lst [I me,.slc 1 0 m cap,I cnt],3,true⟩,⟨26,.vals (vR xs++js),tot,true⟩] 0 1 me cnt m cap tot xs js) (hj:∀ v∈js,v.oneCell'=true)
  (hF:appF me (xs,cnt) ns=none->KK (B false) [⟨58,.lst [I me,.slc 1 0 m cap,I cnt],3,true⟩,⟨26,.vals (vR xs++js),tot,true⟩] E)
  (h1:∀ c:Int,appF me (xs,cnt) ns=some (xs,c)->KK (B true) [⟨58,.lst [I me,.slc 1 0 m cap,I c],3,true⟩,⟨26,.vals (vR xs++js),tot,true⟩] E)
  (h2:∀ (ys:List (List Int)) (c:Int) (cap' tot':Nat) (js':List Value),appF me (xs,cnt) ns=some (ys,c)->ys.length<=cap'->cap'*5<=tot'->(∀ v∈js',v.oneCell'=true)->W5 ys->ys.length<=16->KK (B true) [⟨58,.lst [I me,.slc 2 0 ys.length cap',I c],3,true⟩,⟨26,.lst [],0,false⟩,⟨26,.vals (vR ys++js'),tot',true⟩] E)
  (hQ:∀ s bx',cloK 2 KK s bx' E->Q s bx' E):
  EntB QB 8 Try.f31 [.loc 0 0,L lb ln lc] [⟨58,.lst [I me,.slc 1 0 m cap,I cnt],3,true⟩,⟨26,.vals (vR xs++js),tot,true⟩] E Q:=by
 refine sm_ (?_:bif (NI ln)==6 then req ((0:Int)<=(0:Int)/\0<(NI ln)) ((∃ (cs:List Value),E (VS lb ln lc) cs/\(cs=[]->False))/\∃ (n:Int),LoadE QB.P E 3 (VS lb ln lc) 0 (I n)/\bif bif true then n==(1:Int) else false then req ((0:Int)<=(1:Int)/\1<(NI ln)) ((∃ (cs:List Value),E (VS lb ln lc) cs/\(cs=[]->False))/\∃ (n:Int),LoadE QB.P E 3 (VS lb ln lc) 1 (I n)/\req ((0:Int)<=(2:Int)/\2<(NI ln)) ((∃ (cs:List Value),E (VS lb ln lc) cs/\(cs=[]->False))/\∃ (n_1:Int),LoadE QB.P E 3 (VS lb ln lc) 2 (I n_1)/\req ((0:Int)<=(3:Int)/\3<(NI ln)) ((∃ (cs:List Value),E (VS lb ln lc) cs/\(cs=[]->False))/\∃ (n_2:Int),LoadE QB.P E 3 (VS lb ln lc) 3 (I n_2)/\req ((0:Int)<=(4:Int)/\4<(NI ln)) ((∃ (cs:List Value),E (VS lb ln lc) cs/\(cs=[]->False))/\∃ (n_3:Int),LoadE QB.P E 3 (VS lb ln lc) 4 (I n_3)/\req ((0:Int)<=(5:Int)/\5<(NI ln)) ((∃ (cs:List Value),E (VS lb ln lc) cs/\(cs=[]->False))/\∃ (n_4:Int),LoadE QB.P E 3 (VS lb ln lc) 5 (I n_4)/\Mem.le E E/\bif !okR n n_1 n_2 n_3 n_4 then Q (B false) [⟨58,.lst [I me,SV.slc 1 0 m cap,I cnt],3,true⟩,⟨26,.vals (vR xs++js),tot,true⟩,⟨26,.lst [I n,I n_1,I n_2,I n_3,I n_4],5,true⟩] E else ∃ (s:Nat),∃ (h:Nat),∃ (me_1:Int),∃ (cnt_1:Int),∃ (o:Int),∃ (n_5:Int),∃ (m_1:Nat),∃ (cap_1:Nat),∃ (tot_1:Nat),∃ (xs_1:List (List Int)),∃ (js_1:List Value),[SV.loc 0 0,I n,I n_1]=[SV.loc s 0,I o,I n_5]/\StAt [⟨58,.lst [I me,SV.slc 1 0 m cap,I cnt],3,true⟩,⟨26,.vals (vR xs++js),tot,true⟩,⟨26,.lst [I n,I n_1,I n_2,I n_3,I n_4],5,true⟩] s h me_1 cnt_1 m_1 cap_1 tot_1 xs_1 js_1/\bif bif false then true else decide (idxR o n_5 xs_1>=(0:Int)) then Q (B false) [⟨58,.lst [I me,SV.slc 1 0 m cap,I cnt],3,true⟩,⟨26,.vals (vR xs++js),tot,true⟩,⟨26,.lst [I n,I n_1,I n_2,I n_3,I n_4],5,true⟩] E else bif bif false then true else (NI m)==16 then Q (B false) [⟨58,.lst [I me,SV.slc 1 0 m cap,I cnt],3,true⟩,⟨26,.vals (vR xs++js),tot,true⟩,⟨26,.lst [I n,I n_1,I n_2,I n_3,I n_4],5,true⟩] E else m*5<=List.length (Row.cells (Row.vals (vR xs++js)))/\cap*5<=tot/\m<=cap/\req ((m+1)*40<=140737488355328) (∀ (cap' tot':Nat),m+1<=cap'->cap'*5<=tot'->bif n==me then Q (B true) [⟨(58:Nat),Row.lst [I me,SV.slc 4 0 (m+(1:Nat)) cap',I (if n_1>cnt then n_1 else cnt)],3,true⟩,⟨(26:Nat),Row.lst [],0,false⟩,⟨(26:Nat),Row.lst [I n,I n_1,I n_2,I n_3,I n_4],5,true⟩,⟨(26:Nat),Row.lst [I n,I n_1,I n_2,I n_3,I n_4],5,true⟩,⟨(26:Nat),Row.vals (List.take (m*(5:Nat)) (vR xs++js)++[Value.int IntKind.i64 n,Value.int IntKind.i64 n_1,Value.int IntKind.i64 n_2,Value.int IntKind.i64 n_3,Value.int IntKind.i64 n_4]),tot',true⟩] E else Q (B true) [⟨(58:Nat),Row.lst [I me,SV.slc 4 0 (m+(1:Nat)) cap',I cnt],3,true⟩,⟨(26:Nat),Row.lst [],0,false⟩,⟨(26:Nat),Row.lst [I n,I n_1,I n_2,I n_3,I n_4],5,true⟩,⟨(26:Nat),Row.lst [I n,I n_1,I n_2,I n_3,I n_4],5,true⟩,⟨(26:Nat),Row.vals (List.take (m*(5:Nat)) (vR xs++js)++[Value.int IntKind.i64 n,Value.int IntKind.i64 n_1,Value.int IntKind.i64 n_2,Value.int IntKind.i64 n_3,Value.int IntKind.i64 n_4]),tot',true⟩] E)))))) else bif (NI ln)==3 then req ((0:Int)<=(0:Int)/\0<(NI ln)) ((∃ (cs:List Value),E (VS lb ln lc) cs/\(cs=[]->False))/\∃ (n:Int),LoadE QB.P E 3 (VS lb ln lc) 0 (I n)/\bif bif true then n==(2:Int) else false then req ((0:Int)<=(1:Int)/\1<(NI ln)) ((∃ (cs:List Value),E (VS lb ln lc) cs/\(cs=[]->False))/\∃ (n:Int),LoadE QB.P E 3 (VS lb ln lc) 1 (I n)/\req ((0:Int)<=(2:Int)/\2<(NI ln)) ((∃ (cs:List Value),E (VS lb ln lc) cs/\(cs=[]->False))/\∃ (n_1:Int),LoadE QB.P E 3 (VS lb ln lc) 2 (I n_1)/\∃ (s:Nat),∃ (h:Nat),∃ (me_1:Int),∃ (cnt_1:Int),∃ (o:Int),∃ (n_2:Int),∃ (m_1:Nat),∃ (cap_1:Nat),∃ (tot_1:Nat),∃ (xs_1:List (List Int)),∃ (js_1:List Value),[SV.loc 0 0,I n,I n_1]=[SV.loc s 0,I o,I n_2]/\StAt [⟨58,.lst [I me,SV.slc 1 0 m cap,I cnt],3,true⟩,⟨26,.vals (vR xs++js),tot,true⟩] s h me_1 cnt_1 m_1 cap_1 tot_1 xs_1 js_1/\bif decide (idxR o n_2 xs_1<(0:Int)) then Q (B false) [⟨58,.lst [I me,SV.slc 1 0 m cap,I cnt],3,true⟩,⟨26,.vals (vR xs++js),tot,true⟩] E else ∃ (a:Nat),∃ (tot_2:Nat),∃ (xs_2:List (List Int)),∃ (js_2:List Value),some (⟨26,.vals (vR xs++js),tot,true⟩:Box)=some (⟨26,.vals (vR xs_2++js_2),tot_2,true⟩:Box)/\(idxR o n_2 xs_1=(NI a)/\WI (idxR o n_2 xs_1+(1:Int))=(NI (a+1)))/\W5 xs_2/\List.length xs_2=m/\m<=16/\a<m/\(m<=cap/\cap*5<=tot_2)/\(∀ (v:Value),List.Mem v js_2->Value.oneCell' v=true)/\∀ (cap' tot':Nat),m<=cap'->cap'*5<=tot'->Q (B true) [⟨58,.lst [I me,SV.slc 2 0 (m-(1:Nat)) cap',I cnt],3,true⟩,⟨26,.lst [],0,false⟩,⟨26,.vals (vR (List.eraseIdx xs_2 a)++z5),tot',true⟩] E)) else bif (NI ln)==2 then req ((0:Int)<=(0:Int)/\0<(NI ln)) ((∃ (cs:List Value),E (VS lb ln lc) cs/\(cs=[]->False))/\∃ (n:Int),LoadE QB.P E 3 (VS lb ln lc) 0 (I n)/\bif bif true then n==(3:Int) else false then req ((0:Int)<=(1:Int)/\1<(NI ln)) ((∃ (cs:List Value),E (VS lb ln lc) cs/\(cs=[]->False))/\∃ (n:Int),LoadE QB.P E 3 (VS lb ln lc) 1 (I n)/\bif decide (n>=(1:Int)) then Mem.le E E/\bif bif true then bif true then decide (n<=(1000000000:Int)) else false else false then req ((0:Int)<=(1:Int)/\1<(NI ln)) ((∃ (cs:List Value),E (VS lb ln lc) cs/\(cs=[]->False))/\∃ (n:Int),LoadE QB.P E 3 (VS lb ln lc) 1 (I n)/\Q (B true) [⟨58,.lst [I me,SV.slc 1 0 m cap,I (if n>cnt then n else cnt)],3,true⟩,⟨26,.vals (vR xs++js),tot,true⟩] E) else Q (B false) [⟨58,.lst [I me,SV.slc 1 0 m cap,I cnt],3,true⟩,⟨26,.vals (vR xs++js),tot,true⟩] E else Mem.le E E/\Q (B false) [⟨58,.lst [I me,SV.slc 1 0 m cap,I cnt],3,true⟩,⟨26,.vals (vR xs++js),tot,true⟩] E) else Q (B false) [⟨58,.lst [I me,SV.slc 1 0 m cap,I cnt],3,true⟩,⟨26,.vals (vR xs++js),tot,true⟩] E) else Q (B false) [⟨58,.lst [I me,SV.slc 1 0 m cap,I cnt],3,true⟩,⟨26,.vals (vR xs++js),tot,true⟩] E) else bif (NI ln)==2 then req ((0:Int)<=(0:Int)/\0<(NI ln)) ((∃ (cs:List Value),E (VS lb ln lc) cs/\(cs=[]->False))/\∃ (n:Int),LoadE QB.P E 3 (VS lb ln lc) 0 (I n)/\bif bif true then n==(3:Int) else false then req ((0:Int)<=(1:Int)/\1<(NI ln)) ((∃ (cs:List Value),E (VS lb ln lc) cs/\(cs=[]->False))/\∃ (n:Int),LoadE QB.P E 3 (VS lb ln lc) 1 (I n)/\bif decide (n>=(1:Int)) then Mem.le E E/\bif bif true then bif true then decide (n<=(1000000000:Int)) else false else false then req ((0:Int)<=(1:Int)/\1<(NI ln)) ((∃ (cs:List Value),E (VS lb ln lc) cs/\(cs=[]->False))/\∃ (n:Int),LoadE QB.P E 3 (VS lb ln lc) 1 (I n)/\Q (B true) [⟨58,.lst [I me,SV.slc 1 0 m cap,I (if n>cnt then n else cnt)],3,true⟩,⟨26,.vals (vR xs++js),tot,true⟩] E) else Q (B false) [⟨58,.lst [I me,SV.slc 1 0 m cap,I cnt],3,true⟩,⟨26,.vals (vR xs++js),tot,true⟩] E else Mem.le E E/\Q (B false) [⟨58,.lst [I me,SV.slc 1 0 m cap,I cnt],3,true⟩,⟨26,.vals (vR xs++js),tot,true⟩] E) else Q (B false) [⟨58,.lst [I me,SV.slc 1 0 m cap,I cnt],3,true⟩,⟨26,.vals (vR xs++js),tot,true⟩] E) else Q (B false) [⟨58,.lst [I me,SV.slc 1 0 m cap,I cnt],3,true⟩,⟨26,.vals (vR xs++js),tot,true⟩] E) else bif (NI ln)==3 then req ((0:Int)<=(0:Int)/\0<(NI ln)) ((∃ (cs:List Value),E (VS lb ln lc) cs/\(cs=[]->False))/\∃ (n:Int),LoadE QB.P E 3 (VS lb ln lc) 0 (I n)/\bif bif true then n==(2:Int) else false then req ((0:Int)<=(1:Int)/\1<(NI ln)) ((∃ (cs:List Value),E (VS lb ln lc) cs/\(cs=[]->False))/\∃ (n:Int),LoadE QB.P E 3 (VS lb ln lc) 1 (I n)/\req ((0:Int)<=(2:Int)/\2<(NI ln)) ((∃ (cs:List Value),E (VS lb ln lc) cs/\(cs=[]->False))/\∃ (n_1:Int),LoadE QB.P E 3 (VS lb ln lc) 2 (I n_1)/\∃ (s:Nat),∃ (h:Nat),∃ (me_1:Int),∃ (cnt_1:Int),∃ (o:Int),∃ (n_2:Int),∃ (m_1:Nat),∃ (cap_1:Nat),∃ (tot_1:Nat),∃ (xs_1:List (List Int)),∃ (js_1:List Value),[SV.loc 0 0,I n,I n_1]=[SV.loc s 0,I o,I n_2]/\StAt [⟨58,.lst [I me,SV.slc 1 0 m cap,I cnt],3,true⟩,⟨26,.vals (vR xs++js),tot,true⟩] s h me_1 cnt_1 m_1 cap_1 tot_1 xs_1 js_1/\bif decide (idxR o n_2 xs_1<(0:Int)) then Q (B false) [⟨58,.lst [I me,SV.slc 1 0 m cap,I cnt],3,true⟩,⟨26,.vals (vR xs++js),tot,true⟩] E else ∃ (a:Nat),∃ (tot_2:Nat),∃ (xs_2:List (List Int)),∃ (js_2:List Value),some (⟨26,.vals (vR xs++js),tot,true⟩:Box)=some (⟨26,.vals (vR xs_2++js_2),tot_2,true⟩:Box)/\(idxR o n_2 xs_1=(NI a)/\WI (idxR o n_2 xs_1+(1:Int))=(NI (a+1)))/\W5 xs_2/\List.length xs_2=m/\m<=16/\a<m/\(m<=cap/\cap*5<=tot_2)/\(∀ (v:Value),List.Mem v js_2->Value.oneCell' v=true)/\∀ (cap' tot':Nat),m<=cap'->cap'*5<=tot'->Q (B true) [⟨58,.lst [I me,SV.slc 2 0 (m-1) cap',I cnt],3,true⟩,⟨26,.lst [],0,false⟩,⟨26,.vals (vR (List.eraseIdx xs_2 a)++z5),tot',true⟩] E)) else bif (NI ln)==2 then req ((0:Int)<=(0:Int)/\0<(NI ln)) ((∃ (cs:List Value),E (VS lb ln lc) cs/\(cs=[]->False))/\∃ (n:Int),LoadE QB.P E 3 (VS lb ln lc) 0 (I n)/\bif bif true then n==(3:Int) else false then req ((0:Int)<=(1:Int)/\1<(NI ln)) ((∃ (cs:List Value),E (VS lb ln lc) cs/\(cs=[]->False))/\∃ (n:Int),LoadE QB.P E 3 (VS lb ln lc) 1 (I n)/\bif decide (n>=(1:Int)) then Mem.le E E/\bif bif true then bif true then decide (n<=(1000000000:Int)) else false else false then req ((0:Int)<=(1:Int)/\1<(NI ln)) ((∃ (cs:List Value),E (VS lb ln lc) cs/\(cs=[]->False))/\∃ (n:Int),LoadE QB.P E 3 (VS lb ln lc) 1 (I n)/\Q (B true) [⟨58,.lst [I me,SV.slc 1 0 m cap,I (if n>cnt then n else cnt)],3,true⟩,⟨26,.vals (vR xs++js),tot,true⟩] E) else Q (B false) [⟨58,.lst [I me,SV.slc 1 0 m cap,I cnt],3,true⟩,⟨26,.vals (vR xs++js),tot,true⟩] E else Mem.le E E/\Q (B false) [⟨58,.lst [I me,SV.slc 1 0 m cap,I cnt],3,true⟩,⟨26,.vals (vR xs++js),tot,true⟩] E) else Q (B false) [⟨58,.lst [I me,SV.slc 1 0 m cap,I cnt],3,true⟩,⟨26,.vals (vR xs++js),tot,true⟩] E) else Q (B false) [⟨58,.lst [I me,SV.slc 1 0 m cap,I cnt],3,true⟩,⟨26,.vals (vR xs++js),tot,true⟩] E) else bif (NI ln)==2 then req ((0:Int)<=(0:Int)/\0<(NI ln)) ((∃ (cs:List Value),E (VS lb ln lc) cs/\(cs=[]->False))/\∃ (n:Int),LoadE QB.P E 3 (VS lb ln lc) 0 (I n)/\bif bif true then n==(3:Int) else false then req ((0:Int)<=(1:Int)/\1<(NI ln)) ((∃ (cs:List Value),E (VS lb ln lc) cs/\(cs=[]->False))/\∃ (n:Int),LoadE QB.P E 3 (VS lb ln lc) 1 (I n)/\bif decide (n>=(1:Int)) then Mem.le E E/\bif bif true then bif true then decide (n<=(1000000000:Int)) else false else false then req ((0:Int)<=(1:Int)/\1<(NI ln)) ((∃ (cs:List Value),E (VS lb ln lc) cs/\(cs=[]->False))/\∃ (n:Int),LoadE QB.P E 3 (VS lb ln lc) 1 (I n)/\Q (B true) [⟨58,.lst [I me,SV.slc 1 0 m cap,I (if n>cnt then n else cnt)],3,true⟩,⟨26,.vals (vR xs++js),tot,true⟩] E) else Q (B false) [⟨58,.lst [I me,SV.slc 1 0 m cap,I cnt],3,true⟩,⟨26,.vals (vR xs++js),tot,true⟩] E else Mem.le E E/\Q (B false) [⟨58,.lst [I me,SV.slc 1 0 m cap,I cnt],3,true⟩,⟨26,.vals (vR xs++js),tot,true⟩] E) else Q (B false) [⟨58,.lst [I me,SV.slc 1 0 m cap,I cnt],3,true⟩,⟨26,.vals (vR xs++js),tot,true⟩] E) else Q (B false) [⟨58,.lst [I me,SV.slc 1 0 m cap,I cnt],3,true⟩,⟨26,.vals (vR xs++js),tot,true⟩] E)
 delta WI NI VS
 have hn:ns.length=ln:=by have:=hl.len;simpa using this
 have ld:∀ i,i<ln->LoadE Try.prog E 3 (.slice lb ln lc) i (.raw (.int .i64 (ns.getD i 0))):=fun i hi=>IS_load hl hi
 have ne:∀ i,i<ln->∃ cs,E (.slice lb ln lc) cs/\(cs=[]->False):=fun i hi=>SL.ne (RK_ok .i64 (by decide)) hl hi
 have f2:appF me (xs,cnt) ns=none->Q (B false) [⟨58,.lst [I me,.slc 1 0 m cap,I cnt],3,true⟩,⟨26,.vals (vR xs++js),tot,true⟩] E:=fun q=>hQ _ _ (cloK_intro [some 0,some 1] (hF q) (wkG mr_))
 have f3:∀ y:List SV,appF me (xs,cnt) ns=none->Q (B false) [⟨58,.lst [I me,.slc 1 0 m cap,I cnt],3,true⟩,⟨26,.vals (vR xs++js),tot,true⟩,⟨26,.lst y,5,true⟩] E:=fun y q=>hQ _ _ (cloK_intro [some 0,some 1] (hF q) (wkG mr_))
 have hv:=vR_cellsJ (js:=js) S.w5 S.len
 unfold appF at f2 f3 h1 h2
 refine condC (fun g6=>?_) (fun g6=>?_)
 ·have g6:ln=6:=by simp at g6;omega
  subst g6
  refine req_intro (by omega) ⟨ne 0 (by omega),_,ld 0 (by omega),condC (fun g1=>?_) (fun g1=>?_)⟩
  ·have g1:ns.getD 0 0=1:=by simpa using g1
   rw [if_pos ⟨hn,g1⟩] at f2 f3 h1 h2
   refine req_intro (by omega) ⟨ne 1 (by omega),_,ld 1 (by omega),req_intro (by omega) ⟨ne 2 (by omega),_,ld 2 (by omega),req_intro (by omega) ⟨ne 3 (by omega),_,ld 3 (by omega),req_intro (by omega) ⟨ne 4 (by omega),_,ld 4 (by omega),req_intro (by omega) ⟨ne 5 (by omega),_,ld 5 (by omega),mr_,condC (fun g2=>?_) (fun g2=>?_)⟩⟩⟩⟩⟩
   ·exact f3 _ (if_neg (fun q=>by rw [q.1] at g2;cases g2))
   ·have g2:okR (ns.getD 1 0) (ns.getD 2 0) (ns.getD 3 0) (ns.getD 4 0) (ns.getD 5 0)=true:=by simpa using g2
    refine ⟨0,1,me,cnt,_,_,m,cap,tot,xs,js,rfl,⟨rfl,rfl,by decide,S.w5,S.len,S.le,S.room⟩,condC (fun g3=>?_) (fun g3=>condC (fun g4=>?_) (fun g4=>?_))⟩
    ·have g3:0<=idxR (ns.getD 1 0) (ns.getD 2 0) xs:=by simpa only [cond_false,decide_eq_true_eq,ge_iff_le] using g3
     exact f3 _ (if_neg (fun q=>by have q1:idxR (ns.getD 1 0) (ns.getD 2 0) xs<0:=q.2.1;omega))
    ·have g4:(m:Int)=16:=by simpa using g4
     exact f3 _ (if_neg (fun q=>by have q1:xs.length≠16:=q.2.2;have:=S.len;omega))
    ·have g3:idxR (ns.getD 1 0) (ns.getD 2 0) xs<0:=by
      have g3:¬ 0<=idxR (ns.getD 1 0) (ns.getD 2 0) xs:=by simpa only [cond_false,decide_eq_false_iff_not,ge_iff_le] using g3
      omega
     have g4:m≠16:=by simp at g4;omega
     rw [if_pos ⟨g2,g3,by show xs.length≠16;have:=S.len;omega⟩] at h2
     have:=S.le
     refine ⟨hv,S.room.2,S.room.1,req_intro (by omega) fun cap' tot' q1 q2=>?_⟩
     have e1:List.take (m*5) (vR xs++js)++[Value.int .i64 (ns.getD 1 0),Value.int .i64 (ns.getD 2 0),Value.int .i64 (ns.getD 3 0),Value.int .i64 (ns.getD 4 0),Value.int .i64 (ns.getD 5 0)]=vR (xs++[[ns.getD 1 0,ns.getD 2 0,ns.getD 3 0,ns.getD 4 0,ns.getD 5 0]])++[]:=by
      rw [show m=xs.length from S.len.symm,vR_take S.w5 (Nat.le_refl _) js,List.take_length,List.append_nil,vR_app];rfl
     have hl':(xs++[[ns.getD 1 0,ns.getD 2 0,ns.getD 3 0,ns.getD 4 0,ns.getD 5 0]]).length=m+1:=by simp [S.len]
     rw [e1]
     refine condC (fun g5=>?_) (fun g5=>?_)
     ·have g5:ns.getD 1 0=me:=by simpa only [beq_iff_eq] using g5
      have k:=h2 _ _ cap' tot' [] rfl (by rw [hl'];exact q1) q2 (by simp) (S.w5.snoc rfl) (by rw [hl'];omega)
      rw [if_pos g5,hl'] at k
      exact hQ _ _ (cloK_intro [some 0,some 1,some 4] k (wkG mr_ (h6:=(by repeat' first|exact True.intro|exact rfl|exact Or.inl rfl|exact (by decide:1<5)|refine And.intro ?_ ?_))))
     ·have g5:¬ ns.getD 1 0=me:=by simpa only [beq_eq_false_iff_ne,ne_eq] using g5
      have k:=h2 _ _ cap' tot' [] rfl (by rw [hl'];exact q1) q2 (by simp) (S.w5.snoc rfl) (by rw [hl'];omega)
      rw [if_neg g5,hl'] at k
      exact hQ _ _ (cloK_intro [some 0,some 1,some 4] k (wkG mr_ (h6:=(by repeat' first|exact True.intro|exact rfl|exact Or.inl rfl|exact (by decide:1<5)|refine And.intro ?_ ?_))))
  ·have g1:¬ ns.getD 0 0=1:=by simpa only [cond_true,beq_eq_false_iff_ne,ne_eq] using g1
   exact condC (fun g=>absurd g (by decide)) (fun _=>condC (fun g=>absurd g (by decide)) (fun _=>f2 (by rw [if_neg (fun q=>g1 q.2),if_neg (fun q=>by have:=q.1;omega),if_neg (fun q=>by have:=q.1;omega)])))
 ·have g6:ln≠6:=by intro e;subst e;exact absurd g6 (by decide)
  rw [if_neg (fun q=>g6 (by rw [← hn];exact q.1))] at f2 h1 h2
  refine condC (fun g3=>?_) (fun g3=>?_)
  ·have g3:ln=3:=by simp at g3;omega
   subst g3
   refine req_intro (by omega) ⟨ne 0 (by omega),_,ld 0 (by omega),condC (fun g1=>?_) (fun g1=>?_)⟩
   ·have g1:ns.getD 0 0=2:=by simpa only [cond_true,beq_iff_eq] using g1
    rw [if_pos ⟨hn,g1⟩] at f2 h1 h2
    refine req_intro (by omega) ⟨ne 1 (by omega),_,ld 1 (by omega),req_intro (by omega) ⟨ne 2 (by omega),_,ld 2 (by omega),0,1,me,cnt,_,_,m,cap,tot,xs,js,rfl,S,condC (fun g2=>?_) (fun g2=>?_)⟩⟩
    ·have g2:idxR (ns.getD 1 0) (ns.getD 2 0) xs<0:=by simpa only [decide_eq_true_eq] using g2
     exact f2 (if_neg (fun q=>by have q1:0<=idxR (ns.getD 1 0) (ns.getD 2 0) xs:=q;omega))
    ·have g2:¬ idxR (ns.getD 1 0) (ns.getD 2 0) xs<0:=by simpa only [decide_eq_false_iff_not] using g2
     rw [if_pos (show 0<=idxR (ns.getD 1 0) (ns.getD 2 0) xs by omega)] at h2
     have ib:=idxR_b (ns.getD 1 0) (ns.getD 2 0) xs
     have:=S.len
     have:=S.le
     have ha:(idxR (ns.getD 1 0) (ns.getD 2 0) xs).toNat<m:=by omega
     have hl':(xs.eraseIdx (idxR (ns.getD 1 0) (ns.getD 2 0) xs).toNat).length=m-1:=by rw [List.length_eraseIdx,S.len,if_pos ha]
     refine ⟨(idxR (ns.getD 1 0) (ns.getD 2 0) xs).toNat,tot,xs,js,rfl,⟨by omega,by rw [wrap_i64 (by omega)];omega⟩,S.w5,S.len,S.le,ha,S.room,hj,fun cap' tot' q1 q2=>?_⟩
     have k:=h2 _ _ cap' tot' z5 rfl (by rw [hl'];omega) q2 (by decide) (S.w5.erase _) (by rw [hl'];omega)
     rw [hl'] at k
     exact hQ _ _ (cloK_intro [some 0,some 1,some 2] k (wkG mr_ (h6:=(by repeat' first|exact True.intro|exact rfl|exact Or.inl rfl|exact (by decide:1<3)|refine And.intro ?_ ?_))))
   ·have g1:¬ ns.getD 0 0=2:=by simpa only [cond_true,beq_eq_false_iff_ne,ne_eq] using g1
    exact condC (fun g=>absurd g (by decide)) (fun _=>f2 (by rw [if_neg (fun q=>g1 q.2),if_neg (fun q=>by have:=q.1;omega)]))
  ·have g3:ln≠3:=by intro e;subst e;exact absurd g3 (by decide)
   rw [if_neg (fun q=>g3 (by rw [← hn];exact q.1))] at f2 h1 h2
   refine condC (fun g2=>?_) (fun g2=>?_)
   ·have g2:ln=2:=by simp at g2;omega
    subst g2
    refine req_intro (by omega) ⟨ne 0 (by omega),_,ld 0 (by omega),condC (fun g1=>?_) (fun g1=>?_)⟩
    ·have g1:ns.getD 0 0=3:=by simpa only [cond_true,beq_iff_eq] using g1
     refine req_intro (by omega) ⟨ne 1 (by omega),_,ld 1 (by omega),condC (fun g4=>⟨mr_,condC (fun g5=>?_) (fun g5=>?_)⟩) (fun g4=>⟨mr_,?_⟩)⟩
     ·have g4:1<=ns.getD 1 0:=by simpa only [decide_eq_true_eq,ge_iff_le] using g4
      have g5:ns.getD 1 0<=1000000000:=by simpa only [cond_true,decide_eq_true_eq] using g5
      refine req_intro (by omega) ⟨ne 1 (by omega),_,ld 1 (by omega),?_⟩
      have k:=h1 _ (if_pos ⟨hn,g1,g4,g5⟩)
      exact hQ _ _ (cloK_intro [some 0,some 1] k (wkG mr_))
     ·have g5:¬ ns.getD 1 0<=1000000000:=by simpa only [cond_true,decide_eq_false_iff_not] using g5
      exact f2 (if_neg (fun q=>g5 q.2.2.2))
     ·have g4:¬ 1<=ns.getD 1 0:=by simpa only [decide_eq_false_iff_not,ge_iff_le] using g4
      exact f2 (if_neg (fun q=>g4 q.2.2.1))
    ·have g1:¬ ns.getD 0 0=3:=by simpa only [cond_true,beq_eq_false_iff_ne,ne_eq] using g1
     exact f2 (if_neg (fun q=>g1 q.2.1))
   ·have g2:ln≠2:=by intro e;subst e;exact absurd g2 (by decide)
    exact f2 (if_neg (fun q=>g2 (by rw [← hn];exact q.1)))
theorem apply_sem {bx:List Box} {s h:Nat} {me cnt:Int} {m cap tot:Nat} {xs:List (List Int)} {js:List Value} {lb:Option Addr} {ln lc:Nat} {ns:List Int} {K:KT} (hl:SL (RK .i64 1) E lb ln lc (ns.map fun z=>[z])) (S:StAt bx s h me cnt m cap tot xs js) (hj:∀ v∈js,v.oneCell'=true)
  (hF:appF me (xs,cnt) ns=none->K (B false) bx E)
  (h1:∀ c:Int,appF me (xs,cnt) ns=some (xs,c)->K (B true) (bx.set s ⟨58,.lst [I me,.slc h 0 m cap,I c],3,true⟩) E)
  (h2:∀ (ys:List (List Int)) (c:Int) (cap' tot':Nat) (js':List Value),appF me (xs,cnt) ns=some (ys,c)->ys.length<=cap'->cap'*5<=tot'->(∀ v∈js',v.oneCell'=true)->W5 ys->ys.length<=16->
   K (B true) ((bx.set s ⟨58,.lst [I me,.slc bx.length 0 ys.length cap',I c],3,true⟩).set h ⟨26,.lst [],0,false⟩++[⟨26,.vals (vR ys++js'),tot',true⟩]) E):
  CallSem Try.prog 31 [.loc s 0,L lb ln lc] bx E K:=by
 have S0:StAt [⟨58,.lst [I me,.slc 1 0 m cap,I cnt],3,true⟩,⟨26,.vals (vR xs++js),tot,true⟩] 0 1 me cnt m cap tot xs js:=⟨rfl,rfl,by decide,S.w5,S.len,S.le,S.room⟩
 refine CallSem.hand (σ:=[s,h]) (bxs:=[⟨58,.lst [I me,.slc 1 0 m cap,I cnt],3,true⟩,⟨26,.vals (vR xs++js),tot,true⟩]) ⟨by simp [S.ne],rfl,fun i b hb=>?_⟩ (args':=[.loc 0 0,L lb ln lc]) ?_ (bsm okQB Try.func31 (u31 hl S0 hj ?_ ?_ ?_ (fun _ _ q=>q)))
 ·match i,hb with
  | 0,hb=>
   simp only [List.getElem?_cons_zero,Option.some.injEq] at hb;subst hb
   exact ⟨rfl,s,rfl,by simpa [Box.ren,Row.ren,SV.renL,SV.ren,renF] using S.st⟩
  | 1,hb=>
   simp only [List.getElem?_cons_succ,List.getElem?_cons_zero,Option.some.injEq] at hb;subst hb
   exact ⟨rfl,h,rfl,by simpa [Box.ren,Row.ren,SV.renL,SV.ren,renF] using S.hd⟩
  | j+2,hb=>simp at hb
 ·simp only [SV.renL,SV.ren,renF,List.getElem?_cons_zero]
 ·intro q
  simp only [SV.ren,SV.renL,merge,setAll,List.take,List.drop,List.map,List.length_cons,List.length_nil,Box.ren,Row.ren,renF,List.getElem?_cons_zero,List.getElem?_cons_succ]
  rw [set_sameB S.st,set_sameB S.hd]
  simpa using hF q
 ·intro c q
  simp only [SV.ren,SV.renL,merge,setAll,List.take,List.drop,List.map,List.length_cons,List.length_nil,Box.ren,Row.ren,renF,List.getElem?_cons_zero,List.getElem?_cons_succ]
  rw [set_sameB (p:=h) (by rw [List.getElem?_set_ne S.ne];exact S.hd)]
  simpa using h1 c q
 ·intro ys c cap' tot' js' q q1 q2 q3 q4 q5
  simp only [SV.ren,SV.renL,merge,setAll,List.take,List.drop,List.map,List.length_cons,List.length_nil,Box.ren,Row.ren,renF,List.getElem?_cons_zero,List.getElem?_cons_succ]
  simpa [renF] using h2 ys c cap' tot' js' q q1 q2 q3 q4 q5
theorem unzig_zig (n:Int):unzig (zig n)=n:=by
 unfold zig unzig
 split
 ·split<;>omega
 ·split<;>omega
theorem zig_lt {n:Int} (h:okN n):zig n<562949953421312:=by
 unfold okN at h;unfold zig;split<;>omega
theorem getD_app {xs ts:List Int} {i:Nat} (h:xs.length=i) (c:Int) (cs:List Int):(xs++(c::cs)++ts).getD i 0=c:=by
 rw [List.getD_eq_getElem?_getD,List.append_assoc,List.getElem?_append_right (by omega)]
 simp [h]
theorem rdF_dig {a:Int} {ts:List Int}:∀ (k:Nat) (j:Nat) (u' acc:Int) (pre:List Int),0<=u'->u'<128 ^ (k+1)->u'<128 ^ (j+1)->(0<u'\/pre.length=0)->okN (unzig (acc+u'*128 ^ pre.length))->
  rdF a (pre++digF j u'++ts) (k+1) pre.length acc=(unzig (acc+u'*128 ^ pre.length),a+pre.length+(digF j u').length,0):=by
 have last:∀ (k j:Nat) (u' acc:Int) (pre:List Int),0<=u'->u'<128->(0<u'\/pre.length=0)->okN (unzig (acc+u'*128 ^ pre.length))->
  rdF a (pre++digF j u'++ts) (k+1) pre.length acc=(unzig (acc+u'*128 ^ pre.length),a+pre.length+(digF j u').length,0):=by
  intro k j u' acc pre h0 h1 h3 h4
  have hd:digF j u'=[u']:=by cases j with |zero=>rfl|succ j=>unfold digF;rw [if_pos h1]
  rw [hd]
  unfold rdF
  rw [if_neg (by simp),getD_app rfl u' [],if_neg (by omega),if_pos ⟨h4,h3⟩]
  simp
 intro k
 induction k with
 | zero=>
  intro j u' acc pre h0 h1 h2 h3 h4
  exact last 0 j u' acc pre h0 (by simpa using h1) h3 h4
 | succ k ih=>
  intro j u' acc pre h0 h1 h2 h3 h4
  by_cases hu:u'<128
  ·exact last (k+1) j u' acc pre h0 hu h3 h4
  ·obtain ⟨j',rfl⟩:∃ j',j=j'+1:=by
    cases j with
    | zero=>simp at h2;omega
    | succ j=>exact ⟨j,rfl⟩
   have hd:digF (j'+1) u'=(u' % 128+128)::digF j' (u' / 128):=by
    show (if u'<128 then _ else _)=_
    rw [if_neg hu]
   have hm:0<=u' % 128/\u' % 128<128:=⟨Int.emod_nonneg _ (by omega),Int.emod_lt_of_pos _ (by omega)⟩
   rw [hd]
   unfold rdF
   rw [if_neg (by simp),getD_app rfl _ _,if_pos (by omega),if_neg (by omega)]
   have e1:pre++(u' % 128+128)::digF j' (u' / 128)++ts=(pre++[u' % 128+128])++digF j' (u' / 128)++ts:=by simp
   have e2:pre.length+1=(pre++[u' % 128+128]).length:=by simp
   have e3:acc+(u' % 128+128-128)*128 ^ pre.length+u' / 128*128 ^ (pre.length+1)=acc+u'*128 ^ pre.length:=by
    rw [Int.pow_succ,Int.add_sub_cancel,Int.add_assoc,Int.mul_comm (128 ^ pre.length) 128,← Int.mul_assoc,← Int.add_mul]
    have :u' % 128+u' / 128*128=u':=by omega
    rw [this]
   rw [e1,e2]
   rw [ih j' (u' / 128) _ (pre++[u' % 128+128]) (by omega) (by rw [Int.pow_succ] at h1;omega) (by rw [Int.pow_succ] at h2;omega) (.inl (by omega)) (by rw [← e2,e3];exact h4)]
   rw [← e2,e3]
   simp
   omega
theorem rd_put {zs ts:List Int} {n:Int} (h:okN n):rd (zs++dig (zig n)++ts) zs.length=(n,(zs.length:Int)+((dig (zig n)).length:Int),0):=by
 have hz:=zig_b h
 have hl:=zig_lt h
 unfold rd
 rw [if_neg (by simp;omega)]
 rw [Int.toNat_natCast,List.append_assoc,List.drop_left]
 have:=rdF_dig (a:=zs.length) (ts:=ts) 6 9 (zig n) 0 [] hz.1 (by simpa using hl) (by simp;omega) (.inr rfl) (by simpa [unzig_zig] using h)
 simp only [List.nil_append,List.length_nil,Int.zero_add,Int.pow_zero,Int.mul_one,unzig_zig] at this
 rw [show ((0:Nat):Int)=0 from rfl,Int.add_zero] at this
 exact this
theorem dig_len8 {u:Int} (h0:0<=u) (h:u<562949953421312):(dig u).length<=7/\((dig u).length=1↔u<128):=by
  have key:∀ (k j:Nat) (u:Int),0<=u->u<128 ^ (k+1)->(digF j u).length<=k+1:=by
    intro k
    induction k with
    | zero => intro j u h0 h1;have h1:u<128:=by simpa using h1
              cases j with
              | zero=>simp [digF]
              | succ j=>unfold digF;rw [if_pos h1];simp
    | succ k ih => intro j u h0 h1
                   cases j with
                   | zero=>simp [digF]
                   | succ j=>
                     unfold digF
                     split
                     · simp
                     · have:=ih j (u / 128) (by omega) (by rw [Int.pow_succ] at h1;omega)
                       simp;omega
  refine ⟨key 6 9 u h0 (by simpa using h),?_⟩
  by_cases hu:u<128
  · rw [dig_last hu];simp [hu]
  · rw [dig_step hu (by omega)]
    have:=(dig_len (u / 128)).1
    exact ⟨fun e=>by simp only [List.length_cons] at e;omega,fun e=>absurd e hu⟩
def encN (l:List Int):List Int:=(l.map fun n=>dig (zig n)).flatten
theorem putN_ok {zs:List Int} {n:Int} (h:okN n):(putN zs n).1=zs++dig (zig n):=by
 unfold putN;rw [if_pos h]
theorem rec_enc:∀ (l b:List Int),(∀ n∈l,okN n)->l.foldl (fun b n=>(putN b n).1) b=b++encN l
 | [],b,_=>by simp [encN]
 | n::l,b,h=>by
  rw [List.foldl_cons,putN_ok (h n (by simp)),rec_enc l _ fun m hm=>h m (List.mem_cons_of_mem _ hm)]
  simp [encN]
theorem recB_enc {l:List Int} (h:∀ n∈l,okN n):recB l=encN l:=by
 unfold recB;rw [rec_enc l [] h,List.nil_append]
theorem encN_len:∀ (l:List Int),(∀ n∈l,okN n)->l.length<=(encN l).length/\(encN l).length<=7*l.length
 | [],_=>by simp [encN]
 | n::l,h=>by
  have hn:=h n (by simp)
  have h1:=encN_len l fun m hm=>h m (List.mem_cons_of_mem _ hm)
  have h2:=(dig_len8 (zig_b hn).1 (zig_lt hn)).1
  have h3:=dig_len (zig n)
  have e:(encN (n::l)).length=(dig (zig n)).length+(encN l).length:=by simp [encN]
  rw [e,List.length_cons]
  omega
theorem encN_byte {l:List Int} (h:∀ n∈l,okN n):∀ x∈encN l,0<=x/\x<=255:=fun x hx=>by
 unfold encN at hx
 obtain ⟨y,hy,hx⟩:=List.mem_flatten.1 hx
 obtain ⟨n,hn,rfl⟩:=List.mem_map.1 hy
 have z:=zig_lt (h n hn)
 exact dig_byte (zig_b (h n hn)).1 (by omega) x hx
theorem nums_enc:∀ (l pre:List Int) (f:Nat),(∀ n∈l,okN n)->l.length<f->numsN (pre++encN l) f pre.length=some l
 | [],pre,f+1,_,_=>by
  show (if (pre.length:Int)<((pre++encN []).length:Nat) then _ else some [])=some []
  rw [if_neg (by simp [encN])]
 | n::l,pre,f+1,h,hf=>by
  have hn:=h n (by simp)
  have h3:=dig_len (zig n)
  have e:encN (n::l)=dig (zig n)++encN l:=by simp [encN]
  have ih:=nums_enc l (pre++dig (zig n)) f (fun m hm=>h m (List.mem_cons_of_mem _ hm)) (by rw [List.length_cons] at hf;omega)
  show (if (pre.length:Int)<((pre++encN (n::l)).length:Nat) then _ else some [])=some (n::l)
  rw [e,← List.append_assoc,if_pos (by simp only [List.length_append];omega),rd_put hn]
  rw [if_pos rfl]
  rw [List.length_append,Int.natCast_add] at ih
  show Option.map _ (numsN _ f ((pre.length:Int)+((dig (zig n)).length:Int)))=_
  rw [ih];rfl
theorem nums_rec {l:List Int} (h:∀ n∈l,okN n):numsF (recB l)=some l:=by
 unfold numsF
 rw [recB_enc h]
 exact nums_enc l [] _ h (by have:=(encN_len l h).1;omega)
theorem rec_byte {l:List Int} (h:∀ n∈l,okN n):∀ x∈recB l,0<=x/\x<=255:=by rw [recB_enc h];exact encN_byte h
theorem rec_len {l:List Int} (h:∀ n∈l,okN n):(recB l).length<=7*l.length:=by rw [recB_enc h];exact (encN_len l h).2
def foldF (me:Int):List (List Int)->List (List Int)×Int->Option (List (List Int)×Int)
 | [],st=>some st
 | b::bs,st=>match numsF b with
  | none=>none
  | some l=>match appF me st l with
   | none=>none
   | some st'=>foldF me bs st'
theorem foldF_app (me:Int):∀ (xs bs:List (List Int)) (st:List (List Int)×Int),foldF me (xs++bs) st=(foldF me xs st).bind fun q=>foldF me bs q
 | [],bs,st=>rfl
 | a::xs,bs,st=>by
  simp only [List.cons_append,foldF]
  split
  ·rfl
  ·split
   ·rfl
   ·exact foldF_app me xs bs _
def heldF (me s:Int) (zs:List Int):(List (List Int)×Int)×Int:=
 if 0<=me/\me<=59 then
  (if (readF s zs).2=0 then (match foldF me (readF s zs).1 ([],0) with
   | some st=>(st,0)
   | none=>(([],0),9)) else (([],0),(readF s zs).2))
 else (([],0),1)
def keepF (st:List (List Int)×Int):List (List Int):=(if 0<st.2 then [recB [3,st.2]] else [])++st.1.map fun r=>recB (1::r)
def writeF (me s:Int) (zs:List Int) (st:List (List Int)×Int) (b:List Int):List (Int×List Int)×Int:=
 if (appendF s zs b).2=10 then (match numsF b with
  | none=>([],9)
  | some l=>match appF me st l with
   | none=>([],9)
   | some st'=>compactF s zs (keepF st'))
 else appendF s zs b
def takeF (me s:Int) (zs:List Int) (o n k v a:Int):List (Int×List Int)×Int:=
 if (heldF me s zs).2≠0 then ([],(heldF me s zs).2)
 else if okR o n k v a=false then ([],1)
 else if 0<=idxR o n (heldF me s zs).1.1 then ([],5)
 else if o=me/\n<=(heldF me s zs).1.2 then ([],14)
 else if (heldF me s zs).1.1.length=16 then ([],10)
 else writeF me s zs (heldF me s zs).1 (recB [1,o,n,k,v,a])
def giveF (me s:Int) (zs:List Int) (o n:Int):List (Int×List Int)×Int:=
 if (heldF me s zs).2≠0 then ([],(heldF me s zs).2)
 else if idxR o n (heldF me s zs).1.1<0 then ([],4)
 else writeF me s zs (heldF me s zs).1 (recB [2,o,n])
structure Inv (me:Int) (st:List (List Int)×Int):Prop where
 w5:W5 st.1
 ok:∀ x∈st.1,okR (x.getD 0 0) (x.getD 1 0) (x.getD 2 0) (x.getD 3 0) (x.getD 4 0)=true
 nd:∀ (i j:Nat) x y,st.1[i]? =some x->st.1[j]? =some y->isN (x.getD 0 0) (x.getD 1 0) y=true->i=j
 le:st.1.length<=16
 own:∀ x∈st.1,x.getD 0 0=me->x.getD 1 0<=st.2
 cnt:0<=st.2/\st.2<=1000000000
theorem Inv.nil (me:Int):Inv me ([],0):=⟨(fun x hx=>nomatch hx),(fun x hx=>nomatch hx),(fun i j x y h=>by simp at h),(by decide),(fun x hx=>nomatch hx),(by decide)⟩
theorem okR_iff {o n k v a:Int}:okR o n k v a=true↔((0<=o/\o<=59)/\(1<=n/\n<=1000000000)/\(0<=k/\k<=1)/\(0<=v/\v<=10000000000000)/\(0<=a/\a<=1000000000)):=by
 unfold okR;exact decide_eq_true_iff
theorem idxR_neg {o n:Int} {xs:List (List Int)} (h:idxR o n xs<0):∀ x∈xs,isN o n x=false:=by
 unfold idxR at h
 split at h
 ·omega
 ·rename_i q
  exact fun x hx=>by simpa using List.findIdx?_eq_none_iff.1 q x hx
theorem idxR_nonneg {o n:Int} {xs:List (List Int)} (h:0<=idxR o n xs):∃ (i:Nat) (x:List Int),idxR o n xs=i/\xs[i]? =some x/\isN o n x=true:=by
 unfold idxR at h ⊢
 split at h
 ·rename_i i q
  obtain ⟨hi,h1,_⟩:=List.findIdx?_eq_some_iff_getElem.1 q
  exact ⟨i,xs[i],rfl,List.getElem?_eq_getElem hi,h1⟩
 ·omega
theorem isN_iff {o n:Int} {x:List Int}:isN o n x=true↔x.getD 0 0=o/\x.getD 1 0=n:=by
 unfold isN;simp
theorem idxR_lt {o n:Int} {xs:List (List Int)} (h:∀ x∈xs,isN o n x=false):idxR o n xs= -1:=idxR_no fun j x hx=>h x (List.mem_of_getElem? hx)
theorem mx_le {n c:Int}:c<=mx n c/\n<=mx n c:=by unfold mx;split<;>omega
theorem mx_cases {n c:Int}:mx n c=n\/mx n c=c:=by unfold mx;split<;>simp
theorem app_take {me:Int} {st:List (List Int)×Int} {o n k v a:Int} (h1:okR o n k v a=true) (h2:idxR o n st.1<0) (h3:st.1.length≠16):
  appF me st [1,o,n,k,v,a]=some (st.1++[[o,n,k,v,a]],if o=me then mx n st.2 else st.2):=by
 unfold appF
 rw [if_pos ⟨rfl,rfl⟩]
 exact if_pos ⟨h1,h2,h3⟩
theorem app_give {me:Int} {st:List (List Int)×Int} {o n:Int} (h:0<=idxR o n st.1):appF me st [2,o,n]=some (st.1.eraseIdx (idxR o n st.1).toNat,st.2):=by
 unfold appF
 rw [if_neg (fun q=>by simp at q),if_pos ⟨rfl,rfl⟩]
 exact if_pos h
theorem app_count {me c:Int} {st:List (List Int)×Int} (h:1<=c/\c<=1000000000):appF me st [3,c]=some (st.1,mx c st.2):=by
 unfold appF
 rw [if_neg (fun q=>by simp at q),if_neg (fun q=>by simp at q)]
 exact if_pos ⟨rfl,rfl,h⟩
theorem Inv.take {me:Int} {st:List (List Int)×Int} {o n k v a:Int} (I:Inv me st) (h1:okR o n k v a=true) (h2:idxR o n st.1<0) (h3:st.1.length≠16):
  Inv me (st.1++[[o,n,k,v,a]],if o=me then mx n st.2 else st.2):=by
 have ok:=okR_iff.1 h1
 have no:=idxR_neg h2
 have hc:st.2<=(if o=me then mx n st.2 else st.2):=by split;exact mx_le.1;exact Int.le_refl _
 refine ⟨I.w5.snoc rfl,fun x hx=>?_,fun i j x y hi hj he=>?_,by have:=I.le;simp;omega,fun x hx e=>?_,?_⟩
 ·rcases List.mem_append.1 hx with hx|hx
  ·exact I.ok x hx
  ·rw [List.mem_singleton.1 hx];exact h1
 ·have li:=(List.getElem?_eq_some_iff.1 hi).1
  have lj:=(List.getElem?_eq_some_iff.1 hj).1
  simp only [List.length_append,List.length_singleton] at li lj
  by_cases c1:i<st.1.length
  ·by_cases c2:j<st.1.length
   ·rw [List.getElem?_append_left c1] at hi
    rw [List.getElem?_append_left c2] at hj
    exact I.nd i j x y hi hj he
   ·rw [List.getElem?_append_left c1] at hi
    rw [List.getElem?_append_right (by omega),show j-st.1.length=0 by omega] at hj
    simp at hj
    have:=no x (List.mem_of_getElem? hi)
    rw [← hj] at he
    have he:=isN_iff.1 he
    have :isN o n x=true:=isN_iff.2 ⟨he.1.symm,he.2.symm⟩
    simp_all
  ·by_cases c2:j<st.1.length
   ·rw [List.getElem?_append_left c2] at hj
    rw [List.getElem?_append_right (by omega),show i-st.1.length=0 by omega] at hi
    simp at hi
    have:=no y (List.mem_of_getElem? hj)
    rw [← hi] at he
    have he:isN o n y=true:=he
    simp_all
   ·omega
 ·rcases List.mem_append.1 hx with hx|hx
  ·exact Int.le_trans (I.own x hx e) hc
  ·rw [List.mem_singleton.1 hx] at e ⊢
   have e:o=me:=e
   show n<=if o=me then mx n st.2 else st.2
   rw [if_pos e];exact mx_le.2
 ·have:=I.cnt
  show 0<=(if o=me then mx n st.2 else st.2)/\(if o=me then mx n st.2 else st.2)<=1000000000
  split
  ·rcases mx_cases (n:=n) (c:=st.2) with q|q<;>rw [q]<;>omega
  ·exact this
theorem get_erase {α:Type} {xs:List α} {a i:Nat} {x:α} (h:(xs.eraseIdx a)[i]? =some x):∃ i',xs[i']? =some x/\i'=if i<a then i else i+1:=by
 rw [List.getElem?_eraseIdx] at h
 split at h
 ·rename_i q;exact ⟨i,h,by rw [if_pos q]⟩
 ·rename_i q;exact ⟨i+1,h,by rw [if_neg q]⟩
theorem Inv.erase {me:Int} {st:List (List Int)×Int} (I:Inv me st) (a:Nat):Inv me (st.1.eraseIdx a,st.2):=by
 refine ⟨I.w5.erase a,fun x hx=>I.ok x (List.mem_of_mem_eraseIdx hx),fun i j x y hi hj he=>?_,Nat.le_trans (List.length_eraseIdx_le ..) I.le,fun x hx=>I.own x (List.mem_of_mem_eraseIdx hx),I.cnt⟩
 obtain ⟨i',h1,e1⟩:=get_erase hi
 obtain ⟨j',h2,e2⟩:=get_erase hj
 have:=I.nd i' j' x y h1 h2 he
 subst e1;subst e2
 split at this<;>split at this<;>omega
theorem Inv.app {me:Int} {st st':List (List Int)×Int} {l:List Int} (I:Inv me st) (h:appF me st l=some st'):Inv me st'/\st.2<=st'.2:=by
 unfold appF at h
 split at h
 ·split at h
  ·rename_i q
   cases h
   refine ⟨I.take q.1 q.2.1 q.2.2,?_⟩
   show st.2<=if _ then _ else _
   split;exact mx_le.1;exact Int.le_refl _
  ·cases h
 ·split at h
  ·split at h
   ·cases h
    exact ⟨I.erase _,Int.le_refl _⟩
   ·cases h
  ·split at h
   ·rename_i q
    cases h
    refine ⟨⟨I.w5,I.ok,I.nd,I.le,fun x hx e=>Int.le_trans (I.own x hx e) mx_le.1,?_⟩,mx_le.1⟩
    have:=I.cnt
    show 0<=mx _ _/\mx _ _<=_
    rcases mx_cases (n:=l.getD 1 0) (c:=st.2) with q'|q'<;>rw [q']<;>omega
   ·cases h
theorem Inv.fold {me:Int}:∀ {ls:List (List Int)} {st st':List (List Int)×Int},Inv me st->foldF me ls st=some st'->Inv me st'
 | [],st,st',I,h=>by cases h;exact I
 | b::ls,st,st',I,h=>by
  unfold foldF at h
  split at h
  ·cases h
  ·split at h
   ·cases h
   ·rename_i q
    exact Inv.fold (I.app q).1 h
theorem held_inv {me s:Int} {zs:List Int} {st:List (List Int)×Int} {e:Int} (h:heldF me s zs=(st,e)):Inv me st:=by
 unfold heldF at h
 split at h
 ·split at h
  ·split at h
   ·rename_i q
    cases h
    exact (Inv.nil me).fold q
   ·cases h;exact Inv.nil me
  ·cases h;exact Inv.nil me
 ·cases h;exact Inv.nil me
theorem held_err {me s:Int} {zs:List Int} {st:List (List Int)×Int} {e:Int} (h:heldF me s zs=(st,e)) (q:e≠0):st=([],0):=by
 unfold heldF at h
 split at h
 ·split at h
  ·split at h
   ·cases h;exact absurd rfl q
   ·cases h;rfl
  ·cases h;rfl
 ·cases h;rfl
theorem held_of {me s:Int} {zs:List Int} {ls:List (List Int)} {st:List (List Int)×Int} (hm:0<=me/\me<=59) (h:readF s zs=(ls,0)) (q:foldF me ls ([],0)=some st):heldF me s zs=(st,0):=by
 unfold heldF
 rw [if_pos hm,h,if_pos rfl]
 simp only [q]
theorem held_ok {me s:Int} {zs:List Int} {st:List (List Int)×Int} (h:heldF me s zs=(st,0)):(0<=me/\me<=59)/\∃ ls,readF s zs=(ls,0)/\foldF me ls ([],0)=some st:=by
 unfold heldF at h
 split at h
 ·rename_i hm
  split at h
  ·rename_i hr
   split at h
   ·rename_i q
    cases h
    exact ⟨hm,(readF s zs).1,Prod.ext rfl hr,q⟩
   ·cases h
  ·rename_i hr;exact absurd (Prod.mk.inj h).2 hr
 ·cases h
theorem okN_take {o n k v a:Int} (h:okR o n k v a=true):∀ m∈[1,o,n,k,v,a],okN m:=by
 have:=okR_iff.1 h
 intro m hm
 simp only [List.mem_cons,List.not_mem_nil,or_false] at hm
 unfold okN
 omega
theorem okN_give {o n:Int} (h:(0<=o/\o<=59)/\(1<=n/\n<=1000000000)):∀ m∈[2,o,n],okN m:=by
 intro m hm
 simp only [List.mem_cons,List.not_mem_nil,or_false] at hm
 unfold okN
 omega
theorem okN_count {c:Int} (h:0<=c/\c<=1000000000):∀ m∈[3,c],okN m:=by
 intro m hm
 simp only [List.mem_cons,List.not_mem_nil,or_false] at hm
 unfold okN
 omega
theorem five {x:List Int} (h:x.length=5):x=[x.getD 0 0,x.getD 1 0,x.getD 2 0,x.getD 3 0,x.getD 4 0]:=by
 match x,h with
 | [a,b,c,d,e],_=>rfl
theorem takes_fold {me:Int} {xs:List (List Int)} {c:Int} (I:Inv me (xs,c)):∀ (n:Nat) (ys zs:List (List Int)),zs.length=n->xs=ys++zs->foldF me (zs.map fun r=>recB (1::r)) (ys,c)=some (xs,c)
 | 0,ys,zs,hn,e=>by
  rw [List.length_eq_zero_iff.1 hn,List.append_nil] at e
  rw [List.length_eq_zero_iff.1 hn,e];rfl
 | n+1,ys,[],hn,e=>by cases hn
 | n+1,ys,z::zs,hn,e=>by
  have hz:z∈xs:=by rw [e];simp
  have z5:=five (I.w5 z hz)
  have ok:=I.ok z hz
  have iz:xs[ys.length]? =some z:=by rw [e,List.getElem?_append_right (Nat.le_refl _),Nat.sub_self];rfl
  have nx:idxR (z.getD 0 0) (z.getD 1 0) ys<0:=by
   rw [idxR_lt];decide
   intro y hy
   obtain ⟨j,hj,rfl⟩:=List.getElem_of_mem hy
   cases q:isN (z.getD 0 0) (z.getD 1 0) ys[j] with
   | false=>rfl
   | true=>
    have:=I.nd ys.length j z ys[j] iz (by rw [e,List.getElem?_append_left hj];exact List.getElem?_eq_getElem hj) q
    omega
  have ln:ys.length≠16:=by have:=I.le;rw [e] at this;simp at this;omega
  have ap:=app_take (me:=me) (st:=(ys,c)) ok nx ln
  have oc:(if z.getD 0 0=me then mx (z.getD 1 0) c else c)=c:=by
   split
   ·rename_i q
    have:=I.own z hz q
    unfold mx
    rw [if_neg (by show ¬ _;exact Int.not_lt.2 this)]
   ·rfl
  have ap:appF me (ys,c) [1,z.getD 0 0,z.getD 1 0,z.getD 2 0,z.getD 3 0,z.getD 4 0]=some (ys++[[z.getD 0 0,z.getD 1 0,z.getD 2 0,z.getD 3 0,z.getD 4 0]],if z.getD 0 0=me then mx (z.getD 1 0) c else c):=ap
  rw [oc,show [[z.getD 0 0,z.getD 1 0,z.getD 2 0,z.getD 3 0,z.getD 4 0]]=[z] by rw [← z5]] at ap
  have nr:numsF (recB (1::z))=some (1::z):=by rw [z5];exact nums_rec (okN_take ok)
  have e5:(1:Int)::z=[1,z.getD 0 0,z.getD 1 0,z.getD 2 0,z.getD 3 0,z.getD 4 0]:=by rw [← z5]
  have ih:=takes_fold I n (ys++[z]) zs (by simpa using hn) (by rw [e];simp)
  simp only [List.map_cons,foldF,nr]
  rw [e5,ap]
  exact ih
theorem keep_fold {me:Int} {st:List (List Int)×Int} (I:Inv me st):foldF me (keepF st) ([],0)=some st:=by
 have h:=takes_fold (xs:=st.1) (c:=st.2) I st.1.length [] st.1 rfl rfl
 unfold keepF
 rw [foldF_app]
 by_cases q:0<st.2
 ·rw [if_pos q]
  have ap:=app_count (me:=me) (st:=([],0)) (c:=st.2) (by have:=I.cnt;omega)
  have nr:=nums_rec (okN_count I.cnt)
  have m0:mx st.2 (([]:List (List Int)),(0:Int)).2=st.2:=by unfold mx;exact if_pos q
  rw [m0] at ap
  simp only [foldF,nr,ap,Option.bind_some]
  exact h
 ·rw [if_neg q]
  have e:st.2=0:=by have:=I.cnt;omega
  rw [e] at h
  simp only [foldF,Option.bind_some,h]
  rw [← e]
theorem keep_sm {me:Int} {st:List (List Int)×Int} (I:Inv me st):(∀ d∈keepF st,d.length<65536/\∀ x∈d,0<=x/\x<=255)/\(∀ d∈keepF st,d.length<=42)/\(keepF st).length<=17:=by
 have hl:(keepF st).length<=17:=by
  have:=I.le
  unfold keepF
  split<;>simp<;>omega
 have key:∀ d∈keepF st,d.length<=42/\∀ x∈d,0<=x/\x<=255:=by
  intro d hd
  unfold keepF at hd
  rcases List.mem_append.1 hd with hd|hd
  ·split at hd
   ·rw [List.mem_singleton.1 hd]
    have:=rec_len (okN_count I.cnt)
    exact ⟨by simp at this;omega,rec_byte (okN_count I.cnt)⟩
   ·cases hd
  ·obtain ⟨r,hr,rfl⟩:=List.mem_map.1 hd
   have e5:(1:Int)::r=[1,r.getD 0 0,r.getD 1 0,r.getD 2 0,r.getD 3 0,r.getD 4 0]:=by rw [← five (I.w5 r hr)]
   rw [e5]
   have:=rec_len (okN_take (I.ok r hr))
   exact ⟨by simpa using this,rec_byte (okN_take (I.ok r hr))⟩
 exact ⟨fun d hd=>⟨by have:=(key d hd).1;omega,(key d hd).2⟩,fun d hd=>(key d hd).1,hl⟩
theorem write_reads {me s:Int} {zs b l:List Int} {st st':List (List Int)×Int} (bz:∀ x∈zs,0<=x/\x<=255) (h:heldF me s zs=(st,0)) (hb:numsF b=some l) (ha:appF me st l=some st') (hd:b.length<65536/\∀ x∈b,0<=x/\x<=255)
  {ms:List (Int×List Int)} {e:Int} (q:writeF me s zs st b=(ms,e)):
  (e=0\/e=10)/\(e=0↔0<ms.length)/\∀ i m,ms[i]? =some m->heldF me m.1 m.2=(if i+1=ms.length then st' else st,0):=by
 obtain ⟨hm,ls0,hr,hf⟩:=held_ok h
 obtain ⟨ls,a,g,hh,J⟩:=Jo.of bz (show (openF s zs).2=0 from congrArg Prod.snd hr)
 have er:=J.read
 rw [hr] at er
 cases er
 have I':=((held_inv h).app ha).1
 unfold writeF at q
 split at q
 ·rw [hb] at q
  simp only [ha] at q
  have ks:=keep_sm I'
  have r:=J.compact_reads ks.1 q
  refine ⟨?_,r.1,fun i m hi=>?_⟩
  ·rcases J.compact ks.1 with ⟨e1,_⟩|⟨_,_,X,w,o,e1,_⟩
   ·rw [e1] at q;cases q;exact .inr rfl
   ·rw [e1] at q;cases q;exact .inl rfl
  ·have:=r.2 i m hi
   split at this<;>rename_i c
   ·rw [if_pos c];exact held_of hm this (keep_fold I')
   ·rw [if_neg c];exact held_of hm this hf
 ·rename_i ne
  have r:=J.append_reads hd q
  refine ⟨?_,r.1,fun i m hi=>?_⟩
  ·rcases J.append hd with ⟨e1,_⟩|⟨_,X,w,a',g',e1,_⟩
   ·rw [e1] at q;cases q;exact .inr rfl
   ·rw [e1] at q;cases q;exact .inl rfl
  ·have:=r.2 i m hi
   split at this<;>rename_i c
   ·rw [if_pos c]
    refine held_of hm this ?_
    rw [foldF_app,hf]
    simp only [Option.bind_some,foldF,hb,ha]
   ·rw [if_neg c];exact held_of hm this hf
theorem take_reads {me s o n k v a:Int} {zs:List Int} {st:List (List Int)×Int} (bz:∀ x∈zs,0<=x/\x<=255) (h:heldF me s zs=(st,0)) {ms:List (Int×List Int)} (q:takeF me s zs o n k v a=(ms,0)):
  okR o n k v a=true/\(∀ x∈st.1,isN o n x=false)/\(o=me->st.2<n)/\st.1.length<16/\0<ms.length/\∀ i m,ms[i]? =some m->heldF me m.1 m.2=(if i+1=ms.length then (st.1++[[o,n,k,v,a]],if o=me then n else st.2) else st,0):=by
 unfold takeF at q
 rw [h] at q
 rw [if_neg (by simp)] at q
 split at q
 ·exact absurd (Prod.mk.inj q).2 (by decide)
 rename_i q1
 have q1:okR o n k v a=true:=by simpa using q1
 split at q
 ·exact absurd (Prod.mk.inj q).2 (by decide)
 rename_i q2
 have q2:idxR o n st.1<0:=Int.not_le.1 q2
 split at q
 ·exact absurd (Prod.mk.inj q).2 (by decide)
 rename_i q3
 have q3:o=me->st.2<n:=fun e=>Int.not_le.1 fun w=>q3 ⟨e,w⟩
 split at q
 ·exact absurd (Prod.mk.inj q).2 (by decide)
 rename_i q4
 have q4:st.1.length≠16:=q4
 have I:=held_inv h
 have ap:=app_take (me:=me) q1 q2 q4
 have em:(if o=me then mx n st.2 else st.2)=if o=me then n else st.2:=by
  split
  ·rename_i e;unfold mx;rw [if_pos (q3 e)]
  ·rfl
 rw [em] at ap
 have on:=okN_take q1
 have w:=write_reads bz h (nums_rec on) ap ⟨by have:=rec_len on;simp at this;omega,rec_byte on⟩ q
 exact ⟨q1,idxR_neg q2,q3,by have:=I.le;omega,w.2.1.1 rfl,w.2.2⟩
theorem erase_filter {me:Int} {st:List (List Int)×Int} {o n:Int} (I:Inv me st) (h:0<=idxR o n st.1):st.1.eraseIdx (idxR o n st.1).toNat=st.1.filter fun x=> !isN o n x:=by
 obtain ⟨i,x,e,hx,hp⟩:=idxR_nonneg h
 rw [e,Int.toNat_natCast]
 have px:=isN_iff.1 hp
 have key:∀ j y,st.1[j]? =some y->isN o n y=true->j=i:=fun j y hy hn=>by
  have py:=isN_iff.1 hn
  exact (I.nd i j x y hx hy (isN_iff.2 ⟨py.1.trans px.1.symm,py.2.trans px.2.symm⟩)).symm
 obtain ⟨hi,rfl⟩:=List.getElem?_eq_some_iff.1 hx
 have e1:st.1=st.1.take i++(st.1[i]::st.1.drop (i+1)):=by rw [← List.drop_eq_getElem_cons hi,List.take_append_drop]
 rw [List.eraseIdx_eq_take_drop_succ]
 have f1:(st.1.take i).filter (fun x=> !isN o n x)=st.1.take i:=List.filter_eq_self.2 fun y hy=>by
  obtain ⟨j,hj,rfl⟩:=List.getElem_of_mem hy
  rw [List.length_take] at hj
  cases q:isN o n (st.1.take i)[j] with
  | false=>rfl
  | true=>
   have:=key j _ (by rw [List.getElem_take];exact List.getElem?_eq_getElem (by omega)) q
   omega
 have f2:(st.1.drop (i+1)).filter (fun x=> !isN o n x)=st.1.drop (i+1):=List.filter_eq_self.2 fun y hy=>by
  obtain ⟨j,hj,rfl⟩:=List.getElem_of_mem hy
  cases q:isN o n (st.1.drop (i+1))[j] with
  | false=>rfl
  | true=>
   have:=key (i+1+j) _ (by rw [List.getElem_drop];exact List.getElem?_eq_getElem _) q
   omega
 conv=>rhs;rw [e1]
 rw [List.filter_append,List.filter_cons,if_neg (by simp [hp]),f1,f2]
theorem give_reads {me s o n:Int} {zs:List Int} {st:List (List Int)×Int} (bz:∀ x∈zs,0<=x/\x<=255) (h:heldF me s zs=(st,0)) {ms:List (Int×List Int)} {e:Int} (q:giveF me s zs o n=(ms,e)):
  (e=4/\(∀ x∈st.1,isN o n x=false)/\ms=[])\/((∃ x∈st.1,isN o n x=true)/\(e=0\/e=10)/\(e=0↔0<ms.length)/\∀ i m,ms[i]? =some m->heldF me m.1 m.2=(if i+1=ms.length then (st.1.filter fun x=> !isN o n x,st.2) else st,0)):=by
 unfold giveF at q
 rw [h] at q
 rw [if_neg (by simp)] at q
 split at q
 ·rename_i q1
  cases q
  exact .inl ⟨rfl,idxR_neg q1,rfl⟩
 rename_i q1
 have q1:0<=idxR o n st.1:=Int.not_lt.1 q1
 have I:=held_inv h
 obtain ⟨i,x,ei,hx,hp⟩:=idxR_nonneg q1
 have px:=isN_iff.1 hp
 have okx:=okR_iff.1 (I.ok x (List.mem_of_getElem? hx))
 rw [px.1,px.2] at okx
 have on:=okN_give ⟨okx.1,okx.2.1⟩
 have ap:=app_give (me:=me) q1
 rw [erase_filter I q1] at ap
 have w:=write_reads bz h (nums_rec on) ap ⟨by have:=rec_len on;simp at this;omega,rec_byte on⟩ q
 exact .inr ⟨⟨x,List.mem_of_getElem? hx,hp⟩,w.1,w.2.1,w.2.2⟩
end Go.Proofs.Ytdaakdbkmjgloaa.CustodyOwn
namespace Go.Proofs.Ytdaakdbkmjgloaa.CustodyOwn
open Go Go.Sx Go.RowKit Go.Extern.Stop Go.Stop Go.Extern
set_option maxRecDepth 100000
set_option maxHeartbeats 4000000
set_option linter.unusedVariables false
set_option linter.unusedSimpArgs false
variable {E:Mem} {K:SV->Mem->Prop}
theorem err_eql (w:World) (a b:Int):(binOp .eql 53 (.iface 29 (.int .i64 a)) (.iface 29 (.int .i64 b))).run Try.prog w= .ok (.bool (a==b)) w:=by
 have h0:(match Try.prog.underlying 53 with |some (.interface _)=>true|_=>false)=true:=by kernel_rfl
 have h1:∃ ms,Try.prog.underlying 53=some (.interface ms):=by
  split at h0
  ·rename_i ms e;exact ⟨ms,e⟩
  ·cases h0
 have h2:Try.prog.underlying 29=some (.int .i64):=by kernel_rfl
 have h3:(Try.prog.info? 29).map (·.comparable)=some true:=by kernel_rfl
 obtain ⟨ms,h1⟩:=h1
 obtain ⟨i,hi,hc⟩:=Option.map_eq_some_iff.1 h3
 have key:∀ d:Nat,(Op.equalIn (d+2) 53 (.iface 29 (.int .i64 a)) (.iface 29 (.int .i64 b))).run Try.prog w= .ok (a==b) w:=fun d=>by
  simp [Op.equalIn,run_underlying h1,run_underlying h2,typeInfo,hi,hc]
 have k:=key 9998
 simp only [binOp,Op.equal,Op.maxDepth]
 simp only [Sem.run_bind,k,Result.andThen_ok,Sem.run_pure]
theorem isTypeOf (v:Value) (w:World):(Extern.ReflectliteType.typeOf #[.iface 29 v]).run Try.prog w= .ok (.iface 108 (.agg #[.pointer (some ⟨1,29,none⟩)])) w:=by kernel_rfl
theorem isComparable (w : World) : ((Extern.ReflectliteType.method fun t => do Extern.Rtype.noPackHeld "Comparable" t; (fun a => Value.bool a.comparable) <$> typeInfo t) #[.agg #[.pointer (some ⟨1, 29, none⟩)]]).run Try.prog w = .ok (.bool true) w := by kernel_rfl
theorem isMethodC (v : Value) (w : World) : (Go.method 285 108 v "Comparable").run Try.prog w = .ok (104, v) w := by kernel_rfl
theorem und110 : Try.prog.underlying 110 = some (.interface #[("Is", 112)]) := by kernel_rfl
theorem und113 : Try.prog.underlying 113 = some (.interface #[("Unwrap", 114)]) := by kernel_rfl
theorem und115 : Try.prog.underlying 115 = some (.interface #[("Unwrap", 117)]) := by kernel_rfl
theorem noIs (v:Value) (xT:TypeId) (w:World):(Instr.typeAssert (.iface 29 v) xT 110 true).run Try.prog w= .ok (.tuple #[.nilIface,.bool false]) w:=run_typeAssert_lacksB und110 (by kernel_rfl) (by kernel_rfl) v xT w
theorem noUnwrap (v:Value) (xT:TypeId) (w:World):(Instr.typeAssert (.iface 29 v) xT 113 true).run Try.prog w= .ok (.tuple #[.nilIface,.bool false]) w:=run_typeAssert_lacksB und113 (by kernel_rfl) (by kernel_rfl) v xT w
theorem noUnwraps (v:Value) (xT:TypeId) (w:World):(Instr.typeAssert (.iface 29 v) xT 115 true).run Try.prog w= .ok (.tuple #[.nilIface,.bool false]) w:=run_typeAssert_lacksB und115 (by kernel_rfl) (by kernel_rfl) v xT w
theorem is_err (a b:Int) (w:World):Calls Try.prog 32 #[.iface 29 (.int .i64 a),.iface 29 (.int .i64 b)] w fun e w'=>e= .returned (.bool (a==b))/\w'=w:=by
 have h8:=@run_callFunc_extern Try.prog 43 _ Extern.ReflectliteType.typeOf Try.func43 (by kernel_rfl) (by kernel_rfl) (by kernel_rfl) (by kernel_rfl)
 have h32 := @run_callFunc_extern Try.prog 104 _ (Extern.ReflectliteType.method fun t => do Extern.Rtype.noPackHeld "Comparable" t; pure (.bool (← typeInfo t).comparable)) Try.func104 (by kernel_rfl) (by kernel_rfl) (by kernel_rfl) (by kernel_rfl)
 have tT:=isTypeOf
 have cT:=isComparable
 have mR:=isMethodC
 have nE:=noIs
 have uE:=noUnwrap
 have vE:=noUnwraps
 have heq:=err_eql w a b
 cases hab:(a==b) with
 | true=>
  rw [hab] at heq
  go_enter Try.func32,(show Try.f32.ntmps=22 from rfl)
  go_wp2
  refine wp_loop_rounds 1 ?_
  rw [rounds_succ]
  go_wp2
  go_ret
  exact ⟨rfl,rfl⟩
 | false=>
  rw [hab] at heq
  go_enter Try.func32,(show Try.f32.ntmps=22 from rfl)
  go_wp2
  refine wp_loop_rounds 1 ?_
  rw [rounds_succ]
  go_wp2
  go_ret
  exact ⟨rfl,rfl⟩
theorem s32u {a b:Int} (h:K (B (a==b)) E):TabSem Try.prog 32 [.ifc 29 (I a),.ifc 29 (I b)] E K:=by
 refine ⟨⟨_,Try.func32,by kernel_rfl,by kernel_rfl⟩,_,rfl,fun w hw=>(is_err a b w).mono ?_⟩
 rintro e w' ⟨rfl,rfl⟩
 exact ⟨_,_,E,rfl,rfl,Keep.refl _ _,mr_,hw,fun v cs g hne=>.inr ⟨v,cs,g,hne,rfl⟩,h⟩
noncomputable def tab32:FuncId->List SV->Mem->(SV->Mem->Prop)->Prop:=fun f args E K=>match f with
 | 32=>∃ a b:Int,args=[.ifc 29 (I a),.ifc 29 (I b)]/\K (B (a==b)) E
 | _=>False
theorem tab32_ok:TabOK Try.prog tab32:=by
 intro f args E K h
 unfold tab32 at h
 split at h
 ·obtain ⟨a,b,rfl,h⟩:=h
  exact s32u h
 ·exact h.elim
noncomputable def QC:Cx:={ P:=Try.prog,inl:=fun f=>List.contains [] f,tab:=tab32,isB:=fun _=>false,tabB:=fun _ _ _ _ _=>False,opt:={ unroll:=0,carry:=[3] },muts:=mutsD }
theorem okQC:CxOK QC:=CxOK.four tab32_ok (by kernel_rfl) (okInl (by kernel_rfl)) (fun _ _ _ _ _ h=>h.elim)
def us20 (e i:Int) (E:Mem):St:=⟨[some (.ifc 29 (I e)),none,oI 0,oI i]++List.replicate 12 none,[],E⟩
theorem ur20 {e i:Int} (hi:1<=i/\i<=e) (he:e<=16) (h:K (I e) E) (ih:i<e->Lp QC 8 Try.f20 [1,1,0,1,0] 0 (pubK E K) (us20 e (i+1) E)):Rnd QC 8 Try.f20 [1,1,0,1,0] 0 (pubK E K) (us20 e i E):=by
 refine sm_ (?_:bif decide (i<=(16:Int)) then ∃ (a:Int),∃ (b:Int),[SV.ifc 29 (I e),SV.ifc 29 (I i)]=[SV.ifc 29 (I a),SV.ifc 29 (I b)]/\Mem.le E E/\bif bif true then !a==b else false then Lp QC 8 Try.f20 [1,1,0,1,0] 0 (pubK E K) { fr:=some (SV.ifc 29 (I e))::none::oI 0::oI (WI (i+(1:Int)))::no8 (no4 []),bx:=[],E:=E:St } else Mem.le E E/\K (I i) E else Mem.le E E/\K (I i) E)
 delta WI no4 no8
 refine condC (fun g=>⟨_,_,rfl,mr_,condC (fun q=>?_) (fun q=>⟨mr_,?_⟩)⟩) (fun g=>by simp at g;omega)
 ·have q:e≠i:=by simpa using q
  rw [wrap_i64 (x:=i+1) (by omega)]
  exact Lp_re [] (ih (by omega)) (wkG mr_)
 ·have q:e=i:=by simpa using q
  rw [← q];exact h
theorem s20 {e:Int} (he:1<=e/\e<=16) (h:K (I e) E):Ent QC 8 Try.f20 [.ifc 29 (I e)] E K:=by
 refine sm_ (?_:Lp QC 8 Try.f20 [1,1,0,1,0] 0 (pubK E K) { fr:=some (SV.ifc 29 (I e))::none::oI 0::oI 1::no8 (no4 []),bx:=[],E:=E:St })
 delta no4 no8
 exact Lp_re [] (Lp_ind okQC (fun z:{i:Int//1<=i/\i<=e}=>us20 e z.1 E) (fun z=>(e-z.1).toNat) (fun z ih=>ur20 z.2 he.2 h fun g=>ih ⟨z.1+1,by have:=z.2;omega,by omega⟩ (by show (e-(z.1+1)).toNat<(e-z.1).toNat;omega)) ⟨1,Int.le_refl _,he.1⟩) (wkG mr_)
theorem open_codes (s:Int) (zs:List Int):(openF s zs).2=0\/(openF s zs).2=1\/(openF s zs).2=4\/(openF s zs).2=12:=by
 unfold openF
 split
 ·simp
 ·split
  ·simp
  ·split<;>simp
theorem held_codes {me s:Int} {zs:List Int} {st:List (List Int)×Int} {e:Int} (h:heldF me s zs=(st,e)):0<=e/\e<=16:=by
 unfold heldF at h
 split at h
 ·split at h
  ·split at h<;>cases h<;>decide
  ·have:=open_codes s zs
   have he:=(Prod.mk.inj h).2
   unfold readF at he
   have he:(openF s zs).2=e:=he
   omega
 ·cases h;decide
def tabA:CallT:=fun f args bx E K=>match f with
 | 31=>d2 args fun x0 x1=>(match x0 with | .loc s 0=>(dS x1 fun lb ln lc=>(match bx[s]? with |some ⟨58,.lst [.raw (.int .i64 me),.slc h 0 m cap,.raw (.int .i64 cnt)],3,true⟩=>∃ (tot:Nat) (xs:List (List Int)) (js:List Value) (ns:List Int),SL (RK .i64 1) E lb ln lc (ns.map fun z=>[z])/\StAt bx s h me cnt m cap tot xs js/\(∀ v∈js,v.oneCell'=true)/\(appF me (xs,cnt) ns=none->K (B false) bx E)/\(∀ c:Int,appF me (xs,cnt) ns=some (xs,c)->K (B true) (bx.set s ⟨58,.lst [I me,.slc h 0 m cap,I c],3,true⟩) E)/\(∀ (ys:List (List Int)) (c:Int) (cap' tot':Nat) (js':List Value),appF me (xs,cnt) ns=some (ys,c)->ys.length<=cap'->cap'*5<=tot'->(∀ v∈js',v.oneCell'=true)->W5 ys->ys.length<=16->K (B true) ((bx.set s ⟨58,.lst [I me,.slc bx.length 0 ys.length cap',I c],3,true⟩).set h ⟨26,.lst [],0,false⟩++[⟨26,.vals (vR ys++js'),tot',true⟩]) E)|_=>False))|_=>False)
 | _=>False
theorem tabA_ok (f:FuncId) (args:List SV) (bx:List Box) (E:Mem) (K:KT) (h:tabA f args bx E K):CallSem Try.prog f args bx E K:=by
 unfold tabA at h
 split at h
 ·replace h:=d2_elim h
  obtain ⟨x0,x1,rfl,h⟩:=h
  split at h
  case h_2=>exact h.elim
  replace h:=dS_elim h
  obtain ⟨lb,ln,lc,rfl,h⟩:=h
  split at h
  case h_2=>exact h.elim
  obtain ⟨tot,xs,js,ns,h1,h2,h3,h4,h5,h6⟩:=h
  exact apply_sem h1 h2 h3 h4 h5 h6
 ·exact h.elim
noncomputable def tab29u:FuncId->List SV->Mem->(SV->Mem->Prop)->Prop:=fun f args E K=>match f with
 | 29=>d1 args fun x0=>dC x0 fun l1=>d2 l1 fun x0_0 x0_1=>dI x0_0 fun a1=>dS x0_1 fun b2 l3 c4=>∃ (zs:List Int),Bs E b2 l3 c4 zs/\(∀ (b':Option Addr) (l' c':Nat) (yss:List (List Int)) (e:Int) (E':Mem),Mem.le E E'->Hyp (readF a1 zs=(yss,e))->BL E' b' l' c' yss->K (.tup [L b' l' c',I e]) E')
 | 30=>d1 args fun x0=>dS x0 fun b1 l2 c3=>∃ (zs:List Int),Bs E b1 l2 c3 zs/\l2<=100000/\((∀ E':Mem,Mem.le E E'->Hyp (numsF zs=none)->K (.tup [L none 0 0,B false]) E')/\∀ (xs:List Int) (b':Option Addr) (l' c':Nat) (E':Mem),Mem.le E E'->Hyp (numsF zs=some xs)->SL (RK .i64 1) E' b' l' c' (xs.map fun z=>[z])->K (.tup [L b' l' c',B true]) E')
 | _=>False
theorem tab29u_ok:TabOK Try.prog tab29u:=by
 intro f args E K h
 unfold tab29u at h
 split at h
 ·replace h:=d1_elim h
  obtain ⟨x0,rfl,h⟩:=h
  replace h:=dC_elim h
  obtain ⟨l1,hl1,h⟩:=h
  replace h:=d2_elim h
  obtain ⟨x0_0,x0_1,rfl,h⟩:=h
  replace h:=dI_elim h
  obtain ⟨a1,rfl,h⟩:=h
  replace h:=dS_elim h
  obtain ⟨b2,l3,c4,rfl,h⟩:=h
  obtain ⟨zs,g0,h⟩:=h
  exact TabSem.congr (valL_cons (asCells_val hl1) rfl) (esm okKI Try.func29 rfl (j15 g0 h))
 ·replace h:=d1_elim h
  obtain ⟨x0,rfl,h⟩:=h
  replace h:=dS_elim h
  obtain ⟨b1,l2,c3,rfl,h⟩:=h
  obtain ⟨zs,g0,g1,h⟩:=h
  exact TabSem.congr (valL_cons rfl rfl) (esm okQ4 Try.func30 rfl (c30 g0 g1 h))
 ·exact h.elim
noncomputable def QD:Cx:={ P:=Try.prog,inl:=fun f=>List.contains [28] f,tab:=tab29u,isB:=fun f=>f==31,tabB:=tabA,opt:={ unroll:=0,carry:=[31] },muts:=mutsD }
theorem okQD:CxOK QD:=CxOK.four tab29u_ok (by kernel_rfl) (okInl (by kernel_rfl)) tabA_ok
theorem fold_bad {me:Int} {ls:List (List Int)} {n:Nat} {st:List (List Int)×Int} (h:foldF me (ls.take n) st=none):foldF me ls st=none:=by
 conv=>lhs;rw [← List.take_append_drop n ls]
 rw [foldF_app,h];rfl
theorem held_bad {me s:Int} {zs:List Int} {ls:List (List Int)} (hm:0<=me/\me<=59) (h:readF s zs=(ls,0)) (q:foldF me ls ([],0)=none):heldF me s zs=(([],0),9):=by
 unfold heldF
 rw [if_pos hm,h,if_pos rfl]
 simp only [q]
def us19 (me cnt:Int) (b:Option Addr) (l c i m cap tot:Nat) (xs:List (List Int)) (js:List Value) (E:Mem):St:=⟨[none,none,none,none,none,none,none,none,oc 0 0,none,none,none,none,none,none,none,none,none,none,none,none,none,none,none,none,none,none,none,none,oL b l c,oI (l:Nat),oI (i:Nat),none,none,none,none,none,none,none,none,none,none,none,none,none,none,none,none,none,none,none],[⟨58,.lst [I me,.slc 1 0 m cap,I cnt],3,true⟩,⟨26,.vals (vR xs++js),tot,true⟩],E⟩
theorem ur19 {a1 cnt s:Int} {zs:List Int} {b:Option Addr} {l c i m cap tot:Nat} {xs:List (List Int)} {js:List Value} {ls:List (List Int)} {KK Q:KT} {E0:Mem} (hB:BL E b l c ls) (hl:l<=100000/\∀ d∈ls,d.length<65536) (hi:i<=l)
  (S:StAt [⟨58,.lst [I a1,.slc 1 0 m cap,I cnt],3,true⟩,⟨26,.vals (vR xs++js),tot,true⟩] 0 1 a1 cnt m cap tot xs js) (hj:∀ v∈js,v.oneCell'=true) (hm:0<=a1/\a1<=59) (hr:readF s zs=(ls,0)) (hf:foldF a1 (ls.take i) ([],0)=some (xs,cnt)) (hE0:Mem.le E0 E)
  (hE:∀ (e:Int) (E':Mem),Mem.le E0 E'->heldF a1 s zs=(([],0),e)->e≠0->KK (.tup [.raw (.pointer none),.ifc 29 (I e)]) [] E') (hS:∀ (xs:List (List Int)) (cnt:Int) (m cap tot:Nat) (js:List Value) (E':Mem),Mem.le E0 E'->heldF a1 s zs=((xs,cnt),0)->StAt [⟨58,.lst [I a1,.slc 1 0 m cap,I cnt],3,true⟩,⟨26,.vals (vR xs++js),tot,true⟩] 0 1 a1 cnt m cap tot xs js->(∀ v∈js,v.oneCell'=true)->KK (.tup [.loc 0 0,.raw .nilIface]) [⟨58,.lst [I a1,.slc 1 0 m cap,I cnt],3,true⟩,⟨26,.vals (vR xs++js),tot,true⟩] E') (hQ:∀ s bx' E',cloK 0 KK s bx' E'->Q s bx' E')
  (ih:i<l->∀ (xs:List (List Int)) (cnt:Int) (m cap tot:Nat) (js:List Value) (E':Mem),Mem.le E E'->StAt [⟨58,.lst [I a1,.slc 1 0 m cap,I cnt],3,true⟩,⟨26,.vals (vR xs++js),tot,true⟩] 0 1 a1 cnt m cap tot xs js->(∀ v∈js,v.oneCell'=true)->foldF a1 (ls.take (i+1)) ([],0)=some (xs,cnt)->Lp QD 8 Try.f19 [1,1,1,1,1,0,1,0] 0 Q (us19 a1 cnt b l c (i+1) m cap tot xs js E')):Rnd QD 8 Try.f19 [1,1,1,1,1,0,1,0] 0 Q (us19 a1 cnt b l c i m cap tot xs js E):=by
 refine sm_ (?_:bif decide ((NI i)<(NI l)) then req (0<=(NI i)/\(NI i)<(NI l)) ((∃ (cs:List Value),E (VS b l c) cs/\(cs=[]->False))/\∃ (base:Option Addr),∃ (len:Nat),∃ (cap_1:Nat),LoadE QD.P E 22 (VS b l c) (Int.toNat (NI i)*1) (L base len cap_1)/\∃ (zs:List Int),Bs E base len cap_1 zs/\len<=100000/\(∀ (E':Mem),Mem.le E E'->Hyp (numsF zs=none)->Mem.le E E'/\Q (SV.tup [SV.raw (Value.pointer none),SV.ifc 29 (I 9)]) [⟨58,.lst [I a1,SV.slc 1 0 m cap,I cnt],3,true⟩,⟨26,.vals (vR xs++js),tot,true⟩] E')/\∀ (xs_1:List Int) (b':Option Addr) (l' c':Nat) (E':Mem),Mem.le E E'->Hyp (numsF zs=some xs_1)->SL (RK IntKind.i64 1) E' b' l' c' (List.map (fun (z:Int)=>[z]) xs_1)->Mem.le E E'/\∃ (tot_1:Nat),∃ (xs_2:List (List Int)),∃ (js_1:List Value),∃ (ns:List Int),SL (RK IntKind.i64 1) E' b' l' c' (List.map (fun (z:Int)=>[z]) ns)/\StAt [⟨58,.lst [I a1,SV.slc 1 0 m cap,I cnt],3,true⟩,⟨26,.vals (vR xs++js),tot,true⟩] 0 1 a1 cnt m cap tot_1 xs_2 js_1/\(∀ (v:Value),List.Mem v js_1->Value.oneCell' v=true)/\(appF a1 (xs_2,cnt) ns=none->Q (SV.tup [SV.raw (Value.pointer none),SV.ifc 29 (I 9)]) [⟨58,.lst [I a1,SV.slc 1 0 m cap,I cnt],3,true⟩,⟨26,.vals (vR xs++js),tot,true⟩] E')/\(∀ (c_1:Int),appF a1 (xs_2,cnt) ns=some (xs_2,c_1)->Lp QD 8 Try.f19 [1,1,1,1,1,0,1,0] 0 Q { fr:=no8 (oc 0 0::no16 (no4 (oL b l c::oI (NI l)::oI (WI ((NI i)+1))::no16 (no2 (none::[]))))),bx:=[(⟨58,.lst [I a1,SV.slc 1 0 m cap,I c_1],3,true⟩:Box),⟨26,.vals (vR xs++js),tot,true⟩],E:=E':St })/\∀ (ys:List (List Int)) (c_1:Int) (cap' tot':Nat) (js':List Value),appF a1 (xs_2,cnt) ns=some (ys,c_1)->List.length ys<=cap'->cap'*5<=tot'->(∀ (v:Value),List.Mem v js'->Value.oneCell' v=true)->W5 ys->List.length ys<=16->Lp QD 8 Try.f19 [1,1,1,1,1,0,1,0] 0 Q { fr:=no8 (oc 0 0::no16 (no4 (oL b l c::oI (NI l)::oI (WI ((NI i)+1))::no16 (no2 (none::[]))))),bx:=[(⟨58,.lst [I a1,SV.slc 2 0 (List.length ys) cap',I c_1],3,true⟩:Box),⟨26,.lst [],0,false⟩,⟨26,.vals (vR ys++js'),tot',true⟩],E:=E':St }) else Q (SV.tup [SV.loc 0 0,SV.raw Value.nilIface]) [⟨58,.lst [I a1,SV.slc 1 0 m cap,I cnt],3,true⟩,⟨26,.vals (vR xs++js),tot,true⟩] E)
 delta WI NI VS no2 no4 no8 no16
 have bad:foldF a1 (ls.take (i+1)) ([],0)=none->∀ (bx:List Box) (E1:Mem),Mem.le E E1->Q (.tup [.raw (.pointer none),.ifc 29 (I 9)]) bx E1:=fun q bx E1 k=>hQ _ _ _ (cloK_intro [] (hE 9 E1 (mt_ hE0 k) (held_bad hm hr (fold_bad q)) (by decide)) (wkG mr_))
 have nl:=hB.len
 refine condC (fun g=>?_) (fun g=>?_)
 ·have g:i<l:=by simpa using g
  obtain ⟨d,hd⟩:∃ d,ls[i]? =some d:=⟨_,List.getElem?_eq_getElem (by omega)⟩
  obtain ⟨x1,b2,l2,c2,x2,x3⟩:=hB.load hd
  have dl:=hl.2 d (List.mem_of_getElem? hd)
  have st:foldF a1 (ls.take (i+1)) ([],0)=(match numsF d with |none=>none|some n=>appF a1 (xs,cnt) n):=by
   rw [take_get' hd,foldF_app,hf]
   simp only [Option.bind_some,foldF]
   cases q:numsF d with
   | none=>rfl
   | some n=>
    dsimp only
    cases q2:appF a1 (xs,cnt) n<;>rfl
  rw [wrap_i64 (x:=(i:Int)+1) (by omega)]
  refine req_intro (by omega) ⟨x1,b2,l2,c2,x2,d,x3,by have:=x3.2.1;omega,fun E1 k1 q=>⟨k1,bad (by rw [st,show numsF d=none from q]) _ _ k1⟩,fun ns b3 l3 c3 E1 k1 q hI=>⟨k1,tot,xs,js,ns,hI,S,hj,fun q2=>bad (by rw [st,show numsF d=some ns from q];exact q2) _ _ k1,fun c2' q2=>?_,fun ys c2' cap' tot' js' q2 q3 q4 q5 q6 q7=>?_⟩⟩
  ·exact Lp_re [some 0,some 1] (ih g xs c2' m cap tot js E1 k1 ⟨rfl,rfl,S.ne,S.w5,S.len,S.le,S.room⟩ hj (by rw [st,show numsF d=some ns from q];exact q2)) (wkG mr_)
  ·exact Lp_re [some 0,some 2] (ih g ys c2' ys.length cap' tot' js' E1 k1 ⟨rfl,rfl,by decide,q6,rfl,q7,q3,q4⟩ q5 (by rw [st,show numsF d=some ns from q];exact q2)) (wkG mr_)
 ·have g:¬ i<l:=by simpa using g
  rw [List.take_of_length_le (by omega)] at hf
  exact hQ _ _ _ (cloK_intro [some 0,some 1] (hS xs cnt m cap tot js E hE0 (held_of hm hr hf) S hj) (wkG mr_))
theorem ul19 {E:Mem} {a1 cnt s:Int} {zs:List Int} {b:Option Addr} {l c m cap tot:Nat} {xs:List (List Int)} {js:List Value} {ls:List (List Int)} {KK Q:KT} {E0:Mem} (hB:BL E b l c ls) (hl:l<=100000/\∀ d∈ls,d.length<65536) (hm:0<=a1/\a1<=59) (hr:readF s zs=(ls,0)) (hE0:Mem.le E0 E)
  (hE:∀ (e:Int) (E':Mem),Mem.le E0 E'->heldF a1 s zs=(([],0),e)->e≠0->KK (.tup [.raw (.pointer none),.ifc 29 (I e)]) [] E') (hS:∀ (xs:List (List Int)) (cnt:Int) (m cap tot:Nat) (js:List Value) (E':Mem),Mem.le E0 E'->heldF a1 s zs=((xs,cnt),0)->StAt [⟨58,.lst [I a1,.slc 1 0 m cap,I cnt],3,true⟩,⟨26,.vals (vR xs++js),tot,true⟩] 0 1 a1 cnt m cap tot xs js->(∀ v∈js,v.oneCell'=true)->KK (.tup [.loc 0 0,.raw .nilIface]) [⟨58,.lst [I a1,.slc 1 0 m cap,I cnt],3,true⟩,⟨26,.vals (vR xs++js),tot,true⟩] E') (hQ:∀ s bx' E',cloK 0 KK s bx' E'->Q s bx' E'):∀ {r i:Nat},i+r=l->StAt [⟨58,.lst [I a1,.slc 1 0 m cap,I cnt],3,true⟩,⟨26,.vals (vR xs++js),tot,true⟩] 0 1 a1 cnt m cap tot xs js->(∀ v∈js,v.oneCell'=true)->foldF a1 (ls.take i) ([],0)=some (xs,cnt)->Lp QD 8 Try.f19 [1,1,1,1,1,0,1,0] 0 Q (us19 a1 cnt b l c i m cap tot xs js E)
 | 0,i,hi,S,hj,hf=>Lp_ind (ι:=Unit) okQD (fun _=>us19 a1 cnt b l c i m cap tot xs js E) (fun _=>0) (fun _ _=>ur19 hB hl (by omega) S hj hm hr hf hE0 hE hS hQ (fun g=>by omega)) ()
 | r+1,i,hi,S,hj,hf=>Lp_ind (ι:=Unit) okQD (fun _=>us19 a1 cnt b l c i m cap tot xs js E) (fun _=>0) (fun _ _=>ur19 hB hl (by omega) S hj hm hr hf hE0 hE hS hQ (fun g xs cnt m cap tot js E1 k S hj hf=>ul19 (hB.mono RB_ok k) hl hm hr (mt_ hE0 k) hE hS hQ (r:=r) (i:=i+1) (by omega) S hj hf)) ()
theorem u19 {a1 s:Int} {zs:List Int} {b:Option Addr} {l c:Nat} {KK Q:KT} (hB:Bs E b l c zs) (hE:∀ (e:Int) (E':Mem),Mem.le E E'->heldF a1 s zs=(([],0),e)->e≠0->KK (.tup [.raw (.pointer none),.ifc 29 (I e)]) [] E') (hS:∀ (xs:List (List Int)) (cnt:Int) (m cap tot:Nat) (js:List Value) (E':Mem),Mem.le E E'->heldF a1 s zs=((xs,cnt),0)->StAt [⟨58,.lst [I a1,.slc 1 0 m cap,I cnt],3,true⟩,⟨26,.vals (vR xs++js),tot,true⟩] 0 1 a1 cnt m cap tot xs js->(∀ v∈js,v.oneCell'=true)->KK (.tup [.loc 0 0,.raw .nilIface]) [⟨58,.lst [I a1,.slc 1 0 m cap,I cnt],3,true⟩,⟨26,.vals (vR xs++js),tot,true⟩] E') (hQ:∀ s bx' E',cloK 0 KK s bx' E'->Q s bx' E'):
  EntB QD 8 Try.f19 [.agg [I s,L b l c],I a1] [] E Q:=by
 refine sm_ (?_:bif decide (a1>=(0:Int)) then Mem.le E E/\bif !bif true then decide (a1<=(59:Int)) else false then Q (SV.tup [SV.raw (Value.pointer none),SV.ifc 29 (I 1)]) [⟨24,.lst [I s,L b l c],2,true⟩] E else ∃ (zs:List Int),Bs E b l c zs/\∀ (b':Option Addr) (l' c':Nat) (yss:List (List Int)) (e:Int) (E':Mem),Mem.le E E'->Hyp (((openF s zs).fst.fst,(openF s zs).snd)=(yss,e))->BL E' b' l' c' yss->Mem.le E E'/\bif e !=(0:Int) then Q (SV.tup [SV.raw (Value.pointer none),SV.ifc 29 (I e)]) [⟨24,.lst [I s,L b l c],2,true⟩] E' else Lp QD 8 Try.f19 [1,1,1,1,1,0,1,0] 0 Q { fr:=some (SV.agg [I s,L b l c])::oI a1::oc 0 0::none::none::none::oL b' l' c'::oI e::oc 1 0::none::none::none::none::oI a1::oB (bif true then decide (a1<=(59:Int)) else false)::oB (!bif true then decide (a1<=(59:Int)) else false)::none::some (SV.tup [L b' l' c',I e])::some (SV.agg [I s,L b l c])::some (SV.tup [L b' l' c',I e])::oL b' l' c'::oI e::oI e::oB (e !=(0:Int))::none::none::oI a1::some (SV.agg [I a1,L none 0 0,I 0])::oc 1 0::oL b' l' c'::oI (NI l')::oI 0::no16 (no2 (none::[])),bx:=[(⟨24,.lst [I s,L b l c],2,true⟩:Box),⟨58,.lst [I a1,L none 0 0,I 0],3,true⟩],E:=E':St } else Mem.le E E/\Q (SV.tup [SV.raw (Value.pointer none),SV.ifc 29 (I 1)]) [⟨24,.lst [I s,L b l c],2,true⟩] E)
 delta NI no2 no16
 have bz:=hB.2.2.2.1
 have bad:¬ (0<=a1/\a1<=59)->∀ bx:List Box,Q (.tup [.raw (.pointer none),.ifc 29 (I 1)]) bx E:=fun q bx=>hQ _ _ _ (cloK_intro [] (hE 1 E mr_ (by unfold heldF;rw [if_neg q]) (by decide)) (wkG mr_))
 refine condC (fun g=>⟨mr_,condC (fun g2=>bad (fun q=>by simp at g2;omega) _) (fun g2=>?_)⟩) (fun g=>⟨mr_,bad (fun q=>by simp at g;omega) _⟩)
 have hm:0<=a1/\a1<=59:=by simp at g g2;omega
 refine ⟨zs,hB,fun b' l' c' yss e E1 k1 r1 B1=>⟨k1,?_⟩⟩
 have r1:readF s zs=(yss,e):=r1
 refine condC (fun q=>?_) (fun q=>?_)
 ·have q:e≠0:=by simpa using q
  exact hQ _ _ _ (cloK_intro [] (hE e E1 k1 (by unfold heldF;rw [if_pos hm,r1,if_neg q]) q) (wkG mr_))
 ·have q:e=0:=by simpa using q
  subst q
  have rs:=read_size (s:=s) bz
  have e1:(openF s zs).1.1=yss:=(eq2 r1).1
  rw [e1] at rs
  have nl:=B1.len
  exact Lp_re [some 1,none] (ul19 (xs:=[]) (js:=[]) (m:=0) (cap:=0) (tot:=0) B1 ⟨by omega,fun d hd=>(rs.2 d hd).1⟩ hm r1 k1 hE hS hQ (r:=l') (i:=0) (by omega) ⟨rfl,rfl,by decide,(fun x hx=>nomatch hx),rfl,by decide,by decide,by decide⟩ (fun v hv=>nomatch hv) rfl) (wkH mr_)
theorem open_sem {bx:List Box} {me s:Int} {b:Option Addr} {l c:Nat} {zs:List Int} {K:KT} (hB:Bs E b l c zs) (hE:(∀ (e:Int) (E':Mem),Mem.le E E'->Hyp (heldF me s zs=(([],0),e))->Hyp (e≠0)->K (.tup [.raw (.pointer none),.ifc 29 (I e)]) bx E')) (hS:(∀ (xs:List (List Int)) (cnt:Int) (m cap tot:Nat) (js:List Value) (E':Mem),Mem.le E E'->Hyp (heldF me s zs=((xs,cnt),0))->StAt (bx++[⟨58,.lst [I me,.slc (bx.length+1) 0 m cap,I cnt],3,true⟩,⟨26,.vals (vR xs++js),tot,true⟩]) bx.length (bx.length+1) me cnt m cap tot xs js->(∀ v∈js,v.oneCell'=true)->K (.tup [.loc bx.length 0,.raw .nilIface]) (bx++[⟨58,.lst [I me,.slc (bx.length+1) 0 m cap,I cnt],3,true⟩,⟨26,.vals (vR xs++js),tot,true⟩]) E')):CallSem Try.prog 19 [.agg [I s,L b l c],I me] bx E K:=by
 refine frame0 (vs:=[_,_]) rfl (bsm okQD Try.func19 (u19 (KK:=fun s bx' E'=>K (s.ren [] bx.length) (bx++bx'.map (Box.ren [] bx.length)) E') hB ?_ ?_ (fun _ _ _ q=>q))).clo (fun _ _ _ q=>q)
 ·intro e E' k q1 q2
  simpa [SV.ren,SV.renL] using hE e E' k q1 q2
 ·intro xs cnt m cap tot js E' k q1 S hj
  have:=hS xs cnt m cap tot js E' k q1 ⟨by simp,by simp,by omega,S.w5,S.len,S.le,S.room⟩ hj
  simpa [SV.ren,SV.renL,Box.ren,Row.ren,renF,Nat.add_comm] using this
theorem vR_winJ {base:Option Addr} {ys:List (List Int)} {m cap:Nat} {js:List Value} (h5:W5 ys) (hm:ys.length=m) (hc:m<=cap) (w:WinE E base (vR ys++js)):SL (RK .i64 5) E (base.map fun x=>x.add 0) m cap ys:=by
 have hl:=vR_len h5
 have e:ys.length=(ys.map fun x:List Int=>x.map (Value.int .i64)).length:=by simp
 refine ⟨ys.map fun x:List Int=>x.map (Value.int .i64),SLr_RK h5,hm,hc,.inr ?_,fun q=>?_⟩
 ·have:=w.2 0 (vR ys).length m cap (by simp)
  simp only [List.drop_zero] at this
  rw [List.take_left] at this
  have fm:(ys.map fun x:List Int=>x.map (Value.int .i64)).flatten=vR ys:=(show vR ys=_ from flat_map).symm
  rw [fm];exact this
 ·cases base with
  | none=>
   have:=w.1 rfl
   have:=congrArg List.length this
   rw [List.length_append,hl] at this
   simp at this;omega
  | some a=>cases q
def tab19:CallT:=fun f args bx E K=>match f with
 | 19=>(match args with | [.agg [.raw (.int .i64 s),.raw (.slice b l c)],.raw (.int .i64 me)]=>∃ zs:List Int,Bs E b l c zs/\(∀ (e:Int) (E':Mem),Mem.le E E'->Hyp (heldF me s zs=(([],0),e))->Hyp (e≠0)->K (.tup [.raw (.pointer none),.ifc 29 (I e)]) bx E')/\(∀ (xs:List (List Int)) (cnt:Int) (m cap tot:Nat) (js:List Value) (E':Mem),Mem.le E E'->Hyp (heldF me s zs=((xs,cnt),0))->StAt (bx++[⟨58,.lst [I me,.slc (bx.length+1) 0 m cap,I cnt],3,true⟩,⟨26,.vals (vR xs++js),tot,true⟩]) bx.length (bx.length+1) me cnt m cap tot xs js->(∀ v∈js,v.oneCell'=true)->K (.tup [.loc bx.length 0,.raw .nilIface]) (bx++[⟨58,.lst [I me,.slc (bx.length+1) 0 m cap,I cnt],3,true⟩,⟨26,.vals (vR xs++js),tot,true⟩]) E')|_=>False)
 | _=>False
theorem tab19_ok (f:FuncId) (args:List SV) (bx:List Box) (E:Mem) (K:KT) (h:tab19 f args bx E K):CallSem Try.prog f args bx E K:=by
 unfold tab19 at h
 split at h
 ·split at h
  case h_2=>exact h.elim
  obtain ⟨zs,h1,h2,h3⟩:=h
  exact open_sem h1 h2 h3
 ·exact h.elim
noncomputable def tab20u:FuncId->List SV->Mem->(SV->Mem->Prop)->Prop:=fun f args E K=>match f with
 | 20=>∃ e:Int,args=[.ifc 29 (I e)]/\(1<=e/\e<=16)/\K (I e) E
 | _=>False
theorem tab20u_ok:TabOK Try.prog tab20u:=by
 intro f args E K h
 unfold tab20u at h
 split at h
 ·obtain ⟨e,rfl,h1,h2⟩:=h
  exact esm okQC Try.func20 rfl (s20 h1 h2)
 ·exact h.elim
noncomputable def QE:Cx:={ P:=Try.prog,inl:=fun f=>List.contains [] f,tab:=tab20u,isB:=fun f=>f==19,tabB:=tab19,opt:={ unroll:=0,carry:=[] },muts:=mutsD }
theorem okQE:CxOK QE:=CxOK.four tab20u_ok (by kernel_rfl) (okInl (by kernel_rfl)) tab19_ok
theorem c8 {a1:Int} {b2:Option Addr} {l3:Nat} {c4:Nat} {a5:Int} {zs:List Int} (h0:Bs E b2 l3 c4 zs) (h:∀ (b':Option Addr) (l' c':Nat) (xs:List (List Int)) (cnt e:Int) (E':Mem),Mem.le E E'->Hyp (heldF a5 a1 zs=((xs,cnt),e))->SL (RK .i64 5) E' b' l' c' xs->l'<=16->K (.tup [L b' l' c',I cnt,I e]) E'):
  Ent QE 8 Try.f8 [.agg [I a1,L b2 l3 c4],I a5] E K:=by
 refine sm_ (?_:∃ (zs:List Int),Bs E b2 l3 c4 zs/\(∀ (e:Int) (E':Mem),Mem.le E E'->Hyp (heldF a5 a1 zs=(([],(0:Int)),e))->Hyp (e≠(0:Int))->Mem.le E E'/\∃ (e_1:Int),[SV.ifc 29 (I e)]=[SV.ifc 29 (I e_1)]/\((1:Int)<=e_1/\e_1<=(16:Int))/\Mem.le E' E'/\Mem.le E E'/\K (SV.tup [L none 0 0,I (0:Int),I e_1]) E')/\∀ (xs:List (List Int)) (cnt:Int) (m cap tot:Nat) (js:List Value) (E':Mem),Mem.le E E'->Hyp (heldF a5 a1 zs=((xs,cnt),(0:Int)))->StAt [⟨58,Row.lst [I a5,SV.slc 1 0 m cap,I cnt],3,true⟩,⟨26,Row.vals (vR xs++js),tot,true⟩] 0 1 a5 cnt m cap tot xs js->(∀ (v:Value),List.Mem v js->Value.oneCell' v=true)->Mem.le E E'/\∀ (base:Option Addr) (E'_1:Mem),Mem.le E' E'_1->WinE E'_1 base (vR xs++js)->Mem.le E E'_1/\K (SV.tup [L (Option.map (fun (x:Addr)=>Addr.add x 0) base) m cap,I cnt,I (0:Int)]) E'_1)
 refine ⟨zs,h0,fun e E' k q1 q2=>⟨k,e,rfl,?_,mr_,k,h none 0 0 [] 0 e E' k q1 SL.nil (by decide)⟩,fun xs cnt m cap tot js E' k q1 S hj=>⟨k,fun base E2 k2 w=>⟨mt_ k k2,h _ m cap xs cnt 0 E2 (mt_ k k2) q1 (vR_winJ S.w5 S.len S.room.1 w) S.le⟩⟩⟩
 have:=held_codes q1
 have q2:e≠0:=q2
 omega
noncomputable def tab23u:FuncId->List SV->Mem->(SV->Mem->Prop)->Prop:=fun f args E K=>match f with
 | 35=>d2 args fun x0 x1=>dC x0 fun l1=>d2 l1 fun x0_0 x0_1=>dI x0_0 fun a1=>dS x0_1 fun b2 l3 c4=>dS x1 fun b5 l6 c7=>∃ (zs:List Int) (ds:List Int),Bs E b2 l3 c4 zs/\Bs E b5 l6 c7 ds/\l6<=60000/\(∀ (b':Option Addr) (l' c':Nat) (ms:List (Int×List Int)) (e:Int) (E':Mem),Mem.le E E'->Hyp (appendF a1 zs ds=(ms,e))->FL E' b' l' c' ms->K (.tup [L b' l' c',I e]) E')
 | 36=>d2 args fun x0 x1=>dC x0 fun l1=>d2 l1 fun x0_0 x0_1=>dI x0_0 fun a1=>dS x0_1 fun b2 l3 c4=>dS x1 fun b5 l6 c7=>∃ (zs:List Int) (keep:List (List Int)),Bs E b2 l3 c4 zs/\BL E b5 l6 c7 keep/\(∀ d∈keep,d.length<=60000)/\l6<=1000/\(∀ (b':Option Addr) (l' c':Nat) (ms:List (Int×List Int)) (e:Int) (E':Mem),Mem.le E E'->Hyp (compactF a1 zs keep=(ms,e))->FL E' b' l' c' ms->K (.tup [L b' l' c',I e]) E')
 | 30=>d1 args fun x0=>dS x0 fun b1 l2 c3=>∃ (zs:List Int),Bs E b1 l2 c3 zs/\l2<=100000/\((∀ E':Mem,Mem.le E E'->Hyp (numsF zs=none)->K (.tup [L none 0 0,B false]) E')/\∀ (xs:List Int) (b':Option Addr) (l' c':Nat) (E':Mem),Mem.le E E'->Hyp (numsF zs=some xs)->SL (RK .i64 1) E' b' l' c' (xs.map fun z=>[z])->K (.tup [L b' l' c',B true]) E')
 | 24=>d1 args fun x0=>dC x0 fun l1=>d5 l1 fun x0_0 x0_1 x0_2 x0_3 x0_4=>dI x0_0 fun a1=>dI x0_1 fun a2=>dI x0_2 fun a3=>dI x0_3 fun a4=>dI x0_4 fun a5=>(∀ (b':Option Addr) (l' c':Nat) (ys:List Int) (E':Mem),Mem.le E E'->Hyp (ys=recB [1,a1,a2,a3,a4,a5])->Bs E' b' l' c' ys->K (L b' l' c') E')
 | 25=>d1 args fun x0=>dS x0 fun b1 l2 c3=>∃ (zs:List Int),SL (RK .i64 1) E b1 l2 c3 (zs.map fun z=>[z])/\l2<=100/\(∀ (b':Option Addr) (l' c':Nat) (ys:List Int) (E':Mem),Mem.le E E'->Hyp (ys=recB zs)->Bs E' b' l' c' ys->K (L b' l' c') E')
 | _=>False
theorem tab23u_ok:TabOK Try.prog tab23u:=by
 intro f args E K h
 unfold tab23u at h
 split at h
 ·replace h:=d2_elim h
  obtain ⟨x0,x1,rfl,h⟩:=h
  replace h:=dC_elim h
  obtain ⟨l1,hl1,h⟩:=h
  replace h:=d2_elim h
  obtain ⟨x0_0,x0_1,rfl,h⟩:=h
  replace h:=dI_elim h
  obtain ⟨a1,rfl,h⟩:=h
  replace h:=dS_elim h
  obtain ⟨b2,l3,c4,rfl,h⟩:=h
  replace h:=dS_elim h
  obtain ⟨b5,l6,c7,rfl,h⟩:=h
  obtain ⟨zs,ds,g0,g1,g2,h⟩:=h
  exact TabSem.congr (valL_cons (asCells_val hl1) (valL_cons rfl rfl)) (esm okKI Try.func35 rfl (j17 g0 g1 g2 h))
 ·replace h:=d2_elim h
  obtain ⟨x0,x1,rfl,h⟩:=h
  replace h:=dC_elim h
  obtain ⟨l1,hl1,h⟩:=h
  replace h:=d2_elim h
  obtain ⟨x0_0,x0_1,rfl,h⟩:=h
  replace h:=dI_elim h
  obtain ⟨a1,rfl,h⟩:=h
  replace h:=dS_elim h
  obtain ⟨b2,l3,c4,rfl,h⟩:=h
  replace h:=dS_elim h
  obtain ⟨b5,l6,c7,rfl,h⟩:=h
  obtain ⟨zs,keep,g0,g1,g2,g3,h⟩:=h
  exact TabSem.congr (valL_cons (asCells_val hl1) (valL_cons rfl rfl)) (esm okKJ Try.func36 rfl (j19 g0 g1 g2 g3 h))
 ·replace h:=d1_elim h
  obtain ⟨x0,rfl,h⟩:=h
  replace h:=dS_elim h
  obtain ⟨b1,l2,c3,rfl,h⟩:=h
  obtain ⟨zs,g0,g1,h⟩:=h
  exact TabSem.congr (valL_cons rfl rfl) (esm okQ4 Try.func30 rfl (c30 g0 g1 h))
 ·replace h:=d1_elim h
  obtain ⟨x0,rfl,h⟩:=h
  replace h:=dC_elim h
  obtain ⟨l1,hl1,h⟩:=h
  replace h:=d5_elim h
  obtain ⟨x0_0,x0_1,x0_2,x0_3,x0_4,rfl,h⟩:=h
  replace h:=dI_elim h
  obtain ⟨a1,rfl,h⟩:=h
  replace h:=dI_elim h
  obtain ⟨a2,rfl,h⟩:=h
  replace h:=dI_elim h
  obtain ⟨a3,rfl,h⟩:=h
  replace h:=dI_elim h
  obtain ⟨a4,rfl,h⟩:=h
  replace h:=dI_elim h
  obtain ⟨a5,rfl,h⟩:=h
  exact TabSem.congr (valL_cons (asCells_val hl1) rfl) (esm okQ3 Try.func24 rfl (c24 h))
 ·replace h:=d1_elim h
  obtain ⟨x0,rfl,h⟩:=h
  replace h:=dS_elim h
  obtain ⟨b1,l2,c3,rfl,h⟩:=h
  obtain ⟨zs,g0,g1,h⟩:=h
  exact TabSem.congr (valL_cons rfl rfl) (esm okQ2 Try.func25 rfl (c25 g0 g1 h))
 ·exact h.elim
noncomputable def QF:Cx:={ P:=Try.prog,inl:=fun f=>List.contains [] f,tab:=tab23u,isB:=fun f=>f==31,tabB:=tabA,opt:={ unroll:=0,carry:=[12,57],cuts:=[10] },muts:=(fun o=>match o with | .buildSlice .. =>true| .alloc .. =>true|o=>mutsD o) }
theorem okQF:CxOK QF:=CxOK.four tab23u_ok (by kernel_rfl) (okInl (by kernel_rfl)) tabA_ok
def sW (me cnt s:Int) (b:Option Addr) (l c m cap tot n kcap ktot:Nat) (xs:List (List Int)) (js rs:List Value) (E:Mem):St:=⟨[oc 0 0,none,none,none,oc 3 0,none,none,none,none,none,none,none,os 4 0 n kcap,none,none,none,none,none,none,none,none,none,none,none,none,none,none,none,none,none,none,none,none,none,none,none,none,none,none,none,none,none,none,none,none,none,none,none,none,none,none,none,none,none,none,none,none,none,none,none,none,none,none,none,none,none,none,none,none,none,none,none],[⟨58,.lst [I me,.slc 2 0 m cap,I cnt],3,true⟩,⟨26,.lst [],0,false⟩,⟨26,.vals (vR xs++js),tot,true⟩,⟨24,.lst [I s,L b l c],2,true⟩,⟨22,.vals rs,ktot,true⟩],E⟩
def sWl (me cnt s:Int) (b:Option Addr) (l c m cap tot n kcap ktot i:Nat) (xs:List (List Int)) (js rs:List Value) (E:Mem):St:=⟨[none,none,none,none,oc 3 0,none,none,none,none,none,none,none,os 4 0 n kcap,none,none,none,none,none,none,none,none,none,none,none,none,none,none,none,none,none,none,none,none,none,none,none,none,none,none,none,none,none,none,none,none,none,none,none,none,none,none,none,none,none,none,os 2 0 m cap,oI (m:Nat),oI (i:Nat),none,none,none,none,none,none,none,none,none,none,none,none,none,none],[⟨58,.lst [I me,.slc 2 0 m cap,I cnt],3,true⟩,⟨26,.lst [],0,false⟩,⟨26,.vals (vR xs++js),tot,true⟩,⟨24,.lst [I s,L b l c],2,true⟩,⟨22,.vals rs,ktot,true⟩],E⟩
theorem ur23 {me cnt s:Int} {zs:List Int} {b:Option Addr} {l c m cap tot n kcap ktot:Nat} {xs:List (List Int)} {js:List Value} {rs:List Value} {rr:List (List Value)} {want full:List (List Int)} {KK Q:KT} {E0:Mem} {i:Nat} (hB:Bs E b l c zs) (w5:W5 xs) (hx:xs.length=m) (hm:m<=16) (hc:m<=cap/\cap*5<=tot) (hR:SLr RB E rr want) (hrs:rs=rr.flatten) (hn:want.length=n/\n<=kcap/\kcap*1<=ktot) (hs:∀ d∈want,d.length<=60000) (hE0:Mem.le E0 E) (h:∀ (b':Option Addr) (l' c':Nat) (ms:List (Int×List Int)) (e:Int) (E':Mem),Mem.le E0 E'->Hyp (compactF s zs full=(ms,e))->FL E' b' l' c' ms->KK (.tup [L b' l' c',I e]) [⟨58,.lst [],0,false⟩,⟨26,.lst [],0,false⟩] E') (hQ:∀ s bx' E',cloK 2 KK s bx' E'->Q s bx' E') (hn2:n<=i+1) (hi:i<=m) (hf:full=want++(xs.drop i).map fun r=>recB (1::r))
  (ih:i<m->∀ (n kcap ktot:Nat) (rs:List Value) (rr:List (List Value)) (want:List (List Int)) (E':Mem),Mem.le E E'->SLr RB E' rr want->rs=rr.flatten->(want.length=n/\n<=kcap/\kcap*1<=ktot)->n<=i+2->(∀ d∈want,d.length<=60000)->full=want++(xs.drop (i+1)).map (fun r=>recB (1::r))->Lp QF 8 Try.f23 [1,1,1,1,1,1,0,1,0] 2 Q (sWl me cnt s b l c m cap tot n kcap ktot (i+1) xs js rs E')):
  Rnd QF 8 Try.f23 [1,1,1,1,1,1,0,1,0] 2 Q (sWl me cnt s b l c m cap tot n kcap ktot i xs js rs E):=by
 refine sm_ (?_:bif decide ((NI i)<(NI m)) then req (0<=(NI i)/\(NI i)<(NI m)) (∃ (n_1:Int),∃ (n_2:Int),∃ (n_3:Int),∃ (n_4:Int),∃ (n_5:Int),LoadV QF.P 26 (vR xs++js) (0+Int.toNat (NI i)*5) (SV.agg [I n_1,I n_2,I n_3,I n_4,I n_5])/\∀ (b':Option Addr) (l' c':Nat) (ys:List Int) (E':Mem),Mem.le E E'->Hyp (ys=recB [(1:Int),n_1,n_2,n_3,n_4,n_5])->Bs E' b' l' c' ys->Mem.le E E'/\n*1<=List.length (Row.cells (Row.vals rs))/\kcap*1<=ktot/\n<=kcap/\req ((n+1)*24<=140737488355328) (∀ (cap' tot':Nat),n+1<=cap'->cap'*1<=tot'->Lp QF 8 Try.f23 [1,1,1,1,1,1,0,1,0] 2 Q { fr:=none::none::none::none::oc 3 0::no4 (no2 (none::(os 7 0 (n+1) cap'::no32 (no8 (no2 (os 2 0 m cap::oI (NI m)::oI (WI ((NI i)+1))::no8 (no4 (no2 [])))))))),bx:=[(⟨58,.lst [I me,SV.slc 2 0 m cap,I cnt],3,true⟩:Box),⟨26,.lst [],0,false⟩,⟨26,.vals (vR xs++js),tot,true⟩,⟨24,.lst [I s,L b l c],2,true⟩,⟨22,.lst [],0,false⟩,⟨26,.lst [I n_1,I n_2,I n_3,I n_4,I n_5],5,true⟩,⟨22,.lst [L b' l' c'],1,true⟩,⟨22,.vals (List.take (n*1) rs++[VS b' l' c']),tot',true⟩],E:=E':St })) else ∀ (base:Option Addr) (E':Mem),Mem.le E E'->WinE E' base rs->∃ (zs:List Int),∃ (keep:List (List Int)),Bs E' b l c zs/\BL E' (Option.map (fun (x:Addr)=>Addr.add x 0) base) n kcap keep/\(∀ (d:List Int),List.Mem d keep->List.length d<=60000)/\n<=1000/\∀ (b':Option Addr) (l' c':Nat) (ms:List (Int×List Int)) (e:Int) (E'_1:Mem),Mem.le E' E'_1->Hyp (compactF s zs keep=(ms,e))->FL E'_1 b' l' c' ms->Q (SV.tup [L b' l' c',I e]) [⟨58,.lst [I me,SV.slc 2 0 m cap,I cnt],3,true⟩,⟨26,.lst [],0,false⟩,⟨26,.vals (vR xs++js),tot,true⟩,⟨24,.lst [I s,L b l c],2,true⟩,⟨22,.vals rs,ktot,false⟩] E'_1)
 delta WI NI VS no2 no4 no8 no32
 have hw:=hR.flat RB_ok
 refine condC (fun g=>?_) (fun g=>?_)
 ·have g:i<m:=by simpa using g
  obtain ⟨x,hx'⟩:∃ x,xs[i]? =some x:=⟨_,List.getElem?_eq_getElem (by omega)⟩
  obtain ⟨o1,o2,o3,o4,o5,ex,lt⟩:=rd_V w5 hx'
  rw [show 0+Int.toNat (i:Int)*5=i*5 by rw [Int.toNat_natCast];omega,wrap_i64 (x:=(i:Int)+1) (by omega)]
  refine req_intro (by omega) ⟨o1,o2,o3,o4,o5,lt js,fun b' l' c' ys E1 k1 q1 q2=>⟨k1,?_,hn.2.2,hn.2.1,req_intro (by omega) fun cap' tot' r1 r2=>?_⟩⟩
  ·show n*1<=(rs.map SV.raw).length
   rw [List.length_map,hrs,hw];omega
  ·have q1:ys=recB (1::x):=by rw [ex];exact q1
   have fx:full=(want++[ys])++(xs.drop (i+1)).map fun r=>recB (1::r):=by
    obtain ⟨hi',ei⟩:=List.getElem?_eq_some_iff.1 hx'
    rw [hf,List.drop_eq_getElem_cons hi',ei,q1];simp
   have fr:List.take (n*1) rs++[Value.slice b' l' c']=(rr++[[Value.slice b' l' c']]).flatten:=by
    rw [List.take_of_length_le (by rw [hrs,hw];omega),hrs];simp
   exact Lp_re [some 0,some 1,some 2,some 3,some 7] (ih g (n+1) cap' tot' _ (rr++[[.slice b' l' c']]) (want++[ys]) E1 k1 ((hR.mono RB_ok k1).snoc ⟨_,_,_,rfl,q2⟩) fr ⟨by simp [hn.1],r1,r2⟩ (by omega) (fun d hd=>(List.mem_append.1 hd).elim (hs d) fun q=>by rw [List.mem_singleton.1 q,q1];have:=recB_len (1::x);rw [ex] at this ⊢;simp at this;omega) fx) (wkG mr_ (h6:=(by repeat' first|exact True.intro|exact rfl|exact Or.inl rfl|exact (by decide:1<8)|refine And.intro ?_ ?_)))
 ·have g:¬ i<m:=by simpa using g
  have e:full=want:=by rw [hf,List.drop_of_length_le (by omega)];simp
  exact fun base E1 k1 w=>⟨zs,want,hB.mono k1,SL.win RB_ok w hrs (hR.mono RB_ok k1) hn.1 hn.2.1,hs,by omega,fun b' l' c' ms e' E2 k2 q1 q2=>hQ _ _ _ (cloK_intro [some 0,some 1] (h b' l' c' ms e' E2 (mt_ hE0 (mt_ k1 k2)) (by rw [e];exact q1) q2) (wkG mr_ (h6:=(by repeat' first|exact True.intro|exact rfl|exact Or.inl rfl|exact (by decide:0<5)|exact (by decide:1<5)|refine And.intro ?_ ?_))))⟩
theorem ul23 {E:Mem} {me cnt s:Int} {zs:List Int} {b:Option Addr} {l c m cap tot n kcap ktot:Nat} {xs:List (List Int)} {js:List Value} {rs:List Value} {rr:List (List Value)} {want full:List (List Int)} {KK Q:KT} {E0:Mem} (hB:Bs E b l c zs) (w5:W5 xs) (hx:xs.length=m) (hm:m<=16) (hc:m<=cap/\cap*5<=tot) (hR:SLr RB E rr want) (hrs:rs=rr.flatten) (hn:want.length=n/\n<=kcap/\kcap*1<=ktot) (hs:∀ d∈want,d.length<=60000) (hE0:Mem.le E0 E) (h:∀ (b':Option Addr) (l' c':Nat) (ms:List (Int×List Int)) (e:Int) (E':Mem),Mem.le E0 E'->Hyp (compactF s zs full=(ms,e))->FL E' b' l' c' ms->KK (.tup [L b' l' c',I e]) [⟨58,.lst [],0,false⟩,⟨26,.lst [],0,false⟩] E') (hQ:∀ s bx' E',cloK 2 KK s bx' E'->Q s bx' E'):∀ {r i:Nat},i+r=m->n<=i+1->full=want++((xs.drop i).map fun r=>recB (1::r))->Lp QF 8 Try.f23 [1,1,1,1,1,1,0,1,0] 2 Q (sWl me cnt s b l c m cap tot n kcap ktot i xs js rs E)
 | 0,i,hi,h2,hf=>Lp_ind (ι:=Unit) okQF (fun _=>sWl me cnt s b l c m cap tot n kcap ktot i xs js rs E) (fun _=>0) (fun _ _=>ur23 hB w5 hx hm hc hR hrs hn hs hE0 h hQ h2 (by omega) hf (fun g=>by omega)) ()
 | r+1,i,hi,h2,hf=>Lp_ind (ι:=Unit) okQF (fun _=>sWl me cnt s b l c m cap tot n kcap ktot i xs js rs E) (fun _=>0) (fun _ _=>ur23 hB w5 hx hm hc hR hrs hn hs hE0 h hQ h2 (by omega) hf (fun g n kcap ktot rs rr want E1 k hR hrs hn h2 hs hf=>ul23 (hB.mono k) w5 hx hm hc hR hrs hn hs (mt_ hE0 k) h hQ (r:=r) (i:=i+1) (by omega) h2 hf)) ()
theorem pcW {me cnt s:Int} {zs:List Int} {b:Option Addr} {l c m cap tot n kcap ktot:Nat} {xs:List (List Int)} {js:List Value} {rs:List Value} {rr:List (List Value)} {want full:List (List Int)} {KK Q:KT} {E0:Mem} (hB:Bs E b l c zs) (w5:W5 xs) (hx:xs.length=m) (hm:m<=16) (hc:m<=cap/\cap*5<=tot) (hR:SLr RB E rr want) (hrs:rs=rr.flatten) (hn:want.length=n/\n<=kcap/\kcap*1<=ktot) (hs:∀ d∈want,d.length<=60000) (hE0:Mem.le E0 E) (h:∀ (b':Option Addr) (l' c':Nat) (ms:List (Int×List Int)) (e:Int) (E':Mem),Mem.le E0 E'->Hyp (compactF s zs full=(ms,e))->FL E' b' l' c' ms->KK (.tup [L b' l' c',I e]) [⟨58,.lst [],0,false⟩,⟨26,.lst [],0,false⟩] E') (hQ:∀ s bx' E',cloK 2 KK s bx' E'->Q s bx' E') (hn2:n<=1) (hf:full=want++xs.map fun r=>recB (1::r)):
  Pc QF 8 Try.f23 [1,1,1,1,1,1] 2 Q (sW me cnt s b l c m cap tot n kcap ktot xs js rs E):=by
 refine sm_ (?_:Lp QF 8 Try.f23 [1,1,1,1,1,1,0,1,0] 2 Q { fr:=some (SV.loc 0 0)::none::none::none::oc 3 0::no4 (no2 (none::(os 4 0 n kcap::no32 (no4 (no2 (none::(oc 0 0::oc 0 0::oc 0 1::os 2 0 m cap::oI (NI m)::oI 0::no8 (no4 (no2 []))))))))),bx:=[(⟨58,.lst [I me,SV.slc 2 0 m cap,I cnt],3,true⟩:Box),⟨26,.lst [],0,false⟩,⟨26,.vals (vR xs++js),tot,true⟩,⟨24,.lst [I s,L b l c],2,true⟩,⟨22,.vals rs,ktot,true⟩],E:=E:St })
 delta NI no2 no4 no8 no32
 exact Lp_re [some 0,some 1,some 2,some 3,some 4] (ul23 hB w5 hx hm hc hR hrs hn hs hE0 h hQ (r:=m) (i:=0) (by omega) hn2 (by simpa using hf)) (wkG mr_ (h6:=(by repeat' first|exact True.intro|exact rfl|exact Or.inl rfl|exact (by decide:1<5)|refine And.intro ?_ ?_)))
theorem u23 {me cnt s:Int} {zs ds:List Int} {b db:Option Addr} {l c dl dc m cap tot:Nat} {xs:List (List Int)} {js:List Value} {KK Q:KT} (hB:Bs E b l c zs) (hD:Bs E db dl dc ds) (hd:dl<=60000) (S:StAt [⟨58,.lst [I me,.slc 1 0 m cap,I cnt],3,true⟩,⟨26,.vals (vR xs++js),tot,true⟩] 0 1 me cnt m cap tot xs js) (hj:∀ v∈js,v.oneCell'=true) (h:∀ (b':Option Addr) (l' c':Nat) (ms:List (Int×List Int)) (e:Int) (E':Mem),Mem.le E E'->Hyp (writeF me s zs (xs,cnt) ds=(ms,e))->FL E' b' l' c' ms->KK (.tup [L b' l' c',I e]) [⟨58,.lst [],0,false⟩,⟨26,.lst [],0,false⟩] E')
  (hQ:∀ s bx' E',cloK 2 KK s bx' E'->Q s bx' E'):
  EntB QF 8 Try.f23 [.loc 0 0,.agg [I s,L b l c],L db dl dc] [⟨58,.lst [I me,.slc 1 0 m cap,I cnt],3,true⟩,⟨26,.vals (vR xs++js),tot,true⟩] E Q:=by
 refine sm_ (?_:∃ (zs:List Int),∃ (ds:List Int),Bs E b l c zs/\Bs E db dl dc ds/\dl<=60000/\∀ (b':Option Addr) (l' c':Nat) (ms:List (Int×List Int)) (e:Int) (E':Mem),Mem.le E E'->Hyp (appendF s zs ds=(ms,e))->FL E' b' l' c' ms->Mem.le E E'/\bif e !=(10:Int) then Q (SV.tup [L b' l' c',I e]) [⟨58,.lst [I me,SV.slc 1 0 m cap,I cnt],3,true⟩,⟨26,.vals (vR xs++js),tot,true⟩,⟨24,.lst [I s,L b l c],2,true⟩] E' else ∃ (zs:List Int),Bs E' db dl dc zs/\dl<=100000/\(∀ (E'_1:Mem),Mem.le E' E'_1->Hyp (numsF zs=none)->Mem.le E' E'_1/\Q (SV.tup [L none 0 0,I 9]) [⟨58,.lst [I me,SV.slc 1 0 m cap,I cnt],3,true⟩,⟨26,.vals (vR xs++js),tot,true⟩,⟨24,.lst [I s,L b l c],2,true⟩] E'_1)/\∀ (xs_1:List Int) (b'_1:Option Addr) (l'_1 c'_1:Nat) (E'_1:Mem),Mem.le E' E'_1->Hyp (numsF zs=some xs_1)->SL (RK IntKind.i64 1) E'_1 b'_1 l'_1 c'_1 (List.map (fun (z:Int)=>[z]) xs_1)->Mem.le E' E'_1/\∃ (tot_1:Nat),∃ (xs_2:List (List Int)),∃ (js_1:List Value),∃ (ns:List Int),SL (RK IntKind.i64 1) E'_1 b'_1 l'_1 c'_1 (List.map (fun (z:Int)=>[z]) ns)/\StAt [⟨58,.lst [I me,SV.slc 1 0 m cap,I cnt],3,true⟩,⟨26,.vals (vR xs++js),tot,true⟩,⟨24,.lst [I s,L b l c],2,true⟩] 0 1 me cnt m cap tot_1 xs_2 js_1/\(∀ (v:Value),List.Mem v js_1->Value.oneCell' v=true)/\(appF me (xs_2,cnt) ns=none->Q (SV.tup [L none 0 0,I 9]) [⟨58,.lst [I me,SV.slc 1 0 m cap,I cnt],3,true⟩,⟨26,.vals (vR xs++js),tot,true⟩,⟨24,.lst [I s,L b l c],2,true⟩] E'_1)/\(∀ (c_1:Int),appF me (xs_2,cnt) ns=some (xs_2,c_1)->bif decide (c_1>(0:Int)) then ∀ (base:Option Addr) (E':Mem),Mem.le E'_1 E'->WinE E' base [Value.int IntKind.i64 3,Value.int IntKind.i64 c_1]->∃ (zs:List Int),SL (RK IntKind.i64 1) E' (Option.map (fun (x:Addr)=>Addr.add x 0) base) 2 2 (List.map (fun (z:Int)=>[z]) zs)/\2<=100/\∀ (b'_2:Option Addr) (l'_2 c'_2:Nat) (ys:List Int) (E'_2:Mem),Mem.le E' E'_2->Hyp (ys=recB zs)->Bs E'_2 b'_2 l'_2 c'_2 ys->∀ (cap' tot':Nat),1<=cap'->cap'*1<=tot'->Ct QF 8 Try.f23 [1,1,1,1,1,1] 2 Q { fr:=some (SV.loc 0 0)::some (SV.agg [I s,L b l c])::oL db dl dc::none::oc 2 0::none::oL none 0 0::oI 0::oL b' l' c'::oI e::oL b'_1 l'_1 c'_1::oB true::os 5 0 1 cap'::none::none::some (SV.tup [L b' l' c',I e])::some (SV.agg [I s,L b l c])::oL db dl dc::some (SV.tup [L b' l' c',I e])::oL b' l' c'::oI e::oI e::oB (e !=(10:Int))::none::none::some (SV.tup [L b'_1 l'_1 c'_1,B true])::oL db dl dc::some (SV.tup [L b'_1 l'_1 c'_1,B true])::oL b'_1 l'_1 c'_1::oB true::oB true::oB false::oB false::oc 0 0::oL b'_1 l'_1 c'_1::oB true::oB false::oB false::oc 0 0::oc 0 0::oc 0 2::oI c_1::oB (decide (c_1>(0:Int)))::oL none 0 0::oc 0 0::oc 0 0::oc 0 2::oI c_1::os 3 0 2 2::oL b'_2 l'_2 c'_2::os 4 0 1 1::os 5 0 1 cap'::no16 (no4 []),bx:=[(⟨58,.lst [I me,SV.slc 1 0 m cap,I c_1],3,true⟩:Box),⟨26,.vals (vR xs++js),tot,true⟩,⟨24,.lst [I s,L b l c],2,true⟩,⟨3,.lst [I 3,I c_1],2,false⟩,⟨22,.lst [L b'_2 l'_2 c'_2],1,true⟩,⟨22,.lst [L b'_2 l'_2 c'_2],tot',true⟩],E:=E'_2:St } else Ct QF 8 Try.f23 [1,1,1,1,1,1] 2 Q { fr:=some (SV.loc 0 0)::some (SV.agg [I s,L b l c])::oL db dl dc::none::oc 2 0::none::oL none 0 0::oI 0::oL b' l' c'::oI e::oL b'_1 l'_1 c'_1::oB true::oL none 0 0::none::none::some (SV.tup [L b' l' c',I e])::some (SV.agg [I s,L b l c])::oL db dl dc::some (SV.tup [L b' l' c',I e])::oL b' l' c'::oI e::oI e::oB (e !=(10:Int))::none::none::some (SV.tup [L b'_1 l'_1 c'_1,B true])::oL db dl dc::some (SV.tup [L b'_1 l'_1 c'_1,B true])::oL b'_1 l'_1 c'_1::oB true::oB true::oB false::oB false::oc 0 0::oL b'_1 l'_1 c'_1::oB true::oB false::oB false::oc 0 0::oc 0 0::oc 0 2::oI c_1::oB (decide (c_1>(0:Int)))::no16 (no8 (no4 (none::[]))),bx:=[(⟨58,.lst [I me,SV.slc 1 0 m cap,I c_1],3,true⟩:Box),⟨26,.vals (vR xs++js),tot,true⟩,⟨24,.lst [I s,L b l c],2,true⟩],E:=E'_1:St })/\∀ (ys:List (List Int)) (c_1:Int) (cap' tot':Nat) (js':List Value),appF me (xs_2,cnt) ns=some (ys,c_1)->List.length ys<=cap'->cap'*5<=tot'->(∀ (v:Value),List.Mem v js'->Value.oneCell' v=true)->W5 ys->List.length ys<=16->bif decide (c_1>(0:Int)) then ∀ (base:Option Addr) (E':Mem),Mem.le E'_1 E'->WinE E' base [Value.int IntKind.i64 3,Value.int IntKind.i64 c_1]->∃ (zs:List Int),SL (RK IntKind.i64 1) E' (Option.map (fun (x:Addr)=>Addr.add x 0) base) 2 2 (List.map (fun (z:Int)=>[z]) zs)/\2<=100/\∀ (b'_2:Option Addr) (l'_2 c'_2:Nat) (ys_1:List Int) (E'_2:Mem),Mem.le E' E'_2->Hyp (ys_1=recB zs)->Bs E'_2 b'_2 l'_2 c'_2 ys_1->∀ (cap'_1 tot'_1:Nat),1<=cap'_1->cap'_1*1<=tot'_1->Ct QF 8 Try.f23 [1,1,1,1,1,1] 2 Q { fr:=some (SV.loc 0 0)::some (SV.agg [I s,L b l c])::oL db dl dc::none::oc 2 0::none::oL none 0 0::oI 0::oL b' l' c'::oI e::oL b'_1 l'_1 c'_1::oB true::os 6 0 1 cap'_1::none::none::some (SV.tup [L b' l' c',I e])::some (SV.agg [I s,L b l c])::oL db dl dc::some (SV.tup [L b' l' c',I e])::oL b' l' c'::oI e::oI e::oB (e !=(10:Int))::none::none::some (SV.tup [L b'_1 l'_1 c'_1,B true])::oL db dl dc::some (SV.tup [L b'_1 l'_1 c'_1,B true])::oL b'_1 l'_1 c'_1::oB true::oB true::oB false::oB false::oc 0 0::oL b'_1 l'_1 c'_1::oB true::oB false::oB false::oc 0 0::oc 0 0::oc 0 2::oI c_1::oB (decide (c_1>(0:Int)))::oL none 0 0::oc 0 0::oc 0 0::oc 0 2::oI c_1::os 4 0 2 2::oL b'_2 l'_2 c'_2::os 5 0 1 1::os 6 0 1 cap'_1::no16 (no4 []),bx:=[(⟨(58:Nat),Row.lst [I me,SV.slc 3 0 (List.length ys) cap',I c_1],(3:Nat),true⟩:Box),⟨(26:Nat),Row.lst [],(0:Nat),false⟩,⟨(24:Nat),Row.lst [I s,L b l c],(2:Nat),true⟩,⟨(26:Nat),Row.vals (vR ys++js'),tot',true⟩,⟨(3:Nat),Row.lst [I 3,I c_1],(2:Nat),false⟩,⟨(22:Nat),Row.lst [L b'_2 l'_2 c'_2],(1:Nat),true⟩,⟨(22:Nat),Row.lst [L b'_2 l'_2 c'_2],tot'_1,true⟩],E:=E'_2:St } else Ct QF 8 Try.f23 [1,1,1,1,1,1] 2 Q { fr:=some (SV.loc 0 0)::some (SV.agg [I s,L b l c])::oL db dl dc::none::oc 2 0::none::oL none 0 0::oI 0::oL b' l' c'::oI e::oL b'_1 l'_1 c'_1::oB true::oL none 0 0::none::none::some (SV.tup [L b' l' c',I e])::some (SV.agg [I s,L b l c])::oL db dl dc::some (SV.tup [L b' l' c',I e])::oL b' l' c'::oI e::oI e::oB (e !=(10:Int))::none::none::some (SV.tup [L b'_1 l'_1 c'_1,B true])::oL db dl dc::some (SV.tup [L b'_1 l'_1 c'_1,B true])::oL b'_1 l'_1 c'_1::oB true::oB true::oB false::oB false::oc 0 0::oL b'_1 l'_1 c'_1::oB true::oB false::oB false::oc 0 0::oc 0 0::oc 0 2::oI c_1::oB (decide (c_1>(0:Int)))::no16 (no8 (no4 (none::[]))),bx:=[(⟨58,.lst [I me,SV.slc 3 0 (List.length ys) cap',I c_1],3,true⟩:Box),⟨26,.lst [],0,false⟩,⟨24,.lst [I s,L b l c],2,true⟩,⟨26,.vals (vR ys++js'),tot',true⟩],E:=E'_1:St })
 delta no4 no8 no16
 have wr:∀ {ms:List (Int×List Int)},appendF s zs ds=(ms,10)->∀ {ns:List Int},numsF ds=some ns->∀ {st:List (List Int)×Int},appF me (xs,cnt) ns=some st->writeF me s zs (xs,cnt) ds=compactF s zs (keepF st):=fun q1 ns q2 st q3=>by
  unfold writeF;rw [q1,if_pos rfl,q2];simp only [q3]
 have k0:∀ (ys:List (List Int)) (c':Int),0<c'->keepF (ys,c')=[recB [3,c']]++ys.map fun r=>recB (1::r):=fun ys c' q=>by unfold keepF;rw [if_pos q]
 have k1':∀ (ys:List (List Int)) (c':Int),¬ 0<c'->keepF (ys,c')=[]++ys.map fun r=>recB (1::r):=fun ys c' q=>by unfold keepF;rw [if_neg q]
 have r3:∀ c':Int,∀ d∈[recB [3,c']],d.length<=60000:=fun c' d hd=>by rw [List.mem_singleton.1 hd];have:=recB_len [3,c'];simp at this;omega
 have w3':∀ {c':Int} {base:Option Addr} {E3:Mem},WinE E3 base [Value.int .i64 3,Value.int .i64 c']->SL (RK .i64 1) E3 (base.map fun x=>x.add 0) 2 2 ([3,c'].map fun z=>[z]):=fun {c'} {base} {E3} w=>SL.win (RK_ok .i64 (by decide)) w (rs:=([3,c'].map fun z=>[z]).map fun x=>x.map (Value.int .i64)) rfl (SLr_RK (fun x hx=>by obtain ⟨z,_,rfl⟩:=List.mem_map.1 hx;rfl)) rfl (Nat.le_refl _)
 refine ⟨zs,ds,hB,hD,hd,fun b' l' c' ms e E1 k1 q1 q2=>⟨k1,condC (fun g=>?_) (fun g=>?_)⟩⟩
 ·have g:e≠10:=by simpa using g
  exact hQ _ _ _ (cloK_intro [some 0,some 1] (h b' l' c' ms e E1 k1 (by show writeF me s zs (xs,cnt) ds=_;unfold writeF;rw [show appendF s zs ds=(ms,e) from q1,if_neg g]) q2) (wkG mr_ (h6:=(by repeat' first|exact True.intro|exact rfl|exact Or.inl rfl|exact (by decide:0<3)|exact (by decide:1<3)|refine And.intro ?_ ?_))))
 have g:e=10:=by simpa using g
 subst g
 have q1:appendF s zs ds=(ms,10):=q1
 have bad:∀ E2:Mem,Mem.le E1 E2->(∀ ns,numsF ds=some ns->appF me (xs,cnt) ns=none)->∀ bx:List Box,bx=[⟨58,.lst [I me,.slc 1 0 m cap,I cnt],3,true⟩,⟨26,.vals (vR xs++js),tot,true⟩,⟨24,.lst [I s,L b l c],2,true⟩]->Q (.tup [L none 0 0,I 9]) bx E2:=fun E2 k2 q bx e=>by
  subst e
  refine hQ _ _ _ (cloK_intro [some 0,some 1] (h none 0 0 [] 9 E2 (mt_ k1 k2) ?_ (FL.nil E2)) (wkG mr_ (h6:=(by repeat' first|exact True.intro|exact rfl|exact Or.inl rfl|exact (by decide:0<3)|exact (by decide:1<3)|refine And.intro ?_ ?_))))
  show writeF me s zs (xs,cnt) ds=_
  unfold writeF
  rw [q1,if_pos rfl]
  cases q3:numsF ds with
  | none=>rfl
  | some ns=>simp only [q ns q3]
 refine ⟨ds,hD.mono k1,by omega,fun E2 k2 q3=>⟨k2,bad E2 k2 (fun ns q=>by rw [show numsF ds=none from q3] at q;cases q) _ rfl⟩,fun ns b2 l2 c2 E2 k2 q3 q4=>⟨k2,tot,xs,js,ns,q4,⟨rfl,rfl,S.ne,S.w5,S.len,S.le,S.room⟩,hj,fun q5=>bad E2 k2 (fun ns' q=>by rw [show numsF ds=some ns from q3] at q;cases q;exact q5) _ rfl,fun cn q5=>condC (fun g=>?_) (fun g=>?_),fun ys cn cap' tot' js' q5 y1 y2 y3 y4 y5=>condC (fun g=>?_) (fun g=>?_)⟩⟩
 ·have g:0<cn:=by simpa using g
  have hk:=k0 xs cn g
  exact fun base E3 k3 w3=>⟨[3,cn],w3' w3,by decide,fun b5 l5 c5 yb E4 k4 q6 q7 kc kt r1 r2=>Ct_re [some 0,some 1,some 1,some 2,some 5] (Ct_intro okQF (pcW (E0:=E) (rr:=[[_]]) (want:=[yb]) (full:=keepF (xs,cn)) (hB.mono (mt_ (mt_ k1 k2) (mt_ k3 k4))) S.w5 S.len S.le S.room (SLr.nil.snoc ⟨_,_,_,rfl,q7⟩) rfl ⟨rfl,r1,r2⟩ (by rw [show yb=recB [3,cn] from q6];exact r3 cn) (mt_ (mt_ k1 k2) (mt_ k3 k4)) (fun b' l' c' ms e E' k z1 z2=>h b' l' c' ms e E' k (by show writeF me s zs (xs,cnt) ds=_;rw [wr q1 q3 q5];exact z1) z2) hQ (Nat.le_refl _) (by rw [hk,show yb=recB [3,cn] from q6]))) (wkG mr_ (h6:=(by repeat' first|exact True.intro|exact rfl|exact Or.inl rfl|exact (by decide:1<6)|refine And.intro ?_ ?_)))⟩
 ·have g:¬ 0<cn:=by simpa using g
  have hk:=k1' xs cn g
  exact Ct_re [some 0,some 1,some 1,some 2,none] (Ct_intro okQF (pcW (E0:=E) (rr:=[]) (want:=[]) (n:=0) (kcap:=0) (ktot:=0) (rs:=[]) (full:=keepF (xs,cn)) (hB.mono (mt_ k1 k2)) S.w5 S.len S.le S.room SLr.nil rfl ⟨rfl,Nat.le_refl _,Nat.le_refl _⟩ (fun d hd=>nomatch hd) (mt_ k1 k2) (fun b' l' c' ms e E' k z1 z2=>h b' l' c' ms e E' k (by show writeF me s zs (xs,cnt) ds=_;rw [wr q1 q3 q5];exact z1) z2) hQ (by decide) hk)) (wkG mr_ (h6:=(by repeat' first|exact True.intro|exact rfl|exact Or.inl rfl|exact (by decide:1<3)|refine And.intro ?_ ?_)))
 ·have g:0<cn:=by simpa using g
  have hk:=k0 ys cn g
  exact fun base E3 k3 w3=>⟨[3,cn],w3' w3,by decide,fun b5 l5 c5 yb E4 k4 q6 q7 kc kt r1 r2=>Ct_re [some 0,some 1,some 3,some 2,some 6] (Ct_intro okQF (pcW (E0:=E) (rr:=[[_]]) (want:=[yb]) (full:=keepF (ys,cn)) (hB.mono (mt_ (mt_ k1 k2) (mt_ k3 k4))) y4 rfl y5 ⟨y1,y2⟩ (SLr.nil.snoc ⟨_,_,_,rfl,q7⟩) rfl ⟨rfl,r1,r2⟩ (by rw [show yb=recB [3,cn] from q6];exact r3 cn) (mt_ (mt_ k1 k2) (mt_ k3 k4)) (fun b' l' c' ms e E' k z1 z2=>h b' l' c' ms e E' k (by show writeF me s zs (xs,cnt) ds=_;rw [wr q1 q3 q5];exact z1) z2) hQ (Nat.le_refl _) (by rw [hk,show yb=recB [3,cn] from q6]))) (wkG mr_ (h6:=(by repeat' first|exact True.intro|exact rfl|exact Or.inl rfl|exact (by decide:1<7)|refine And.intro ?_ ?_)))⟩
 ·have g:¬ 0<cn:=by simpa using g
  have hk:=k1' ys cn g
  exact Ct_re [some 0,some 1,some 3,some 2,none] (Ct_intro okQF (pcW (E0:=E) (rr:=[]) (want:=[]) (n:=0) (kcap:=0) (ktot:=0) (rs:=[]) (full:=keepF (ys,cn)) (hB.mono (mt_ k1 k2)) y4 rfl y5 ⟨y1,y2⟩ SLr.nil rfl ⟨rfl,Nat.le_refl _,Nat.le_refl _⟩ (fun d hd=>nomatch hd) (mt_ k1 k2) (fun b' l' c' ms e E' k z1 z2=>h b' l' c' ms e E' k (by show writeF me s zs (xs,cnt) ds=_;rw [wr q1 q3 q5];exact z1) z2) hQ (by decide) hk)) (wkG mr_ (h6:=(by repeat' first|exact True.intro|exact rfl|exact Or.inl rfl|exact (by decide:1<4)|refine And.intro ?_ ?_)))
theorem write_sem {bx:List Box} {s0 h:Nat} {me cnt s:Int} {zs ds:List Int} {b db:Option Addr} {l c dl dc m cap tot:Nat} {xs:List (List Int)} {js:List Value} {K:KT} (hB:Bs E b l c zs) (hD:Bs E db dl dc ds) (hd:dl<=60000) (S:StAt bx s0 h me cnt m cap tot xs js) (hj:∀ v∈js,v.oneCell'=true) (hk:(∀ (b':Option Addr) (l' c':Nat) (ms:List (Int×List Int)) (e:Int) (E':Mem),Mem.le E E'->Hyp (writeF me s zs (xs,cnt) ds=(ms,e))->FL E' b' l' c' ms->K (.tup [L b' l' c',I e]) ((bx.set s0 ⟨58,.lst [],0,false⟩).set h ⟨26,.lst [],0,false⟩) E')):
  CallSem Try.prog 23 [.loc s0 0,.agg [I s,L b l c],L db dl dc] bx E K:=by
 have S0:StAt [⟨58,.lst [I me,.slc 1 0 m cap,I cnt],3,true⟩,⟨26,.vals (vR xs++js),tot,true⟩] 0 1 me cnt m cap tot xs js:=⟨rfl,rfl,by decide,S.w5,S.len,S.le,S.room⟩
 refine CallSem.hand (σ:=[s0,h]) (bxs:=[⟨58,.lst [I me,.slc 1 0 m cap,I cnt],3,true⟩,⟨26,.vals (vR xs++js),tot,true⟩]) ⟨by simp [S.ne],rfl,fun i b hb=>?_⟩ (args':=[.loc 0 0,.agg [I s,L b l c],L db dl dc]) ?_ (bsm okQF Try.func23 (u23 hB hD hd S0 hj ?_ (fun _ _ _ q=>q)))
 ·match i,hb with
  | 0,hb=>
   simp only [List.getElem?_cons_zero,Option.some.injEq] at hb;subst hb
   exact ⟨rfl,s0,rfl,by simpa [Box.ren,Row.ren,SV.renL,SV.ren,renF] using S.st⟩
  | 1,hb=>
   simp only [List.getElem?_cons_succ,List.getElem?_cons_zero,Option.some.injEq] at hb;subst hb
   exact ⟨rfl,h,rfl,by simpa [Box.ren,Row.ren,SV.renL,SV.ren,renF] using S.hd⟩
  | j+2,hb=>simp at hb
 ·simp only [SV.renL,SV.ren,renF,List.getElem?_cons_zero]
 ·intro b' l' c' ms e E' k q1 q2
  simp only [SV.ren,SV.renL,merge,setAll,List.take,List.drop,List.map,List.length_cons,List.length_nil,Box.ren,Row.ren,renF,List.getElem?_cons_zero,List.getElem?_cons_succ]
  simpa using hk b' l' c' ms e E' k q1 q2
def tabTG:CallT:=fun f args bx E K=>match f with
 | 19=>(match args with | [.agg [.raw (.int .i64 s),.raw (.slice b l c)],.raw (.int .i64 me)]=>∃ zs:List Int,Bs E b l c zs/\(∀ (e:Int) (E':Mem),Mem.le E E'->Hyp (heldF me s zs=(([],0),e))->Hyp (e≠0)->K (.tup [.raw (.pointer none),.ifc 29 (I e)]) bx E')/\(∀ (xs:List (List Int)) (cnt:Int) (m cap tot:Nat) (js:List Value) (E':Mem),Mem.le E E'->Hyp (heldF me s zs=((xs,cnt),0))->StAt (bx++[⟨58,.lst [I me,.slc (bx.length+1) 0 m cap,I cnt],3,true⟩,⟨26,.vals (vR xs++js),tot,true⟩]) bx.length (bx.length+1) me cnt m cap tot xs js->(∀ v∈js,v.oneCell'=true)->K (.tup [.loc bx.length 0,.raw .nilIface]) (bx++[⟨58,.lst [I me,.slc (bx.length+1) 0 m cap,I cnt],3,true⟩,⟨26,.vals (vR xs++js),tot,true⟩]) E')|_=>False)
 | 22=>∃ (s h:Nat) (me cnt o n:Int) (m cap tot:Nat) (xs:List (List Int)) (js:List Value),args=[.loc s 0,I o,I n]/\StAt bx s h me cnt m cap tot xs js/\K (I (idxR o n xs)) bx E
 | 23=>(match args with | [.loc s0 0,.agg [.raw (.int .i64 s),.raw (.slice b l c)],.raw (.slice db dl dc)]=>(match bx[s0]? with |some ⟨58,.lst [.raw (.int .i64 me),.slc h 0 m cap,.raw (.int .i64 cnt)],3,true⟩=>∃ (tot:Nat) (xs:List (List Int)) (js:List Value) (zs ds:List Int),Bs E b l c zs/\Bs E db dl dc ds/\dl<=60000/\StAt bx s0 h me cnt m cap tot xs js/\(∀ v∈js,v.oneCell'=true)/\(∀ (b':Option Addr) (l' c':Nat) (ms:List (Int×List Int)) (e:Int) (E':Mem),Mem.le E E'->Hyp (writeF me s zs (xs,cnt) ds=(ms,e))->FL E' b' l' c' ms->K (.tup [L b' l' c',I e]) ((bx.set s0 ⟨58,.lst [],0,false⟩).set h ⟨26,.lst [],0,false⟩) E')|_=>False)|_=>False)
 | _=>False
theorem tabTG_ok (f:FuncId) (args:List SV) (bx:List Box) (E:Mem) (K:KT) (h:tabTG f args bx E K):CallSem Try.prog f args bx E K:=by
 unfold tabTG at h
 split at h
 ·split at h
  case h_2=>exact h.elim
  obtain ⟨zs,h1,h2,h3⟩:=h
  exact open_sem h1 h2 h3
 ·obtain ⟨s,h0,me,cnt,o,n,m,cap,tot,xs,js,rfl,h1,h2⟩:=h
  exact find_sem h1 h2
 ·split at h
  case h_2=>exact h.elim
  split at h
  case h_2=>exact h.elim
  obtain ⟨tot,xs,js,zs,ds,h1,h2,h3,h4,h5,h6⟩:=h
  exact write_sem h1 h2 h3 h4 h5 h6
 ·exact h.elim
noncomputable def tabTGp:FuncId->List SV->Mem->(SV->Mem->Prop)->Prop:=fun f args E K=>match f with
 | 20=>∃ e:Int,args=[.ifc 29 (I e)]/\(1<=e/\e<=16)/\K (I e) E
 | 21=>d1 args fun x0=>dC x0 fun l1=>d5 l1 fun x0_0 x0_1 x0_2 x0_3 x0_4=>dI x0_0 fun a1=>dI x0_1 fun a2=>dI x0_2 fun a3=>dI x0_3 fun a4=>dI x0_4 fun a5=>(K (B (okR a1 a2 a3 a4 a5)) E)
 | 24=>d1 args fun x0=>dC x0 fun l1=>d5 l1 fun x0_0 x0_1 x0_2 x0_3 x0_4=>dI x0_0 fun a1=>dI x0_1 fun a2=>dI x0_2 fun a3=>dI x0_3 fun a4=>dI x0_4 fun a5=>(∀ (b':Option Addr) (l' c':Nat) (ys:List Int) (E':Mem),Mem.le E E'->Hyp (ys=recB [1,a1,a2,a3,a4,a5])->Bs E' b' l' c' ys->K (L b' l' c') E')
 | 25=>d1 args fun x0=>dS x0 fun b1 l2 c3=>∃ (zs:List Int),SL (RK .i64 1) E b1 l2 c3 (zs.map fun z=>[z])/\l2<=100/\(∀ (b':Option Addr) (l' c':Nat) (ys:List Int) (E':Mem),Mem.le E E'->Hyp (ys=recB zs)->Bs E' b' l' c' ys->K (L b' l' c') E')
 | _=>False
theorem tabTGp_ok:TabOK Try.prog tabTGp:=by
 intro f args E K h
 unfold tabTGp at h
 split at h
 ·obtain ⟨e,rfl,h1,h2⟩:=h
  exact esm okQC Try.func20 rfl (s20 h1 h2)
 ·replace h:=d1_elim h
  obtain ⟨x0,rfl,h⟩:=h
  replace h:=dC_elim h
  obtain ⟨l1,hl1,h⟩:=h
  replace h:=d5_elim h
  obtain ⟨x0_0,x0_1,x0_2,x0_3,x0_4,rfl,h⟩:=h
  replace h:=dI_elim h
  obtain ⟨a1,rfl,h⟩:=h
  replace h:=dI_elim h
  obtain ⟨a2,rfl,h⟩:=h
  replace h:=dI_elim h
  obtain ⟨a3,rfl,h⟩:=h
  replace h:=dI_elim h
  obtain ⟨a4,rfl,h⟩:=h
  replace h:=dI_elim h
  obtain ⟨a5,rfl,h⟩:=h
  exact TabSem.congr (valL_cons (asCells_val hl1) rfl) (esm okQ1 Try.func21 rfl (c21 h))
 ·replace h:=d1_elim h
  obtain ⟨x0,rfl,h⟩:=h
  replace h:=dC_elim h
  obtain ⟨l1,hl1,h⟩:=h
  replace h:=d5_elim h
  obtain ⟨x0_0,x0_1,x0_2,x0_3,x0_4,rfl,h⟩:=h
  replace h:=dI_elim h
  obtain ⟨a1,rfl,h⟩:=h
  replace h:=dI_elim h
  obtain ⟨a2,rfl,h⟩:=h
  replace h:=dI_elim h
  obtain ⟨a3,rfl,h⟩:=h
  replace h:=dI_elim h
  obtain ⟨a4,rfl,h⟩:=h
  replace h:=dI_elim h
  obtain ⟨a5,rfl,h⟩:=h
  exact TabSem.congr (valL_cons (asCells_val hl1) rfl) (esm okQ3 Try.func24 rfl (c24 h))
 ·replace h:=d1_elim h
  obtain ⟨x0,rfl,h⟩:=h
  replace h:=dS_elim h
  obtain ⟨b1,l2,c3,rfl,h⟩:=h
  obtain ⟨zs,g0,g1,h⟩:=h
  exact TabSem.congr (valL_cons rfl rfl) (esm okQ2 Try.func25 rfl (c25 g0 g1 h))
 ·exact h.elim
noncomputable def QG:Cx:={ P:=Try.prog,inl:=fun f=>List.contains [] f,tab:=tabTGp,isB:=fun f=>f==19||f==22||f==23,tabB:=tabTG,opt:={ unroll:=0,carry:=[] },muts:=(fun o=>match o with | .buildSlice .. =>true| .call { args:=#[.tmp 29,.tmp 30,.tmp 34],.. }=>true| .call { args:=#[.tmp 54,.tmp 55,.tmp 57],.. }=>true|o=>mutsD o) }
theorem okQG:CxOK QG:=CxOK.four tabTGp_ok (by kernel_rfl) (okInl (by kernel_rfl)) tabTG_ok
theorem c9 {a1:Int} {b2:Option Addr} {l3:Nat} {c4:Nat} {a5:Int} {a6:Int} {a7:Int} {a8:Int} {a9:Int} {a10:Int} {zs:List Int} (h0:Bs E b2 l3 c4 zs) (h:∀ (b':Option Addr) (l' c':Nat) (ms:List (Int×List Int)) (e:Int) (E':Mem),Mem.le E E'->Hyp (takeF a5 a1 zs a6 a7 a8 a9 a10=(ms,e))->FL E' b' l' c' ms->K (.tup [L b' l' c',I e]) E'):
  Ent QG 8 Try.f9 [.agg [I a1,L b2 l3 c4],I a5,.agg [I a6,I a7,I a8,I a9,I a10]] E K:=by
 refine sm_ (?_:∃ (zs:List Int),Bs E b2 l3 c4 zs/\(∀ (e:Int) (E':Mem),Mem.le E E'->Hyp (heldF a5 a1 zs=(([],(0:Int)),e))->Hyp (e≠(0:Int))->Mem.le E E'/\∃ (e_1:Int),[SV.ifc 29 (I e)]=[SV.ifc 29 (I e_1)]/\((1:Int)<=e_1/\e_1<=(16:Int))/\Mem.le E' E'/\Mem.le E E'/\K (SV.tup [L none 0 0,I e_1]) E')/\∀ (xs:List (List Int)) (cnt:Int) (m cap tot:Nat) (js:List Value) (E':Mem),Mem.le E E'->Hyp (heldF a5 a1 zs=((xs,cnt),(0:Int)))->StAt [⟨58,.lst [I a5,SV.slc 1 0 m cap,I cnt],3,true⟩,⟨26,.vals (vR xs++js),tot,true⟩] 0 1 a5 cnt m cap tot xs js->(∀ (v:Value),List.Mem v js->Value.oneCell' v=true)->Mem.le E E'/\Mem.le E' E'/\bif !okR a6 a7 a8 a9 a10 then Mem.le E E'/\K (SV.tup [L none 0 0,I 1]) E' else ∃ (s:Nat),∃ (h:Nat),∃ (me:Int),∃ (cnt_1:Int),∃ (o:Int),∃ (n:Int),∃ (m_1:Nat),∃ (cap_1:Nat),∃ (tot_1:Nat),∃ (xs_1:List (List Int)),∃ (js_1:List Value),[SV.loc 2 0,I a6,I a7]=[SV.loc s 0,I o,I n]/\StAt [⟨24,.lst [I a1,L b2 l3 c4],2,true⟩,⟨26,.lst [I a6,I a7,I a8,I a9,I a10],5,true⟩,⟨58,.lst [I a5,SV.slc 3 0 m cap,I cnt],3,true⟩,⟨26,.vals (vR xs++js),tot,true⟩] s h me cnt_1 m_1 cap_1 tot_1 xs_1 js_1/\bif decide (idxR o n xs_1>=(0:Int)) then Mem.le E E'/\K (SV.tup [L none 0 0,I 5]) E' else bif a6==a5 then bif bif true then decide (a7<=cnt) else false then Mem.le E E'/\K (SV.tup [L none 0 0,I 14]) E' else bif (NI m)==16 then Mem.le E E'/\K (SV.tup [L none 0 0,I 10]) E' else ∀ (b':Option Addr) (l' c':Nat) (ys:List Int) (E'_1:Mem),Mem.le E' E'_1->Hyp (ys=recB [(1:Int),a6,a7,a8,a9,a10])->Bs E'_1 b' l' c' ys->Mem.le E' E'_1/\∃ (tot_2:Nat),∃ (xs_2:List (List Int)),∃ (js_2:List Value),∃ (zs:List Int),∃ (ds:List Int),Bs E'_1 b2 l3 c4 zs/\Bs E'_1 b' l' c' ds/\l'<=60000/\StAt [⟨24,.lst [I a1,L b2 l3 c4],2,true⟩,⟨26,.lst [I a6,I a7,I a8,I a9,I a10],5,true⟩,⟨58,.lst [I a5,SV.slc 3 0 m cap,I cnt],3,true⟩,⟨26,.vals (vR xs++js),tot,true⟩] 2 3 a5 cnt m cap tot_2 xs_2 js_2/\(∀ (v:Value),List.Mem v js_2->Value.oneCell' v=true)/\∀ (b':Option Addr) (l' c':Nat) (ms:List (Int×List Int)) (e:Int) (E':Mem),Mem.le E'_1 E'->Hyp (writeF a5 a1 zs (xs_2,cnt) ds=(ms,e))->FL E' b' l' c' ms->Sx.Alike al2 (Mem.le E E'/\K (SV.tup [L b' l' c',I e]) E') else bif (NI m)==16 then Mem.le E E'/\K (SV.tup [L none 0 0,I 10]) E' else ∀ (b':Option Addr) (l' c':Nat) (ys:List Int) (E'_1:Mem),Mem.le E' E'_1->Hyp (ys=recB [(1:Int),a6,a7,a8,a9,a10])->Bs E'_1 b' l' c' ys->Mem.le E' E'_1/\∃ (tot_2:Nat),∃ (xs_2:List (List Int)),∃ (js_2:List Value),∃ (zs:List Int),∃ (ds:List Int),Bs E'_1 b2 l3 c4 zs/\Bs E'_1 b' l' c' ds/\l'<=60000/\StAt [⟨24,.lst [I a1,L b2 l3 c4],2,true⟩,⟨26,.lst [I a6,I a7,I a8,I a9,I a10],5,true⟩,⟨58,.lst [I a5,SV.slc 3 0 m cap,I cnt],3,true⟩,⟨26,.vals (vR xs++js),tot,true⟩] 2 3 a5 cnt m cap tot_2 xs_2 js_2/\(∀ (v:Value),List.Mem v js_2->Value.oneCell' v=true)/\∀ (b':Option Addr) (l' c':Nat) (ms:List (Int×List Int)) (e:Int) (E':Mem),Mem.le E'_1 E'->Hyp (writeF a5 a1 zs (xs_2,cnt) ds=(ms,e))->FL E' b' l' c' ms->Sx.Alike al2 (Mem.le E E'/\K (SV.tup [L b' l' c',I e]) E'))
 delta NI
 have nil:∀ (e:Int) (E':Mem),Mem.le E E'->takeF a5 a1 zs a6 a7 a8 a9 a10=([],e)->K (.tup [L none 0 0,I e]) E':=fun e E' k q=>h none 0 0 [] e E' k q (FL.nil E')
 refine ⟨zs,h0,fun e E1 k1 q1 q2=>⟨k1,e,rfl,?_,mr_,k1,nil e E1 k1 ?_⟩,fun xs cnt m cap tot js E1 k1 q1 S hj=>⟨k1,mr_,?_⟩⟩
 ·have:=held_codes q1
  have q2:e≠0:=q2
  omega
 ·unfold takeF
  rw [show heldF a5 a1 zs=(([],0),e) from q1];exact if_pos q2
 have q1:heldF a5 a1 zs=((xs,cnt),0):=q1
 have hm:=S.len
 have st:takeF a5 a1 zs a6 a7 a8 a9 a10=if okR a6 a7 a8 a9 a10=false then ([],1) else if 0<=idxR a6 a7 xs then ([],5) else if a6=a5/\a7<=cnt then ([],14) else if xs.length=16 then ([],10) else writeF a5 a1 zs (xs,cnt) (recB [1,a6,a7,a8,a9,a10]):=by
  unfold takeF
  rw [q1]
  exact if_neg (by simp)
 refine condC (fun g=>⟨k1,nil 1 E1 k1 (by rw [st,if_pos (by simpa using g)])⟩) (fun g=>?_)
 have g:okR a6 a7 a8 a9 a10=true:=by simpa using g
 rw [if_neg (by rw [g];simp)] at st
 refine ⟨2,3,a5,cnt,_,_,m,cap,tot,xs,js,rfl,⟨rfl,rfl,by decide,S.w5,S.len,S.le,S.room⟩,condC (fun g2=>⟨k1,nil 5 E1 k1 (by rw [st,if_pos (by simpa using g2)])⟩) (fun g2=>?_)⟩
 have g2:¬ 0<=idxR a6 a7 xs:=by simpa using g2
 rw [if_neg g2] at st
 have last:¬ (a6=a5/\a7<=cnt)->∀ {B:Prop},(¬ (m:Int)=16->B)->((m:Int)=16->takeF a5 a1 zs a6 a7 a8 a9 a10=([],10))->(bif (m:Int)==(16:Int) then (Mem.le E E1/\K (.tup [L none 0 0,I 10]) E1) else B):=fun _ B hb hf=>condC (fun w=>⟨k1,nil 10 E1 k1 (hf (by simpa using w))⟩) (fun w=>hb (by simpa using w))
 have full:¬ (a6=a5/\a7<=cnt)->(m:Int)=16->takeF a5 a1 zs a6 a7 a8 a9 a10=([],10):=fun w v=>by rw [st,if_neg w,if_pos (by omega)]
 have rest:¬ (a6=a5/\a7<=cnt)->¬ (m:Int)=16->takeF a5 a1 zs a6 a7 a8 a9 a10=writeF a5 a1 zs (xs,cnt) (recB [1,a6,a7,a8,a9,a10]):=fun w v=>by rw [st,if_neg w,if_neg (by omega)]
 have rl:=recB_len [1,a6,a7,a8,a9,a10]
 refine condC (fun g3=>condC (fun g4=>?_) (fun g4=>?_)) (fun g3=>?_)
 ·have g3:a6=a5:=by simpa using g3
  have g4:a7<=cnt:=by simpa using g4
  exact ⟨k1,nil 14 E1 k1 (by rw [st,if_pos ⟨g3,g4⟩])⟩
 ·have g4:¬ a7<=cnt:=by simpa using g4
  have w:¬ (a6=a5/\a7<=cnt):=fun q=>g4 q.2
  refine last w (fun v=>?_) (full w)
  refine fun b' l' c' ys E2 k2 z1 z2=>⟨k2,tot,xs,js,zs,ys,h0.mono (mt_ k1 k2),z2,?_,⟨rfl,rfl,by decide,S.w5,S.len,S.le,S.room⟩,hj,fun b3 l3 c3 ms e E3 k3 z3 z4=>alike ⟨mt_ k1 (mt_ k2 k3),h b3 l3 c3 ms e E3 (mt_ k1 (mt_ k2 k3)) ?_ z4⟩⟩
  ·have:=z2.2.1
   rw [show ys=recB [1,a6,a7,a8,a9,a10] from z1] at this
   simp at rl;omega
  ·show takeF a5 a1 zs a6 a7 a8 a9 a10=_
   rw [rest w v,← show ys=recB [1,a6,a7,a8,a9,a10] from z1];exact z3
 ·have g3:¬ a6=a5:=by simpa using g3
  have w:¬ (a6=a5/\a7<=cnt):=fun q=>g3 q.1
  refine last w (fun v=>?_) (full w)
  refine fun b' l' c' ys E2 k2 z1 z2=>⟨k2,tot,xs,js,zs,ys,h0.mono (mt_ k1 k2),z2,?_,⟨rfl,rfl,by decide,S.w5,S.len,S.le,S.room⟩,hj,fun b3 l3 c3 ms e E3 k3 z3 z4=>alike ⟨mt_ k1 (mt_ k2 k3),h b3 l3 c3 ms e E3 (mt_ k1 (mt_ k2 k3)) ?_ z4⟩⟩
  ·have:=z2.2.1
   rw [show ys=recB [1,a6,a7,a8,a9,a10] from z1] at this
   simp at rl;omega
  ·show takeF a5 a1 zs a6 a7 a8 a9 a10=_
   rw [rest w v,← show ys=recB [1,a6,a7,a8,a9,a10] from z1];exact z3
theorem c11 {a1:Int} {b2:Option Addr} {l3:Nat} {c4:Nat} {a5:Int} {a6:Int} {a7:Int} {zs:List Int} (h0:Bs E b2 l3 c4 zs) (h:∀ (b':Option Addr) (l' c':Nat) (ms:List (Int×List Int)) (e:Int) (E':Mem),Mem.le E E'->Hyp (giveF a5 a1 zs a6 a7=(ms,e))->FL E' b' l' c' ms->K (.tup [L b' l' c',I e]) E'):
  Ent QG 8 Try.f11 [.agg [I a1,L b2 l3 c4],I a5,I a6,I a7] E K:=by
 refine sm_ (?_:∃ (zs:List Int),Bs E b2 l3 c4 zs/\(∀ (e:Int) (E':Mem),Mem.le E E'->Hyp (heldF a5 a1 zs=(([],(0:Int)),e))->Hyp (e≠(0:Int))->Mem.le E E'/\∃ (e_1:Int),[SV.ifc 29 (I e)]=[SV.ifc 29 (I e_1)]/\((1:Int)<=e_1/\e_1<=(16:Int))/\Mem.le E' E'/\Mem.le E E'/\K (SV.tup [L none 0 0,I e_1]) E')/\∀ (xs:List (List Int)) (cnt:Int) (m cap tot:Nat) (js:List Value) (E':Mem),Mem.le E E'->Hyp (heldF a5 a1 zs=((xs,cnt),(0:Int)))->StAt [⟨58,Row.lst [I a5,SV.slc 1 0 m cap,I cnt],3,true⟩,⟨26,Row.vals (vR xs++js),tot,true⟩] 0 1 a5 cnt m cap tot xs js->(∀ (v:Value),List.Mem v js->Value.oneCell' v=true)->Mem.le E E'/\∃ (s:Nat),∃ (h:Nat),∃ (me:Int),∃ (cnt_1:Int),∃ (o:Int),∃ (n:Int),∃ (m_1:Nat),∃ (cap_1:Nat),∃ (tot_1:Nat),∃ (xs_1:List (List Int)),∃ (js_1:List Value),[SV.loc 1 0,I a6,I a7]=[SV.loc s 0,I o,I n]/\StAt [⟨24,Row.lst [I a1,L b2 l3 c4],2,true⟩,⟨58,Row.lst [I a5,SV.slc 2 0 m cap,I cnt],3,true⟩,⟨26,Row.vals (vR xs++js),tot,true⟩] s h me cnt_1 m_1 cap_1 tot_1 xs_1 js_1/\bif decide (idxR o n xs_1<(0:Int)) then Mem.le E E'/\K (SV.tup [L none 0 0,I (4:Int)]) E' else Sx.Alike (AlikeT.n AlikeT.l al2) (∀ (base:Option Addr) (E'_1:Mem),Mem.le E' E'_1->WinE E'_1 base [Value.int IntKind.i64 (2:Int),Value.int IntKind.i64 a6,Value.int IntKind.i64 a7]->∃ (zs:List Int),SL (RK IntKind.i64 1) E'_1 (Option.map (fun (x:Addr)=>Addr.add x 0) base) 3 3 (List.map (fun (z:Int)=>[z]) zs)/\3<=100/\∀ (b':Option Addr) (l' c':Nat) (ys:List Int) (E':Mem),Mem.le E'_1 E'->Hyp (ys=recB zs)->Bs E' b' l' c' ys->∃ (tot_2:Nat),∃ (xs_2:List (List Int)),∃ (js_2:List Value),∃ (zs:List Int),∃ (ds:List Int),Bs E' b2 l3 c4 zs/\Bs E' b' l' c' ds/\l'<=60000/\StAt [⟨24,Row.lst [I a1,L b2 l3 c4],2,true⟩,⟨58,Row.lst [I a5,SV.slc 2 0 m cap,I cnt],3,true⟩,⟨26,Row.vals (vR xs++js),tot,true⟩,⟨3,Row.lst [I (2:Int),I a6,I a7],3,false⟩] 1 2 a5 cnt m cap tot_2 xs_2 js_2/\(∀ (v:Value),List.Mem v js_2->Value.oneCell' v=true)/\∀ (b':Option Addr) (l' c':Nat) (ms:List (Int×List Int)) (e:Int) (E'_2:Mem),Mem.le E' E'_2->Hyp (writeF a5 a1 zs (xs_2,cnt) ds=(ms,e))->FL E'_2 b' l' c' ms->Sx.Alike al2 (Mem.le E E'_2/\K (SV.tup [L b' l' c',I e]) E'_2)))
 have nil:∀ (e:Int) (E':Mem),Mem.le E E'->giveF a5 a1 zs a6 a7=([],e)->K (.tup [L none 0 0,I e]) E':=fun e E' k q=>h none 0 0 [] e E' k q (FL.nil E')
 refine ⟨zs,h0,fun e E1 k1 q1 q2=>⟨k1,e,rfl,?_,mr_,k1,nil e E1 k1 ?_⟩,fun xs cnt m cap tot js E1 k1 q1 S hj=>⟨k1,?_⟩⟩
 ·have:=held_codes q1
  have q2:e≠0:=q2
  omega
 ·unfold giveF
  rw [show heldF a5 a1 zs=(([],0),e) from q1];exact if_pos q2
 have q1:heldF a5 a1 zs=((xs,cnt),0):=q1
 have st:giveF a5 a1 zs a6 a7=if idxR a6 a7 xs<0 then ([],4) else writeF a5 a1 zs (xs,cnt) (recB [2,a6,a7]):=by
  unfold giveF
  rw [q1]
  exact if_neg (by simp)
 refine ⟨1,2,a5,cnt,_,_,m,cap,tot,xs,js,rfl,⟨rfl,rfl,by decide,S.w5,S.len,S.le,S.room⟩,condC (fun g2=>⟨k1,nil 4 E1 k1 (by rw [st,if_pos (by simpa using g2)])⟩) (fun g2=>?_)⟩
 have g2:¬ idxR a6 a7 xs<0:=by simpa using g2
 rw [if_neg g2] at st
 have rl:=recB_len [2,a6,a7]
 refine alike fun base E2 k2 w=>⟨[2,a6,a7],SL.win (RK_ok .i64 (by decide)) w (rs:=([2,a6,a7].map fun z=>[z]).map fun x=>x.map (Value.int .i64)) rfl (SLr_RK (fun x hx=>by obtain ⟨z,_,rfl⟩:=List.mem_map.1 hx;rfl)) rfl (Nat.le_refl _),by decide,fun b' l' c' ys E3 k3 z1 z2=>⟨tot,xs,js,zs,ys,h0.mono (mt_ k1 (mt_ k2 k3)),z2,?_,⟨rfl,rfl,by decide,S.w5,S.len,S.le,S.room⟩,hj,fun b3 l3 c3 ms e E4 k4 z3 z4=>alike ⟨mt_ (mt_ k1 (mt_ k2 k3)) k4,h b3 l3 c3 ms e E4 (mt_ (mt_ k1 (mt_ k2 k3)) k4) ?_ z4⟩⟩⟩
 ·have:=z2.2.1
  rw [show ys=recB [2,a6,a7] from z1] at this
  simp at rl;omega
 ·show giveF a5 a1 zs a6 a7=_
  rw [st,← show ys=recB [2,a6,a7] from z1];exact z3
structure FmOK (a b s':Int) (ys:List Int) (e:Int):Prop where
 eq:formatF a b=((s',ys),e)
theorem j11u {a1 a2:Int} (h:∀ (s':Int) (b':Option Addr) (l' c':Nat) (ys:List Int) (e:Int) (E':Mem),Mem.le E E'->FmOK a1 a2 s' ys e->Bs E' b' l' c' ys->K (.tup [.agg [I s',L b' l' c'],I e]) E'):Ent KL 8 Try.f26 [I a1,I a2] E K:=j11 fun s' b' l' c' ys e E' k q hB=>h s' b' l' c' ys e E' k ⟨q⟩ hB
def lastF (f:Int×List Int) (ms:List (Int×List Int)) (e:Int):Int×List Int:=if e≠0\/ms=[] then f else lastM ms
theorem write_num (me s:Int) (zs:List Int) (st:List (List Int)×Int) (b:List Int):(writeF me s zs st b).1.length<=40000:=by
 unfold writeF
 split
 ·split
  ·exact Nat.zero_le _
  ·split
   ·exact Nat.zero_le _
   ·exact compact_num s zs _
 ·exact append_num s zs b
theorem take_num (me s:Int) (zs:List Int) (o n k v a:Int):(takeF me s zs o n k v a).1.length<=40000:=by
 unfold takeF
 repeat' split
 all_goals first|exact Nat.zero_le _|exact write_num ..
theorem give_num (me s:Int) (zs:List Int) (o n:Int):(giveF me s zs o n).1.length<=40000:=by
 unfold giveF
 repeat' split
 all_goals first|exact Nat.zero_le _|exact write_num ..
noncomputable def tab26u:FuncId->List SV->Mem->(SV->Mem->Prop)->Prop:=fun f args E K=>match f with
 | 26=>d2 args fun x0 x1=>dI x0 fun a1=>dI x1 fun a2=>(∀ (s':Int) (b':Option Addr) (l' c':Nat) (ys:List Int) (e:Int) (E':Mem),Mem.le E E'->FmOK a1 a2 s' ys e->Bs E' b' l' c' ys->K (.tup [.agg [I s',L b' l' c'],I e]) E')
 | _=>False
theorem tab26u_ok:TabOK Try.prog tab26u:=by
 intro f args E K h
 unfold tab26u at h
 split at h
 ·replace h:=d2_elim h
  obtain ⟨x0,x1,rfl,h⟩:=h
  replace h:=dI_elim h
  obtain ⟨a1,rfl,h⟩:=h
  replace h:=dI_elim h
  obtain ⟨a2,rfl,h⟩:=h
  exact TabSem.congr (valL_cons rfl (valL_cons rfl rfl)) (esm okKL Try.func26 rfl (j11u h))
 ·exact h.elim
noncomputable def QH:Cx:={ P:=Try.prog,inl:=fun f=>List.contains [] f,tab:=tab26u,isB:=fun _=>false,tabB:=fun _ _ _ _ _=>False,opt:={ unroll:=0,carry:=[] },muts:=mutsD }
theorem okQH:CxOK QH:=CxOK.four tab26u_ok (by kernel_rfl) (okInl (by kernel_rfl)) (fun _ _ _ _ _ h=>h.elim)
theorem c13 (h:∀ (s':Int) (b':Option Addr) (l' c':Nat) (ys:List Int) (e:Int) (E':Mem),Mem.le E E'->FmOK 512 4 s' ys e->Bs E' b' l' c' ys->K (.tup [.agg [I s',L b' l' c'],I e]) E'):
  Ent QH 8 Try.f13 [] E K:=by
 refine sm_ (?_:∀ (s':Int) (b':Option Addr) (l' c':Nat) (ys:List Int) (e:Int) (E':Mem),Mem.le E E'->FmOK (512:Int) (4:Int) s' ys e->Bs E' b' l' c' ys->Mem.le E E'/\Mem.le E E'/\K (SV.tup [SV.agg [I s',L b' l' c'],I e]) E')
 exact fun s' b' l' c' ys e E' k q hB=>⟨k,k,h s' b' l' c' ys e E' k q hB⟩
noncomputable def QI:Cx:={ P:=Try.prog,inl:=fun f=>List.contains [] f,tab:=fun _ _ _ _=>False,isB:=fun _=>false,tabB:=fun _ _ _ _ _=>False,opt:={ unroll:=0,carry:=[] },muts:=mutsD }
theorem okQI:CxOK QI:=CxOK.four (fun _ _ _ _ h=>h.elim) (by kernel_rfl) (okInl (by kernel_rfl)) (fun _ _ _ _ _ h=>h.elim)
theorem c18 {a1:Int} {b2:Option Addr} {l3:Nat} {c4:Nat} {b5:Option Addr} {l6:Nat} {c7:Nat} {a8:Int} {zs:List Int} {ms:List (Int×List Int)} (h0:Bs E b2 l3 c4 zs) (h1:FL E b5 l6 c7 ms) (h2:l6<=100000) (h:∀ (s':Int) (b':Option Addr) (l' c':Nat) (ys:List Int) (E':Mem),Mem.le E E'->Hyp (lastF (a1,zs) ms a8=(s',ys))->Bs E' b' l' c' ys->K (.agg [I s',L b' l' c']) E'):
  Ent QI 8 Try.f18 [.agg [I a1,L b2 l3 c4],L b5 l6 c7,I a8] E K:=by
 refine sm_ (?_:bif a8 !=(0:Int) then Mem.le E E/\K (SV.agg [I a1,L b2 l3 c4]) E else bif bif false then true else (NI l6)==0 then Mem.le E E/\K (SV.agg [I a1,L b2 l3 c4]) E else req ((0:Int)<=WI ((NI l6)-1)/\WI ((NI l6)-1)<(NI l6)) ((∃ (cs:List Value),E (VS b5 l6 c7) cs/\(cs=[]->False))/\∃ (n:Int),∃ (base:Option Addr),∃ (len:Nat),∃ (cap:Nat),LoadE QI.P E 24 (VS b5 l6 c7) (Int.toNat (WI ((NI l6)-1))*2) (SV.agg [I n,L base len cap])/\Mem.le E E/\K (SV.agg [I n,L base len cap]) E))
 delta WI NI VS
 have hl:=h1.len
 refine condC (fun g=>⟨mr_,h _ _ _ _ zs E mr_ (by show lastF _ _ _=_;unfold lastF;exact if_pos (.inl (by simpa using g))) h0⟩) (fun g=>condC (fun g2=>⟨mr_,h _ _ _ _ zs E mr_ (by show lastF _ _ _=_;unfold lastF;exact if_pos (.inr (List.length_eq_zero_iff.1 (by simp at g2;omega)))) h0⟩) (fun g2=>?_))
 have g:a8=0:=by simpa using g
 have g2:0<l6:=by simp at g2;omega
 rw [wrap_i64 (x:=(l6:Int)-1) (by omega),show Int.toNat ((l6:Int)-1)=ms.length-1 by omega]
 obtain ⟨m,hm⟩:∃ m,ms[ms.length-1]? =some m:=⟨_,List.getElem?_eq_getElem (by omega)⟩
 obtain ⟨x1,b',l',c',x2,x3⟩:=h1.load hm
 refine req_intro (by omega) ⟨x1,m.1,b',l',c',x2,mr_,h m.1 b' l' c' m.2 E mr_ ?_ x3⟩
 show lastF _ _ _=_
 unfold lastF
 rw [if_neg (fun q=>q.elim (fun q=>q g) (fun q=>by rw [q] at hl;simp at hl;omega))]
 unfold lastM
 rw [List.getLastD_eq_getLast?,List.getLast?_eq_getElem?,hm];rfl
noncomputable def tab8u:FuncId->List SV->Mem->(SV->Mem->Prop)->Prop:=fun f args E K=>match f with
 | 8=>d2 args fun x0 x1=>dC x0 fun l1=>d2 l1 fun x0_0 x0_1=>dI x0_0 fun a1=>dS x0_1 fun b2 l3 c4=>dI x1 fun a5=>∃ (zs:List Int),Bs E b2 l3 c4 zs/\(∀ (b':Option Addr) (l' c':Nat) (xs:List (List Int)) (cnt e:Int) (E':Mem),Mem.le E E'->Hyp (heldF a5 a1 zs=((xs,cnt),e))->SL (RK .i64 5) E' b' l' c' xs->l'<=16->K (.tup [L b' l' c',I cnt,I e]) E')
 | 27=>d2 args fun x0 x1=>dS x0 fun b1 l2 c3=>dS x1 fun b4 l5 c6=>∃ (xs:List (List Int)) (ys:List (List Int)),SL (RK .i64 5) E b1 l2 c3 xs/\SL (RK .i64 5) E b4 l5 c6 ys/\l2<=1000000/\(K (B (decide (xs=ys))) E)
 | _=>False
theorem tab8u_ok:TabOK Try.prog tab8u:=by
 intro f args E K h
 unfold tab8u at h
 split at h
 ·replace h:=d2_elim h
  obtain ⟨x0,x1,rfl,h⟩:=h
  replace h:=dC_elim h
  obtain ⟨l1,hl1,h⟩:=h
  replace h:=d2_elim h
  obtain ⟨x0_0,x0_1,rfl,h⟩:=h
  replace h:=dI_elim h
  obtain ⟨a1,rfl,h⟩:=h
  replace h:=dS_elim h
  obtain ⟨b2,l3,c4,rfl,h⟩:=h
  replace h:=dI_elim h
  obtain ⟨a5,rfl,h⟩:=h
  obtain ⟨zs,g0,h⟩:=h
  exact TabSem.congr (valL_cons (asCells_val hl1) (valL_cons rfl rfl)) (esm okQE Try.func8 rfl (c8 g0 h))
 ·replace h:=d2_elim h
  obtain ⟨x0,x1,rfl,h⟩:=h
  replace h:=dS_elim h
  obtain ⟨b1,l2,c3,rfl,h⟩:=h
  replace h:=dS_elim h
  obtain ⟨b4,l5,c6,rfl,h⟩:=h
  obtain ⟨xs,ys,g0,g1,g2,h⟩:=h
  exact TabSem.congr (valL_cons rfl (valL_cons rfl rfl)) (esm okQ9 Try.func27 rfl (c27 g0 g1 g2 h))
 ·exact h.elim
noncomputable def QJ:Cx:={ P:=Try.prog,inl:=fun f=>List.contains [] f,tab:=tab8u,isB:=fun _=>false,tabB:=fun _ _ _ _ _=>False,opt:={ unroll:=0,carry:=[] },muts:=mutsD }
theorem okQJ:CxOK QJ:=CxOK.four tab8u_ok (by kernel_rfl) (okInl (by kernel_rfl)) (fun _ _ _ _ _ h=>h.elim)
theorem c17 {a1:Int} {b2:Option Addr} {l3:Nat} {c4:Nat} {a5:Int} {b6:Option Addr} {l7:Nat} {c8:Nat} {a9:Int} {zs:List Int} {want:List (List Int)} (h0:Bs E b2 l3 c4 zs) (h1:SL (RK .i64 5) E b6 l7 c8 want) (h:∀ E':Mem,Mem.le E E'->K (B (decide (heldF a5 a1 zs=((want,a9),0)))) E'):
  Ent QJ 8 Try.f17 [.agg [I a1,L b2 l3 c4],I a5,L b6 l7 c8,I a9] E K:=by
 refine sm_ (?_:∃ (zs:List Int),Bs E b2 l3 c4 zs/\∀ (b':Option Addr) (l' c':Nat) (xs:List (List Int)) (cnt e:Int) (E':Mem),Mem.le E E'->Hyp (heldF a5 a1 zs=((xs,cnt),e))->SL (RK IntKind.i64 5) E' b' l' c' xs->l'<=16->Mem.le E E'/\bif e==(0:Int) then ∃ (xs:List (List Int)),∃ (ys:List (List Int)),SL (RK IntKind.i64 5) E' b' l' c' xs/\SL (RK IntKind.i64 5) E' b6 l7 c8 ys/\l'<=1000000/\Mem.le E' E'/\bif bif true then decide (xs=ys) else false then Mem.le E E'/\K (B (bif true then cnt==a9 else false)) E' else Mem.le E E'/\K (B false) E' else Mem.le E E'/\K (B false) E')
 refine ⟨zs,h0,fun b' l' c' xs cnt e E1 k1 q1 q2 q3=>⟨k1,?_⟩⟩
 have q1:heldF a5 a1 zs=((xs,cnt),e):=q1
 have r:=h E1 k1
 rw [q1] at r
 refine condC (fun g=>⟨xs,want,q2,h1.mono (RK_ok .i64 (by decide)) k1,by omega,mr_,condC (fun g2=>⟨k1,?_⟩) (fun g2=>⟨k1,?_⟩)⟩) (fun g=>⟨k1,?_⟩)
 ·have g:e=0:=by simpa using g
  have g2:xs=want:=by simpa using g2
  subst g;subst g2
  have :decide (((xs,cnt),(0:Int))=((xs,a9),0))=(cnt==a9):=by rw [Bool.eq_iff_iff];simp
  rw [this] at r;exact r
 ·have g2:xs≠want:=by simpa using g2
  rw [decide_eq_false (by simp [g2])] at r;exact r
 ·have g:e≠0:=by simpa using g
  rw [decide_eq_false (by simp [g])] at r;exact r
structure SI (me s:Int) (zs:List Int) (st:List (List Int)×Int) (k:Nat):Prop where
 hm:0<=me/\me<=59
 ex:∃ ls a g,Jo s zs ls a g 1024/\Er zs (a+5+needF ls) (a+1024)/\foldF me ls ([],0)=some st/\g<=k
theorem SI.held {me s:Int} {zs:List Int} {st:List (List Int)×Int} {k:Nat} (h:SI me s zs st k):heldF me s zs=(st,0):=by
 obtain ⟨ls,a,g,J,_,hf,_⟩:=h.ex
 exact held_of h.hm J.read hf
theorem SI.inv {me s:Int} {zs:List Int} {st:List (List Int)×Int} {k:Nat} (h:SI me s zs st k):Inv me st:=held_inv h.held
theorem needF_le {n:Nat}:∀ {ls:List (List Int)},(∀ d∈ls,d.length<=n)->needF ls<=ls.length*(n+11)
 | [],_=>by simp [needF]
 | d::ls,h=>by
  have h1:=needF_le fun x hx=>h x (List.mem_cons_of_mem _ hx)
  have h2:=h d (by simp)
  rw [needF_cons,List.length_cons,Nat.succ_mul]
  omega
theorem keep_need {me:Int} {st:List (List Int)×Int} (I:Inv me st):5+needF (keepF st)<=1024:=by
 obtain ⟨_,h1,h2⟩:=keep_sm I
 have:=needF_le h1
 have :(keepF st).length*(42+11)<=17*(42+11):=Nat.mul_le_mul_right _ h2
 omega
theorem SI.write {me s:Int} {zs b l:List Int} {st st':List (List Int)×Int} {k:Nat} (h:SI me s zs st k) (hb:numsF b=some l) (ha:appF me st l=some st') (hd:b.length<65536/\∀ x∈b,0<=x/\x<=255) (hk:k<4294967295):
  ∃ X w,writeF me s zs st b=(X++[(s,w)],0)/\SI me s w st' (k+1):=by
 obtain ⟨ls,a,g,J,he,hf,hg⟩:=h.ex
 have I':=(h.inv.app ha).1
 rcases J.clean_append he hd with ⟨e1,_⟩|⟨_,X,w,e1,_,_,J',he'⟩
 ·have ks:=keep_sm I'
  have kn:=keep_need I'
  rcases J.compact ks.1 with ⟨_,e3⟩|⟨_,_,X,w,o,e2,_,_,_,J',he'⟩
  ·rcases e3 with e3|e3<;>omega
  ·refine ⟨X,w,?_,h.hm,keepF st',o,g+1,J',he',keep_fold I',by omega⟩
   unfold writeF
   rw [e1,if_pos rfl,hb]
   simp only [ha]
   exact e2
 ·refine ⟨X,w,?_,h.hm,ls++[b],a,g,J',he',?_,by omega⟩
  ·unfold writeF
   rw [e1,if_neg (by simp)]
  ·rw [foldF_app,hf]
   simp only [Option.bind_some,foldF,hb,ha]
theorem SI.format {me s:Int} {zs:List Int} {e:Int} (hm:0<=me/\me<=59) (h:FmOK 512 4 s zs e) (he:e=0):SI me s zs ([],0) 0:=by
 have h:=h.eq
 subst he
 have nf:newF 512 4=((512,List.replicate 2048 255),0):=by decide+kernel
 obtain ⟨rfl,hh,J,he⟩:=Jo_format h
 have e2:(zs.length:Int)=2048:=by
  rw [formatF_ok nf (by decide+kernel)] at h
  rw [← (Prod.mk.inj (Prod.mk.inj h).1).2]
  simp
 have sz:=J.sz
 have :hh=1024:=by omega
 subst this
 exact ⟨hm,[],0,0,J,by rw [show 0+5+needF []=5 from rfl,Nat.zero_add];exact he,rfl,by omega⟩
theorem fmt_zero {s:Int} {zs:List Int} {e:Int} (h:FmOK 512 4 s zs e):e=0:=by
 have h:=h.eq
 have nf:newF 512 4=((512,List.replicate 2048 255),0):=by decide+kernel
 rw [formatF_ok nf (by decide+kernel)] at h
 exact (Prod.mk.inj h).2.symm
theorem idx_any {o n:Int} {xs:List (List Int)}:(0<=idxR o n xs)↔xs.any (isN o n)=true:=by
 constructor
 ·intro h
  obtain ⟨i,x,_,h2,h3⟩:=idxR_nonneg h
  exact List.any_eq_true.2 ⟨x,List.mem_of_getElem? h2,h3⟩
 ·intro h
  obtain ⟨x,hx,hp⟩:=List.any_eq_true.1 h
  refine Int.not_lt.1 fun q=>?_
  have:=idxR_neg q x hx
  simp_all
def seqT (me:Int) (st:List (List Int)×Int) (o n k v a:Int):Int:=
 if okR o n k v a=false then 1 else if st.1.any (isN o n)=true then 5 else if o=me/\n<=st.2 then 14 else if st.1.length=16 then 10 else 0
theorem SI.take {me s:Int} {zs:List Int} {st:List (List Int)×Int} {j:Nat} {o n k v a:Int} (h:SI me s zs st j) (hj:j<4294967295):
  (seqT me st o n k v a≠0/\takeF me s zs o n k v a=([],seqT me st o n k v a))\/
  (seqT me st o n k v a=0/\∃ X w,takeF me s zs o n k v a=(X++[(s,w)],0)/\SI me s w (st.1++[[o,n,k,v,a]],if o=me then n else st.2) (j+1)):=by
 have eT:takeF me s zs o n k v a=if okR o n k v a=false then ([],1) else if 0<=idxR o n st.1 then ([],5) else if o=me/\n<=st.2 then ([],14) else if st.1.length=16 then ([],10) else writeF me s zs st (recB [1,o,n,k,v,a]):=by
  unfold takeF;rw [h.held];exact if_neg (by simp)
 unfold seqT
 by_cases q1:okR o n k v a=false
 ·rw [if_pos q1] at eT ⊢;exact .inl ⟨by decide,eT⟩
 rw [if_neg q1] at eT ⊢
 by_cases q2:0<=idxR o n st.1
 ·rw [if_pos q2] at eT;rw [if_pos (idx_any.1 q2)];exact .inl ⟨by decide,eT⟩
 rw [if_neg q2] at eT;rw [if_neg (fun w=>q2 (idx_any.2 w))]
 by_cases q3:o=me/\n<=st.2
 ·rw [if_pos q3] at eT ⊢;exact .inl ⟨by decide,eT⟩
 rw [if_neg q3] at eT ⊢
 by_cases q4:st.1.length=16
 ·rw [if_pos q4] at eT ⊢;exact .inl ⟨by decide,eT⟩
 rw [if_neg q4] at eT ⊢
 have q1:okR o n k v a=true:=by simpa using q1
 have ap:=app_take (me:=me) q1 (Int.not_le.1 q2) q4
 have em:(if o=me then mx n st.2 else st.2)=if o=me then n else st.2:=by
  split
  ·rename_i e;unfold mx;rw [if_pos (Int.not_le.1 fun w=>q3 ⟨e,w⟩)]
  ·rfl
 rw [em] at ap
 have on:=okN_take q1
 obtain ⟨X,w,e,S⟩:=h.write (nums_rec on) ap ⟨by have:=rec_len on;simp at this;omega,rec_byte on⟩ hj
 exact .inr ⟨rfl,X,w,eT.trans e,S⟩
theorem SI.give {me s:Int} {zs:List Int} {st:List (List Int)×Int} {j:Nat} {o n:Int} (h:SI me s zs st j) (hj:j<4294967295):
  (st.1.any (isN o n)=false/\giveF me s zs o n=([],4))\/
  (st.1.any (isN o n)=true/\∃ X w,giveF me s zs o n=(X++[(s,w)],0)/\SI me s w (st.1.filter fun x=> !isN o n x,st.2) (j+1)):=by
 have eT:giveF me s zs o n=if idxR o n st.1<0 then ([],4) else writeF me s zs st (recB [2,o,n]):=by
  unfold giveF;rw [h.held];exact if_neg (by simp)
 by_cases q1:idxR o n st.1<0
 ·rw [if_pos q1] at eT
  refine .inl ⟨?_,eT⟩
  cases q:st.1.any (isN o n) with
  | false=>rfl
  | true=>have:=idx_any.2 q;omega
 ·rw [if_neg q1] at eT
  have q2:0<=idxR o n st.1:=Int.not_lt.1 q1
  obtain ⟨i,x,ei,hx,hp⟩:=idxR_nonneg q2
  have px:=isN_iff.1 hp
  have okx:=okR_iff.1 (h.inv.ok x (List.mem_of_getElem? hx))
  rw [px.1,px.2] at okx
  have on:=okN_give ⟨okx.1,okx.2.1⟩
  have ap:=app_give (me:=me) q2
  rw [erase_filter h.inv q2] at ap
  obtain ⟨X,w,e,S⟩:=h.write (nums_rec on) ap ⟨by have:=rec_len on;simp at this;omega,rec_byte on⟩ hj
  exact .inr ⟨idx_any.1 q2,X,w,eT.trans e,S⟩
theorem last_snoc {f:Int×List Int} {X:List (Int×List Int)} {m:Int×List Int}:lastF f (X++[m]) 0=m:=by
 unfold lastF lastM
 rw [if_neg (by simp)]
 simp [List.getLastD_eq_getLast?]
def opF (me s:Int) (zs:List Int) (give:Bool) (o n k v a stop:Int):(Int×List Int)×Int:=
 if (if give then giveF me s zs o n else takeF me s zs o n k v a).2≠0\/(if give then giveF me s zs o n else takeF me s zs o n k v a).1=[] then ((s,zs),(if give then giveF me s zs o n else takeF me s zs o n k v a).2)
 else if 0<stop then ((if give then giveF me s zs o n else takeF me s zs o n k v a).1.getD (stop % ((if give then giveF me s zs o n else takeF me s zs o n k v a).1.length:Int)).toNat (0,[]),15)
 else (lastM (if give then giveF me s zs o n else takeF me s zs o n k v a).1,0)
theorem step_eq {me s:Int} {zs:List Int} {give:Bool} {o n k v a stop:Int} {ms:List (Int×List Int)} {e:Int} (h:(if give then giveF me s zs o n else takeF me s zs o n k v a)=(ms,e)):
  opF me s zs give o n k v a stop=if e≠0\/ms=[] then ((s,zs),e) else if 0<stop then (ms.getD (stop % (ms.length:Int)).toNat (0,[]),15) else (lastM ms,0):=by
 unfold opF;rw [h]
noncomputable def tab17u:FuncId->List SV->Mem->(SV->Mem->Prop)->Prop:=fun f args E K=>match f with
 | 17=>d4 args fun x0 x1 x2 x3=>dC x0 fun l1=>d2 l1 fun x0_0 x0_1=>dI x0_0 fun a1=>dS x0_1 fun b2 l3 c4=>dI x1 fun a5=>dS x2 fun b6 l7 c8=>dI x3 fun a9=>∃ (zs:List Int) (want:List (List Int)),Bs E b2 l3 c4 zs/\SL (RK .i64 5) E b6 l7 c8 want/\(∀ E':Mem,Mem.le E E'->K (B (decide (heldF a5 a1 zs=((want,a9),0)))) E')
 | _=>False
theorem tab17u_ok:TabOK Try.prog tab17u:=by
 intro f args E K h
 unfold tab17u at h
 split at h
 ·replace h:=d4_elim h
  obtain ⟨x0,x1,x2,x3,rfl,h⟩:=h
  replace h:=dC_elim h
  obtain ⟨l1,hl1,h⟩:=h
  replace h:=d2_elim h
  obtain ⟨x0_0,x0_1,rfl,h⟩:=h
  replace h:=dI_elim h
  obtain ⟨a1,rfl,h⟩:=h
  replace h:=dS_elim h
  obtain ⟨b2,l3,c4,rfl,h⟩:=h
  replace h:=dI_elim h
  obtain ⟨a5,rfl,h⟩:=h
  replace h:=dS_elim h
  obtain ⟨b6,l7,c8,rfl,h⟩:=h
  replace h:=dI_elim h
  obtain ⟨a9,rfl,h⟩:=h
  obtain ⟨zs,want,g0,g1,h⟩:=h
  exact TabSem.congr (valL_cons (asCells_val hl1) (valL_cons rfl (valL_cons rfl (valL_cons rfl rfl)))) (esm okQJ Try.func17 rfl (c17 g0 g1 h))
 ·exact h.elim
noncomputable def QK:Cx:={ P:=Try.prog,inl:=fun f=>List.contains [] f,tab:=tab17u,isB:=fun _=>false,tabB:=fun _ _ _ _ _=>False,opt:={ unroll:=0,carry:=[13] },muts:=mutsD }
theorem okQK:CxOK QK:=CxOK.four tab17u_ok (by kernel_rfl) (okInl (by kernel_rfl)) (fun _ _ _ _ _ h=>h.elim)
def us10 (b1 b5 b9:Option Addr) (l2 c3 l6 c7 l10 c11:Nat) (a4 a8 a12:Int) (i:Nat) (E:Mem):St:=⟨[oL b1 l2 c3,oI a4,oL b5 l6 c7,oI a8,oL b9 l10 c11,oI a12,none,none,none,none,none,none,none,oI (i:Nat),none,none,none,none,none,none,none,none,none,none,none,none,none,none,none,none,none,none,none,none,none,none,none,none,none,none,none,none,none,none,none,none,none,none,none,none,none,none,none,none,none,none,none,none],[],E⟩
theorem ur10 {b1 b5 b9:Option Addr} {l2 c3 l6 c7 l10 c11 i:Nat} {a4 a8 a12:Int} {ms:List (Int×List Int)} {before after:List (List Int)} {E0:Mem} (h0:FL E b1 l2 c3 ms) (h1:SL (RK .i64 5) E b5 l6 c7 before) (h2:SL (RK .i64 5) E b9 l10 c11 after) (h3:l2<=100000) (hT:(0<ms.length/\∀ (i:Nat) (m:Int×List Int),ms[i]? =some m->heldF a4 m.1 m.2=(if i+1=ms.length then (after,a12) else (before,a8),0))) (hE:Mem.le E0 E) (hi:i<=l2) (h:∀ E':Mem,Mem.le E E'->K (B true) E')
  (ih:i<l2->∀ E':Mem,Mem.le E E'->Lp QK 8 Try.f10 [1,0,1,0] 0 (pubK E0 K) (us10 b1 b5 b9 l2 c3 l6 c7 l10 c11 a4 a8 a12 (i+1) E')):Rnd QK 8 Try.f10 [1,0,1,0] 0 (pubK E0 K) (us10 b1 b5 b9 l2 c3 l6 c7 l10 c11 a4 a8 a12 i E):=by
 refine sm_ (?_:bif decide ((NI i)<(NI l2)) then req (0<=(NI i)/\(NI i)<(NI l2)) ((∃ (cs:List Value),E (VS b1 l2 c3) cs/\(cs=[]->False))/\∃ (n:Int),∃ (base:Option Addr),∃ (len:Nat),∃ (cap:Nat),LoadE QK.P E 24 (VS b1 l2 c3) (Int.toNat (NI i)*2) (SV.agg [I n,L base len cap])/\∃ (zs:List Int),∃ (want:List (List Int)),Bs E base len cap zs/\SL (RK IntKind.i64 5) E b5 l6 c7 want/\∀ (E':Mem),Mem.le E E'->Mem.le E E'/\req (0<=(NI i)/\(NI i)<(NI l2)) ((∃ (cs:List Value),E' (VS b1 l2 c3) cs/\(cs=[]->False))/\∃ (n_1:Int),∃ (base:Option Addr),∃ (len:Nat),∃ (cap:Nat),LoadE QK.P E' 24 (VS b1 l2 c3) (Int.toNat (NI i)*2) (SV.agg [I n_1,L base len cap])/\∃ (zs_1:List Int),∃ (want_1:List (List Int)),Bs E' base len cap zs_1/\SL (RK IntKind.i64 5) E' b9 l10 c11 want_1/\∀ (E'_1:Mem),Mem.le E' E'_1->Mem.le E' E'_1/\bif !decide (heldF a4 n zs=((want,a8),(0:Int))) then bif bif true then !decide (heldF a4 n_1 zs_1=((want_1,a12),(0:Int))) else false then Mem.le E0 E'_1/\K (B false) E'_1 else bif (NI i)==WI ((NI l2)-1) then bif bif false then true else bif true then !decide (heldF a4 n_1 zs_1=((want_1,a12),(0:Int))) else false then Mem.le E0 E'_1/\K (B false) E'_1 else Lp QK 8 Try.f10 [1,0,1,0] 0 (pubK E0 K) { fr:=some (L b1 l2 c3)::oI a4::oL b5 l6 c7::oI a8::oL b9 l10 c11::oI a12::no4 (no2 (none::(oI (WI ((NI i)+1))::no32 (no8 (no4 []))))),bx:=[],E:=E'_1:St } else Lp QK 8 Try.f10 [1,0,1,0] 0 (pubK E0 K) { fr:=some (L b1 l2 c3)::oI a4::oL b5 l6 c7::oI a8::oL b9 l10 c11::oI a12::no4 (no2 (none::(oI (WI ((NI i)+1))::no32 (no8 (no4 []))))),bx:=[],E:=E'_1:St } else bif (NI i)==WI ((NI l2)-1) then bif bif false then true else bif true then !decide (heldF a4 n_1 zs_1=((want_1,a12),(0:Int))) else false then Mem.le E0 E'_1/\K (B false) E'_1 else Lp QK 8 Try.f10 [1,0,1,0] 0 (pubK E0 K) { fr:=some (L b1 l2 c3)::oI a4::oL b5 l6 c7::oI a8::oL b9 l10 c11::oI a12::no4 (no2 (none::(oI (WI ((NI i)+1))::no32 (no8 (no4 []))))),bx:=[],E:=E'_1:St } else Lp QK 8 Try.f10 [1,0,1,0] 0 (pubK E0 K) { fr:=some (L b1 l2 c3)::oI a4::oL b5 l6 c7::oI a8::oL b9 l10 c11::oI a12::no4 (no2 (none::(oI (WI ((NI i)+1))::no32 (no8 (no4 []))))),bx:=[],E:=E'_1:St })) else Mem.le E0 E/\K (B (decide ((NI l2)>0))) E)
 delta WI NI VS no2 no4 no8 no32
 have hl:=h0.len
 refine condC (fun g=>?_) (fun g=>?_)
 ·have g:i<l2:=by simpa using g
  obtain ⟨m,hm⟩:∃ m,ms[i]? =some m:=⟨_,List.getElem?_eq_getElem (by omega)⟩
  have hr:=hT.2 i m hm
  obtain ⟨x1,bx,lx,cx,x2,x3⟩:=h0.load hm
  rw [wrap_i64 (x:=(l2:Int)-1) (by omega),wrap_i64 (x:=(i:Int)+1) (by omega)]
  refine req_intro (by omega) ⟨x1,m.1,bx,lx,cx,x2,m.2,before,x3,h1,fun E1 k1=>⟨k1,req_intro (by omega) ?_⟩⟩
  obtain ⟨y1,by',ly,cy,y2,y3⟩:=(h0.mono k1).load hm
  refine ⟨y1,m.1,by',ly,cy,y2,m.2,after,y3,h2.mono (RK_ok .i64 (by decide)) k1,fun E2 k2=>⟨k2,?_⟩⟩
  rw [hr]
  by_cases w:i+1=ms.length
  ·rw [if_pos w]
   refine condC (fun _=>condC (fun v=>absurd v (by simp)) (fun _=>condC (fun _=>condC (fun v=>absurd v (by simp)) (fun _=>?_)) (fun _=>?_))) (fun _=>condC (fun _=>condC (fun v=>absurd v (by simp)) (fun _=>?_)) (fun _=>?_))
   all_goals exact Lp_re [] (ih g E2 (mt_ k1 k2)) (wkG mr_)
  ·rw [if_neg w]
   refine condC (fun v=>absurd v (by simp)) (fun _=>condC (fun v=>by simp at v;omega) (fun _=>?_))
   exact Lp_re [] (ih g E2 (mt_ k1 k2)) (wkG mr_)
 ·have e:decide ((l2:Int)>0)=true:=by have:=hT.1;simp;omega
  refine ⟨hE,?_⟩
  rw [e];exact h E mr_
theorem ul10 {E:Mem} {b1 b5 b9:Option Addr} {l2 c3 l6 c7 l10 c11:Nat} {a4 a8 a12:Int} {ms:List (Int×List Int)} {before after:List (List Int)} {E0:Mem} (h0:FL E b1 l2 c3 ms) (h1:SL (RK .i64 5) E b5 l6 c7 before) (h2:SL (RK .i64 5) E b9 l10 c11 after) (h3:l2<=100000) (hT:(0<ms.length/\∀ (i:Nat) (m:Int×List Int),ms[i]? =some m->heldF a4 m.1 m.2=(if i+1=ms.length then (after,a12) else (before,a8),0))) (hE:Mem.le E0 E) (h:∀ E':Mem,Mem.le E E'->K (B true) E'):∀ {r i:Nat},i+r=l2->Lp QK 8 Try.f10 [1,0,1,0] 0 (pubK E0 K) (us10 b1 b5 b9 l2 c3 l6 c7 l10 c11 a4 a8 a12 i E)
 | 0,i,hi=>Lp_ind (ι:=Unit) okQK (fun _=>us10 b1 b5 b9 l2 c3 l6 c7 l10 c11 a4 a8 a12 i E) (fun _=>0) (fun _ _=>ur10 h0 h1 h2 h3 hT hE (by omega) h (fun g=>by omega)) ()
 | r+1,i,hi=>Lp_ind (ι:=Unit) okQK (fun _=>us10 b1 b5 b9 l2 c3 l6 c7 l10 c11 a4 a8 a12 i E) (fun _=>0) (fun _ _=>ur10 h0 h1 h2 h3 hT hE (by omega) h (fun g E1 k=>ul10 (h0.mono k) (h1.mono (RK_ok .i64 (by decide)) k) (h2.mono (RK_ok .i64 (by decide)) k) h3 hT (mt_ hE k) (fun E2 k2=>h E2 (mt_ k k2)) (r:=r) (i:=i+1) (by omega))) ()
theorem c10 {b1:Option Addr} {l2:Nat} {c3:Nat} {a4:Int} {b5:Option Addr} {l6:Nat} {c7:Nat} {a8:Int} {b9:Option Addr} {l10:Nat} {c11:Nat} {a12:Int} {ms:List (Int×List Int)} {before:List (List Int)} {after:List (List Int)} (h0:FL E b1 l2 c3 ms) (h1:SL (RK .i64 5) E b5 l6 c7 before) (h2:SL (RK .i64 5) E b9 l10 c11 after) (h3:l2<=100000) (h4:(0<ms.length/\∀ (i:Nat) (m:Int×List Int),ms[i]? =some m->heldF a4 m.1 m.2=(if i+1=ms.length then (after,a12) else (before,a8),0))) (h:∀ E':Mem,Mem.le E E'->K (B true) E'):
  Ent QK 8 Try.f10 [L b1 l2 c3,I a4,L b5 l6 c7,I a8,L b9 l10 c11,I a12] E K:=by
 refine sm_ (?_:Lp QK 8 Try.f10 [1,0,1,0] 0 (pubK E K) { fr:=some (L b1 l2 c3)::oI a4::oL b5 l6 c7::oI a8::oL b9 l10 c11::oI a12::no4 (no2 (none::(oI 0::no32 (no8 (no4 []))))),bx:=[],E:=E:St })
 delta no2 no4 no8 no32
 exact Lp_re [] (ul10 h0 h1 h2 h3 h4 mr_ h (r:=l2) (i:=0) (by omega)) (wkG mr_)
noncomputable def tab9u:FuncId->List SV->Mem->(SV->Mem->Prop)->Prop:=fun f args E K=>match f with
 | 9=>d3 args fun x0 x1 x2=>dC x0 fun l1=>d2 l1 fun x0_0 x0_1=>dI x0_0 fun a1=>dS x0_1 fun b2 l3 c4=>dI x1 fun a5=>dC x2 fun l2=>d5 l2 fun x2_0 x2_1 x2_2 x2_3 x2_4=>dI x2_0 fun a6=>dI x2_1 fun a7=>dI x2_2 fun a8=>dI x2_3 fun a9=>dI x2_4 fun a10=>∃ (zs:List Int),Bs E b2 l3 c4 zs/\(∀ (b':Option Addr) (l' c':Nat) (ms:List (Int×List Int)) (e:Int) (E':Mem),Mem.le E E'->Hyp (takeF a5 a1 zs a6 a7 a8 a9 a10=(ms,e))->FL E' b' l' c' ms->K (.tup [L b' l' c',I e]) E')
 | 11=>d4 args fun x0 x1 x2 x3=>dC x0 fun l1=>d2 l1 fun x0_0 x0_1=>dI x0_0 fun a1=>dS x0_1 fun b2 l3 c4=>dI x1 fun a5=>dI x2 fun a6=>dI x3 fun a7=>∃ (zs:List Int),Bs E b2 l3 c4 zs/\(∀ (b':Option Addr) (l' c':Nat) (ms:List (Int×List Int)) (e:Int) (E':Mem),Mem.le E E'->Hyp (giveF a5 a1 zs a6 a7=(ms,e))->FL E' b' l' c' ms->K (.tup [L b' l' c',I e]) E')
 | _=>False
theorem tab9u_ok:TabOK Try.prog tab9u:=by
 intro f args E K h
 unfold tab9u at h
 split at h
 ·replace h:=d3_elim h
  obtain ⟨x0,x1,x2,rfl,h⟩:=h
  replace h:=dC_elim h
  obtain ⟨l1,hl1,h⟩:=h
  replace h:=d2_elim h
  obtain ⟨x0_0,x0_1,rfl,h⟩:=h
  replace h:=dI_elim h
  obtain ⟨a1,rfl,h⟩:=h
  replace h:=dS_elim h
  obtain ⟨b2,l3,c4,rfl,h⟩:=h
  replace h:=dI_elim h
  obtain ⟨a5,rfl,h⟩:=h
  replace h:=dC_elim h
  obtain ⟨l2,hl2,h⟩:=h
  replace h:=d5_elim h
  obtain ⟨x2_0,x2_1,x2_2,x2_3,x2_4,rfl,h⟩:=h
  replace h:=dI_elim h
  obtain ⟨a6,rfl,h⟩:=h
  replace h:=dI_elim h
  obtain ⟨a7,rfl,h⟩:=h
  replace h:=dI_elim h
  obtain ⟨a8,rfl,h⟩:=h
  replace h:=dI_elim h
  obtain ⟨a9,rfl,h⟩:=h
  replace h:=dI_elim h
  obtain ⟨a10,rfl,h⟩:=h
  obtain ⟨zs,g0,h⟩:=h
  exact TabSem.congr (valL_cons (asCells_val hl1) (valL_cons rfl (valL_cons (asCells_val hl2) rfl))) (esm okQG Try.func9 rfl (c9 g0 h))
 ·replace h:=d4_elim h
  obtain ⟨x0,x1,x2,x3,rfl,h⟩:=h
  replace h:=dC_elim h
  obtain ⟨l1,hl1,h⟩:=h
  replace h:=d2_elim h
  obtain ⟨x0_0,x0_1,rfl,h⟩:=h
  replace h:=dI_elim h
  obtain ⟨a1,rfl,h⟩:=h
  replace h:=dS_elim h
  obtain ⟨b2,l3,c4,rfl,h⟩:=h
  replace h:=dI_elim h
  obtain ⟨a5,rfl,h⟩:=h
  replace h:=dI_elim h
  obtain ⟨a6,rfl,h⟩:=h
  replace h:=dI_elim h
  obtain ⟨a7,rfl,h⟩:=h
  obtain ⟨zs,g0,h⟩:=h
  exact TabSem.congr (valL_cons (asCells_val hl1) (valL_cons rfl (valL_cons rfl (valL_cons rfl rfl)))) (esm okQG Try.func11 rfl (c11 g0 h))
 ·exact h.elim
noncomputable def QL:Cx:={ P:=Try.prog,inl:=fun f=>List.contains [] f,tab:=tab9u,isB:=fun _=>false,tabB:=fun _ _ _ _ _=>False,opt:={ unroll:=0,carry:=[] },muts:=mutsD }
theorem okQL:CxOK QL:=CxOK.four tab9u_ok (by kernel_rfl) (okInl (by kernel_rfl)) (fun _ _ _ _ _ h=>h.elim)
theorem c16 {a1:Int} {b2:Option Addr} {l3:Nat} {c4:Nat} {a5:Int} {a6:Bool} {a7:Int} {a8:Int} {a9:Int} {a10:Int} {a11:Int} {a12:Int} {zs:List Int} (h0:Bs E b2 l3 c4 zs) (h:∀ (s':Int) (b':Option Addr) (l' c':Nat) (ys:List Int) (e:Int) (E':Mem),Mem.le E E'->Hyp (opF a5 a1 zs a6 a7 a8 a9 a10 a11 a12=((s',ys),e))->Bs E' b' l' c' ys->K (.tup [.agg [I s',L b' l' c'],I e]) E'):
  Ent QL 8 Try.f16 [.agg [I a1,L b2 l3 c4],I a5,.agg [B a6,I a7,I a8,I a9,I a10,I a11,I a12]] E K:=by
 refine sm_ (?_:∃ (zs:List Int),Bs E b2 l3 c4 zs/\∀ (b':Option Addr) (l' c':Nat) (ms:List (Int×List Int)) (e:Int) (E':Mem),Mem.le E E'->Hyp (takeF a5 a1 zs a7 a8 a9 a10 a11=(ms,e))->FL E' b' l' c' ms->Mem.le E E'/\bif a6 then ∃ (zs:List Int),Bs E' b2 l3 c4 zs/\∀ (b':Option Addr) (l' c':Nat) (ms:List (Int×List Int)) (e:Int) (E'_1:Mem),Mem.le E' E'_1->Hyp (giveF a5 a1 zs a7 a8=(ms,e))->FL E'_1 b' l' c' ms->Mem.le E' E'_1/\bif e !=(0:Int) then Mem.le E E'_1/\K (SV.tup [SV.agg [I a1,L b2 l3 c4],I e]) E'_1 else bif bif false then true else (NI l')==0 then Mem.le E E'_1/\K (SV.tup [SV.agg [I a1,L b2 l3 c4],I e]) E'_1 else bif decide (a12>(0:Int)) then ((NI l')=(0:Int)->False)/\req ((0:Int)<=Int.tmod a12 (NI l')/\Int.tmod a12 (NI l')<(NI l')) ((∃ (cs:List Value),E'_1 (VS b' l' c') cs/\(cs=[]->False))/\∃ (n:Int),∃ (base:Option Addr),∃ (len:Nat),∃ (cap:Nat),LoadE QL.P E'_1 24 (VS b' l' c') (Int.toNat (Int.tmod a12 (NI l'))*2) (SV.agg [I n,L base len cap])/\Mem.le E E'_1/\K (SV.tup [SV.agg [I n,L base len cap],I 15]) E'_1) else req ((0:Int)<=WI ((NI l')-1)/\WI ((NI l')-1)<(NI l')) ((∃ (cs:List Value),E'_1 (VS b' l' c') cs/\(cs=[]->False))/\∃ (n:Int),∃ (base:Option Addr),∃ (len:Nat),∃ (cap:Nat),LoadE QL.P E'_1 24 (VS b' l' c') (Int.toNat (WI ((NI l')-1))*2) (SV.agg [I n,L base len cap])/\Mem.le E E'_1/\K (SV.tup [SV.agg [I n,L base len cap],I 0]) E'_1) else bif e !=(0:Int) then Mem.le E E'/\K (SV.tup [SV.agg [I a1,L b2 l3 c4],I e]) E' else bif bif false then true else (NI l')==0 then Mem.le E E'/\K (SV.tup [SV.agg [I a1,L b2 l3 c4],I e]) E' else bif decide (a12>(0:Int)) then ((NI l')=(0:Int)->False)/\req ((0:Int)<=Int.tmod a12 (NI l')/\Int.tmod a12 (NI l')<(NI l')) ((∃ (cs:List Value),E' (VS b' l' c') cs/\(cs=[]->False))/\∃ (n:Int),∃ (base:Option Addr),∃ (len:Nat),∃ (cap:Nat),LoadE QL.P E' 24 (VS b' l' c') (Int.toNat (Int.tmod a12 (NI l'))*2) (SV.agg [I n,L base len cap])/\Mem.le E E'/\K (SV.tup [SV.agg [I n,L base len cap],I 15]) E') else req ((0:Int)<=WI ((NI l')-1)/\WI ((NI l')-1)<(NI l')) ((∃ (cs:List Value),E' (VS b' l' c') cs/\(cs=[]->False))/\∃ (n:Int),∃ (base:Option Addr),∃ (len:Nat),∃ (cap:Nat),LoadE QL.P E' 24 (VS b' l' c') (Int.toNat (WI ((NI l')-1))*2) (SV.agg [I n,L base len cap])/\Mem.le E E'/\K (SV.tup [SV.agg [I n,L base len cap],I 0]) E'))
 delta WI NI VS
 refine ⟨zs,h0,fun b' l' c' ms e E1 k q1 F=>⟨k,condC (fun ga=>?_) (fun ga=>?_)⟩⟩
 ·have ga:a6=true:=ga
  subst ga
  clear q1 F
  refine ⟨zs,h0.mono k,fun b' l' c' ms e E2 k2 q1 F=>⟨k2,?_⟩⟩
  replace k:=mt_ k k2
  have hq:(if true then giveF a5 a1 zs a7 a8 else takeF a5 a1 zs a7 a8 a9 a10 a11)=(ms,e):=q1
  have hn:ms.length<=40000:=by have:=give_num a5 a1 zs a7 a8;rw [show giveF a5 a1 zs a7 a8=(ms,e) from q1] at this;exact this
  have hl:=F.len
  have st:=step_eq (stop:=a12) hq
  refine condC (fun g=>⟨k,h _ _ _ _ zs _ E2 k (by show opF _ _ _ _ _ _ _ _ _ _=_;rw [st,if_pos (.inl (by simpa using g))]) (h0.mono k)⟩) (fun g=>condC (fun g2=>⟨k,h _ _ _ _ zs _ E2 k (by show opF _ _ _ _ _ _ _ _ _ _=_;rw [st,if_pos (.inr (List.length_eq_zero_iff.1 (by simp at g2;omega)))]) (h0.mono k)⟩) (fun g2=>?_))
  have g:e=0:=by simpa using g
  have g2:0<l':=by simp at g2;omega
  have ne:¬ (e≠0\/ms=[]):=fun q=>q.elim (fun q=>q g) (fun q=>by rw [q] at hl;simp at hl;omega)
  rw [if_neg ne] at st
  refine condC (fun g3=>?_) (fun g3=>?_)
  ·have g3:0<a12:=by simpa using g3
   obtain ⟨i,hi1,hi2,hi3⟩:∃ i:Nat,Int.tmod a12 (l':Int)=(i:Nat)/\i<l'/\(a12 % (ms.length:Int)).toNat=i:=by
    have:=Int.emod_nonneg a12 (show (l':Int)≠0 by omega)
    have:=Int.emod_lt_of_pos a12 (show 0<(l':Int) by omega)
    exact ⟨(a12 % (l':Int)).toNat,by rw [Int.tmod_eq_emod_of_nonneg (by omega)];omega,by omega,by rw [hl]⟩
   obtain ⟨m,hm⟩:∃ m,ms[i]? =some m:=⟨_,List.getElem?_eq_getElem (by omega)⟩
   obtain ⟨x1,bx,lx,cx,x2,x3⟩:=F.load hm
   rw [hi1]
   refine ⟨by omega,req_intro (by omega) ⟨x1,m.1,bx,lx,cx,x2,k,h m.1 bx lx cx m.2 15 E2 k ?_ x3⟩⟩
   show opF _ _ _ _ _ _ _ _ _ _=_
   rw [st,if_pos g3,hi3,List.getD_eq_getElem?_getD,hm];rfl
  ·have g3:¬ 0<a12:=by simpa using g3
   rw [wrap_i64 (x:=(l':Int)-1) (by omega),show Int.toNat ((l':Int)-1)=ms.length-1 by omega]
   obtain ⟨m,hm⟩:∃ m,ms[ms.length-1]? =some m:=⟨_,List.getElem?_eq_getElem (by omega)⟩
   obtain ⟨x1,bx,lx,cx,x2,x3⟩:=F.load hm
   refine req_intro (by omega) ⟨x1,m.1,bx,lx,cx,x2,k,h m.1 bx lx cx m.2 0 E2 k ?_ x3⟩
   show opF _ _ _ _ _ _ _ _ _ _=_
   rw [st,if_neg g3]
   unfold lastM
   rw [List.getLastD_eq_getLast?,List.getLast?_eq_getElem?,hm];rfl
 ·have ga:a6=false:=ga
  subst ga
  have hq:(if false then giveF a5 a1 zs a7 a8 else takeF a5 a1 zs a7 a8 a9 a10 a11)=(ms,e):=q1
  have hn:ms.length<=40000:=by have:=take_num a5 a1 zs a7 a8 a9 a10 a11;rw [show takeF a5 a1 zs a7 a8 a9 a10 a11=(ms,e) from q1] at this;exact this
  have hl:=F.len
  have st:=step_eq (stop:=a12) hq
  refine condC (fun g=>⟨k,h _ _ _ _ zs _ E1 k (by show opF _ _ _ _ _ _ _ _ _ _=_;rw [st,if_pos (.inl (by simpa using g))]) (h0.mono k)⟩) (fun g=>condC (fun g2=>⟨k,h _ _ _ _ zs _ E1 k (by show opF _ _ _ _ _ _ _ _ _ _=_;rw [st,if_pos (.inr (List.length_eq_zero_iff.1 (by simp at g2;omega)))]) (h0.mono k)⟩) (fun g2=>?_))
  have g:e=0:=by simpa using g
  have g2:0<l':=by simp at g2;omega
  have ne:¬ (e≠0\/ms=[]):=fun q=>q.elim (fun q=>q g) (fun q=>by rw [q] at hl;simp at hl;omega)
  rw [if_neg ne] at st
  refine condC (fun g3=>?_) (fun g3=>?_)
  ·have g3:0<a12:=by simpa using g3
   obtain ⟨i,hi1,hi2,hi3⟩:∃ i:Nat,Int.tmod a12 (l':Int)=(i:Nat)/\i<l'/\(a12 % (ms.length:Int)).toNat=i:=by
    have:=Int.emod_nonneg a12 (show (l':Int)≠0 by omega)
    have:=Int.emod_lt_of_pos a12 (show 0<(l':Int) by omega)
    exact ⟨(a12 % (l':Int)).toNat,by rw [Int.tmod_eq_emod_of_nonneg (by omega)];omega,by omega,by rw [hl]⟩
   obtain ⟨m,hm⟩:∃ m,ms[i]? =some m:=⟨_,List.getElem?_eq_getElem (by omega)⟩
   obtain ⟨x1,bx,lx,cx,x2,x3⟩:=F.load hm
   rw [hi1]
   refine ⟨by omega,req_intro (by omega) ⟨x1,m.1,bx,lx,cx,x2,k,h m.1 bx lx cx m.2 15 E1 k ?_ x3⟩⟩
   show opF _ _ _ _ _ _ _ _ _ _=_
   rw [st,if_pos g3,hi3,List.getD_eq_getElem?_getD,hm];rfl
  ·have g3:¬ 0<a12:=by simpa using g3
   rw [wrap_i64 (x:=(l':Int)-1) (by omega),show Int.toNat ((l':Int)-1)=ms.length-1 by omega]
   obtain ⟨m,hm⟩:∃ m,ms[ms.length-1]? =some m:=⟨_,List.getElem?_eq_getElem (by omega)⟩
   obtain ⟨x1,bx,lx,cx,x2,x3⟩:=F.load hm
   refine req_intro (by omega) ⟨x1,m.1,bx,lx,cx,x2,k,h m.1 bx lx cx m.2 0 E1 k ?_ x3⟩
   show opF _ _ _ _ _ _ _ _ _ _=_
   rw [st,if_neg g3]
   unfold lastM
   rw [List.getLastD_eq_getLast?,List.getLast?_eq_getElem?,hm];rfl
noncomputable def tab7u:FuncId->List SV->Mem->(SV->Mem->Prop)->Prop:=fun f args E K=>match f with
 | 13=>d0 args ((∀ (s':Int) (b':Option Addr) (l' c':Nat) (ys:List Int) (e:Int) (E':Mem),Mem.le E E'->FmOK 512 4 s' ys e->Bs E' b' l' c' ys->K (.tup [.agg [I s',L b' l' c'],I e]) E'))
 | 9=>d3 args fun x0 x1 x2=>dC x0 fun l1=>d2 l1 fun x0_0 x0_1=>dI x0_0 fun a1=>dS x0_1 fun b2 l3 c4=>dI x1 fun a5=>dC x2 fun l2=>d5 l2 fun x2_0 x2_1 x2_2 x2_3 x2_4=>dI x2_0 fun a6=>dI x2_1 fun a7=>dI x2_2 fun a8=>dI x2_3 fun a9=>dI x2_4 fun a10=>∃ (zs:List Int),Bs E b2 l3 c4 zs/\(∀ (b':Option Addr) (l' c':Nat) (ms:List (Int×List Int)) (e:Int) (E':Mem),Mem.le E E'->Hyp (takeF a5 a1 zs a6 a7 a8 a9 a10=(ms,e))->FL E' b' l' c' ms->K (.tup [L b' l' c',I e]) E')
 | 11=>d4 args fun x0 x1 x2 x3=>dC x0 fun l1=>d2 l1 fun x0_0 x0_1=>dI x0_0 fun a1=>dS x0_1 fun b2 l3 c4=>dI x1 fun a5=>dI x2 fun a6=>dI x3 fun a7=>∃ (zs:List Int),Bs E b2 l3 c4 zs/\(∀ (b':Option Addr) (l' c':Nat) (ms:List (Int×List Int)) (e:Int) (E':Mem),Mem.le E E'->Hyp (giveF a5 a1 zs a6 a7=(ms,e))->FL E' b' l' c' ms->K (.tup [L b' l' c',I e]) E')
 | 18=>d3 args fun x0 x1 x2=>dC x0 fun l1=>d2 l1 fun x0_0 x0_1=>dI x0_0 fun a1=>dS x0_1 fun b2 l3 c4=>dS x1 fun b5 l6 c7=>dI x2 fun a8=>∃ (zs:List Int) (ms:List (Int×List Int)),Bs E b2 l3 c4 zs/\FL E b5 l6 c7 ms/\l6<=100000/\(∀ (s':Int) (b':Option Addr) (l' c':Nat) (ys:List Int) (E':Mem),Mem.le E E'->Hyp (lastF (a1,zs) ms a8=(s',ys))->Bs E' b' l' c' ys->K (.agg [I s',L b' l' c']) E')
 | 17=>d4 args fun x0 x1 x2 x3=>dC x0 fun l1=>d2 l1 fun x0_0 x0_1=>dI x0_0 fun a1=>dS x0_1 fun b2 l3 c4=>dI x1 fun a5=>dS x2 fun b6 l7 c8=>dI x3 fun a9=>∃ (zs:List Int) (want:List (List Int)),Bs E b2 l3 c4 zs/\SL (RK .i64 5) E b6 l7 c8 want/\(∀ E':Mem,Mem.le E E'->K (B (decide (heldF a5 a1 zs=((want,a9),0)))) E')
 | _=>False
theorem tab7u_ok:TabOK Try.prog tab7u:=by
 intro f args E K h
 unfold tab7u at h
 split at h
 ·obtain ⟨rfl,h⟩:=d0_elim h
  exact TabSem.congr rfl (esm okQH Try.func13 rfl (c13 h))
 ·replace h:=d3_elim h
  obtain ⟨x0,x1,x2,rfl,h⟩:=h
  replace h:=dC_elim h
  obtain ⟨l1,hl1,h⟩:=h
  replace h:=d2_elim h
  obtain ⟨x0_0,x0_1,rfl,h⟩:=h
  replace h:=dI_elim h
  obtain ⟨a1,rfl,h⟩:=h
  replace h:=dS_elim h
  obtain ⟨b2,l3,c4,rfl,h⟩:=h
  replace h:=dI_elim h
  obtain ⟨a5,rfl,h⟩:=h
  replace h:=dC_elim h
  obtain ⟨l2,hl2,h⟩:=h
  replace h:=d5_elim h
  obtain ⟨x2_0,x2_1,x2_2,x2_3,x2_4,rfl,h⟩:=h
  replace h:=dI_elim h
  obtain ⟨a6,rfl,h⟩:=h
  replace h:=dI_elim h
  obtain ⟨a7,rfl,h⟩:=h
  replace h:=dI_elim h
  obtain ⟨a8,rfl,h⟩:=h
  replace h:=dI_elim h
  obtain ⟨a9,rfl,h⟩:=h
  replace h:=dI_elim h
  obtain ⟨a10,rfl,h⟩:=h
  obtain ⟨zs,g0,h⟩:=h
  exact TabSem.congr (valL_cons (asCells_val hl1) (valL_cons rfl (valL_cons (asCells_val hl2) rfl))) (esm okQG Try.func9 rfl (c9 g0 h))
 ·replace h:=d4_elim h
  obtain ⟨x0,x1,x2,x3,rfl,h⟩:=h
  replace h:=dC_elim h
  obtain ⟨l1,hl1,h⟩:=h
  replace h:=d2_elim h
  obtain ⟨x0_0,x0_1,rfl,h⟩:=h
  replace h:=dI_elim h
  obtain ⟨a1,rfl,h⟩:=h
  replace h:=dS_elim h
  obtain ⟨b2,l3,c4,rfl,h⟩:=h
  replace h:=dI_elim h
  obtain ⟨a5,rfl,h⟩:=h
  replace h:=dI_elim h
  obtain ⟨a6,rfl,h⟩:=h
  replace h:=dI_elim h
  obtain ⟨a7,rfl,h⟩:=h
  obtain ⟨zs,g0,h⟩:=h
  exact TabSem.congr (valL_cons (asCells_val hl1) (valL_cons rfl (valL_cons rfl (valL_cons rfl rfl)))) (esm okQG Try.func11 rfl (c11 g0 h))
 ·replace h:=d3_elim h
  obtain ⟨x0,x1,x2,rfl,h⟩:=h
  replace h:=dC_elim h
  obtain ⟨l1,hl1,h⟩:=h
  replace h:=d2_elim h
  obtain ⟨x0_0,x0_1,rfl,h⟩:=h
  replace h:=dI_elim h
  obtain ⟨a1,rfl,h⟩:=h
  replace h:=dS_elim h
  obtain ⟨b2,l3,c4,rfl,h⟩:=h
  replace h:=dS_elim h
  obtain ⟨b5,l6,c7,rfl,h⟩:=h
  replace h:=dI_elim h
  obtain ⟨a8,rfl,h⟩:=h
  obtain ⟨zs,ms,g0,g1,g2,h⟩:=h
  exact TabSem.congr (valL_cons (asCells_val hl1) (valL_cons rfl (valL_cons rfl rfl))) (esm okQI Try.func18 rfl (c18 g0 g1 g2 h))
 ·replace h:=d4_elim h
  obtain ⟨x0,x1,x2,x3,rfl,h⟩:=h
  replace h:=dC_elim h
  obtain ⟨l1,hl1,h⟩:=h
  replace h:=d2_elim h
  obtain ⟨x0_0,x0_1,rfl,h⟩:=h
  replace h:=dI_elim h
  obtain ⟨a1,rfl,h⟩:=h
  replace h:=dS_elim h
  obtain ⟨b2,l3,c4,rfl,h⟩:=h
  replace h:=dI_elim h
  obtain ⟨a5,rfl,h⟩:=h
  replace h:=dS_elim h
  obtain ⟨b6,l7,c8,rfl,h⟩:=h
  replace h:=dI_elim h
  obtain ⟨a9,rfl,h⟩:=h
  obtain ⟨zs,want,g0,g1,h⟩:=h
  exact TabSem.congr (valL_cons (asCells_val hl1) (valL_cons rfl (valL_cons rfl (valL_cons rfl rfl)))) (esm okQJ Try.func17 rfl (c17 g0 g1 h))
 ·exact h.elim
noncomputable def QM:Cx:={ P:=Try.prog,inl:=fun f=>List.contains [] f,tab:=tab7u,isB:=fun _=>false,tabB:=fun _ _ _ _ _=>False,opt:={ unroll:=0,carry:=[] },muts:=(fun o=>match o with | .buildSlice .. =>true| .alloc .. =>true|o=>mutsD o) }
theorem okQM:CxOK QM:=CxOK.four tab7u_ok (by kernel_rfl) (okInl (by kernel_rfl)) (fun _ _ _ _ _ h=>h.elim)
theorem c7 (h:∀ E':Mem,Mem.le E E'->K (B true) E'):
  Ent QM 8 Try.f7 [] E K:=by
 refine sm_ (?_:∀ (s':Int) (b':Option Addr) (l' c':Nat) (ys:List Int) (e:Int) (E':Mem),Mem.le E E'->FmOK (512:Int) (4:Int) s' ys e->Bs E' b' l' c' ys->Mem.le E E'/\∃ (zs:List Int),Bs E' b' l' c' zs/\∀ (b'_1:Option Addr) (l'_1 c'_1:Nat) (ms:List (Int×List Int)) (e_1:Int) (E'_1:Mem),Mem.le E' E'_1->Hyp (takeF (3:Int) s' zs (3:Int) (1:Int) (0:Int) (70:Int) (5:Int)=(ms,e_1))->FL E'_1 b'_1 l'_1 c'_1 ms->Mem.le E' E'_1/\∃ (zs:List Int),∃ (ms:List (Int×List Int)),Bs E'_1 b' l' c' zs/\FL E'_1 b'_1 l'_1 c'_1 ms/\l'_1<=100000/\∀ (s'_1:Int) (b'_2:Option Addr) (l'_2 c'_2:Nat) (ys:List Int) (E':Mem),Mem.le E'_1 E'->Hyp (lastF (s',zs) ms e_1=(s'_1,ys))->Bs E' b'_2 l'_2 c'_2 ys->Mem.le E'_1 E'/\∃ (zs:List Int),Bs E' b'_2 l'_2 c'_2 zs/\∀ (b'_3:Option Addr) (l'_3 c'_3:Nat) (ms:List (Int×List Int)) (e_2:Int) (E'_2:Mem),Mem.le E' E'_2->Hyp (takeF (3:Int) s'_1 zs (7:Int) (9:Int) (1:Int) (0:Int) (0:Int)=(ms,e_2))->FL E'_2 b'_3 l'_3 c'_3 ms->Mem.le E' E'_2/\∃ (zs:List Int),∃ (ms:List (Int×List Int)),Bs E'_2 b'_2 l'_2 c'_2 zs/\FL E'_2 b'_3 l'_3 c'_3 ms/\l'_3<=100000/\∀ (s'_2:Int) (b'_4:Option Addr) (l'_4 c'_4:Nat) (ys:List Int) (E':Mem),Mem.le E'_2 E'->Hyp (lastF (s'_1,zs) ms e_2=(s'_2,ys))->Bs E' b'_4 l'_4 c'_4 ys->Mem.le E'_2 E'/\∃ (zs:List Int),Bs E' b'_4 l'_4 c'_4 zs/\∀ (b'_5:Option Addr) (l'_5 c'_5:Nat) (ms:List (Int×List Int)) (e_3:Int) (E'_3:Mem),Mem.le E' E'_3->Hyp (giveF (3:Int) s'_2 zs (3:Int) (1:Int)=(ms,e_3))->FL E'_3 b'_5 l'_5 c'_5 ms->Mem.le E' E'_3/\∃ (zs:List Int),∃ (ms:List (Int×List Int)),Bs E'_3 b'_4 l'_4 c'_4 zs/\FL E'_3 b'_5 l'_5 c'_5 ms/\l'_5<=100000/\∀ (s'_3:Int) (b'_6:Option Addr) (l'_6 c'_6:Nat) (ys:List Int) (E':Mem),Mem.le E'_3 E'->Hyp (lastF (s'_2,zs) ms e_3=(s'_3,ys))->Bs E' b'_6 l'_6 c'_6 ys->Mem.le E'_3 E'/\∃ (zs:List Int),Bs E' b'_6 l'_6 c'_6 zs/\∀ (b'_7:Option Addr) (l'_7 c'_7:Nat) (ms:List (Int×List Int)) (e_4:Int) (E'_4:Mem),Mem.le E' E'_4->Hyp (takeF (3:Int) s'_3 zs (3:Int) (1:Int) (0:Int) (70:Int) (5:Int)=(ms,e_4))->FL E'_4 b'_7 l'_7 c'_7 ms->Mem.le E' E'_4/\∃ (zs:List Int),Bs E'_4 b'_6 l'_6 c'_6 zs/\∀ (b'_8:Option Addr) (l'_8 c'_8:Nat) (ms:List (Int×List Int)) (e_5:Int) (E':Mem),Mem.le E'_4 E'->Hyp (takeF (3:Int) s'_3 zs (7:Int) (9:Int) (1:Int) (0:Int) (0:Int)=(ms,e_5))->FL E' b'_8 l'_8 c'_8 ms->Mem.le E'_4 E'/\∃ (zs:List Int),Bs E' b'_6 l'_6 c'_6 zs/\∀ (b'_9:Option Addr) (l'_9 c'_9:Nat) (ms:List (Int×List Int)) (e_6:Int) (E'_5:Mem),Mem.le E' E'_5->Hyp (giveF (3:Int) s'_3 zs (3:Int) (1:Int)=(ms,e_6))->FL E'_5 b'_9 l'_9 c'_9 ms->Mem.le E' E'_5/\bif e==(0:Int) then bif bif true then e_1==(0:Int) else false then bif bif true then e_2==(0:Int) else false then bif bif true then e_3==(0:Int) else false then bif bif true then e_4==(14:Int) else false then bif bif true then e_5==(5:Int) else false then bif bif true then e_6==(4:Int) else false then ∃ (zs:List Int),∃ (want:List (List Int)),Bs E'_5 b' l' c' zs/\SL (RK IntKind.i64 (5:Nat)) E'_5 none (0:Nat) (0:Nat) want/\∀ (E':Mem),Mem.le E'_5 E'->Mem.le E'_5 E'/\bif bif true then decide (heldF (3:Int) s' zs=((want,(0:Int)),(0:Int))) else false then ∀ (base:Option Addr) (E'_6:Mem),Mem.le E' E'_6->WinE E'_6 base [Value.int IntKind.i64 (3:Int),Value.int IntKind.i64 (1:Int),Value.int IntKind.i64 (0:Int),Value.int IntKind.i64 (70:Int),Value.int IntKind.i64 (5:Int)]->∃ (zs:List Int),∃ (want:List (List Int)),Bs E'_6 b'_2 l'_2 c'_2 zs/\SL (RK IntKind.i64 (5:Nat)) E'_6 (Option.map (fun (x:Addr)=>Addr.add x (0:Nat)) base) (1:Nat) (1:Nat) want/\∀ (E':Mem),Mem.le E'_6 E'->bif bif true then decide (heldF (3:Int) s'_1 zs=((want,(1:Int)),(0:Int))) else false then ∀ (base:Option Addr) (E'_7:Mem),Mem.le E' E'_7->WinE E'_7 base [Value.int IntKind.i64 (3:Int),Value.int IntKind.i64 (1:Int),Value.int IntKind.i64 (0:Int),Value.int IntKind.i64 (70:Int),Value.int IntKind.i64 (5:Int),Value.int IntKind.i64 (7:Int),Value.int IntKind.i64 (9:Int),Value.int IntKind.i64 (1:Int),Value.int IntKind.i64 (0:Int),Value.int IntKind.i64 (0:Int)]->∃ (zs:List Int),∃ (want:List (List Int)),Bs E'_7 b'_4 l'_4 c'_4 zs/\SL (RK IntKind.i64 (5:Nat)) E'_7 (Option.map (fun (x:Addr)=>Addr.add x (0:Nat)) base) (2:Nat) (2:Nat) want/\∀ (E':Mem),Mem.le E'_7 E'->bif bif true then decide (heldF (3:Int) s'_2 zs=((want,(1:Int)),(0:Int))) else false then ∀ (base:Option Addr) (E'_8:Mem),Mem.le E' E'_8->WinE E'_8 base [Value.int IntKind.i64 (7:Int),Value.int IntKind.i64 (9:Int),Value.int IntKind.i64 (1:Int),Value.int IntKind.i64 (0:Int),Value.int IntKind.i64 (0:Int)]->∃ (zs:List Int),∃ (want:List (List Int)),Bs E'_8 b'_6 l'_6 c'_6 zs/\SL (RK IntKind.i64 (5:Nat)) E'_8 (Option.map (fun (x:Addr)=>Addr.add x (0:Nat)) base) (1:Nat) (1:Nat) want/\∀ (E':Mem),Mem.le E'_8 E'->Mem.le E E'/\K (B (bif true then decide (heldF (3:Int) s'_3 zs=((want,(1:Int)),(0:Int))) else false)) E' else Mem.le E E'/\K (B false) E' else Mem.le E E'/\K (B false) E' else Mem.le E E'/\K (B false) E' else Mem.le E E'_5/\K (B false) E'_5 else Mem.le E E'_5/\K (B false) E'_5 else Mem.le E E'_5/\K (B false) E'_5 else Mem.le E E'_5/\K (B false) E'_5 else Mem.le E E'_5/\K (B false) E'_5 else Mem.le E E'_5/\K (B false) E'_5 else Mem.le E E'_5/\K (B false) E'_5)
 refine fun s0 b0 l0 c0 y0 e0 E0 k0 F0 B0=>⟨k0,y0,B0,fun bA lA cA mA eA E1 k1 nA FA=>⟨k1,y0,mA,B0.mono k1,FA,?lA,fun s1 b1 l1 c1 y1 E2 k2 n1 B1=>⟨k2,y1,B1,fun bB lB cB mB eB E3 k3 nB FB=>⟨k3,y1,mB,B1.mono k3,FB,?lB,fun s2 b2 l2 c2 y2 E4 k4 n2 B2=>⟨k4,y2,B2,fun bC lC cC mC eC E5 k5 nC FC=>⟨k5,y2,mC,B2.mono k5,FC,?lC,fun s3 b3 l3 c3 y3 E6 k6 n3 B3=>⟨k6,y3,B3,fun bD lD cD mD eD E7 k7 nD FD=>⟨k7,y3,B3.mono k7,fun bE lE cE mE eE E8 k8 nE FE=>⟨k8,y3,B3.mono (mt_ k7 k8),fun bF lF cF mF eF E9 k9 nF FF=>⟨k9,?main⟩⟩⟩⟩⟩⟩⟩⟩⟩⟩
 case lA=>
  have:=take_num 3 s0 y0 3 1 0 70 5
  rw [show takeF 3 s0 y0 3 1 0 70 5=(mA,eA) from nA] at this
  have:=FA.len
  simp at *;omega
 case lB=>
  have:=take_num 3 s1 y1 7 9 1 0 0
  rw [show takeF 3 s1 y1 7 9 1 0 0=(mB,eB) from nB] at this
  have:=FB.len
  simp at *;omega
 case lC=>
  have:=give_num 3 s2 y2 3 1
  rw [show giveF 3 s2 y2 3 1=(mC,eC) from nC] at this
  have:=FC.len
  simp at *;omega
 case main=>
  have he:=fmt_zero F0
  have S0:SI 3 s0 y0 ([],0) 0:=SI.format (by decide) F0 he
  obtain ⟨_,X1,w1,q1,S1⟩:=(S0.take (o:=3) (n:=1) (k:=0) (v:=70) (a:=5) (by decide)).resolve_left (fun q=>q.1 (by decide))
  rw [q1] at nA
  obtain ⟨rfl,rfl⟩:=Prod.mk.inj (show (X1++[(s0,w1)],(0:Int))=(mA,eA) from nA)
  have n1:lastF (s0,y0) (X1++[(s0,w1)]) 0=(s1,y1):=n1
  rw [last_snoc] at n1
  obtain ⟨rfl,rfl⟩:=Prod.mk.inj n1
  have S1:SI 3 s0 w1 ([[3,1,0,70,5]],1) 1:=S1
  obtain ⟨_,X2,w2,q2,S2⟩:=(S1.take (o:=7) (n:=9) (k:=1) (v:=0) (a:=0) (by decide)).resolve_left (fun q=>q.1 (by decide))
  rw [q2] at nB
  obtain ⟨rfl,rfl⟩:=Prod.mk.inj (show (X2++[(s0,w2)],(0:Int))=(mB,eB) from nB)
  have n2:lastF (s0,w1) (X2++[(s0,w2)]) 0=(s2,y2):=n2
  rw [last_snoc] at n2
  obtain ⟨rfl,rfl⟩:=Prod.mk.inj n2
  have S2:SI 3 s0 w2 ([[3,1,0,70,5],[7,9,1,0,0]],1) 2:=S2
  obtain ⟨_,X3,w3,q3,S3⟩:=(S2.give (o:=3) (n:=1) (by decide)).resolve_left (fun q=>absurd q.1 (by decide))
  rw [q3] at nC
  obtain ⟨rfl,rfl⟩:=Prod.mk.inj (show (X3++[(s0,w3)],(0:Int))=(mC,eC) from nC)
  have n3:lastF (s0,w2) (X3++[(s0,w3)]) 0=(s3,y3):=n3
  rw [last_snoc] at n3
  obtain ⟨rfl,rfl⟩:=Prod.mk.inj n3
  have S3:SI 3 s0 w3 ([[7,9,1,0,0]],1) 3:=S3
  have q4:=((S3.take (o:=3) (n:=1) (k:=0) (v:=70) (a:=5) (by decide)).resolve_right (fun q=>absurd q.1 (by decide))).2
  rw [q4] at nD
  have eD4:eD=14:=(Prod.mk.inj (show (([]:List (Int×List Int)),seqT 3 ([[7,9,1,0,0]],1) 3 1 0 70 5)=(mD,eD) from nD)).2.symm
  have q5:=((S3.take (o:=7) (n:=9) (k:=1) (v:=0) (a:=0) (by decide)).resolve_right (fun q=>absurd q.1 (by decide))).2
  rw [q5] at nE
  have eE4:eE=5:=(Prod.mk.inj (show (([]:List (Int×List Int)),seqT 3 ([[7,9,1,0,0]],1) 7 9 1 0 0)=(mE,eE) from nE)).2.symm
  have q6:=((S3.give (o:=3) (n:=1) (by decide)).resolve_right (fun q=>absurd q.1 (by decide))).2
  rw [q6] at nF
  have eF4:eF=4:=(Prod.mk.inj (show (([]:List (Int×List Int)),(4:Int))=(mF,eF) from nF)).2.symm
  subst he;subst eD4;subst eE4;subst eF4
  have kAll:Mem.le E E9:=mt_ k0 (mt_ k1 (mt_ k2 (mt_ k3 (mt_ k4 (mt_ k5 (mt_ k6 (mt_ k7 (mt_ k8 k9))))))))
  have kB3:Mem.le E6 E9:=mt_ k7 (mt_ k8 k9)
  have kB2:Mem.le E4 E9:=mt_ k5 (mt_ k6 kB3)
  have kB1:Mem.le E2 E9:=mt_ k3 (mt_ k4 kB2)
  have kB0:Mem.le E0 E9:=mt_ k1 (mt_ k2 kB1)
  have rr:∀ {xs:List (List Int)} {vs:List Value} {base:Option Addr} {E1:Mem} {n:Nat},WinE E1 base vs->vs=vR xs->W5 xs->xs.length=n->SL (RK .i64 5) E1 (base.map fun x=>x.add 0) n n xs:=fun w e h5 hn=>vR_win h5 hn (Nat.le_refl _) (by rw [← e];exact w)
  refine condC (fun _=>condC (fun _=>condC (fun _=>condC (fun _=>condC (fun _=>condC (fun _=>condC (fun _=>?_) (fun v=>absurd v (by decide))) (fun v=>absurd v (by decide))) (fun v=>absurd v (by decide))) (fun v=>absurd v (by decide))) (fun v=>absurd v (by decide))) (fun v=>absurd v (by decide))) (fun v=>absurd v (by decide))
  refine ⟨y0,[],B0.mono kB0,SL.nil,fun E10 k10=>⟨k10,?_⟩⟩
  rw [show heldF 3 s0 y0=(([],0),0) from S0.held]
  refine condC (fun _=>?_) (fun v=>absurd v (by decide))
  refine fun base E11 k11 wn=>⟨w1,[[3,1,0,70,5]],B1.mono (mt_ kB1 (mt_ k10 k11)),rr wn rfl (by unfold W5;decide) rfl,fun E12 k12=>?_⟩
  rw [show heldF 3 s0 w1=(([[3,1,0,70,5]],1),0) from S1.held]
  refine condC (fun _=>?_) (fun v=>absurd v (by decide))
  refine fun base E13 k13 wn=>⟨w2,[[3,1,0,70,5],[7,9,1,0,0]],B2.mono (mt_ kB2 (mt_ k10 (mt_ k11 (mt_ k12 k13)))),rr wn rfl (by unfold W5;decide) rfl,fun E14 k14=>?_⟩
  rw [show heldF 3 s0 w2=(([[3,1,0,70,5],[7,9,1,0,0]],1),0) from S2.held]
  refine condC (fun _=>?_) (fun v=>absurd v (by decide))
  have k15:Mem.le E9 E14:=mt_ k10 (mt_ k11 (mt_ k12 (mt_ k13 k14)))
  refine fun base E15 k16 wn=>⟨w3,[[7,9,1,0,0]],B3.mono (mt_ kB3 (mt_ k15 k16)),rr wn rfl (by unfold W5;decide) rfl,fun E16 k17=>⟨mt_ kAll (mt_ k15 (mt_ k16 k17)),?_⟩⟩
  rw [show heldF 3 s0 w3=(([[7,9,1,0,0]],1),0) from S3.held]
  exact h E16 (mt_ kAll (mt_ k15 (mt_ k16 k17)))
theorem SLr_of {α:Type} {R:RowR α} {Q:α->Prop}:∀ {z:List (List Value)},(∀ r∈z,∃ x,R E x r/\Q x)->∃ xs,SLr R E z xs/\∀ x∈xs,Q x
 | [],_=>⟨[],SLr.nil,fun x h=>by cases h⟩
 | r::z,h=>by
  obtain ⟨x,h1,h2⟩:=h r (by simp)
  obtain ⟨xs,h3,h4⟩:=SLr_of (fun r hr=>h r (List.mem_cons_of_mem _ hr))
  exact ⟨x::xs,(SLr.one h1).app h3,fun y hy=>by
   rcases List.mem_cons.1 hy with rfl|hy
   ·exact h2
   ·exact h4 y hy⟩
theorem RowAt_take {W:World} {v:Value} {cs:List Value} (h:RowAt W v cs) (k:Nat):RowAt W v (cs.take k):=by
 rcases h with rfl|⟨a,n,c,h1,h2,h3⟩
 ·exact .inl (by simp)
 ·exact .inr ⟨a,n,c,h1,h2,fun i x hx=>h3 i x (by
   have hk:=(List.getElem?_eq_some_iff.1 hx).1
   rw [List.length_take] at hk
   rwa [List.getElem?_take_of_lt (by omega)] at hx)⟩
theorem SL_of {α:Type} {k:Nat} {R:RowR α} {Q:α->Prop} {W:World} {b:Option Addr} {l c:Nat} {z:List (List Value)} (hl:l<=c) (hb:b=none->c=0) (hz:z.length=c) (hE:RowAt W (.slice b l c) z.flatten) (hk:∀ r∈z,r.length=k)
  (hr:∀ r∈z,∃ x,R (fun v cs=>RowAt W v cs) x r/\Q x):∃ xs,SL R (fun v cs=>RowAt W v cs) b l c xs/\∀ x∈xs,Q x:=by
 obtain ⟨xs,h1,h2⟩:=SLr_of (z:=z.take l) (fun r h=>hr r (List.mem_of_mem_take h))
 refine ⟨xs,⟨z.take l,h1,?_,hl,.inr ?_,fun e=>by have:=hb e;omega⟩,h2⟩
 ·rw [← h1.1,List.length_take];omega
 ·show RowAt W _ _
  rw [← flat_take hk];exact RowAt_take hE _
theorem ints_of {W:World} {q:IntKind}:∀ {ts:List TypeId} {vs:List Value},CellsShp Try.prog W ts vs->(∀ t∈ts,Try.prog.underlying t=some (.int q))->∃ x:List Int,vs=x.map (.int q)/\x.length=ts.length/\∀ z∈x,(Lit.int q z).wf=true
 | [],[],_,_=>⟨[],rfl,rfl,fun z h=>by cases h⟩
 | t::ts,v::vs,⟨⟨m,s⟩,h⟩,ha=>by
  obtain ⟨z,rfl,hw⟩:=Shp_int1 (ha t (by simp)) s
  obtain ⟨x,rfl,hl,hx⟩:=ints_of h (fun t ht=>ha t (List.mem_cons_of_mem _ ht))
  exact ⟨z::x,rfl,by simp [hl],fun y hy=>by
   rcases List.mem_cons.1 hy with rfl|hy
   ·exact hw
   ·exact hx y hy⟩
 | [],_::_,h,_=>h.elim
 | _::_,[],h,_=>h.elim
theorem cells_bool {W:World} {t:TypeId} (hu:Try.prog.underlying t=some .bool) {ts:List TypeId} {v:Value} {vs:List Value} (h:CellsShp Try.prog W (t::ts) (v::vs)):∃ z:Bool,v= .bool z/\CellsShp Try.prog W ts vs:=by
 obtain ⟨⟨m,s⟩,h2⟩:=h
 unfold Shp at s
 rw [hu] at s
 obtain ⟨z,hz⟩:=s
 exact ⟨z,by simpa using hz,h2⟩
def OpR:RowR (Bool×List Int):=fun _ x r=>r= .bool x.1::x.2.map (.int .i64)/\x.2.length=6
theorem OpR_ok:RowOK 7 OpR where
 mono _ h:=h
 len h:=by rw [h.1,List.length_cons,List.length_map,h.2]
 one h v hv:=by
  rw [h.1] at hv
  rcases List.mem_cons.1 hv with rfl|hv
  ·rfl
  ·obtain ⟨z,_,rfl⟩:=List.mem_map.1 hv
   rfl
 pos:=by decide
theorem rowOp {b:Option Addr} {n c:Nat} {xs:List (Bool×List Int)} (h:SL OpR E b n c xs) {i:Nat} {x:Bool×List Int} (hx:xs[i]? =some x):
  ∃ (g:Bool) (a0 a1 a2 a3 a4 a5:Int),x=(g,[a0,a1,a2,a3,a4,a5])/\LoadE Try.prog E 43 (.slice b n c) (i*7) (.agg [B g,I a0,I a1,I a2,I a3,I a4,I a5]):=by
 obtain ⟨r,⟨h1,h2⟩,h3⟩:=SL.loadE (P:=Try.prog) (T:=43) OpR_ok h (by rfl) (by rfl) hx
 match x,h2 with
 | (g,[a0,a1,a2,a3,a4,a5]),_=>subst h1;exact ⟨g,a0,a1,a2,a3,a4,a5,rfl,h3⟩
theorem OPof {W:World} {b:Option Addr} {l c:Nat} {z:List (List Value)} (hl:l<=c) (hb:b=none->c=0) (hz:z.length=c) (hE:RowAt W (.slice b l c) z.flatten) (hr:∀ r∈z,r.length=7/\Shp Try.prog W 12 43 r):
  ∃ xs,SL OpR (fun v cs=>RowAt W v cs) b l c xs/\∀ y∈xs,∀ z∈y.2,(Lit.int .i64 z).wf=true:=
 SL_of (R:=OpR) hl hb hz hE (fun r h=>(hr r h).1) (fun r h=>by
  have hc:Try.prog.cellsOf 43=7:=by kernel_rfl
  have hs:=flatT_sound 12 43 [4,3,3,3,3,3,3] r (by kernel_rfl) ((hr r h).1.trans hc.symm) (hr r h).2
  match r,(hr r h).1 with
  | v::vs,hv=>
   obtain ⟨g,rfl,h2⟩:=cells_bool (by kernel_rfl) hs
   obtain ⟨x,rfl,h3,h4⟩:=ints_of (q:=.i64) h2 (fun t ht=>by simp at ht;subst ht;kernel_rfl)
   exact ⟨(g,x),⟨rfl,h3⟩,h4⟩)
theorem last_of {f:Int×List Int} {ms:List (Int×List Int)} {e:Int} (h:¬ (e≠0\/ms=[])):∃ i m,ms[i]? =some m/\i+1=ms.length/\lastF f ms e=m:=by
 have hn:ms≠[]:=fun q=>h (.inr q)
 have hl:0<ms.length:=List.length_pos_iff.2 hn
 obtain ⟨m,hm⟩:∃ m,ms[ms.length-1]? =some m:=⟨_,List.getElem?_eq_getElem (by omega)⟩
 refine ⟨ms.length-1,m,hm,by omega,?_⟩
 unfold lastF
 rw [if_neg h]
 unfold lastM
 rw [List.getLastD_eq_getLast?,List.getLast?_eq_getElem?,hm];rfl
theorem take_last {me s o n k v a:Int} {zs:List Int} {st:List (List Int)×Int} (bz:∀ x∈zs,0<=x/\x<=255) (h:heldF me s zs=(st,0)) {ms:List (Int×List Int)} {e:Int} (q:takeF me s zs o n k v a=(ms,e)):
  ∃ st',heldF me (lastF (s,zs) ms e).1 (lastF (s,zs) ms e).2=(st',0)/\(st'=st\/st'.1=st.1++[[o,n,k,v,a]]):=by
 by_cases c:e≠0\/ms=[]
 ·refine ⟨st,?_,.inl rfl⟩
  unfold lastF;rw [if_pos c];exact h
 ·have e0:e=0:=Decidable.byContradiction fun w=>c (.inl w)
  obtain ⟨i,m,h1,h2,h3⟩:=last_of (f:=(s,zs)) c
  rw [e0] at q
  obtain ⟨_,_,_,_,_,h4⟩:=take_reads bz h q
  have:=h4 i m h1
  rw [if_pos h2] at this
  rw [h3]
  exact ⟨_,this,.inr rfl⟩
theorem give_last {me s o n:Int} {zs:List Int} {st:List (List Int)×Int} (bz:∀ x∈zs,0<=x/\x<=255) (h:heldF me s zs=(st,0)) {ms:List (Int×List Int)} {e:Int} (q:giveF me s zs o n=(ms,e)):
  ∃ st',heldF me (lastF (s,zs) ms e).1 (lastF (s,zs) ms e).2=(st',0)/\(st'=st\/st'.1=st.1.filter fun x=> !isN o n x):=by
 by_cases c:e≠0\/ms=[]
 ·refine ⟨st,?_,.inl rfl⟩
  unfold lastF;rw [if_pos c];exact h
 ·obtain ⟨i,m,h1,h2,h3⟩:=last_of (f:=(s,zs)) c
  rcases give_reads bz h q with ⟨_,_,h4⟩|⟨_,_,_,h4⟩
  ·exact absurd (.inr h4) c
  ·have:=h4 i m h1
   rw [if_pos h2] at this
   rw [h3]
   exact ⟨_,this,.inr rfl⟩
theorem any_self {x:List Int} {xs:List (List Int)} (h:x∈xs):xs.any (isN (x.getD 0 0) (x.getD 1 0))=true:=List.any_eq_true.2 ⟨x,h,isN_iff.2 ⟨rfl,rfl⟩⟩
theorem any_app {x r:List Int} {xs:List (List Int)} (h:x∈xs):(xs++[r]).any (isN (x.getD 0 0) (x.getD 1 0))=true:=any_self (List.mem_append.2 (.inl h))
theorem any_fil {x:List Int} {o n:Int} {xs:List (List Int)} (h:x∈xs):(xs.filter fun y=> !isN o n y).any (isN (x.getD 0 0) (x.getD 1 0))=true\/(x.getD 0 0=o/\x.getD 1 0=n):=by
 by_cases c:isN o n x=true
 ·exact .inr (isN_iff.1 c)
 ·exact .inl (any_self (List.mem_filter.2 ⟨h,by simpa using c⟩))
theorem op_num {me s o n k v a stop:Int} {zs:List Int} {give:Bool} {st:List (List Int)×Int} (bz:∀ x∈zs,0<=x/\x<=255) (h:heldF me s zs=(st,0)) {s' g:Int} {ys:List Int} (q:opF me s zs give o n k v a stop=((s',ys),g)):
  ∃ st',heldF me s' ys=(st',0)/\st.2<=st'.2/\(give=false->o=me->g=0->st.2<n/\st'.2=n):=by
 obtain ⟨ms,e,hq⟩:∃ ms e,(if give then giveF me s zs o n else takeF me s zs o n k v a)=(ms,e):=⟨_,_,rfl⟩
 rw [step_eq hq] at q
 by_cases c:e≠0\/ms=[]
 ·rw [if_pos c] at q
  cases q
  refine ⟨st,h,Int.le_refl _,fun hg ho he=>?_⟩
  subst hg
  have hq:takeF me s zs o n k v a=(ms,g):=hq
  rw [he] at hq
  obtain ⟨_,_,_,_,r5,_⟩:=take_reads bz h hq
  rcases c with c|c
  ·exact absurd he c
  ·rw [c] at r5;cases r5
 ·rw [if_neg c] at q
  have e0:e=0:=Decidable.byContradiction fun w=>c (.inl w)
  have hl:0<ms.length:=List.length_pos_iff.2 fun w=>c (.inr w)
  subst e0
  have key:∃ st1,(∀ i m,ms[i]? =some m->heldF me m.1 m.2=(if i+1=ms.length then st1 else st,0))/\st.2<=st1.2/\(give=false->o=me->st.2<n/\st1.2=n):=by
   cases give with
   | true=>
    have hq:giveF me s zs o n=(ms,0):=hq
    rcases give_reads bz h hq with ⟨w,_⟩|⟨_,_,_,r4⟩
    ·cases w
    ·exact ⟨_,r4,Int.le_refl _,fun w=>by cases w⟩
   | false=>
    have hq:takeF me s zs o n k v a=(ms,0):=hq
    obtain ⟨_,_,r3,_,_,r6⟩:=take_reads bz h hq
    refine ⟨_,r6,?_,fun _ ho=>⟨r3 ho,if_pos ho⟩⟩
    show st.2<=if o=me then n else st.2
    split
    ·rename_i ho;have:=r3 ho;omega
    ·exact Int.le_refl _
  obtain ⟨st1,k1,k2,k3⟩:=key
  by_cases c2:0<stop
  ·rw [if_pos c2] at q
   obtain ⟨i,hi,e⟩:∃ i,i<ms.length/\(stop % (ms.length:Int)).toNat=i:=by
    have:=Int.emod_nonneg stop (show (ms.length:Int)≠0 by omega)
    have:=Int.emod_lt_of_pos stop (show 0<(ms.length:Int) by omega)
    exact ⟨_,by omega,rfl⟩
   rw [e] at q
   obtain ⟨m,hm⟩:∃ m,ms[i]? =some m:=⟨_,List.getElem?_eq_getElem hi⟩
   have em:ms.getD i (0,[])=m:=by rw [List.getD_eq_getElem?_getD,hm];rfl
   rw [em] at q
   obtain ⟨q1,q2⟩:=Prod.mk.inj q
   subst q1;subst q2
   have:=k1 i _ hm
   split at this
   ·exact ⟨st1,this,k2,fun _ _ w=>by cases w⟩
   ·exact ⟨st,this,Int.le_refl _,fun _ _ w=>by cases w⟩
  ·rw [if_neg c2] at q
   obtain ⟨i,m,h1,h2,h3⟩:=last_of (f:=(s,zs)) (e:=0) c
   unfold lastF at h3
   rw [if_neg c] at h3
   rw [h3] at q
   obtain ⟨q1,q2⟩:=Prod.mk.inj q
   subst q1
   have:=k1 i _ h1
   rw [if_pos h2] at this
   exact ⟨st1,this,k2,fun hg ho _=>k3 hg ho⟩
theorem op_seq {me s o n k v a:Int} {zs:List Int} {give:Bool} {st:List (List Int)×Int} {j:Nat} (h:SI me s zs st j) (hj:j<4294967295) {s' g:Int} {ys:List Int} (q:opF me s zs give o n k v a 0=((s',ys),g)):
  (give=true/\st.1.any (isN o n)=true/\g=0/\SI me s' ys (st.1.filter fun x=> !isN o n x,st.2) (j+1))\/
  (give=true/\st.1.any (isN o n)=false/\g=4/\SI me s' ys st (j+1))\/
  (give=false/\seqT me st o n k v a≠0/\g=seqT me st o n k v a/\SI me s' ys st (j+1))\/
  (give=false/\seqT me st o n k v a=0/\g=0/\SI me s' ys (st.1++[[o,n,k,v,a]],if o=me then n else st.2) (j+1)):=by
 have up:SI me s zs st (j+1):=by
  obtain ⟨ls,a,g,h1,h2,h3,h4⟩:=h.ex
  exact ⟨h.hm,ls,a,g,h1,h2,h3,by omega⟩
 cases give with
 | true=>
  rcases h.give (o:=o) (n:=n) hj with ⟨h1,h2⟩|⟨h1,X,w,h2,h3⟩
  ·rw [step_eq (give:=true) h2,if_pos (.inl (by decide))] at q
   cases q
   exact .inr (.inl ⟨rfl,h1,rfl,up⟩)
  ·rw [step_eq (give:=true) h2,if_neg (by simp),if_neg (by decide)] at q
   have el:lastM (X++[(s,w)])=(s,w):=by unfold lastM;simp [List.getLastD_eq_getLast?]
   rw [el] at q
   cases q
   exact .inl ⟨rfl,h1,rfl,h3⟩
 | false=>
  rcases h.take (o:=o) (n:=n) (k:=k) (v:=v) (a:=a) hj with ⟨h1,h2⟩|⟨h1,X,w,h2,h3⟩
  ·rw [step_eq (give:=false) h2,if_pos (.inl h1)] at q
   cases q
   exact .inr (.inr (.inl ⟨rfl,h1,rfl,up⟩))
  ·rw [step_eq (give:=false) h2,if_neg (by simp),if_neg (by decide)] at q
   have el:lastM (X++[(s,w)])=(s,w):=by unfold lastM;simp [List.getLastD_eq_getLast?]
   rw [el] at q
   cases q
   exact .inr (.inr (.inr ⟨rfl,h1,rfl,h3⟩))
end Go.Proofs.Ytdaakdbkmjgloaa.CustodyOwn
