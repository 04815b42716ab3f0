/- What functions of the program compute; plain lemmas on it. Conditions: none. -/
import Derived.Test.YtnjmojacdkjfoaaBb7
namespace Go.Proofs.Ytnjmojacdkjfoaa.BeaconOwn
open Go Go.Sx
set_option maxRecDepth 100000
set_option maxHeartbeats 4000000
set_option linter.unusedVariables false
set_option linter.unusedSimpArgs false
variable {E:Mem} {K:SV->Mem->Prop}
variable {x:SV} {bx:List Box} {j i cap tot w c n off k t m e p l:Nat} {f:FuncId} {out zs:List Int} {b:Option Addr} {q:IntKind} {xs:List (List Int)} {KK Q:KT} {hi a3 a0 a2 a1:Int} {us ys:List Value} {o:List Int×Bool} {v:Value} {s0:Int×Int}
def cS (bx:List Box) (x:SV) (k:Nat->Nat->Nat->List Int->Bool->Nat->Prop):Prop:=match x with
 | .loc c 0=>match bx[c]? with
  | some ⟨e,.lst [.ifc t (.loc w 0)],tt,true⟩=>(e=129/\t=74/\tt=1)/\wS bx (.loc w 0) (fun _ _=>False) (fun w o out bad n _=>k c w o out bad n)
  | _=>False
 | _=>False
theorem cS_elim {k:Nat->Nat->Nat->List Int->Bool->Nat->Prop} (h:cS bx x k):
  ∃ c w o out bad n cap tot,x= .loc c 0/\bx[c]? =some ⟨129,.lst [.ifc 74 (.loc w 0)],1,true⟩/\WBx bx w o out bad n cap tot/\k c w o out bad n:=by
 unfold cS at h
 split at h
 case h_2=>exact h.elim
 rename_i c
 split at h
 case h_2=>exact h.elim
 rename_i e t w tt hc
 obtain ⟨⟨rfl,rfl,rfl⟩,h⟩:=h
 rcases wS_elim h with ⟨w',o,out,bad,n,cap,tot,e,W,hk⟩|⟨w,bad,e,hw,hx⟩
 ·cases e
  exact ⟨c,w,o,out,bad,n,cap,tot,rfl,hc,W,hk⟩
 ·exact hx.elim
theorem elem_ne {a b:Box} (hi:bx[i]? =some a) (hj:bx[j]? =some b) (h:a.elem≠b.elem):i≠j:=by
 rintro rfl
 rw [hi] at hj;cases hj;exact h rfl
theorem eFrame {o:Nat} {bad:Bool} {y:Value} {F:List Int×Bool->List Int×Bool} {K:KT} (hc:bx[c]? =some ⟨129,.lst [.ifc 74 (.loc w 0)],1,true⟩) (W:WBx bx w o out bad n cap tot)
  (he:∀ KK:KT,(∀ (o':List Int×Bool) (n' cap' tot':Nat),Hyp (F (out,bad)=o')->WOK o'.1 n' cap' tot'->KK (.tup []) [⟨76,.lst [.slc 3 0 n' cap',B o'.2],2,true⟩,deadB,⟨129,.lst [.ifc 74 (.loc 0 0)],1,true⟩,⟨5,.vals (vB o'.1),tot',true⟩] E)->
   CallSem Try.prog f [.rp y off,.loc 2 0] [⟨76,.lst [.slc 1 0 n cap,B bad],2,true⟩,⟨5,.vals (vB out),tot,true⟩,⟨129,.lst [.ifc 74 (.loc 0 0)],1,true⟩] E (cloK 3 KK))
  (hk:∀ (o':List Int×Bool) (n' cap' tot':Nat),Hyp (F (out,bad)=o')->WOK o'.1 n' cap' tot'->K (.tup []) (bxW bx w o o' n' cap' tot') E):CallSem Try.prog f [.rp y off,.loc c 0] bx E K:=by
 have h1:=W.ne
 have h2:w≠c:=elem_ne W.hw hc (by show (76:Nat)≠129;decide)
 have h3:o≠c:=elem_ne W.ho hc (by show (5:Nat)≠129;decide)
 refine CallSem.hand (σ:=[w,o,c]) (bxs:=[⟨76,.lst [.slc 1 0 n cap,B bad],2,true⟩,⟨5,.vals (vB out),tot,true⟩,⟨129,.lst [.ifc 74 (.loc 0 0)],1,true⟩]) ⟨by simp [h1,h2,h3],rfl,fun i b hb=>?_⟩ (args':=[.rp y off,.loc 2 0]) ?_ (he _ fun o' n' cap' tot' hq hW=>?_)
 ·match i,hb with
  | 0,hb=>
   simp only [List.getElem?_cons_zero,Option.some.injEq] at hb;subst hb
   exact ⟨rfl,w,rfl,by simpa [Box.ren,Row.ren,SV.renL,SV.ren,renF] using W.hw⟩
  | 1,hb=>
   simp only [List.getElem?_cons_succ,List.getElem?_cons_zero,Option.some.injEq] at hb;subst hb
   exact ⟨rfl,o,rfl,by simpa [Box.ren,Row.ren,SV.renL,SV.ren,renF] using W.ho⟩
  | 2,hb=>
   simp only [List.getElem?_cons_succ,List.getElem?_cons_zero,Option.some.injEq] at hb;subst hb
   exact ⟨rfl,c,rfl,by simpa [Box.ren,Row.ren,SV.renL,SV.ren,renF] using hc⟩
  | j+3,hb=>simp at hb
 ·simp only [SV.renL,SV.ren,renF,List.getElem?_cons_zero,List.getElem?_cons_succ]
 ·simp only [SV.ren,SV.renL,merge,setAll,List.take,List.drop,List.map,List.length_cons,List.length_nil,Box.ren,Row.ren,renF,List.getElem?_cons_zero,List.getElem?_cons_succ]
  rw [set_same (p:=c) (by rw [List.getElem?_set_ne h3,List.getElem?_set_ne h2];exact hc)]
  simpa using hk o' n' cap' tot' hq hW
noncomputable def tabBE:CallT:=fun f args bx E K=>match f with
 | 85=>d2 args fun x0 x1=>(match x0 with | .rp y off=>cS bx x1 fun c w o out bad n=>∃ x:List Int,(n<=900000/\∀ j,j<4->LoadE Try.prog E 3 y (off+j) (.raw (.int .i64 (x.getD j 0))))/\∀ (o':List Int×Bool) (n' cap' tot':Nat),Hyp (weI its85 (out,bad) x=o')->WOK o'.1 n' cap' tot'->K (.tup []) (bxW bx w o o' n' cap' tot') E|_=>False)
 | 88=>d2 args fun x0 x1=>(match x0 with | .rp y off=>cS bx x1 fun c w o out bad n=>∃ x:List Int,(n<=900000/\∀ j,j<5->LoadE Try.prog E 3 y (off+j) (.raw (.int .i64 (x.getD j 0))))/\∀ (o':List Int×Bool) (n' cap' tot':Nat),Hyp (weI its88 (out,bad) x=o')->WOK o'.1 n' cap' tot'->K (.tup []) (bxW bx w o o' n' cap' tot') E|_=>False)
 | 90=>d2 args fun x0 x1=>(match x0 with | .rp y off=>cS bx x1 fun c w o out bad n=>∃ x:List Int,(n<=900000/\∀ j,j<3->LoadE Try.prog E 3 y (off+j) (.raw (.int .i64 (x.getD j 0))))/\∀ (o':List Int×Bool) (n' cap' tot':Nat),Hyp (weI its90 (out,bad) x=o')->WOK o'.1 n' cap' tot'->K (.tup []) (bxW bx w o o' n' cap' tot') E|_=>False)
 | 92=>d2 args fun x0 x1=>(match x0 with | .rp y off=>cS bx x1 fun c w o out bad n=>∃ x:List Int,(n<=900000/\∀ j,j<4->LoadE Try.prog E 3 y (off+j) (.raw (.int .i64 (x.getD j 0))))/\∀ (o':List Int×Bool) (n' cap' tot':Nat),Hyp (weI its92 (out,bad) x=o')->WOK o'.1 n' cap' tot'->K (.tup []) (bxW bx w o o' n' cap' tot') E|_=>False)
 | 94=>d2 args fun x0 x1=>(match x0 with | .rp y off=>cS bx x1 fun c w o out bad n=>∃ x:List Int,(n<=900000/\∀ j,j<8->LoadE Try.prog E 3 y (off+j) (.raw (.int .i64 (x.getD j 0))))/\∀ (o':List Int×Bool) (n' cap' tot':Nat),Hyp (weI its94 (out,bad) x=o')->WOK o'.1 n' cap' tot'->K (.tup []) (bxW bx w o o' n' cap' tot') E|_=>False)
 | 68=>d2 args fun x0 x1=>(match x0 with | .rp y off=>cS bx x1 fun c w o out bad n=>∃ x:List Int,(n<=900000/\∀ j,j<1->LoadE Try.prog E 3 y (off+j) (.raw (.int .i64 (x.getD j 0))))/\∀ (o':List Int×Bool) (n' cap' tot':Nat),Hyp (weI its68 (out,bad) x=o')->WOK o'.1 n' cap' tot'->K (.tup []) (bxW bx w o o' n' cap' tot') E|_=>False)
 | 96=>d2 args fun x0 x1=>(match x0 with | .rp y off=>cS bx x1 fun c w o out bad n=>∃ x:List Int,(n<=900000/\∀ j,j<1->LoadE Try.prog E 32 y (off+j) (.raw (.int .u64 (x.getD j 0))))/\∀ (o':List Int×Bool) (n' cap' tot':Nat),Hyp (weD (out,bad) x=o')->WOK o'.1 n' cap' tot'->K (.tup []) (bxW bx w o o' n' cap' tot') E|_=>False)
 | _=>False
theorem tabBE_ok:∀ f args bx E K,tabBE f args bx E K->CallSem Try.prog f args bx E K:=by
 intro f args bx E K h
 unfold tabBE at h
 split at h
 ·obtain ⟨x0,x1,rfl,h1⟩:=d2_elim h
  split at h1
  case h_2=>exact h1.elim
  rename_i y off
  obtain ⟨c,w,o,out,bad,n,cap,tot,rfl,hc,W,x,⟨hs,hx⟩,hk⟩:=cS_elim h1
  exact eFrame (F:=fun o=>weI its85 o x) hc W (fun KK hKK=>bsm okY1 Try.func85 (e85 W.ok hs hx hKK (fun _ _ q=>q))) hk
 ·obtain ⟨x0,x1,rfl,h1⟩:=d2_elim h
  split at h1
  case h_2=>exact h1.elim
  rename_i y off
  obtain ⟨c,w,o,out,bad,n,cap,tot,rfl,hc,W,x,⟨hs,hx⟩,hk⟩:=cS_elim h1
  exact eFrame (F:=fun o=>weI its88 o x) hc W (fun KK hKK=>bsm okY1 Try.func88 (e88 W.ok hs hx hKK (fun _ _ q=>q))) hk
 ·obtain ⟨x0,x1,rfl,h1⟩:=d2_elim h
  split at h1
  case h_2=>exact h1.elim
  rename_i y off
  obtain ⟨c,w,o,out,bad,n,cap,tot,rfl,hc,W,x,⟨hs,hx⟩,hk⟩:=cS_elim h1
  exact eFrame (F:=fun o=>weI its90 o x) hc W (fun KK hKK=>bsm okY1 Try.func90 (e90 W.ok hs hx hKK (fun _ _ q=>q))) hk
 ·obtain ⟨x0,x1,rfl,h1⟩:=d2_elim h
  split at h1
  case h_2=>exact h1.elim
  rename_i y off
  obtain ⟨c,w,o,out,bad,n,cap,tot,rfl,hc,W,x,⟨hs,hx⟩,hk⟩:=cS_elim h1
  exact eFrame (F:=fun o=>weI its92 o x) hc W (fun KK hKK=>bsm okY1 Try.func92 (e92 W.ok hs hx hKK (fun _ _ q=>q))) hk
 ·obtain ⟨x0,x1,rfl,h1⟩:=d2_elim h
  split at h1
  case h_2=>exact h1.elim
  rename_i y off
  obtain ⟨c,w,o,out,bad,n,cap,tot,rfl,hc,W,x,⟨hs,hx⟩,hk⟩:=cS_elim h1
  exact eFrame (F:=fun o=>weI its94 o x) hc W (fun KK hKK=>bsm okY1 Try.func94 (e94 W.ok hs hx hKK (fun _ _ q=>q))) hk
 ·obtain ⟨x0,x1,rfl,h1⟩:=d2_elim h
  split at h1
  case h_2=>exact h1.elim
  rename_i y off
  obtain ⟨c,w,o,out,bad,n,cap,tot,rfl,hc,W,x,⟨hs,hx⟩,hk⟩:=cS_elim h1
  exact eFrame (F:=fun o=>weI its68 o x) hc W (fun KK hKK=>bsm okY1 Try.func68 (e68 W.ok hs hx hKK (fun _ _ q=>q))) hk
 ·obtain ⟨x0,x1,rfl,h1⟩:=d2_elim h
  split at h1
  case h_2=>exact h1.elim
  rename_i y off
  obtain ⟨c,w,o,out,bad,n,cap,tot,rfl,hc,W,x,⟨hs,hx⟩,hk⟩:=cS_elim h1
  exact eFrame (F:=fun o=>weD o x) hc W (fun KK hKK=>bsm okY1 Try.func96 (e96 W.ok hs hx hKK (fun _ _ q=>q))) hk
 ·exact h.elim
noncomputable def tabBL:CallT:=fun f args bx E K=>if f=120 then tabBW f args bx E K else tabBE f args bx E K
theorem tabBL_ok:∀ f args bx E K,tabBL f args bx E K->CallSem Try.prog f args bx E K:=by
 intro f args bx E K h
 unfold tabBL at h
 split at h
 ·exact tabBW_ok _ _ _ _ _ h
 ·exact tabBE_ok _ _ _ _ _ h
noncomputable def Y2:Cx:={ P:=Try.prog,inl:=fun f=>List.contains [] f,tab:=fun _ _ _ _=>False,isB:=fun f=>f==120||f==85||f==88||f==90||f==92||f==94||f==68||f==96,tabB:=tabBL,opt:={ unroll:=0,carry:=[38] },muts:=(fun o=>match o with | .call _=>true|o=>mutsD o) }
theorem okY2:CxOK Y2:=CxOK.four (fun _ _ _ _ h=>h.elim) (by kernel_rfl) (okInl (by kernel_rfl)) tabBL_ok
abbrev RK (q:IntKind) (k:Nat):RowR (List Int):=fun _ x r=>r=x.map (.int q)/\x.length=k
theorem RK_ok (q:IntKind) (hk:0<k):RowOK k (RK q k) where
 mono _ h:=h
 len h:=by rw [h.1,List.length_map];exact h.2
 one h v hv:=by
  rw [h.1] at hv
  obtain ⟨z,_,rfl⟩:=List.mem_map.1 hv
  rfl
 pos:=hk
theorem RK_load (hk:0<k) {T:TypeId} (hT:Try.prog.underlying T=some (.int q)) (h:SL (RK q k) E b n c xs) {x:List Int} (hx:xs[i]? =some x):
  ∀ j,j<k->LoadE Try.prog E T (.slice b n c) (i*k+j) (.raw (.int q (x.getD j 0))):=fun j hj=>by
 obtain ⟨r,v,⟨h1,h2⟩,h3,h4⟩:=SL.loadC (RK_ok q hk) h hT rfl hx hj
 rw [h1,List.getElem?_map] at h3
 rw [List.getD_eq_getElem?_getD]
 rw [List.getElem?_eq_getElem (by omega)] at h3 ⊢
 simp only [Option.map_some,Option.some.injEq] at h3
 rw [← h3] at h4
 exact h4
def wList (F:List Int×Bool->List Int->List Int×Bool) (hi:Int) (o:List Int×Bool) (xs:List (List Int)):List Int×Bool:=
 if (xs.length:Int)>hi then wnum o xs.length 0 hi else xs.foldl F (wnum o xs.length 0 hi)
theorem foldl_takeL {α β:Type} {f:β->α->β} {d:β} {ys:List α} {x:α} (h:ys[i]? =some x):(ys.take (i+1)).foldl f d=f ((ys.take i).foldl f d) x:=by
 obtain ⟨h1,h2⟩:=List.getElem?_eq_some_iff.1 h
 rw [List.take_succ_eq_append_getElem h1,List.foldl_append,h2];rfl
theorem weD_len (o:List Int×Bool) (x:List Int):(weD o x).1.length<=o.1.length+80:=by
 unfold weD wdig;simp [digB]
theorem weI85_len (o:List Int×Bool) (x:List Int):(weI its85 o x).1.length<=o.1.length+80:=by
 have h:=weI_len its85 o x
 have e:its85.length=4:=by decide
 omega
def shL84 (out:List Int) (bad:Bool) (n cap tot i m:Nat) (us:List Value) (e t off:Nat) (hi:Int) (E:Mem):St:=⟨[some (.ifc 74 (.loc 0 0)),oc 2 off,oI hi,some (.clo 85 [] [.loc 3 0]),none,none,none,none,none,none,none,none,none,none,none,none,none,none,none,none,none,none,none,none,none,none,none,none,none,none,none,none,none,none,none,none,none,oI (m:Nat),oI (i:Nat)]++List.replicate 10 none,[⟨76,.lst [.slc 4 0 n cap,B bad],2,true⟩,deadB,⟨e,.vals us,t,true⟩,⟨129,.lst [.ifc 74 (.loc 0 0)],1,true⟩,⟨5,.vals (vB out),tot,true⟩],E⟩
theorem rn84 (hv:us[off]? =some (.slice b m c)) (X:SL (RK .i64 4) E b m c xs) (W:WOK o.1 n cap tot) (hn:n<=900000) (hm:m<=60)
  (h:i=m->KK (.tup []) [⟨76,.lst [.slc 4 0 n cap,B o.2],2,true⟩,deadB,⟨e,.vals us,t,true⟩,⟨129,.lst [.ifc 74 (.loc 0 0)],1,true⟩,⟨5,.vals (vB o.1),tot,true⟩] E) (hQ:∀ s bx',cloK 4 KK s bx' E->Q s bx' E)
  (ih:∀ (x:List Int) (o':List Int×Bool) (n' cap' tot':Nat),xs[i]? =some x->(weI its85) o x=o'->WOK o'.1 n' cap' tot'->n'<=n+80->Lp Y2 6 Try.f84 [1,1,1,1,1,0] 4 Q (shL84 o'.1 o'.2 n' cap' tot' (i+1) m us e t off hi E)) (hi':i<=m):
  Rnd Y2 6 Try.f84 [1,1,1,1,1,0] 4 Q (shL84 o.1 o.2 n cap tot i m us e t off hi E):=by
 refine sm_ (?_:bif decide ((NI i)<(NI m)) then ∃ (base:Option Addr),∃ (len:Nat),∃ (cap_1:Nat),LoadV Y2.P 26 us off (L base len cap_1)/\req (0<=(NI i)/\(NI i)<(NI len)) ((∃ (cs:List Value),E (VS base len cap_1) cs/\(cs=[]->False))/\(129=129/\74=74/\1=1)/\∃ (out:List Int),((76=76/\2=2/\5=5/\vB o.fst=vB out)/\WOK out n cap tot/\n<=1000000)/\∃ (x:List Int),(n<=900000/\∀ (j:Nat),j<4->LoadE Try.prog E 3 (VS base len cap_1) (Int.toNat (NI i)*4+j) (I (List.getD x j 0)))/\∀ (o':List Int×Bool) (n' cap' tot':Nat),Hyp (weI its85 (out,o.snd) x=o')->WOK o'.fst n' cap' tot'->Lp Y2 6 Try.f84 [1,1,1,1,1,0] 4 Q { fr:=some (SV.ifc 74 (SV.loc 0 0))::oc 2 off::oI hi::some (SV.clo 85 [] [SV.loc 3 0])::no32 (none::(oI (NI m)::oI (WI ((NI i)+1))::no8 (no2 []))),bx:=[(⟨76,.lst [SV.slc 5 0 n' cap',B o'.snd],2,true⟩:Box),⟨5,.lst [],0,false⟩,⟨e,Row.vals us,t,true⟩,⟨129,.lst [SV.ifc 74 (SV.loc 0 0)],1,true⟩,⟨5,.lst [],0,false⟩,⟨5,.vals (vB o'.fst),tot',true⟩],E:=E:St }) else Q (SV.tup []) [⟨76,.lst [SV.slc 4 0 n cap,B o.snd],2,true⟩,⟨5,.lst [],0,false⟩,⟨e,Row.vals us,t,true⟩,⟨129,.lst [SV.ifc 74 (SV.loc 0 0)],1,true⟩,⟨5,.vals (vB o.fst),tot,true⟩] E)
 delta WI NI VS no2 no8 no32
 have hl:=X.len
 refine condC (fun g=>?_) (fun g=>?_)
 ·have g:i<m:=by simpa using g
  obtain ⟨x,hx⟩:∃ x,xs[i]? =some x:=⟨_,List.getElem?_eq_getElem (by omega)⟩
  have w:IntKind.wrap .i64 ((i:Int)+1)=((i+1:Nat):Int):=by rw [wrap_i64 (by omega)];omega
  rw [w]
  refine ⟨b,m,c,loadV_cell rfl rfl hv,req_intro (by omega) ⟨SL.ne (RK_ok .i64 (by decide)) X g,⟨rfl,rfl,rfl⟩,_,⟨⟨rfl,rfl,rfl,rfl⟩,W,by omega⟩,x,⟨hn,RK_load (by decide) rfl X hx⟩,fun o' n' cap' tot' q1 W'=>?_⟩⟩
  have q1:(weI its85) o x=o':=q1
  have hlen:=weI85_len o x
  rw [q1,W'.len,W.len] at hlen
  exact Lp_re [some 0,some 1,some 2,some 3,some 5] (ih x o' n' cap' tot' hx q1 W' hlen) (wkH mr_)
 ·have g:i=m:=by simp at g;omega
  exact hQ _ _ (cloK_intro [some 0,some 1,some 2,some 3,some 4] (h g) (wkH mr_))
theorem n84 {bad:Bool} (hv:us[off]? =some (.slice b m c)) (X:SL (RK .i64 4) E b m c xs) (W:WOK out n cap tot) (hn:n<=800000) (hh:0<=hi/\hi<=60)
  (h:∀ (o':List Int×Bool) (n' cap' tot':Nat),Hyp (wList (weI its85) hi (out,bad) xs=o')->WOK o'.1 n' cap' tot'->n'<=n+5000->KK (.tup []) [⟨76,.lst [.slc 4 0 n' cap',B o'.2],2,true⟩,deadB,⟨e,.vals us,t,true⟩,⟨129,.lst [.ifc 74 (.loc 0 0)],1,true⟩,⟨5,.vals (vB o'.1),tot',true⟩] E) (hQ:∀ s bx',cloK 4 KK s bx' E->Q s bx' E):
  EntB Y2 6 Try.f84 [.ifc 74 (.loc 0 0),.loc 2 off,I hi,.clo 85 [] [.loc 3 0]] [⟨76,.lst [.slc 1 0 n cap,B bad],2,true⟩,⟨5,.vals (vB out),tot,true⟩,⟨e,.vals us,t,true⟩,⟨129,.lst [.ifc 74 (.loc 0 0)],1,true⟩] E Q:=by
 refine sm_ (?_:∃ (base:Option Addr),∃ (len:Nat),∃ (cap_1:Nat),LoadV Y2.P 26 us off (L base len cap_1)/\((-10000000000000:Int)<=(0:Int)/\hi<=(10000000000000:Int))/\∃ (out_1:List Int),((76=76/\2=2/\5=5/\vB out=vB out_1)/\WOK out_1 n cap tot/\n<=1000000)/\IntKind.i64=IntKind.i64/\∀ (o':List Int×Bool) (n' cap' tot':Nat),Hyp (wnum (out_1,bad) (NI len) 0 hi=o')->WOK o'.fst n' cap' tot'->bif bif false then true else decide ((NI len)>hi) then Q (SV.tup []) [⟨76,.lst [SV.slc 5 0 n' cap',B o'.snd],2,true⟩,⟨5,.lst [],0,false⟩,⟨e,Row.vals us,t,true⟩,⟨129,.lst [SV.ifc 74 (SV.loc 0 0)],1,true⟩,⟨3,.lst [I (NI len)],1,true⟩,⟨5,.vals (vB o'.fst),tot',true⟩] E else ∃ (base_1:Option Addr),∃ (len_1:Nat),∃ (cap:Nat),LoadV Y2.P 26 us off (L base_1 len_1 cap)/\Sx.Alike al2 (bif (NI len_1) !=(NI len) then req (0<=(NI len)/\(NI len)<=(NI len)) (req ((NI len)*32<=(140737488355328:Int)) False) else ∃ (base_2:Option Addr),∃ (len_2:Nat),∃ (cap_2:Nat),LoadV Y2.P 26 us off (L base_2 len_2 cap_2)/\Lp Y2 6 Try.f84 [1,1,1,1,1,0] 4 Q { fr:=some (SV.ifc 74 (SV.loc 0 0))::oc 2 off::oI hi::some (SV.clo 85 [] [SV.loc 3 0])::none::none::none::none::oc 4 0::none::oc 2 off::oc 2 off::oL base len cap_1::oI (NI len)::some (SV.ifc 74 (SV.loc 0 0))::oI hi::some (SV.tup [])::oI (NI len)::oB false::oB false::oI (NI len)::oI hi::oB (decide ((NI len)>hi))::oB (bif false then true else decide ((NI len)>hi))::oc 2 off::oc 2 off::oL base_1 len_1 cap::oI (NI len_1)::oI (NI len)::oB ((NI len_1) !=(NI len))::none::none::none::none::oc 2 off::oc 2 off::oL base_2 len_2 cap_2::oI (NI len_2)::oI 0::no8 (no2 []),bx:=[(⟨76,.lst [SV.slc 5 0 n' cap',B o'.snd],2,true⟩:Box),⟨5,.lst [],0,false⟩,⟨e,Row.vals us,t,true⟩,⟨129,.lst [SV.ifc 74 (SV.loc 0 0)],1,true⟩,⟨3,.lst [I (NI len)],1,true⟩,⟨5,.vals (vB o'.fst),tot',true⟩],E:=E:St }))
 delta NI no2 no8
 have hl:=X.len
 have ld:LoadV Y2.P 26 us off (L b m c):=loadV_cell rfl rfl hv
 refine ⟨b,m,c,ld,⟨by decide,by omega⟩,_,⟨⟨rfl,rfl,rfl,rfl⟩,W,by omega⟩,rfl,fun o1 n1 c1 t1 q1 W1=>condC (fun g=>?_) (fun g=>⟨b,m,c,ld,alike (condC (fun g2=>absurd g2 (by simp)) (fun _=>⟨b,m,c,ld,?_⟩))⟩)⟩
 ·have g:(m:Int)>hi:=by simpa using g
  have q1:wnum (out,bad) (m:Int) 0 hi=o1:=q1
  have l1:=len10 q1 W W1
  exact hQ _ _ (cloK_intro [some 0,some 1,some 2,some 3,some 5] (h o1 n1 c1 t1 (by show wList (weI its85) hi (out,bad) xs=_;unfold wList;rw [if_pos (by omega),hl];exact q1) W1 (by omega)) (wkH mr_))
 ·have g:¬ (m:Int)>hi:=by simpa using g
  have q1:wnum (out,bad) (m:Int) 0 hi=o1:=q1
  have l1:=len10 q1 W W1
  have fin:wList (weI its85) hi (out,bad) xs=xs.foldl (weI its85) o1:=by unfold wList;rw [if_neg (by omega),hl,q1]
  have key:=Lp_ind okY2 (n:=6) (fn:=Try.f84) (p:=[1,1,1,1,1,0]) (n0:=4) (K:=Q) (fun z:{z:Nat×(List Int×Bool)×Nat×Nat×Nat//z.1<=m/\(xs.take z.1).foldl (weI its85) o1=z.2.1/\WOK z.2.1.1 z.2.2.1 z.2.2.2.1 z.2.2.2.2/\z.2.2.1<=n1+80*z.1}=>shL84 z.1.2.1.1 z.1.2.1.2 z.1.2.2.1 z.1.2.2.2.1 z.1.2.2.2.2 z.1.1 m us e t off hi E) (fun z=>m-z.1.1)
   (fun z ih=>by
    obtain ⟨⟨i,o,n2,c2,t2⟩,z1,z2,z3,z4⟩:=z
    have z1:i<=m:=z1
    have z4:n2<=n1+80*i:=z4
    show Rnd Y2 6 Try.f84 [1,1,1,1,1,0] 4 Q (shL84 o.1 o.2 n2 c2 t2 i m us e t off hi E)
    refine rn84 hv X z3 (by omega) (by omega) (fun e1=>?_) hQ (fun x o' n' c' t' hx hF hW hlen=>?_) z1
    ·have e1:i=m:=e1
     subst e1
     have z2:(xs.take i).foldl (weI its85) o1=o:=z2
     rw [List.take_of_length_le (by omega)] at z2
     exact h o n2 c2 t2 (by show wList (weI its85) hi (out,bad) xs=_;rw [fin,z2]) z3 (by omega)
    ·have hi2:i<m:=by have:=(List.getElem?_eq_some_iff.1 hx).1;omega
     refine ih ⟨⟨i+1,o',n',c',t'⟩,hi2,?_,hW,by show n'<=n1+80*(i+1);omega⟩ (by show m-(i+1)<m-i;omega)
     rw [foldl_takeL hx,z2];exact hF)
  have hp:m<=60:=by omega
  exact Lp_re [some 0,some 1,some 2,some 3,some 5] (key ⟨⟨0,o1,n1,c1,t1⟩,Nat.zero_le _,rfl,W1,by simp⟩) (wkH mr_)
theorem weI88_len (o:List Int×Bool) (x:List Int):(weI its88 o x).1.length<=o.1.length+80:=by
 have h:=weI_len its88 o x
 have e:its88.length=5:=by decide
 omega
def shL87 (out:List Int) (bad:Bool) (n cap tot i m:Nat) (us:List Value) (e t off:Nat) (hi:Int) (E:Mem):St:=⟨[some (.ifc 74 (.loc 0 0)),oc 2 off,oI hi,some (.clo 88 [] [.loc 3 0]),none,none,none,none,none,none,none,none,none,none,none,none,none,none,none,none,none,none,none,none,none,none,none,none,none,none,none,none,none,none,none,none,none,oI (m:Nat),oI (i:Nat)]++List.replicate 10 none,[⟨76,.lst [.slc 4 0 n cap,B bad],2,true⟩,deadB,⟨e,.vals us,t,true⟩,⟨129,.lst [.ifc 74 (.loc 0 0)],1,true⟩,⟨5,.vals (vB out),tot,true⟩],E⟩
theorem rn87 (hv:us[off]? =some (.slice b m c)) (X:SL (RK .i64 5) E b m c xs) (W:WOK o.1 n cap tot) (hn:n<=900000) (hm:m<=60)
  (h:i=m->KK (.tup []) [⟨76,.lst [.slc 4 0 n cap,B o.2],2,true⟩,deadB,⟨e,.vals us,t,true⟩,⟨129,.lst [.ifc 74 (.loc 0 0)],1,true⟩,⟨5,.vals (vB o.1),tot,true⟩] E) (hQ:∀ s bx',cloK 4 KK s bx' E->Q s bx' E)
  (ih:∀ (x:List Int) (o':List Int×Bool) (n' cap' tot':Nat),xs[i]? =some x->(weI its88) o x=o'->WOK o'.1 n' cap' tot'->n'<=n+80->Lp Y2 6 Try.f87 [1,1,1,1,1,0] 4 Q (shL87 o'.1 o'.2 n' cap' tot' (i+1) m us e t off hi E)) (hi':i<=m):
  Rnd Y2 6 Try.f87 [1,1,1,1,1,0] 4 Q (shL87 o.1 o.2 n cap tot i m us e t off hi E):=by
 refine sm_ (?_:bif decide ((NI i)<(NI m)) then ∃ (base:Option Addr),∃ (len:Nat),∃ (cap_1:Nat),LoadV Y2.P 27 us off (L base len cap_1)/\req (0<=(NI i)/\(NI i)<(NI len)) ((∃ (cs:List Value),E (VS base len cap_1) cs/\(cs=[]->False))/\(129=129/\74=74/\1=1)/\∃ (out:List Int),((76=76/\2=2/\5=5/\vB o.fst=vB out)/\WOK out n cap tot/\n<=1000000)/\∃ (x:List Int),(n<=900000/\∀ (j:Nat),j<5->LoadE Try.prog E 3 (VS base len cap_1) (Int.toNat (NI i)*5+j) (I (List.getD x j 0)))/\∀ (o':List Int×Bool) (n' cap' tot':Nat),Hyp (weI its88 (out,o.snd) x=o')->WOK o'.fst n' cap' tot'->Lp Y2 6 Try.f87 [1,1,1,1,1,0] 4 Q { fr:=some (SV.ifc 74 (SV.loc 0 0))::oc 2 off::oI hi::some (SV.clo 88 [] [SV.loc 3 0])::no32 (none::(oI (NI m)::oI (WI ((NI i)+1))::no8 (no2 []))),bx:=[(⟨76,.lst [SV.slc 5 0 n' cap',B o'.snd],2,true⟩:Box),⟨5,.lst [],0,false⟩,⟨e,Row.vals us,t,true⟩,⟨129,.lst [SV.ifc 74 (SV.loc 0 0)],1,true⟩,⟨5,.lst [],0,false⟩,⟨5,.vals (vB o'.fst),tot',true⟩],E:=E:St }) else Q (SV.tup []) [⟨76,.lst [SV.slc 4 0 n cap,B o.snd],2,true⟩,⟨5,.lst [],0,false⟩,⟨e,Row.vals us,t,true⟩,⟨129,.lst [SV.ifc 74 (SV.loc 0 0)],1,true⟩,⟨5,.vals (vB o.fst),tot,true⟩] E)
 delta WI NI VS no2 no8 no32
 have hl:=X.len
 refine condC (fun g=>?_) (fun g=>?_)
 ·have g:i<m:=by simpa using g
  obtain ⟨x,hx⟩:∃ x,xs[i]? =some x:=⟨_,List.getElem?_eq_getElem (by omega)⟩
  have w:IntKind.wrap .i64 ((i:Int)+1)=((i+1:Nat):Int):=by rw [wrap_i64 (by omega)];omega
  rw [w]
  refine ⟨b,m,c,loadV_cell rfl rfl hv,req_intro (by omega) ⟨SL.ne (RK_ok .i64 (by decide)) X g,⟨rfl,rfl,rfl⟩,_,⟨⟨rfl,rfl,rfl,rfl⟩,W,by omega⟩,x,⟨hn,RK_load (by decide) rfl X hx⟩,fun o' n' cap' tot' q1 W'=>?_⟩⟩
  have q1:(weI its88) o x=o':=q1
  have hlen:=weI88_len o x
  rw [q1,W'.len,W.len] at hlen
  exact Lp_re [some 0,some 1,some 2,some 3,some 5] (ih x o' n' cap' tot' hx q1 W' hlen) (wkH mr_)
 ·have g:i=m:=by simp at g;omega
  exact hQ _ _ (cloK_intro [some 0,some 1,some 2,some 3,some 4] (h g) (wkH mr_))
theorem n87 {bad:Bool} (hv:us[off]? =some (.slice b m c)) (X:SL (RK .i64 5) E b m c xs) (W:WOK out n cap tot) (hn:n<=800000) (hh:0<=hi/\hi<=60)
  (h:∀ (o':List Int×Bool) (n' cap' tot':Nat),Hyp (wList (weI its88) hi (out,bad) xs=o')->WOK o'.1 n' cap' tot'->n'<=n+5000->KK (.tup []) [⟨76,.lst [.slc 4 0 n' cap',B o'.2],2,true⟩,deadB,⟨e,.vals us,t,true⟩,⟨129,.lst [.ifc 74 (.loc 0 0)],1,true⟩,⟨5,.vals (vB o'.1),tot',true⟩] E) (hQ:∀ s bx',cloK 4 KK s bx' E->Q s bx' E):
  EntB Y2 6 Try.f87 [.ifc 74 (.loc 0 0),.loc 2 off,I hi,.clo 88 [] [.loc 3 0]] [⟨76,.lst [.slc 1 0 n cap,B bad],2,true⟩,⟨5,.vals (vB out),tot,true⟩,⟨e,.vals us,t,true⟩,⟨129,.lst [.ifc 74 (.loc 0 0)],1,true⟩] E Q:=by
 refine sm_ (?_:∃ (base:Option Addr),∃ (len:Nat),∃ (cap_1:Nat),LoadV Y2.P 27 us off (L base len cap_1)/\((-10000000000000:Int)<=(0:Int)/\hi<=(10000000000000:Int))/\∃ (out_1:List Int),((76=76/\2=2/\5=5/\vB out=vB out_1)/\WOK out_1 n cap tot/\n<=1000000)/\IntKind.i64=IntKind.i64/\∀ (o':List Int×Bool) (n' cap' tot':Nat),Hyp (wnum (out_1,bad) (NI len) 0 hi=o')->WOK o'.fst n' cap' tot'->bif bif false then true else decide ((NI len)>hi) then Q (SV.tup []) [⟨76,.lst [SV.slc 5 0 n' cap',B o'.snd],2,true⟩,⟨5,.lst [],0,false⟩,⟨e,Row.vals us,t,true⟩,⟨129,.lst [SV.ifc 74 (SV.loc 0 0)],1,true⟩,⟨3,.lst [I (NI len)],1,true⟩,⟨5,.vals (vB o'.fst),tot',true⟩] E else ∃ (base_1:Option Addr),∃ (len_1:Nat),∃ (cap:Nat),LoadV Y2.P 27 us off (L base_1 len_1 cap)/\Sx.Alike al2 (bif (NI len_1) !=(NI len) then req (0<=(NI len)/\(NI len)<=(NI len)) (req ((NI len)*40<=(140737488355328:Int)) False) else ∃ (base_2:Option Addr),∃ (len_2:Nat),∃ (cap_2:Nat),LoadV Y2.P 27 us off (L base_2 len_2 cap_2)/\Lp Y2 6 Try.f87 [1,1,1,1,1,0] 4 Q { fr:=some (SV.ifc 74 (SV.loc 0 0))::oc 2 off::oI hi::some (SV.clo 88 [] [SV.loc 3 0])::none::none::none::none::oc 4 0::none::oc 2 off::oc 2 off::oL base len cap_1::oI (NI len)::some (SV.ifc 74 (SV.loc 0 0))::oI hi::some (SV.tup [])::oI (NI len)::oB false::oB false::oI (NI len)::oI hi::oB (decide ((NI len)>hi))::oB (bif false then true else decide ((NI len)>hi))::oc 2 off::oc 2 off::oL base_1 len_1 cap::oI (NI len_1)::oI (NI len)::oB ((NI len_1) !=(NI len))::none::none::none::none::oc 2 off::oc 2 off::oL base_2 len_2 cap_2::oI (NI len_2)::oI 0::no8 (no2 []),bx:=[(⟨76,.lst [SV.slc 5 0 n' cap',B o'.snd],2,true⟩:Box),⟨5,.lst [],0,false⟩,⟨e,Row.vals us,t,true⟩,⟨129,.lst [SV.ifc 74 (SV.loc 0 0)],1,true⟩,⟨3,.lst [I (NI len)],1,true⟩,⟨5,.vals (vB o'.fst),tot',true⟩],E:=E:St }))
 delta NI no2 no8
 have hl:=X.len
 have ld:LoadV Y2.P 27 us off (L b m c):=loadV_cell rfl rfl hv
 refine ⟨b,m,c,ld,⟨by decide,by omega⟩,_,⟨⟨rfl,rfl,rfl,rfl⟩,W,by omega⟩,rfl,fun o1 n1 c1 t1 q1 W1=>condC (fun g=>?_) (fun g=>⟨b,m,c,ld,alike (condC (fun g2=>absurd g2 (by simp)) (fun _=>⟨b,m,c,ld,?_⟩))⟩)⟩
 ·have g:(m:Int)>hi:=by simpa using g
  have q1:wnum (out,bad) (m:Int) 0 hi=o1:=q1
  have l1:=len10 q1 W W1
  exact hQ _ _ (cloK_intro [some 0,some 1,some 2,some 3,some 5] (h o1 n1 c1 t1 (by show wList (weI its88) hi (out,bad) xs=_;unfold wList;rw [if_pos (by omega),hl];exact q1) W1 (by omega)) (wkH mr_))
 ·have g:¬ (m:Int)>hi:=by simpa using g
  have q1:wnum (out,bad) (m:Int) 0 hi=o1:=q1
  have l1:=len10 q1 W W1
  have fin:wList (weI its88) hi (out,bad) xs=xs.foldl (weI its88) o1:=by unfold wList;rw [if_neg (by omega),hl,q1]
  have key:=Lp_ind okY2 (n:=6) (fn:=Try.f87) (p:=[1,1,1,1,1,0]) (n0:=4) (K:=Q) (fun z:{z:Nat×(List Int×Bool)×Nat×Nat×Nat//z.1<=m/\(xs.take z.1).foldl (weI its88) o1=z.2.1/\WOK z.2.1.1 z.2.2.1 z.2.2.2.1 z.2.2.2.2/\z.2.2.1<=n1+80*z.1}=>shL87 z.1.2.1.1 z.1.2.1.2 z.1.2.2.1 z.1.2.2.2.1 z.1.2.2.2.2 z.1.1 m us e t off hi E) (fun z=>m-z.1.1)
   (fun z ih=>by
    obtain ⟨⟨i,o,n2,c2,t2⟩,z1,z2,z3,z4⟩:=z
    have z1:i<=m:=z1
    have z4:n2<=n1+80*i:=z4
    show Rnd Y2 6 Try.f87 [1,1,1,1,1,0] 4 Q (shL87 o.1 o.2 n2 c2 t2 i m us e t off hi E)
    refine rn87 hv X z3 (by omega) (by omega) (fun e1=>?_) hQ (fun x o' n' c' t' hx hF hW hlen=>?_) z1
    ·have e1:i=m:=e1
     subst e1
     have z2:(xs.take i).foldl (weI its88) o1=o:=z2
     rw [List.take_of_length_le (by omega)] at z2
     exact h o n2 c2 t2 (by show wList (weI its88) hi (out,bad) xs=_;rw [fin,z2]) z3 (by omega)
    ·have hi2:i<m:=by have:=(List.getElem?_eq_some_iff.1 hx).1;omega
     refine ih ⟨⟨i+1,o',n',c',t'⟩,hi2,?_,hW,by show n'<=n1+80*(i+1);omega⟩ (by show m-(i+1)<m-i;omega)
     rw [foldl_takeL hx,z2];exact hF)
  have hp:m<=60:=by omega
  exact Lp_re [some 0,some 1,some 2,some 3,some 5] (key ⟨⟨0,o1,n1,c1,t1⟩,Nat.zero_le _,rfl,W1,by simp⟩) (wkH mr_)
theorem weI90_len (o:List Int×Bool) (x:List Int):(weI its90 o x).1.length<=o.1.length+80:=by
 have h:=weI_len its90 o x
 have e:its90.length=3:=by decide
 omega
def shL89 (out:List Int) (bad:Bool) (n cap tot i m:Nat) (us:List Value) (e t off:Nat) (hi:Int) (E:Mem):St:=⟨[some (.ifc 74 (.loc 0 0)),oc 2 off,oI hi,some (.clo 90 [] [.loc 3 0]),none,none,none,none,none,none,none,none,none,none,none,none,none,none,none,none,none,none,none,none,none,none,none,none,none,none,none,none,none,none,none,none,none,oI (m:Nat),oI (i:Nat)]++List.replicate 10 none,[⟨76,.lst [.slc 4 0 n cap,B bad],2,true⟩,deadB,⟨e,.vals us,t,true⟩,⟨129,.lst [.ifc 74 (.loc 0 0)],1,true⟩,⟨5,.vals (vB out),tot,true⟩],E⟩
theorem rn89 (hv:us[off]? =some (.slice b m c)) (X:SL (RK .i64 3) E b m c xs) (W:WOK o.1 n cap tot) (hn:n<=900000) (hm:m<=60)
  (h:i=m->KK (.tup []) [⟨76,.lst [.slc 4 0 n cap,B o.2],2,true⟩,deadB,⟨e,.vals us,t,true⟩,⟨129,.lst [.ifc 74 (.loc 0 0)],1,true⟩,⟨5,.vals (vB o.1),tot,true⟩] E) (hQ:∀ s bx',cloK 4 KK s bx' E->Q s bx' E)
  (ih:∀ (x:List Int) (o':List Int×Bool) (n' cap' tot':Nat),xs[i]? =some x->(weI its90) o x=o'->WOK o'.1 n' cap' tot'->n'<=n+80->Lp Y2 6 Try.f89 [1,1,1,1,1,0] 4 Q (shL89 o'.1 o'.2 n' cap' tot' (i+1) m us e t off hi E)) (hi':i<=m):
  Rnd Y2 6 Try.f89 [1,1,1,1,1,0] 4 Q (shL89 o.1 o.2 n cap tot i m us e t off hi E):=by
 refine sm_ (?_:bif decide ((NI i)<(NI m)) then ∃ (base:Option Addr),∃ (len:Nat),∃ (cap_1:Nat),LoadV Y2.P 28 us off (L base len cap_1)/\req (0<=(NI i)/\(NI i)<(NI len)) ((∃ (cs:List Value),E (VS base len cap_1) cs/\(cs=[]->False))/\(129=129/\74=74/\1=1)/\∃ (out:List Int),((76=76/\2=2/\5=5/\vB o.fst=vB out)/\WOK out n cap tot/\n<=1000000)/\∃ (x:List Int),(n<=900000/\∀ (j:Nat),j<3->LoadE Try.prog E 3 (VS base len cap_1) (Int.toNat (NI i)*3+j) (I (List.getD x j 0)))/\∀ (o':List Int×Bool) (n' cap' tot':Nat),Hyp (weI its90 (out,o.snd) x=o')->WOK o'.fst n' cap' tot'->Lp Y2 6 Try.f89 [1,1,1,1,1,0] 4 Q { fr:=some (SV.ifc 74 (SV.loc 0 0))::oc 2 off::oI hi::some (SV.clo 90 [] [SV.loc 3 0])::no32 (none::(oI (NI m)::oI (WI ((NI i)+1))::no8 (no2 []))),bx:=[(⟨76,.lst [SV.slc 5 0 n' cap',B o'.snd],2,true⟩:Box),⟨5,.lst [],0,false⟩,⟨e,Row.vals us,t,true⟩,⟨129,.lst [SV.ifc 74 (SV.loc 0 0)],1,true⟩,⟨5,.lst [],0,false⟩,⟨5,.vals (vB o'.fst),tot',true⟩],E:=E:St }) else Q (SV.tup []) [⟨76,.lst [SV.slc 4 0 n cap,B o.snd],2,true⟩,⟨5,.lst [],0,false⟩,⟨e,Row.vals us,t,true⟩,⟨129,.lst [SV.ifc 74 (SV.loc 0 0)],1,true⟩,⟨5,.vals (vB o.fst),tot,true⟩] E)
 delta WI NI VS no2 no8 no32
 have hl:=X.len
 refine condC (fun g=>?_) (fun g=>?_)
 ·have g:i<m:=by simpa using g
  obtain ⟨x,hx⟩:∃ x,xs[i]? =some x:=⟨_,List.getElem?_eq_getElem (by omega)⟩
  have w:IntKind.wrap .i64 ((i:Int)+1)=((i+1:Nat):Int):=by rw [wrap_i64 (by omega)];omega
  rw [w]
  refine ⟨b,m,c,loadV_cell rfl rfl hv,req_intro (by omega) ⟨SL.ne (RK_ok .i64 (by decide)) X g,⟨rfl,rfl,rfl⟩,_,⟨⟨rfl,rfl,rfl,rfl⟩,W,by omega⟩,x,⟨hn,RK_load (by decide) rfl X hx⟩,fun o' n' cap' tot' q1 W'=>?_⟩⟩
  have q1:(weI its90) o x=o':=q1
  have hlen:=weI90_len o x
  rw [q1,W'.len,W.len] at hlen
  exact Lp_re [some 0,some 1,some 2,some 3,some 5] (ih x o' n' cap' tot' hx q1 W' hlen) (wkH mr_)
 ·have g:i=m:=by simp at g;omega
  exact hQ _ _ (cloK_intro [some 0,some 1,some 2,some 3,some 4] (h g) (wkH mr_))
theorem n89 {bad:Bool} (hv:us[off]? =some (.slice b m c)) (X:SL (RK .i64 3) E b m c xs) (W:WOK out n cap tot) (hn:n<=800000) (hh:0<=hi/\hi<=60)
  (h:∀ (o':List Int×Bool) (n' cap' tot':Nat),Hyp (wList (weI its90) hi (out,bad) xs=o')->WOK o'.1 n' cap' tot'->n'<=n+5000->KK (.tup []) [⟨76,.lst [.slc 4 0 n' cap',B o'.2],2,true⟩,deadB,⟨e,.vals us,t,true⟩,⟨129,.lst [.ifc 74 (.loc 0 0)],1,true⟩,⟨5,.vals (vB o'.1),tot',true⟩] E) (hQ:∀ s bx',cloK 4 KK s bx' E->Q s bx' E):
  EntB Y2 6 Try.f89 [.ifc 74 (.loc 0 0),.loc 2 off,I hi,.clo 90 [] [.loc 3 0]] [⟨76,.lst [.slc 1 0 n cap,B bad],2,true⟩,⟨5,.vals (vB out),tot,true⟩,⟨e,.vals us,t,true⟩,⟨129,.lst [.ifc 74 (.loc 0 0)],1,true⟩] E Q:=by
 refine sm_ (?_:∃ (base:Option Addr),∃ (len:Nat),∃ (cap_1:Nat),LoadV Y2.P 28 us off (L base len cap_1)/\((-10000000000000:Int)<=(0:Int)/\hi<=(10000000000000:Int))/\∃ (out_1:List Int),((76=76/\2=2/\5=5/\vB out=vB out_1)/\WOK out_1 n cap tot/\n<=1000000)/\IntKind.i64=IntKind.i64/\∀ (o':List Int×Bool) (n' cap' tot':Nat),Hyp (wnum (out_1,bad) (NI len) 0 hi=o')->WOK o'.fst n' cap' tot'->bif bif false then true else decide ((NI len)>hi) then Q (SV.tup []) [⟨76,.lst [SV.slc 5 0 n' cap',B o'.snd],2,true⟩,⟨5,.lst [],0,false⟩,⟨e,Row.vals us,t,true⟩,⟨129,.lst [SV.ifc 74 (SV.loc 0 0)],1,true⟩,⟨3,.lst [I (NI len)],1,true⟩,⟨5,.vals (vB o'.fst),tot',true⟩] E else ∃ (base_1:Option Addr),∃ (len_1:Nat),∃ (cap:Nat),LoadV Y2.P 28 us off (L base_1 len_1 cap)/\Sx.Alike al2 (bif (NI len_1) !=(NI len) then req (0<=(NI len)/\(NI len)<=(NI len)) (req ((NI len)*24<=(140737488355328:Int)) False) else ∃ (base_2:Option Addr),∃ (len_2:Nat),∃ (cap_2:Nat),LoadV Y2.P 28 us off (L base_2 len_2 cap_2)/\Lp Y2 6 Try.f89 [1,1,1,1,1,0] 4 Q { fr:=some (SV.ifc 74 (SV.loc 0 0))::oc 2 off::oI hi::some (SV.clo 90 [] [SV.loc 3 0])::none::none::none::none::oc 4 0::none::oc 2 off::oc 2 off::oL base len cap_1::oI (NI len)::some (SV.ifc 74 (SV.loc 0 0))::oI hi::some (SV.tup [])::oI (NI len)::oB false::oB false::oI (NI len)::oI hi::oB (decide ((NI len)>hi))::oB (bif false then true else decide ((NI len)>hi))::oc 2 off::oc 2 off::oL base_1 len_1 cap::oI (NI len_1)::oI (NI len)::oB ((NI len_1) !=(NI len))::none::none::none::none::oc 2 off::oc 2 off::oL base_2 len_2 cap_2::oI (NI len_2)::oI 0::no8 (no2 []),bx:=[(⟨76,.lst [SV.slc 5 0 n' cap',B o'.snd],2,true⟩:Box),⟨5,.lst [],0,false⟩,⟨e,Row.vals us,t,true⟩,⟨129,.lst [SV.ifc 74 (SV.loc 0 0)],1,true⟩,⟨3,.lst [I (NI len)],1,true⟩,⟨5,.vals (vB o'.fst),tot',true⟩],E:=E:St }))
 delta NI no2 no8
 have hl:=X.len
 have ld:LoadV Y2.P 28 us off (L b m c):=loadV_cell rfl rfl hv
 refine ⟨b,m,c,ld,⟨by decide,by omega⟩,_,⟨⟨rfl,rfl,rfl,rfl⟩,W,by omega⟩,rfl,fun o1 n1 c1 t1 q1 W1=>condC (fun g=>?_) (fun g=>⟨b,m,c,ld,alike (condC (fun g2=>absurd g2 (by simp)) (fun _=>⟨b,m,c,ld,?_⟩))⟩)⟩
 ·have g:(m:Int)>hi:=by simpa using g
  have q1:wnum (out,bad) (m:Int) 0 hi=o1:=q1
  have l1:=len10 q1 W W1
  exact hQ _ _ (cloK_intro [some 0,some 1,some 2,some 3,some 5] (h o1 n1 c1 t1 (by show wList (weI its90) hi (out,bad) xs=_;unfold wList;rw [if_pos (by omega),hl];exact q1) W1 (by omega)) (wkH mr_))
 ·have g:¬ (m:Int)>hi:=by simpa using g
  have q1:wnum (out,bad) (m:Int) 0 hi=o1:=q1
  have l1:=len10 q1 W W1
  have fin:wList (weI its90) hi (out,bad) xs=xs.foldl (weI its90) o1:=by unfold wList;rw [if_neg (by omega),hl,q1]
  have key:=Lp_ind okY2 (n:=6) (fn:=Try.f89) (p:=[1,1,1,1,1,0]) (n0:=4) (K:=Q) (fun z:{z:Nat×(List Int×Bool)×Nat×Nat×Nat//z.1<=m/\(xs.take z.1).foldl (weI its90) o1=z.2.1/\WOK z.2.1.1 z.2.2.1 z.2.2.2.1 z.2.2.2.2/\z.2.2.1<=n1+80*z.1}=>shL89 z.1.2.1.1 z.1.2.1.2 z.1.2.2.1 z.1.2.2.2.1 z.1.2.2.2.2 z.1.1 m us e t off hi E) (fun z=>m-z.1.1)
   (fun z ih=>by
    obtain ⟨⟨i,o,n2,c2,t2⟩,z1,z2,z3,z4⟩:=z
    have z1:i<=m:=z1
    have z4:n2<=n1+80*i:=z4
    show Rnd Y2 6 Try.f89 [1,1,1,1,1,0] 4 Q (shL89 o.1 o.2 n2 c2 t2 i m us e t off hi E)
    refine rn89 hv X z3 (by omega) (by omega) (fun e1=>?_) hQ (fun x o' n' c' t' hx hF hW hlen=>?_) z1
    ·have e1:i=m:=e1
     subst e1
     have z2:(xs.take i).foldl (weI its90) o1=o:=z2
     rw [List.take_of_length_le (by omega)] at z2
     exact h o n2 c2 t2 (by show wList (weI its90) hi (out,bad) xs=_;rw [fin,z2]) z3 (by omega)
    ·have hi2:i<m:=by have:=(List.getElem?_eq_some_iff.1 hx).1;omega
     refine ih ⟨⟨i+1,o',n',c',t'⟩,hi2,?_,hW,by show n'<=n1+80*(i+1);omega⟩ (by show m-(i+1)<m-i;omega)
     rw [foldl_takeL hx,z2];exact hF)
  have hp:m<=60:=by omega
  exact Lp_re [some 0,some 1,some 2,some 3,some 5] (key ⟨⟨0,o1,n1,c1,t1⟩,Nat.zero_le _,rfl,W1,by simp⟩) (wkH mr_)
theorem weI92_len (o:List Int×Bool) (x:List Int):(weI its92 o x).1.length<=o.1.length+80:=by
 have h:=weI_len its92 o x
 have e:its92.length=4:=by decide
 omega
def shL91 (out:List Int) (bad:Bool) (n cap tot i m:Nat) (us:List Value) (e t off:Nat) (hi:Int) (E:Mem):St:=⟨[some (.ifc 74 (.loc 0 0)),oc 2 off,oI hi,some (.clo 92 [] [.loc 3 0]),none,none,none,none,none,none,none,none,none,none,none,none,none,none,none,none,none,none,none,none,none,none,none,none,none,none,none,none,none,none,none,none,none,oI (m:Nat),oI (i:Nat)]++List.replicate 10 none,[⟨76,.lst [.slc 4 0 n cap,B bad],2,true⟩,deadB,⟨e,.vals us,t,true⟩,⟨129,.lst [.ifc 74 (.loc 0 0)],1,true⟩,⟨5,.vals (vB out),tot,true⟩],E⟩
theorem rn91 (hv:us[off]? =some (.slice b m c)) (X:SL (RK .i64 4) E b m c xs) (W:WOK o.1 n cap tot) (hn:n<=900000) (hm:m<=60)
  (h:i=m->KK (.tup []) [⟨76,.lst [.slc 4 0 n cap,B o.2],2,true⟩,deadB,⟨e,.vals us,t,true⟩,⟨129,.lst [.ifc 74 (.loc 0 0)],1,true⟩,⟨5,.vals (vB o.1),tot,true⟩] E) (hQ:∀ s bx',cloK 4 KK s bx' E->Q s bx' E)
  (ih:∀ (x:List Int) (o':List Int×Bool) (n' cap' tot':Nat),xs[i]? =some x->(weI its92) o x=o'->WOK o'.1 n' cap' tot'->n'<=n+80->Lp Y2 6 Try.f91 [1,1,1,1,1,0] 4 Q (shL91 o'.1 o'.2 n' cap' tot' (i+1) m us e t off hi E)) (hi':i<=m):
  Rnd Y2 6 Try.f91 [1,1,1,1,1,0] 4 Q (shL91 o.1 o.2 n cap tot i m us e t off hi E):=by
 refine sm_ (?_:bif decide ((NI i)<(NI m)) then ∃ (base:Option Addr),∃ (len:Nat),∃ (cap_1:Nat),LoadV Y2.P 29 us off (L base len cap_1)/\req (0<=(NI i)/\(NI i)<(NI len)) ((∃ (cs:List Value),E (VS base len cap_1) cs/\(cs=[]->False))/\(129=129/\74=74/\1=1)/\∃ (out:List Int),((76=76/\2=2/\5=5/\vB o.fst=vB out)/\WOK out n cap tot/\n<=1000000)/\∃ (x:List Int),(n<=900000/\∀ (j:Nat),j<4->LoadE Try.prog E 3 (VS base len cap_1) (Int.toNat (NI i)*4+j) (I (List.getD x j 0)))/\∀ (o':List Int×Bool) (n' cap' tot':Nat),Hyp (((wItem x (wItem x (out,o.snd) (0,some ((0:Int),(59:Int)))) (2,some ((0:Int),(1000000000:Int)))).fst,(wItem x (wItem x (out,o.snd) (0,some ((0:Int),(59:Int)))) (2,some ((0:Int),(1000000000:Int)))).snd||List.getD x 1 (0:Int) !=(0:Int)||List.getD x 3 (0:Int) !=(0:Int))=o')->WOK o'.fst n' cap' tot'->Lp Y2 6 Try.f91 [1,1,1,1,1,0] 4 Q { fr:=some (SV.ifc 74 (SV.loc 0 0))::oc 2 off::oI hi::some (SV.clo 92 [] [SV.loc 3 0])::no32 (none::(oI (NI m)::oI (WI ((NI i)+1))::no8 (no2 []))),bx:=[(⟨76,.lst [SV.slc 5 0 n' cap',B o'.snd],2,true⟩:Box),⟨5,.lst [],0,false⟩,⟨e,Row.vals us,t,true⟩,⟨129,.lst [SV.ifc 74 (SV.loc 0 0)],1,true⟩,⟨5,.lst [],0,false⟩,⟨5,.vals (vB o'.fst),tot',true⟩],E:=E:St }) else Q (SV.tup []) [⟨76,.lst [SV.slc 4 0 n cap,B o.snd],2,true⟩,⟨5,.lst [],0,false⟩,⟨e,Row.vals us,t,true⟩,⟨129,.lst [SV.ifc 74 (SV.loc 0 0)],1,true⟩,⟨5,.vals (vB o.fst),tot,true⟩] E)
 delta WI NI VS no2 no8 no32
 have hl:=X.len
 refine condC (fun g=>?_) (fun g=>?_)
 ·have g:i<m:=by simpa using g
  obtain ⟨x,hx⟩:∃ x,xs[i]? =some x:=⟨_,List.getElem?_eq_getElem (by omega)⟩
  have w:IntKind.wrap .i64 ((i:Int)+1)=((i+1:Nat):Int):=by rw [wrap_i64 (by omega)];omega
  rw [w]
  refine ⟨b,m,c,loadV_cell rfl rfl hv,req_intro (by omega) ⟨SL.ne (RK_ok .i64 (by decide)) X g,⟨rfl,rfl,rfl⟩,_,⟨⟨rfl,rfl,rfl,rfl⟩,W,by omega⟩,x,⟨hn,RK_load (by decide) rfl X hx⟩,fun o' n' cap' tot' q1 W'=>?_⟩⟩
  have q1:(weI its92) o x=o':=q1
  have hlen:=weI92_len o x
  rw [q1,W'.len,W.len] at hlen
  exact Lp_re [some 0,some 1,some 2,some 3,some 5] (ih x o' n' cap' tot' hx q1 W' hlen) (wkH mr_)
 ·have g:i=m:=by simp at g;omega
  exact hQ _ _ (cloK_intro [some 0,some 1,some 2,some 3,some 4] (h g) (wkH mr_))
theorem n91 {bad:Bool} (hv:us[off]? =some (.slice b m c)) (X:SL (RK .i64 4) E b m c xs) (W:WOK out n cap tot) (hn:n<=800000) (hh:0<=hi/\hi<=60)
  (h:∀ (o':List Int×Bool) (n' cap' tot':Nat),Hyp (wList (weI its92) hi (out,bad) xs=o')->WOK o'.1 n' cap' tot'->n'<=n+5000->KK (.tup []) [⟨76,.lst [.slc 4 0 n' cap',B o'.2],2,true⟩,deadB,⟨e,.vals us,t,true⟩,⟨129,.lst [.ifc 74 (.loc 0 0)],1,true⟩,⟨5,.vals (vB o'.1),tot',true⟩] E) (hQ:∀ s bx',cloK 4 KK s bx' E->Q s bx' E):
  EntB Y2 6 Try.f91 [.ifc 74 (.loc 0 0),.loc 2 off,I hi,.clo 92 [] [.loc 3 0]] [⟨76,.lst [.slc 1 0 n cap,B bad],2,true⟩,⟨5,.vals (vB out),tot,true⟩,⟨e,.vals us,t,true⟩,⟨129,.lst [.ifc 74 (.loc 0 0)],1,true⟩] E Q:=by
 refine sm_ (?_:∃ (base:Option Addr),∃ (len:Nat),∃ (cap_1:Nat),LoadV Y2.P 29 us off (L base len cap_1)/\((-10000000000000:Int)<=(0:Int)/\hi<=(10000000000000:Int))/\∃ (out_1:List Int),((76=76/\2=2/\5=5/\vB out=vB out_1)/\WOK out_1 n cap tot/\n<=1000000)/\IntKind.i64=IntKind.i64/\∀ (o':List Int×Bool) (n' cap' tot':Nat),Hyp (wnum (out_1,bad) (NI len) 0 hi=o')->WOK o'.fst n' cap' tot'->bif bif false then true else decide ((NI len)>hi) then Q (SV.tup []) [⟨76,.lst [SV.slc 5 0 n' cap',B o'.snd],2,true⟩,⟨5,.lst [],0,false⟩,⟨e,Row.vals us,t,true⟩,⟨129,.lst [SV.ifc 74 (SV.loc 0 0)],1,true⟩,⟨3,.lst [I (NI len)],1,true⟩,⟨5,.vals (vB o'.fst),tot',true⟩] E else ∃ (base_1:Option Addr),∃ (len_1:Nat),∃ (cap:Nat),LoadV Y2.P 29 us off (L base_1 len_1 cap)/\Sx.Alike al2 (bif (NI len_1) !=(NI len) then req (0<=(NI len)/\(NI len)<=(NI len)) (req ((NI len)*32<=(140737488355328:Int)) False) else ∃ (base_2:Option Addr),∃ (len_2:Nat),∃ (cap_2:Nat),LoadV Y2.P 29 us off (L base_2 len_2 cap_2)/\Lp Y2 6 Try.f91 [1,1,1,1,1,0] 4 Q { fr:=some (SV.ifc 74 (SV.loc 0 0))::oc 2 off::oI hi::some (SV.clo 92 [] [SV.loc 3 0])::none::none::none::none::oc 4 0::none::oc 2 off::oc 2 off::oL base len cap_1::oI (NI len)::some (SV.ifc 74 (SV.loc 0 0))::oI hi::some (SV.tup [])::oI (NI len)::oB false::oB false::oI (NI len)::oI hi::oB (decide ((NI len)>hi))::oB (bif false then true else decide ((NI len)>hi))::oc 2 off::oc 2 off::oL base_1 len_1 cap::oI (NI len_1)::oI (NI len)::oB ((NI len_1) !=(NI len))::none::none::none::none::oc 2 off::oc 2 off::oL base_2 len_2 cap_2::oI (NI len_2)::oI 0::no8 (no2 []),bx:=[(⟨76,.lst [SV.slc 5 0 n' cap',B o'.snd],2,true⟩:Box),⟨5,.lst [],0,false⟩,⟨e,Row.vals us,t,true⟩,⟨129,.lst [SV.ifc 74 (SV.loc 0 0)],1,true⟩,⟨3,.lst [I (NI len)],1,true⟩,⟨5,.vals (vB o'.fst),tot',true⟩],E:=E:St }))
 delta NI no2 no8
 have hl:=X.len
 have ld:LoadV Y2.P 29 us off (L b m c):=loadV_cell rfl rfl hv
 refine ⟨b,m,c,ld,⟨by decide,by omega⟩,_,⟨⟨rfl,rfl,rfl,rfl⟩,W,by omega⟩,rfl,fun o1 n1 c1 t1 q1 W1=>condC (fun g=>?_) (fun g=>⟨b,m,c,ld,alike (condC (fun g2=>absurd g2 (by simp)) (fun _=>⟨b,m,c,ld,?_⟩))⟩)⟩
 ·have g:(m:Int)>hi:=by simpa using g
  have q1:wnum (out,bad) (m:Int) 0 hi=o1:=q1
  have l1:=len10 q1 W W1
  exact hQ _ _ (cloK_intro [some 0,some 1,some 2,some 3,some 5] (h o1 n1 c1 t1 (by show wList (weI its92) hi (out,bad) xs=_;unfold wList;rw [if_pos (by omega),hl];exact q1) W1 (by omega)) (wkH mr_))
 ·have g:¬ (m:Int)>hi:=by simpa using g
  have q1:wnum (out,bad) (m:Int) 0 hi=o1:=q1
  have l1:=len10 q1 W W1
  have fin:wList (weI its92) hi (out,bad) xs=xs.foldl (weI its92) o1:=by unfold wList;rw [if_neg (by omega),hl,q1]
  have key:=Lp_ind okY2 (n:=6) (fn:=Try.f91) (p:=[1,1,1,1,1,0]) (n0:=4) (K:=Q) (fun z:{z:Nat×(List Int×Bool)×Nat×Nat×Nat//z.1<=m/\(xs.take z.1).foldl (weI its92) o1=z.2.1/\WOK z.2.1.1 z.2.2.1 z.2.2.2.1 z.2.2.2.2/\z.2.2.1<=n1+80*z.1}=>shL91 z.1.2.1.1 z.1.2.1.2 z.1.2.2.1 z.1.2.2.2.1 z.1.2.2.2.2 z.1.1 m us e t off hi E) (fun z=>m-z.1.1)
   (fun z ih=>by
    obtain ⟨⟨i,o,n2,c2,t2⟩,z1,z2,z3,z4⟩:=z
    have z1:i<=m:=z1
    have z4:n2<=n1+80*i:=z4
    show Rnd Y2 6 Try.f91 [1,1,1,1,1,0] 4 Q (shL91 o.1 o.2 n2 c2 t2 i m us e t off hi E)
    refine rn91 hv X z3 (by omega) (by omega) (fun e1=>?_) hQ (fun x o' n' c' t' hx hF hW hlen=>?_) z1
    ·have e1:i=m:=e1
     subst e1
     have z2:(xs.take i).foldl (weI its92) o1=o:=z2
     rw [List.take_of_length_le (by omega)] at z2
     exact h o n2 c2 t2 (by show wList (weI its92) hi (out,bad) xs=_;rw [fin,z2]) z3 (by omega)
    ·have hi2:i<m:=by have:=(List.getElem?_eq_some_iff.1 hx).1;omega
     refine ih ⟨⟨i+1,o',n',c',t'⟩,hi2,?_,hW,by show n'<=n1+80*(i+1);omega⟩ (by show m-(i+1)<m-i;omega)
     rw [foldl_takeL hx,z2];exact hF)
  have hp:m<=60:=by omega
  exact Lp_re [some 0,some 1,some 2,some 3,some 5] (key ⟨⟨0,o1,n1,c1,t1⟩,Nat.zero_le _,rfl,W1,by simp⟩) (wkH mr_)
theorem weI94_len (o:List Int×Bool) (x:List Int):(weI its94 o x).1.length<=o.1.length+80:=by
 have h:=weI_len its94 o x
 have e:its94.length=8:=by decide
 omega
def shL93 (out:List Int) (bad:Bool) (n cap tot i m:Nat) (us:List Value) (e t off:Nat) (hi:Int) (E:Mem):St:=⟨[some (.ifc 74 (.loc 0 0)),oc 2 off,oI hi,some (.clo 94 [] [.loc 3 0]),none,none,none,none,none,none,none,none,none,none,none,none,none,none,none,none,none,none,none,none,none,none,none,none,none,none,none,none,none,none,none,none,none,oI (m:Nat),oI (i:Nat)]++List.replicate 10 none,[⟨76,.lst [.slc 4 0 n cap,B bad],2,true⟩,deadB,⟨e,.vals us,t,true⟩,⟨129,.lst [.ifc 74 (.loc 0 0)],1,true⟩,⟨5,.vals (vB out),tot,true⟩],E⟩
theorem rn93 (hv:us[off]? =some (.slice b m c)) (X:SL (RK .i64 8) E b m c xs) (W:WOK o.1 n cap tot) (hn:n<=900000) (hm:m<=60)
  (h:i=m->KK (.tup []) [⟨76,.lst [.slc 4 0 n cap,B o.2],2,true⟩,deadB,⟨e,.vals us,t,true⟩,⟨129,.lst [.ifc 74 (.loc 0 0)],1,true⟩,⟨5,.vals (vB o.1),tot,true⟩] E) (hQ:∀ s bx',cloK 4 KK s bx' E->Q s bx' E)
  (ih:∀ (x:List Int) (o':List Int×Bool) (n' cap' tot':Nat),xs[i]? =some x->(weI its94) o x=o'->WOK o'.1 n' cap' tot'->n'<=n+80->Lp Y2 6 Try.f93 [1,1,1,1,1,0] 4 Q (shL93 o'.1 o'.2 n' cap' tot' (i+1) m us e t off hi E)) (hi':i<=m):
  Rnd Y2 6 Try.f93 [1,1,1,1,1,0] 4 Q (shL93 o.1 o.2 n cap tot i m us e t off hi E):=by
 refine sm_ (?_:bif decide ((NI i)<(NI m)) then ∃ (base:Option Addr),∃ (len:Nat),∃ (cap_1:Nat),LoadV Y2.P 30 us off (L base len cap_1)/\req (0<=(NI i)/\(NI i)<(NI len)) ((∃ (cs:List Value),E (VS base len cap_1) cs/\(cs=[]->False))/\(129=129/\74=74/\1=1)/\∃ (out:List Int),((76=76/\2=2/\5=5/\vB o.fst=vB out)/\WOK out n cap tot/\n<=1000000)/\∃ (x:List Int),(n<=900000/\∀ (j:Nat),j<8->LoadE Try.prog E 3 (VS base len cap_1) (Int.toNat (NI i)*8+j) (I (List.getD x j 0)))/\∀ (o':List Int×Bool) (n' cap' tot':Nat),Hyp (weI its94 (out,o.snd) x=o')->WOK o'.fst n' cap' tot'->Lp Y2 6 Try.f93 [1,1,1,1,1,0] 4 Q { fr:=some (SV.ifc 74 (SV.loc 0 0))::oc 2 off::oI hi::some (SV.clo 94 [] [SV.loc 3 0])::no32 (none::(oI (NI m)::oI (WI ((NI i)+1))::no8 (no2 []))),bx:=[(⟨76,.lst [SV.slc 5 0 n' cap',B o'.snd],2,true⟩:Box),⟨5,.lst [],0,false⟩,⟨e,Row.vals us,t,true⟩,⟨129,.lst [SV.ifc 74 (SV.loc 0 0)],1,true⟩,⟨5,.lst [],0,false⟩,⟨5,.vals (vB o'.fst),tot',true⟩],E:=E:St }) else Q (SV.tup []) [⟨76,.lst [SV.slc 4 0 n cap,B o.snd],2,true⟩,⟨5,.lst [],0,false⟩,⟨e,Row.vals us,t,true⟩,⟨129,.lst [SV.ifc 74 (SV.loc 0 0)],1,true⟩,⟨5,.vals (vB o.fst),tot,true⟩] E)
 delta WI NI VS no2 no8 no32
 have hl:=X.len
 refine condC (fun g=>?_) (fun g=>?_)
 ·have g:i<m:=by simpa using g
  obtain ⟨x,hx⟩:∃ x,xs[i]? =some x:=⟨_,List.getElem?_eq_getElem (by omega)⟩
  have w:IntKind.wrap .i64 ((i:Int)+1)=((i+1:Nat):Int):=by rw [wrap_i64 (by omega)];omega
  rw [w]
  refine ⟨b,m,c,loadV_cell rfl rfl hv,req_intro (by omega) ⟨SL.ne (RK_ok .i64 (by decide)) X g,⟨rfl,rfl,rfl⟩,_,⟨⟨rfl,rfl,rfl,rfl⟩,W,by omega⟩,x,⟨hn,RK_load (by decide) rfl X hx⟩,fun o' n' cap' tot' q1 W'=>?_⟩⟩
  have q1:(weI its94) o x=o':=q1
  have hlen:=weI94_len o x
  rw [q1,W'.len,W.len] at hlen
  exact Lp_re [some 0,some 1,some 2,some 3,some 5] (ih x o' n' cap' tot' hx q1 W' hlen) (wkH mr_)
 ·have g:i=m:=by simp at g;omega
  exact hQ _ _ (cloK_intro [some 0,some 1,some 2,some 3,some 4] (h g) (wkH mr_))
theorem n93 {bad:Bool} (hv:us[off]? =some (.slice b m c)) (X:SL (RK .i64 8) E b m c xs) (W:WOK out n cap tot) (hn:n<=800000) (hh:0<=hi/\hi<=60)
  (h:∀ (o':List Int×Bool) (n' cap' tot':Nat),Hyp (wList (weI its94) hi (out,bad) xs=o')->WOK o'.1 n' cap' tot'->n'<=n+5000->KK (.tup []) [⟨76,.lst [.slc 4 0 n' cap',B o'.2],2,true⟩,deadB,⟨e,.vals us,t,true⟩,⟨129,.lst [.ifc 74 (.loc 0 0)],1,true⟩,⟨5,.vals (vB o'.1),tot',true⟩] E) (hQ:∀ s bx',cloK 4 KK s bx' E->Q s bx' E):
  EntB Y2 6 Try.f93 [.ifc 74 (.loc 0 0),.loc 2 off,I hi,.clo 94 [] [.loc 3 0]] [⟨76,.lst [.slc 1 0 n cap,B bad],2,true⟩,⟨5,.vals (vB out),tot,true⟩,⟨e,.vals us,t,true⟩,⟨129,.lst [.ifc 74 (.loc 0 0)],1,true⟩] E Q:=by
 refine sm_ (?_:∃ (base:Option Addr),∃ (len:Nat),∃ (cap_1:Nat),LoadV Y2.P 30 us off (L base len cap_1)/\((-10000000000000:Int)<=(0:Int)/\hi<=(10000000000000:Int))/\∃ (out_1:List Int),((76=76/\2=2/\5=5/\vB out=vB out_1)/\WOK out_1 n cap tot/\n<=1000000)/\IntKind.i64=IntKind.i64/\∀ (o':List Int×Bool) (n' cap' tot':Nat),Hyp (wnum (out_1,bad) (NI len) 0 hi=o')->WOK o'.fst n' cap' tot'->bif bif false then true else decide ((NI len)>hi) then Q (SV.tup []) [⟨76,.lst [SV.slc 5 0 n' cap',B o'.snd],2,true⟩,⟨5,.lst [],0,false⟩,⟨e,Row.vals us,t,true⟩,⟨129,.lst [SV.ifc 74 (SV.loc 0 0)],1,true⟩,⟨3,.lst [I (NI len)],1,true⟩,⟨5,.vals (vB o'.fst),tot',true⟩] E else ∃ (base_1:Option Addr),∃ (len_1:Nat),∃ (cap:Nat),LoadV Y2.P 30 us off (L base_1 len_1 cap)/\Sx.Alike al2 (bif (NI len_1) !=(NI len) then req (0<=(NI len)/\(NI len)<=(NI len)) (req ((NI len)*64<=(140737488355328:Int)) False) else ∃ (base_2:Option Addr),∃ (len_2:Nat),∃ (cap_2:Nat),LoadV Y2.P 30 us off (L base_2 len_2 cap_2)/\Lp Y2 6 Try.f93 [1,1,1,1,1,0] 4 Q { fr:=some (SV.ifc 74 (SV.loc 0 0))::oc 2 off::oI hi::some (SV.clo 94 [] [SV.loc 3 0])::none::none::none::none::oc 4 0::none::oc 2 off::oc 2 off::oL base len cap_1::oI (NI len)::some (SV.ifc 74 (SV.loc 0 0))::oI hi::some (SV.tup [])::oI (NI len)::oB false::oB false::oI (NI len)::oI hi::oB (decide ((NI len)>hi))::oB (bif false then true else decide ((NI len)>hi))::oc 2 off::oc 2 off::oL base_1 len_1 cap::oI (NI len_1)::oI (NI len)::oB ((NI len_1) !=(NI len))::none::none::none::none::oc 2 off::oc 2 off::oL base_2 len_2 cap_2::oI (NI len_2)::oI 0::no8 (no2 []),bx:=[(⟨76,.lst [SV.slc 5 0 n' cap',B o'.snd],2,true⟩:Box),⟨5,.lst [],0,false⟩,⟨e,Row.vals us,t,true⟩,⟨129,.lst [SV.ifc 74 (SV.loc 0 0)],1,true⟩,⟨3,.lst [I (NI len)],1,true⟩,⟨5,.vals (vB o'.fst),tot',true⟩],E:=E:St }))
 delta NI no2 no8
 have hl:=X.len
 have ld:LoadV Y2.P 30 us off (L b m c):=loadV_cell rfl rfl hv
 refine ⟨b,m,c,ld,⟨by decide,by omega⟩,_,⟨⟨rfl,rfl,rfl,rfl⟩,W,by omega⟩,rfl,fun o1 n1 c1 t1 q1 W1=>condC (fun g=>?_) (fun g=>⟨b,m,c,ld,alike (condC (fun g2=>absurd g2 (by simp)) (fun _=>⟨b,m,c,ld,?_⟩))⟩)⟩
 ·have g:(m:Int)>hi:=by simpa using g
  have q1:wnum (out,bad) (m:Int) 0 hi=o1:=q1
  have l1:=len10 q1 W W1
  exact hQ _ _ (cloK_intro [some 0,some 1,some 2,some 3,some 5] (h o1 n1 c1 t1 (by show wList (weI its94) hi (out,bad) xs=_;unfold wList;rw [if_pos (by omega),hl];exact q1) W1 (by omega)) (wkH mr_))
 ·have g:¬ (m:Int)>hi:=by simpa using g
  have q1:wnum (out,bad) (m:Int) 0 hi=o1:=q1
  have l1:=len10 q1 W W1
  have fin:wList (weI its94) hi (out,bad) xs=xs.foldl (weI its94) o1:=by unfold wList;rw [if_neg (by omega),hl,q1]
  have key:=Lp_ind okY2 (n:=6) (fn:=Try.f93) (p:=[1,1,1,1,1,0]) (n0:=4) (K:=Q) (fun z:{z:Nat×(List Int×Bool)×Nat×Nat×Nat//z.1<=m/\(xs.take z.1).foldl (weI its94) o1=z.2.1/\WOK z.2.1.1 z.2.2.1 z.2.2.2.1 z.2.2.2.2/\z.2.2.1<=n1+80*z.1}=>shL93 z.1.2.1.1 z.1.2.1.2 z.1.2.2.1 z.1.2.2.2.1 z.1.2.2.2.2 z.1.1 m us e t off hi E) (fun z=>m-z.1.1)
   (fun z ih=>by
    obtain ⟨⟨i,o,n2,c2,t2⟩,z1,z2,z3,z4⟩:=z
    have z1:i<=m:=z1
    have z4:n2<=n1+80*i:=z4
    show Rnd Y2 6 Try.f93 [1,1,1,1,1,0] 4 Q (shL93 o.1 o.2 n2 c2 t2 i m us e t off hi E)
    refine rn93 hv X z3 (by omega) (by omega) (fun e1=>?_) hQ (fun x o' n' c' t' hx hF hW hlen=>?_) z1
    ·have e1:i=m:=e1
     subst e1
     have z2:(xs.take i).foldl (weI its94) o1=o:=z2
     rw [List.take_of_length_le (by omega)] at z2
     exact h o n2 c2 t2 (by show wList (weI its94) hi (out,bad) xs=_;rw [fin,z2]) z3 (by omega)
    ·have hi2:i<m:=by have:=(List.getElem?_eq_some_iff.1 hx).1;omega
     refine ih ⟨⟨i+1,o',n',c',t'⟩,hi2,?_,hW,by show n'<=n1+80*(i+1);omega⟩ (by show m-(i+1)<m-i;omega)
     rw [foldl_takeL hx,z2];exact hF)
  have hp:m<=60:=by omega
  exact Lp_re [some 0,some 1,some 2,some 3,some 5] (key ⟨⟨0,o1,n1,c1,t1⟩,Nat.zero_le _,rfl,W1,by simp⟩) (wkH mr_)
theorem weI68_len (o:List Int×Bool) (x:List Int):(weI its68 o x).1.length<=o.1.length+80:=by
 have h:=weI_len its68 o x
 have e:its68.length=1:=by decide
 omega
def shL67 (out:List Int) (bad:Bool) (n cap tot i m:Nat) (us:List Value) (e t off:Nat) (hi:Int) (E:Mem):St:=⟨[some (.ifc 74 (.loc 0 0)),oc 2 off,oI hi,some (.clo 68 [] [.loc 3 0]),none,none,none,none,none,none,none,none,none,none,none,none,none,none,none,none,none,none,none,none,none,none,none,none,none,none,none,none,none,none,none,none,none,oI (m:Nat),oI (i:Nat)]++List.replicate 10 none,[⟨76,.lst [.slc 4 0 n cap,B bad],2,true⟩,deadB,⟨e,.vals us,t,true⟩,⟨129,.lst [.ifc 74 (.loc 0 0)],1,true⟩,⟨5,.vals (vB out),tot,true⟩],E⟩
theorem rn67 (hv:us[off]? =some (.slice b m c)) (X:SL (RK .i64 1) E b m c xs) (W:WOK o.1 n cap tot) (hn:n<=900000) (hm:m<=60)
  (h:i=m->KK (.tup []) [⟨76,.lst [.slc 4 0 n cap,B o.2],2,true⟩,deadB,⟨e,.vals us,t,true⟩,⟨129,.lst [.ifc 74 (.loc 0 0)],1,true⟩,⟨5,.vals (vB o.1),tot,true⟩] E) (hQ:∀ s bx',cloK 4 KK s bx' E->Q s bx' E)
  (ih:∀ (x:List Int) (o':List Int×Bool) (n' cap' tot':Nat),xs[i]? =some x->(weI its68) o x=o'->WOK o'.1 n' cap' tot'->n'<=n+80->Lp Y2 6 Try.f67 [1,1,1,1,1,0] 4 Q (shL67 o'.1 o'.2 n' cap' tot' (i+1) m us e t off hi E)) (hi':i<=m):
  Rnd Y2 6 Try.f67 [1,1,1,1,1,0] 4 Q (shL67 o.1 o.2 n cap tot i m us e t off hi E):=by
 refine sm_ (?_:bif decide ((NI i)<(NI m)) then ∃ (base:Option Addr),∃ (len:Nat),∃ (cap_1:Nat),LoadV Y2.P 31 us off (L base len cap_1)/\req (0<=(NI i)/\(NI i)<(NI len)) ((∃ (cs:List Value),E (VS base len cap_1) cs/\(cs=[]->False))/\(129=129/\74=74/\1=1)/\∃ (out:List Int),((76=76/\2=2/\5=5/\vB o.fst=vB out)/\WOK out n cap tot/\n<=1000000)/\∃ (x:List Int),(n<=900000/\∀ (j:Nat),j<1->LoadE Try.prog E 3 (VS base len cap_1) (Int.toNat (NI i)*1+j) (I (List.getD x j 0)))/\∀ (o':List Int×Bool) (n' cap' tot':Nat),Hyp (weI its68 (out,o.snd) x=o')->WOK o'.fst n' cap' tot'->Lp Y2 6 Try.f67 [1,1,1,1,1,0] 4 Q { fr:=some (SV.ifc 74 (SV.loc 0 0))::oc 2 off::oI hi::some (SV.clo 68 [] [SV.loc 3 0])::no32 (none::(oI (NI m)::oI (WI ((NI i)+1))::no8 (no2 []))),bx:=[(⟨76,.lst [SV.slc 5 0 n' cap',B o'.snd],2,true⟩:Box),⟨5,.lst [],0,false⟩,⟨e,Row.vals us,t,true⟩,⟨129,.lst [SV.ifc 74 (SV.loc 0 0)],1,true⟩,⟨5,.lst [],0,false⟩,⟨5,.vals (vB o'.fst),tot',true⟩],E:=E:St }) else Q (SV.tup []) [⟨76,.lst [SV.slc 4 0 n cap,B o.snd],2,true⟩,⟨5,.lst [],0,false⟩,⟨e,Row.vals us,t,true⟩,⟨129,.lst [SV.ifc 74 (SV.loc 0 0)],1,true⟩,⟨5,.vals (vB o.fst),tot,true⟩] E)
 delta WI NI VS no2 no8 no32
 have hl:=X.len
 refine condC (fun g=>?_) (fun g=>?_)
 ·have g:i<m:=by simpa using g
  obtain ⟨x,hx⟩:∃ x,xs[i]? =some x:=⟨_,List.getElem?_eq_getElem (by omega)⟩
  have w:IntKind.wrap .i64 ((i:Int)+1)=((i+1:Nat):Int):=by rw [wrap_i64 (by omega)];omega
  rw [w]
  refine ⟨b,m,c,loadV_cell rfl rfl hv,req_intro (by omega) ⟨SL.ne (RK_ok .i64 (by decide)) X g,⟨rfl,rfl,rfl⟩,_,⟨⟨rfl,rfl,rfl,rfl⟩,W,by omega⟩,x,⟨hn,RK_load (by decide) rfl X hx⟩,fun o' n' cap' tot' q1 W'=>?_⟩⟩
  have q1:(weI its68) o x=o':=q1
  have hlen:=weI68_len o x
  rw [q1,W'.len,W.len] at hlen
  exact Lp_re [some 0,some 1,some 2,some 3,some 5] (ih x o' n' cap' tot' hx q1 W' hlen) (wkH mr_)
 ·have g:i=m:=by simp at g;omega
  exact hQ _ _ (cloK_intro [some 0,some 1,some 2,some 3,some 4] (h g) (wkH mr_))
theorem n67 {bad:Bool} (hv:us[off]? =some (.slice b m c)) (X:SL (RK .i64 1) E b m c xs) (W:WOK out n cap tot) (hn:n<=800000) (hh:0<=hi/\hi<=60)
  (h:∀ (o':List Int×Bool) (n' cap' tot':Nat),Hyp (wList (weI its68) hi (out,bad) xs=o')->WOK o'.1 n' cap' tot'->n'<=n+5000->KK (.tup []) [⟨76,.lst [.slc 4 0 n' cap',B o'.2],2,true⟩,deadB,⟨e,.vals us,t,true⟩,⟨129,.lst [.ifc 74 (.loc 0 0)],1,true⟩,⟨5,.vals (vB o'.1),tot',true⟩] E) (hQ:∀ s bx',cloK 4 KK s bx' E->Q s bx' E):
  EntB Y2 6 Try.f67 [.ifc 74 (.loc 0 0),.loc 2 off,I hi,.clo 68 [] [.loc 3 0]] [⟨76,.lst [.slc 1 0 n cap,B bad],2,true⟩,⟨5,.vals (vB out),tot,true⟩,⟨e,.vals us,t,true⟩,⟨129,.lst [.ifc 74 (.loc 0 0)],1,true⟩] E Q:=by
 refine sm_ (?_:∃ (base:Option Addr),∃ (len:Nat),∃ (cap_1:Nat),LoadV Y2.P 31 us off (L base len cap_1)/\((-10000000000000:Int)<=(0:Int)/\hi<=(10000000000000:Int))/\∃ (out_1:List Int),((76=76/\2=2/\5=5/\vB out=vB out_1)/\WOK out_1 n cap tot/\n<=1000000)/\IntKind.i64=IntKind.i64/\∀ (o':List Int×Bool) (n' cap' tot':Nat),Hyp (wnum (out_1,bad) (NI len) 0 hi=o')->WOK o'.fst n' cap' tot'->bif bif false then true else decide ((NI len)>hi) then Q (SV.tup []) [⟨76,.lst [SV.slc 5 0 n' cap',B o'.snd],2,true⟩,⟨5,.lst [],0,false⟩,⟨e,Row.vals us,t,true⟩,⟨129,.lst [SV.ifc 74 (SV.loc 0 0)],1,true⟩,⟨3,.lst [I (NI len)],1,true⟩,⟨5,.vals (vB o'.fst),tot',true⟩] E else ∃ (base_1:Option Addr),∃ (len_1:Nat),∃ (cap:Nat),LoadV Y2.P 31 us off (L base_1 len_1 cap)/\Sx.Alike al2 (bif (NI len_1) !=(NI len) then req (0<=(NI len)/\(NI len)<=(NI len)) (req ((NI len)*8<=(140737488355328:Int)) False) else ∃ (base_2:Option Addr),∃ (len_2:Nat),∃ (cap_2:Nat),LoadV Y2.P 31 us off (L base_2 len_2 cap_2)/\Lp Y2 6 Try.f67 [1,1,1,1,1,0] 4 Q { fr:=some (SV.ifc 74 (SV.loc 0 0))::oc 2 off::oI hi::some (SV.clo 68 [] [SV.loc 3 0])::none::none::none::none::oc 4 0::none::oc 2 off::oc 2 off::oL base len cap_1::oI (NI len)::some (SV.ifc 74 (SV.loc 0 0))::oI hi::some (SV.tup [])::oI (NI len)::oB false::oB false::oI (NI len)::oI hi::oB (decide ((NI len)>hi))::oB (bif false then true else decide ((NI len)>hi))::oc 2 off::oc 2 off::oL base_1 len_1 cap::oI (NI len_1)::oI (NI len)::oB ((NI len_1) !=(NI len))::none::none::none::none::oc 2 off::oc 2 off::oL base_2 len_2 cap_2::oI (NI len_2)::oI 0::no8 (no2 []),bx:=[(⟨76,.lst [SV.slc 5 0 n' cap',B o'.snd],2,true⟩:Box),⟨5,.lst [],0,false⟩,⟨e,Row.vals us,t,true⟩,⟨129,.lst [SV.ifc 74 (SV.loc 0 0)],1,true⟩,⟨3,.lst [I (NI len)],1,true⟩,⟨5,.vals (vB o'.fst),tot',true⟩],E:=E:St }))
 delta NI no2 no8
 have hl:=X.len
 have ld:LoadV Y2.P 31 us off (L b m c):=loadV_cell rfl rfl hv
 refine ⟨b,m,c,ld,⟨by decide,by omega⟩,_,⟨⟨rfl,rfl,rfl,rfl⟩,W,by omega⟩,rfl,fun o1 n1 c1 t1 q1 W1=>condC (fun g=>?_) (fun g=>⟨b,m,c,ld,alike (condC (fun g2=>absurd g2 (by simp)) (fun _=>⟨b,m,c,ld,?_⟩))⟩)⟩
 ·have g:(m:Int)>hi:=by simpa using g
  have q1:wnum (out,bad) (m:Int) 0 hi=o1:=q1
  have l1:=len10 q1 W W1
  exact hQ _ _ (cloK_intro [some 0,some 1,some 2,some 3,some 5] (h o1 n1 c1 t1 (by show wList (weI its68) hi (out,bad) xs=_;unfold wList;rw [if_pos (by omega),hl];exact q1) W1 (by omega)) (wkH mr_))
 ·have g:¬ (m:Int)>hi:=by simpa using g
  have q1:wnum (out,bad) (m:Int) 0 hi=o1:=q1
  have l1:=len10 q1 W W1
  have fin:wList (weI its68) hi (out,bad) xs=xs.foldl (weI its68) o1:=by unfold wList;rw [if_neg (by omega),hl,q1]
  have key:=Lp_ind okY2 (n:=6) (fn:=Try.f67) (p:=[1,1,1,1,1,0]) (n0:=4) (K:=Q) (fun z:{z:Nat×(List Int×Bool)×Nat×Nat×Nat//z.1<=m/\(xs.take z.1).foldl (weI its68) o1=z.2.1/\WOK z.2.1.1 z.2.2.1 z.2.2.2.1 z.2.2.2.2/\z.2.2.1<=n1+80*z.1}=>shL67 z.1.2.1.1 z.1.2.1.2 z.1.2.2.1 z.1.2.2.2.1 z.1.2.2.2.2 z.1.1 m us e t off hi E) (fun z=>m-z.1.1)
   (fun z ih=>by
    obtain ⟨⟨i,o,n2,c2,t2⟩,z1,z2,z3,z4⟩:=z
    have z1:i<=m:=z1
    have z4:n2<=n1+80*i:=z4
    show Rnd Y2 6 Try.f67 [1,1,1,1,1,0] 4 Q (shL67 o.1 o.2 n2 c2 t2 i m us e t off hi E)
    refine rn67 hv X z3 (by omega) (by omega) (fun e1=>?_) hQ (fun x o' n' c' t' hx hF hW hlen=>?_) z1
    ·have e1:i=m:=e1
     subst e1
     have z2:(xs.take i).foldl (weI its68) o1=o:=z2
     rw [List.take_of_length_le (by omega)] at z2
     exact h o n2 c2 t2 (by show wList (weI its68) hi (out,bad) xs=_;rw [fin,z2]) z3 (by omega)
    ·have hi2:i<m:=by have:=(List.getElem?_eq_some_iff.1 hx).1;omega
     refine ih ⟨⟨i+1,o',n',c',t'⟩,hi2,?_,hW,by show n'<=n1+80*(i+1);omega⟩ (by show m-(i+1)<m-i;omega)
     rw [foldl_takeL hx,z2];exact hF)
  have hp:m<=60:=by omega
  exact Lp_re [some 0,some 1,some 2,some 3,some 5] (key ⟨⟨0,o1,n1,c1,t1⟩,Nat.zero_le _,rfl,W1,by simp⟩) (wkH mr_)
def shL95 (out:List Int) (bad:Bool) (n cap tot i m:Nat) (us:List Value) (e t off:Nat) (hi:Int) (E:Mem):St:=⟨[some (.ifc 74 (.loc 0 0)),oc 2 off,oI hi,some (.clo 96 [] [.loc 3 0]),none,none,none,none,none,none,none,none,none,none,none,none,none,none,none,none,none,none,none,none,none,none,none,none,none,none,none,none,none,none,none,none,none,oI (m:Nat),oI (i:Nat)]++List.replicate 10 none,[⟨76,.lst [.slc 4 0 n cap,B bad],2,true⟩,deadB,⟨e,.vals us,t,true⟩,⟨129,.lst [.ifc 74 (.loc 0 0)],1,true⟩,⟨5,.vals (vB out),tot,true⟩],E⟩
theorem rn95 (hv:us[off]? =some (.slice b m c)) (X:SL (RK .u64 1) E b m c xs) (W:WOK o.1 n cap tot) (hn:n<=900000) (hm:m<=60)
  (h:i=m->KK (.tup []) [⟨76,.lst [.slc 4 0 n cap,B o.2],2,true⟩,deadB,⟨e,.vals us,t,true⟩,⟨129,.lst [.ifc 74 (.loc 0 0)],1,true⟩,⟨5,.vals (vB o.1),tot,true⟩] E) (hQ:∀ s bx',cloK 4 KK s bx' E->Q s bx' E)
  (ih:∀ (x:List Int) (o':List Int×Bool) (n' cap' tot':Nat),xs[i]? =some x->weD o x=o'->WOK o'.1 n' cap' tot'->n'<=n+80->Lp Y2 6 Try.f95 [1,1,1,1,1,0] 4 Q (shL95 o'.1 o'.2 n' cap' tot' (i+1) m us e t off hi E)) (hi':i<=m):
  Rnd Y2 6 Try.f95 [1,1,1,1,1,0] 4 Q (shL95 o.1 o.2 n cap tot i m us e t off hi E):=by
 refine sm_ (?_:bif decide ((NI i)<(NI m)) then ∃ (base:Option Addr),∃ (len:Nat),∃ (cap_1:Nat),LoadV Y2.P 36 us off (L base len cap_1)/\req (0<=(NI i)/\(NI i)<(NI len)) ((∃ (cs:List Value),E (VS base len cap_1) cs/\(cs=[]->False))/\(129=129/\74=74/\1=1)/\∃ (out:List Int),((76=76/\2=2/\5=5/\vB o.fst=vB out)/\WOK out n cap tot/\n<=1000000)/\∃ (x:List Int),(n<=900000/\∀ (j:Nat),j<1->LoadE Try.prog E 32 (VS base len cap_1) (Int.toNat (NI i)*1+j) (SV.raw (Value.int IntKind.u64 (List.getD x j 0))))/\∀ (o':List Int×Bool) (n' cap' tot':Nat),Hyp ((out++digB (List.getD x 0 0),o.snd)=o')->WOK o'.fst n' cap' tot'->Lp Y2 6 Try.f95 [1,1,1,1,1,0] 4 Q { fr:=some (SV.ifc 74 (SV.loc 0 0))::oc 2 off::oI hi::some (SV.clo 96 [] [SV.loc 3 0])::no32 (none::(oI (NI m)::oI (WI ((NI i)+1))::no8 (no2 []))),bx:=[(⟨76,.lst [SV.slc 5 0 n' cap',B o'.snd],2,true⟩:Box),⟨5,.lst [],0,false⟩,⟨e,Row.vals us,t,true⟩,⟨129,.lst [SV.ifc 74 (SV.loc 0 0)],1,true⟩,⟨5,.lst [],0,false⟩,⟨5,.vals (vB o'.fst),tot',true⟩],E:=E:St }) else Q (SV.tup []) [⟨76,.lst [SV.slc 4 0 n cap,B o.snd],2,true⟩,⟨5,.lst [],0,false⟩,⟨e,Row.vals us,t,true⟩,⟨129,.lst [SV.ifc 74 (SV.loc 0 0)],1,true⟩,⟨5,.vals (vB o.fst),tot,true⟩] E)
 delta WI NI VS no2 no8 no32
 have hl:=X.len
 refine condC (fun g=>?_) (fun g=>?_)
 ·have g:i<m:=by simpa using g
  obtain ⟨x,hx⟩:∃ x,xs[i]? =some x:=⟨_,List.getElem?_eq_getElem (by omega)⟩
  have w:IntKind.wrap .i64 ((i:Int)+1)=((i+1:Nat):Int):=by rw [wrap_i64 (by omega)];omega
  rw [w]
  refine ⟨b,m,c,loadV_cell rfl rfl hv,req_intro (by omega) ⟨SL.ne (RK_ok .u64 (by decide)) X g,⟨rfl,rfl,rfl⟩,_,⟨⟨rfl,rfl,rfl,rfl⟩,W,by omega⟩,x,⟨hn,RK_load (by decide) rfl X hx⟩,fun o' n' cap' tot' q1 W'=>?_⟩⟩
  have q1:weD o x=o':=q1
  have hlen:=weD_len o x
  rw [q1,W'.len,W.len] at hlen
  exact Lp_re [some 0,some 1,some 2,some 3,some 5] (ih x o' n' cap' tot' hx q1 W' hlen) (wkH mr_)
 ·have g:i=m:=by simp at g;omega
  exact hQ _ _ (cloK_intro [some 0,some 1,some 2,some 3,some 4] (h g) (wkH mr_))
theorem n95 {bad:Bool} (hv:us[off]? =some (.slice b m c)) (X:SL (RK .u64 1) E b m c xs) (W:WOK out n cap tot) (hn:n<=800000) (hh:0<=hi/\hi<=60)
  (h:∀ (o':List Int×Bool) (n' cap' tot':Nat),Hyp (wList weD hi (out,bad) xs=o')->WOK o'.1 n' cap' tot'->n'<=n+5000->KK (.tup []) [⟨76,.lst [.slc 4 0 n' cap',B o'.2],2,true⟩,deadB,⟨e,.vals us,t,true⟩,⟨129,.lst [.ifc 74 (.loc 0 0)],1,true⟩,⟨5,.vals (vB o'.1),tot',true⟩] E) (hQ:∀ s bx',cloK 4 KK s bx' E->Q s bx' E):
  EntB Y2 6 Try.f95 [.ifc 74 (.loc 0 0),.loc 2 off,I hi,.clo 96 [] [.loc 3 0]] [⟨76,.lst [.slc 1 0 n cap,B bad],2,true⟩,⟨5,.vals (vB out),tot,true⟩,⟨e,.vals us,t,true⟩,⟨129,.lst [.ifc 74 (.loc 0 0)],1,true⟩] E Q:=by
 refine sm_ (?_:∃ (base:Option Addr),∃ (len:Nat),∃ (cap_1:Nat),LoadV Y2.P 36 us off (L base len cap_1)/\((-10000000000000:Int)<=(0:Int)/\hi<=(10000000000000:Int))/\∃ (out_1:List Int),((76=76/\2=2/\5=5/\vB out=vB out_1)/\WOK out_1 n cap tot/\n<=1000000)/\IntKind.i64=IntKind.i64/\∀ (o':List Int×Bool) (n' cap' tot':Nat),Hyp (wnum (out_1,bad) (NI len) 0 hi=o')->WOK o'.fst n' cap' tot'->bif bif false then true else decide ((NI len)>hi) then Q (SV.tup []) [⟨76,.lst [SV.slc 5 0 n' cap',B o'.snd],2,true⟩,⟨5,.lst [],0,false⟩,⟨e,Row.vals us,t,true⟩,⟨129,.lst [SV.ifc 74 (SV.loc 0 0)],1,true⟩,⟨3,.lst [I (NI len)],1,true⟩,⟨5,.vals (vB o'.fst),tot',true⟩] E else ∃ (base_1:Option Addr),∃ (len_1:Nat),∃ (cap:Nat),LoadV Y2.P 36 us off (L base_1 len_1 cap)/\Sx.Alike al2 (bif (NI len_1) !=(NI len) then req (0<=(NI len)/\(NI len)<=(NI len)) (req ((NI len)*8<=(140737488355328:Int)) False) else ∃ (base_2:Option Addr),∃ (len_2:Nat),∃ (cap_2:Nat),LoadV Y2.P 36 us off (L base_2 len_2 cap_2)/\Lp Y2 6 Try.f95 [1,1,1,1,1,0] 4 Q { fr:=some (SV.ifc 74 (SV.loc 0 0))::oc 2 off::oI hi::some (SV.clo 96 [] [SV.loc 3 0])::none::none::none::none::oc 4 0::none::oc 2 off::oc 2 off::oL base len cap_1::oI (NI len)::some (SV.ifc 74 (SV.loc 0 0))::oI hi::some (SV.tup [])::oI (NI len)::oB false::oB false::oI (NI len)::oI hi::oB (decide ((NI len)>hi))::oB (bif false then true else decide ((NI len)>hi))::oc 2 off::oc 2 off::oL base_1 len_1 cap::oI (NI len_1)::oI (NI len)::oB ((NI len_1) !=(NI len))::none::none::none::none::oc 2 off::oc 2 off::oL base_2 len_2 cap_2::oI (NI len_2)::oI 0::no8 (no2 []),bx:=[(⟨76,.lst [SV.slc 5 0 n' cap',B o'.snd],2,true⟩:Box),⟨5,.lst [],0,false⟩,⟨e,Row.vals us,t,true⟩,⟨129,.lst [SV.ifc 74 (SV.loc 0 0)],1,true⟩,⟨3,.lst [I (NI len)],1,true⟩,⟨5,.vals (vB o'.fst),tot',true⟩],E:=E:St }))
 delta NI no2 no8
 have hl:=X.len
 have ld:LoadV Y2.P 36 us off (L b m c):=loadV_cell rfl rfl hv
 refine ⟨b,m,c,ld,⟨by decide,by omega⟩,_,⟨⟨rfl,rfl,rfl,rfl⟩,W,by omega⟩,rfl,fun o1 n1 c1 t1 q1 W1=>condC (fun g=>?_) (fun g=>⟨b,m,c,ld,alike (condC (fun g2=>absurd g2 (by simp)) (fun _=>⟨b,m,c,ld,?_⟩))⟩)⟩
 ·have g:(m:Int)>hi:=by simpa using g
  have q1:wnum (out,bad) (m:Int) 0 hi=o1:=q1
  have l1:=len10 q1 W W1
  exact hQ _ _ (cloK_intro [some 0,some 1,some 2,some 3,some 5] (h o1 n1 c1 t1 (by show wList weD hi (out,bad) xs=_;unfold wList;rw [if_pos (by omega),hl];exact q1) W1 (by omega)) (wkH mr_))
 ·have g:¬ (m:Int)>hi:=by simpa using g
  have q1:wnum (out,bad) (m:Int) 0 hi=o1:=q1
  have l1:=len10 q1 W W1
  have fin:wList weD hi (out,bad) xs=xs.foldl weD o1:=by unfold wList;rw [if_neg (by omega),hl,q1]
  have key:=Lp_ind okY2 (n:=6) (fn:=Try.f95) (p:=[1,1,1,1,1,0]) (n0:=4) (K:=Q) (fun z:{z:Nat×(List Int×Bool)×Nat×Nat×Nat//z.1<=m/\(xs.take z.1).foldl weD o1=z.2.1/\WOK z.2.1.1 z.2.2.1 z.2.2.2.1 z.2.2.2.2/\z.2.2.1<=n1+80*z.1}=>shL95 z.1.2.1.1 z.1.2.1.2 z.1.2.2.1 z.1.2.2.2.1 z.1.2.2.2.2 z.1.1 m us e t off hi E) (fun z=>m-z.1.1)
   (fun z ih=>by
    obtain ⟨⟨i,o,n2,c2,t2⟩,z1,z2,z3,z4⟩:=z
    have z1:i<=m:=z1
    have z4:n2<=n1+80*i:=z4
    show Rnd Y2 6 Try.f95 [1,1,1,1,1,0] 4 Q (shL95 o.1 o.2 n2 c2 t2 i m us e t off hi E)
    refine rn95 hv X z3 (by omega) (by omega) (fun e1=>?_) hQ (fun x o' n' c' t' hx hF hW hlen=>?_) z1
    ·have e1:i=m:=e1
     subst e1
     have z2:(xs.take i).foldl weD o1=o:=z2
     rw [List.take_of_length_le (by omega)] at z2
     exact h o n2 c2 t2 (by show wList weD hi (out,bad) xs=_;rw [fin,z2]) z3 (by omega)
    ·have hi2:i<m:=by have:=(List.getElem?_eq_some_iff.1 hx).1;omega
     refine ih ⟨⟨i+1,o',n',c',t'⟩,hi2,?_,hW,by show n'<=n1+80*(i+1);omega⟩ (by show m-(i+1)<m-i;omega)
     rw [foldl_takeL hx,z2];exact hF)
  have hp:m<=60:=by omega
  exact Lp_re [some 0,some 1,some 2,some 3,some 5] (key ⟨⟨0,o1,n1,c1,t1⟩,Nat.zero_le _,rfl,W1,by simp⟩) (wkH mr_)
noncomputable def Y3:Cx:={ P:=Try.prog,inl:=fun f=>List.contains [] f,tab:=fun _ _ _ _=>False,isB:=fun f=>f==120,tabB:=tabBW,opt:={ unroll:=0,carry:=[] },muts:=(fun o=>match o with | .call _=>true|o=>mutsD o) }
theorem okY3:CxOK Y3:=CxOK.four (fun _ _ _ _ h=>h.elim) (by kernel_rfl) (okInl (by kernel_rfl)) tabBW_ok
theorem n65 {bad:Bool} {b:Bool} (hv:us[off]? =some (.bool b)) (W:WOK out n cap tot) (hn:n<=1000000)
  (h:∀ (o':List Int×Bool) (n' cap' tot':Nat),Hyp (wnum (out,bad) (if b then 1 else 0) 0 1=o')->WOK o'.1 n' cap' tot'->KK (.tup []) [⟨76,.lst [.slc 4 0 n' cap',B o'.2],2,true⟩,deadB,⟨e,.vals (layV us off [.bool b]),t,true⟩,⟨3,.lst [I (if b then 1 else 0)],1,true⟩,⟨5,.vals (vB o'.1),tot',true⟩] E) (hQ:∀ s bx',cloK 3 KK s bx' E->Q s bx' E):
  EntB Y3 6 Try.f65 [.ifc 74 (.loc 0 0),.loc 2 off] [⟨76,.lst [.slc 1 0 n cap,B bad],2,true⟩,⟨5,.vals (vB out),tot,true⟩,⟨e,.vals us,t,true⟩] E Q:=by
 refine sm_ (?_:∃ (b:Bool),LoadV Y3.P 4 us off (B b)/\bif b then ((-10000000000000:Int)<=(0:Int)/\(1:Int)<=(10000000000000:Int))/\∃ (out_1:List Int),((76=76/\2=2/\5=5/\vB out=vB out_1)/\WOK out_1 n cap tot/\n<=1000000)/\IntKind.i64=IntKind.i64/\∀ (o':List Int×Bool) (n' cap' tot':Nat),Hyp (wnum (out_1,bad) (1:Int) (0:Int) (1:Int)=o')->WOK o'.fst n' cap' tot'->off+1<=List.length us/\Q (SV.tup []) [⟨76,Row.lst [SV.slc 4 0 n' cap',B o'.snd],2,true⟩,⟨5,Row.lst [],0,false⟩,⟨e,Row.vals (layV us off [Value.bool ((1:Int)==(1:Int))]),t,true⟩,⟨3,Row.lst [I (1:Int)],1,true⟩,⟨5,Row.vals (vB o'.fst),tot',true⟩] E else ((-10000000000000:Int)<=(0:Int)/\(1:Int)<=(10000000000000:Int))/\∃ (out_1:List Int),((76=76/\2=2/\5=5/\vB out=vB out_1)/\WOK out_1 n cap tot/\n<=1000000)/\IntKind.i64=IntKind.i64/\∀ (o':List Int×Bool) (n' cap' tot':Nat),Hyp (wnum (out_1,bad) (0:Int) (0:Int) (1:Int)=o')->WOK o'.fst n' cap' tot'->off+1<=List.length us/\Q (SV.tup []) [⟨76,Row.lst [SV.slc 4 0 n' cap',B o'.snd],2,true⟩,⟨5,Row.lst [],0,false⟩,⟨e,Row.vals (layV us off [Value.bool ((0:Int)==(1:Int))]),t,true⟩,⟨3,Row.lst [I (0:Int)],1,true⟩,⟨5,Row.vals (vB o'.fst),tot',true⟩] E)
 refine ⟨b,loadV_cell rfl rfl hv,condC (fun g=>?_) (fun g=>?_)⟩
 ·have g:b=true:=by simpa using g
  subst g
  refine ⟨by decide,_,⟨⟨rfl,rfl,rfl,rfl⟩,W,hn⟩,rfl,fun o' n' cap' tot' q1 W'=>⟨by have:=(List.getElem?_eq_some_iff.1 hv).1;omega,hQ _ _ (cloK_intro [some 0,some 1,some 2,some 3,some 4] (h o' n' cap' tot' q1 W') (wkH mr_))⟩⟩
 ·have g:b=false:=by simpa using g
  subst g
  refine ⟨by decide,_,⟨⟨rfl,rfl,rfl,rfl⟩,W,hn⟩,rfl,fun o' n' cap' tot' q1 W'=>⟨by have:=(List.getElem?_eq_some_iff.1 hv).1;omega,hQ _ _ (cloK_intro [some 0,some 1,some 2,some 3,some 4] (h o' n' cap' tot' q1 W') (wkH mr_))⟩⟩
theorem set4 {l t:List Box} {o:Nat} {A B P P' C:Box} (hp:l[p]? =some P) (hc:l[c]? =some C) (h4:w≠p) (h5:o≠p) (h2:w≠c) (h3:o≠c) (h6:p≠c):
  ((((l.set w A).set o B).set p P').set c C++t).set p P=(l.set w A).set o B++t:=by
 have e1:(((l.set w A).set o B).set p P').set c C=(((l.set w A).set o B).set c C).set p P':=List.set_comm _ _ h6
 rw [e1,set_app_over (by simpa using (List.getElem?_eq_some_iff.1 hp).1),set_same (l:=(l.set w A).set o B) (p:=c) (x:=C) (by rw [List.getElem?_set_ne h3,List.getElem?_set_ne h2];exact hc),set_same (l:=(l.set w A).set o B) (p:=p) (x:=P) (by rw [List.getElem?_set_ne h5,List.getElem?_set_ne h4];exact hp)]
theorem set3 {l t:List Box} {o:Nat} {A B P P':Box} (hp:l[p]? =some P) (h4:w≠p) (h5:o≠p):
  (((l.set w A).set o B).set p P'++t).set p P=(l.set w A).set o B++t:=by
 rw [set_app_over (by simpa using (List.getElem?_eq_some_iff.1 hp).1),set_same (l:=(l.set w A).set o B) (p:=p) (x:=P) (by rw [List.getElem?_set_ne h5,List.getElem?_set_ne h4];exact hp)]
theorem lFrame {cf:FuncId} {o:Nat} {bad:Bool} {row:Row} {F:List Int×Bool->List Int×Bool} {K:KT} (hc:bx[c]? =some ⟨129,.lst [.ifc 74 (.loc w 0)],1,true⟩) (W:WBx bx w o out bad n cap tot) (hp:bx[p]? =some ⟨40,row,t,true⟩) (hv:row.cells[off]? =some (.raw v))
  (he:∀ (us:List Value) (KK:KT),us[off]? =some v->(∀ (o':List Int×Bool) (n' cap' tot':Nat),Hyp (F (out,bad)=o')->WOK o'.1 n' cap' tot'->n'<=n+5000->KK (.tup []) [⟨76,.lst [.slc 4 0 n' cap',B o'.2],2,true⟩,deadB,⟨40,.vals us,t,true⟩,⟨129,.lst [.ifc 74 (.loc 0 0)],1,true⟩,⟨5,.vals (vB o'.1),tot',true⟩] E)->
   CallSem Try.prog f [.ifc 74 (.loc 0 0),.loc 2 off,I hi,.clo cf [] [.loc 3 0]] [⟨76,.lst [.slc 1 0 n cap,B bad],2,true⟩,⟨5,.vals (vB out),tot,true⟩,⟨40,.vals us,t,true⟩,⟨129,.lst [.ifc 74 (.loc 0 0)],1,true⟩] E (cloK 4 KK))
  (hk:∀ (o':List Int×Bool) (n' cap' tot':Nat),Hyp (F (out,bad)=o')->WOK o'.1 n' cap' tot'->n'<=n+5000->K (.tup []) (bxW bx w o o' n' cap' tot') E):CallSem Try.prog f [.ifc 74 (.loc w 0),.loc p off,I hi,.clo cf [] [.loc c 0]] bx E K:=by
 have h1:=W.ne
 have h2:w≠c:=elem_ne W.hw hc (by show (76:Nat)≠129;decide)
 have h3:o≠c:=elem_ne W.ho hc (by show (5:Nat)≠129;decide)
 have h4:w≠p:=elem_ne W.hw hp (by show (76:Nat)≠40;decide)
 have h5:o≠p:=elem_ne W.ho hp (by show (5:Nat)≠40;decide)
 have h6:p≠c:=elem_ne hp hc (by show (40:Nat)≠129;decide)
 refine CallSem.handO (σ:=[w,o,p,c]) (p:=p) (k:=2) (bxs:=[⟨76,.lst [.slc 1 0 n cap,B bad],2,true⟩,⟨5,.vals (vB out),tot,true⟩,⟨40,row,t,true⟩,⟨129,.lst [.ifc 74 (.loc 0 0)],1,true⟩]) (fun us=>.vals us) (fun _=>rfl) hp rfl (by simp [h1,h2,h3,h4,h5,h6]) rfl (fun i b hi hb=>?_) (args':=[.ifc 74 (.loc 0 0),.loc 2 off,I hi,.clo cf [] [.loc 3 0]]) ?_ fun us hl hus=>?_
 ·match i,hb with
  | 0,hb=>
   simp only [List.getElem?_cons_zero,Option.some.injEq] at hb;subst hb
   exact ⟨rfl,w,rfl,by simpa [Box.ren,Row.ren,SV.renL,SV.ren,renF] using W.hw⟩
  | 1,hb=>
   simp only [List.getElem?_cons_succ,List.getElem?_cons_zero,Option.some.injEq] at hb;subst hb
   exact ⟨rfl,o,rfl,by simpa [Box.ren,Row.ren,SV.renL,SV.ren,renF] using W.ho⟩
  | 2,hb=>exact absurd rfl hi
  | 3,hb=>
   simp only [List.getElem?_cons_succ,List.getElem?_cons_zero,Option.some.injEq] at hb;subst hb
   exact ⟨rfl,c,rfl,by simpa [Box.ren,Row.ren,SV.renL,SV.ren,renF] using hc⟩
  | j+4,hb=>simp at hb
 ·simp only [SV.renL,SV.ren,renF,List.getElem?_cons_zero,List.getElem?_cons_succ]
 ·refine he us _ (hus _ _ hv) fun o' n' cap' tot' hq hW hn=>⟨.vals us,row,⟨rfl,Cl.id⟩,?_⟩
  exact (congrArg (fun l=>K (.tup []) l E) (set4 hp hc h4 h5 h2 h3 h6)).mpr (hk o' n' cap' tot' hq hW hn)
theorem fFrame {o:Nat} {bad:Bool} {row:Row} {b:Bool} {K:KT} (W:WBx bx w o out bad n cap tot) (hp:bx[p]? =some ⟨40,row,t,true⟩) (hv:row.cells[off]? =some (.raw (.bool b)))
  (hk:∀ (o':List Int×Bool) (n' cap' tot':Nat),Hyp (wnum (out,bad) (if b then 1 else 0) 0 1=o')->WOK o'.1 n' cap' tot'->K (.tup []) ((bx.set w ⟨76,.lst [.slc (bx.length+1) 0 n' cap',B o'.2],2,true⟩).set o deadB++[⟨3,.lst [I (if b then 1 else 0)],1,true⟩,⟨5,.vals (vB o'.1),tot',true⟩]) E):CallSem Try.prog 65 [.ifc 74 (.loc w 0),.loc p off] bx E K:=by
 have h1:=W.ne
 have h4:w≠p:=elem_ne W.hw hp (by show (76:Nat)≠40;decide)
 have h5:o≠p:=elem_ne W.ho hp (by show (5:Nat)≠40;decide)
 refine CallSem.handO (σ:=[w,o,p]) (p:=p) (k:=2) (bxs:=[⟨76,.lst [.slc 1 0 n cap,B bad],2,true⟩,⟨5,.vals (vB out),tot,true⟩,⟨40,row,t,true⟩]) (fun us=>.vals us) (fun _=>rfl) hp rfl (by simp [h1,h4,h5]) rfl (fun i b hi hb=>?_) (args':=[.ifc 74 (.loc 0 0),.loc 2 off]) ?_ fun us hl hus=>?_
 ·match i,hb with
  | 0,hb=>
   simp only [List.getElem?_cons_zero,Option.some.injEq] at hb;subst hb
   exact ⟨rfl,w,rfl,by simpa [Box.ren,Row.ren,SV.renL,SV.ren,renF] using W.hw⟩
  | 1,hb=>
   simp only [List.getElem?_cons_succ,List.getElem?_cons_zero,Option.some.injEq] at hb;subst hb
   exact ⟨rfl,o,rfl,by simpa [Box.ren,Row.ren,SV.renL,SV.ren,renF] using W.ho⟩
  | 2,hb=>exact absurd rfl hi
  | j+3,hb=>simp at hb
 ·simp only [SV.renL,SV.ren,renF,List.getElem?_cons_zero,List.getElem?_cons_succ]
 ·refine bsm okY3 Try.func65 (n65 (hus _ _ hv) W.ok W.sz (fun o' n' cap' tot' hq hW=>⟨.vals us,row,⟨by rw [layV_same (hus _ _ hv)];rfl,Cl.id⟩,(congrArg (fun l=>K (.tup []) l E) (set3 hp h4 h5)).mpr (hk o' n' cap' tot' hq hW)⟩) (fun _ _ q=>q))
def iS (bx:List Box) (x:SV) (k:Nat->Nat->List Int->Bool->Prop):Prop:=match x with
 | .ifc t x1=>t=74/\wS bx x1 (fun _ _=>False) (fun w o out bad _ _=>k w o out bad)
 | _=>False
theorem iS_elim {k:Nat->Nat->List Int->Bool->Prop} (h:iS bx x k):∃ w o out bad n cap tot,x= .ifc 74 (.loc w 0)/\WBx bx w o out bad n cap tot/\k w o out bad:=by
 unfold iS at h
 split at h
 case h_2=>exact h.elim
 rename_i t x1
 obtain ⟨rfl,h⟩:=h
 rcases wS_elim h with ⟨w,o,out,bad,n,cap,tot,rfl,W,hk⟩|⟨w,bad,e,hw,hx⟩
 ·exact ⟨w,o,out,bad,n,cap,tot,rfl,W,hk⟩
 ·exact hx.elim
def bAt (bx:List Box) (x:SV) (k:Bool->Prop):Prop:=match x with
 | .loc p off=>match bx[p]? with
  | some ⟨e,.lst cells,_,true⟩=>match cells[off]? with
   | some (.raw (.bool b))=>e=40/\k b
   | _=>False
  | _=>False
 | _=>False
theorem bAt_elim {k:Bool->Prop} (h:bAt bx x k):∃ p off row t b,x= .loc p off/\bx[p]? =some ⟨40,row,t,true⟩/\row.cells[off]? =some (.raw (.bool b))/\k b:=by
 unfold bAt at h
 split at h
 case h_2=>exact h.elim
 rename_i p off
 split at h
 case h_2=>exact h.elim
 rename_i e cells t hp
 split at h
 case h_2=>exact h.elim
 rename_i b hc
 obtain ⟨rfl,hk⟩:=h
 exact ⟨p,off,_,t,b,rfl,hp,hc,hk⟩
def sAt (bx:List Box) (x:SV) (k:Option Addr->Nat->Nat->Prop):Prop:=match x with
 | .loc p off=>match bx[p]? with
  | some ⟨e,.lst cells,_,true⟩=>match cells[off]? with
   | some (.raw (.slice b m c))=>e=40/\k b m c
   | _=>False
  | _=>False
 | _=>False
theorem sAt_elim {k:Option Addr->Nat->Nat->Prop} (h:sAt bx x k):∃ p off row t b m c,x= .loc p off/\bx[p]? =some ⟨40,row,t,true⟩/\row.cells[off]? =some (.raw (.slice b m c))/\k b m c:=by
 unfold sAt at h
 split at h
 case h_2=>exact h.elim
 rename_i p off
 split at h
 case h_2=>exact h.elim
 rename_i e cells t hp
 split at h
 case h_2=>exact h.elim
 rename_i b m c hc
 obtain ⟨rfl,hk⟩:=h
 exact ⟨p,off,_,t,b,m,c,rfl,hp,hc,hk⟩
def clA (cf:FuncId) (x y:SV) (bx:List Box) (k:Nat->Nat->List Int->Bool->Nat->Prop):Prop:=match x with
 | .ifc t x1=>(match y with
  | .clo f [] [z]=>(t=74/\f=cf)/\cS bx z (fun _ w o out bad n=>x1= .loc w 0/\k w o out bad n)
  | _=>False)
 | _=>False
theorem clA_elim {cf:FuncId} {y:SV} {k:Nat->Nat->List Int->Bool->Nat->Prop} (h:clA cf x y bx k):
  ∃ c w o out bad n cap tot,x= .ifc 74 (.loc w 0)/\y= .clo cf [] [.loc c 0]/\bx[c]? =some ⟨129,.lst [.ifc 74 (.loc w 0)],1,true⟩/\WBx bx w o out bad n cap tot/\k w o out bad n:=by
 unfold clA at h
 split at h
 case h_2=>exact h.elim
 rename_i t x1
 split at h
 case h_2=>exact h.elim
 rename_i f z
 obtain ⟨⟨rfl,rfl⟩,h⟩:=h
 obtain ⟨c,w,o,out,bad,n,cap,tot,rfl,hc,W,rfl,hk⟩:=cS_elim h
 exact ⟨c,w,o,out,bad,n,cap,tot,rfl,rfl,hc,W,hk⟩
noncomputable def tabBS:CallT:=fun f args bx E K=>match f with
 | 65=>d2 args fun x0 x1=>iS bx x0 (fun w o out bad=>bAt bx x1 fun b=>∀ (o':List Int×Bool) (n' cap' tot':Nat),Hyp (wnum (out,bad) (if b then 1 else 0) 0 1=o')->WOK o'.1 n' cap' tot'->K (.tup []) ((bx.set w ⟨76,.lst [.slc (bx.length+1) 0 n' cap',B o'.2],2,true⟩).set o deadB++[⟨3,.lst [I (if b then 1 else 0)],1,true⟩,⟨5,.vals (vB o'.1),tot',true⟩]) E)
 | 84=>d4 args fun x0 x1 x2 x3=>dI x2 fun hi=>clA 85 x0 x3 bx fun w o out bad n=>sAt bx x1 fun b m c'=>∃ xs:List (List Int),(SL (RK .i64 4) E b m c' xs/\n<=800000/\0<=hi/\hi<=60)/\∀ (o':List Int×Bool) (n' cap' tot':Nat),Hyp (wList (weI its85) hi (out,bad) xs=o')->WOK o'.1 n' cap' tot'->n'<=n+5000->K (.tup []) (bxW bx w o o' n' cap' tot') E
 | 87=>d4 args fun x0 x1 x2 x3=>dI x2 fun hi=>clA 88 x0 x3 bx fun w o out bad n=>sAt bx x1 fun b m c'=>∃ xs:List (List Int),(SL (RK .i64 5) E b m c' xs/\n<=800000/\0<=hi/\hi<=60)/\∀ (o':List Int×Bool) (n' cap' tot':Nat),Hyp (wList (weI its88) hi (out,bad) xs=o')->WOK o'.1 n' cap' tot'->n'<=n+5000->K (.tup []) (bxW bx w o o' n' cap' tot') E
 | 89=>d4 args fun x0 x1 x2 x3=>dI x2 fun hi=>clA 90 x0 x3 bx fun w o out bad n=>sAt bx x1 fun b m c'=>∃ xs:List (List Int),(SL (RK .i64 3) E b m c' xs/\n<=800000/\0<=hi/\hi<=60)/\∀ (o':List Int×Bool) (n' cap' tot':Nat),Hyp (wList (weI its90) hi (out,bad) xs=o')->WOK o'.1 n' cap' tot'->n'<=n+5000->K (.tup []) (bxW bx w o o' n' cap' tot') E
 | 91=>d4 args fun x0 x1 x2 x3=>dI x2 fun hi=>clA 92 x0 x3 bx fun w o out bad n=>sAt bx x1 fun b m c'=>∃ xs:List (List Int),(SL (RK .i64 4) E b m c' xs/\n<=800000/\0<=hi/\hi<=60)/\∀ (o':List Int×Bool) (n' cap' tot':Nat),Hyp (wList (weI its92) hi (out,bad) xs=o')->WOK o'.1 n' cap' tot'->n'<=n+5000->K (.tup []) (bxW bx w o o' n' cap' tot') E
 | 93=>d4 args fun x0 x1 x2 x3=>dI x2 fun hi=>clA 94 x0 x3 bx fun w o out bad n=>sAt bx x1 fun b m c'=>∃ xs:List (List Int),(SL (RK .i64 8) E b m c' xs/\n<=800000/\0<=hi/\hi<=60)/\∀ (o':List Int×Bool) (n' cap' tot':Nat),Hyp (wList (weI its94) hi (out,bad) xs=o')->WOK o'.1 n' cap' tot'->n'<=n+5000->K (.tup []) (bxW bx w o o' n' cap' tot') E
 | 67=>d4 args fun x0 x1 x2 x3=>dI x2 fun hi=>clA 68 x0 x3 bx fun w o out bad n=>sAt bx x1 fun b m c'=>∃ xs:List (List Int),(SL (RK .i64 1) E b m c' xs/\n<=800000/\0<=hi/\hi<=60)/\∀ (o':List Int×Bool) (n' cap' tot':Nat),Hyp (wList (weI its68) hi (out,bad) xs=o')->WOK o'.1 n' cap' tot'->n'<=n+5000->K (.tup []) (bxW bx w o o' n' cap' tot') E
 | 95=>d4 args fun x0 x1 x2 x3=>dI x2 fun hi=>clA 96 x0 x3 bx fun w o out bad n=>sAt bx x1 fun b m c'=>∃ xs:List (List Int),(SL (RK .u64 1) E b m c' xs/\n<=800000/\0<=hi/\hi<=60)/\∀ (o':List Int×Bool) (n' cap' tot':Nat),Hyp (wList weD hi (out,bad) xs=o')->WOK o'.1 n' cap' tot'->n'<=n+5000->K (.tup []) (bxW bx w o o' n' cap' tot') E
 | _=>False
theorem tabBS_ok:∀ f args bx E K,tabBS f args bx E K->CallSem Try.prog f args bx E K:=by
 intro f args bx E K h
 unfold tabBS at h
 split at h
 ·obtain ⟨x0,x1,rfl,h1⟩:=d2_elim h
  obtain ⟨w,o,out,bad,n,cap,tot,rfl,W,h2⟩:=iS_elim h1
  obtain ⟨p,off,row,t,b,rfl,hp,hv,hk⟩:=bAt_elim h2
  exact fFrame W hp hv hk
 ·obtain ⟨x0,x1,x2,x3,rfl,h1⟩:=d4_elim h
  obtain ⟨hi,rfl,h2⟩:=dI_elim h1
  obtain ⟨c,w,o,out,bad,n,cap,tot,rfl,rfl,hc,W,h3⟩:=clA_elim h2
  obtain ⟨p,off,row,t,b,m,c',rfl,hp,hv,xs,⟨X,hn,hh⟩,hk⟩:=sAt_elim h3
  exact lFrame (F:=fun o=>wList (weI its85) hi o xs) hc W hp hv (fun us KK hu hKK=>bsm okY2 Try.func84 (n84 hu X W.ok hn hh hKK (fun _ _ q=>q))) hk
 ·obtain ⟨x0,x1,x2,x3,rfl,h1⟩:=d4_elim h
  obtain ⟨hi,rfl,h2⟩:=dI_elim h1
  obtain ⟨c,w,o,out,bad,n,cap,tot,rfl,rfl,hc,W,h3⟩:=clA_elim h2
  obtain ⟨p,off,row,t,b,m,c',rfl,hp,hv,xs,⟨X,hn,hh⟩,hk⟩:=sAt_elim h3
  exact lFrame (F:=fun o=>wList (weI its88) hi o xs) hc W hp hv (fun us KK hu hKK=>bsm okY2 Try.func87 (n87 hu X W.ok hn hh hKK (fun _ _ q=>q))) hk
 ·obtain ⟨x0,x1,x2,x3,rfl,h1⟩:=d4_elim h
  obtain ⟨hi,rfl,h2⟩:=dI_elim h1
  obtain ⟨c,w,o,out,bad,n,cap,tot,rfl,rfl,hc,W,h3⟩:=clA_elim h2
  obtain ⟨p,off,row,t,b,m,c',rfl,hp,hv,xs,⟨X,hn,hh⟩,hk⟩:=sAt_elim h3
  exact lFrame (F:=fun o=>wList (weI its90) hi o xs) hc W hp hv (fun us KK hu hKK=>bsm okY2 Try.func89 (n89 hu X W.ok hn hh hKK (fun _ _ q=>q))) hk
 ·obtain ⟨x0,x1,x2,x3,rfl,h1⟩:=d4_elim h
  obtain ⟨hi,rfl,h2⟩:=dI_elim h1
  obtain ⟨c,w,o,out,bad,n,cap,tot,rfl,rfl,hc,W,h3⟩:=clA_elim h2
  obtain ⟨p,off,row,t,b,m,c',rfl,hp,hv,xs,⟨X,hn,hh⟩,hk⟩:=sAt_elim h3
  exact lFrame (F:=fun o=>wList (weI its92) hi o xs) hc W hp hv (fun us KK hu hKK=>bsm okY2 Try.func91 (n91 hu X W.ok hn hh hKK (fun _ _ q=>q))) hk
 ·obtain ⟨x0,x1,x2,x3,rfl,h1⟩:=d4_elim h
  obtain ⟨hi,rfl,h2⟩:=dI_elim h1
  obtain ⟨c,w,o,out,bad,n,cap,tot,rfl,rfl,hc,W,h3⟩:=clA_elim h2
  obtain ⟨p,off,row,t,b,m,c',rfl,hp,hv,xs,⟨X,hn,hh⟩,hk⟩:=sAt_elim h3
  exact lFrame (F:=fun o=>wList (weI its94) hi o xs) hc W hp hv (fun us KK hu hKK=>bsm okY2 Try.func93 (n93 hu X W.ok hn hh hKK (fun _ _ q=>q))) hk
 ·obtain ⟨x0,x1,x2,x3,rfl,h1⟩:=d4_elim h
  obtain ⟨hi,rfl,h2⟩:=dI_elim h1
  obtain ⟨c,w,o,out,bad,n,cap,tot,rfl,rfl,hc,W,h3⟩:=clA_elim h2
  obtain ⟨p,off,row,t,b,m,c',rfl,hp,hv,xs,⟨X,hn,hh⟩,hk⟩:=sAt_elim h3
  exact lFrame (F:=fun o=>wList (weI its68) hi o xs) hc W hp hv (fun us KK hu hKK=>bsm okY2 Try.func67 (n67 hu X W.ok hn hh hKK (fun _ _ q=>q))) hk
 ·obtain ⟨x0,x1,x2,x3,rfl,h1⟩:=d4_elim h
  obtain ⟨hi,rfl,h2⟩:=dI_elim h1
  obtain ⟨c,w,o,out,bad,n,cap,tot,rfl,rfl,hc,W,h3⟩:=clA_elim h2
  obtain ⟨p,off,row,t,b,m,c',rfl,hp,hv,xs,⟨X,hn,hh⟩,hk⟩:=sAt_elim h3
  exact lFrame (F:=fun o=>wList weD hi o xs) hc W hp hv (fun us KK hu hKK=>bsm okY2 Try.func95 (n95 hu X W.ok hn hh hKK (fun _ _ q=>q))) hk
 ·exact h.elim
noncomputable def tabB32:CallT:=fun f args bx E K=>if 118<=f then tabBW f args bx E K else tabBS f args bx E K
theorem tabB32_ok:∀ f args bx E K,tabB32 f args bx E K->CallSem Try.prog f args bx E K:=by
 intro f args bx E K h
 unfold tabB32 at h
 split at h
 ·exact tabBW_ok _ _ _ _ _ h
 ·exact tabBS_ok _ _ _ _ _ h
noncomputable def Y4:Cx:={ P:=Try.prog,inl:=fun f=>List.contains [32,63,64,66,69] f,tab:=fun _ _ _ _=>False,isB:=fun f=>f==65||f==84||f==87||f==89||f==91||f==93||f==67||f==95||f==118||f==119||f==120||f==121,tabB:=tabB32,opt:={ unroll:=3,carry:=[] },muts:=(fun o=>match o with | .call { callee:=.builtin .len,.. }=>false| .call _=>true|o=>mutsD o) }
theorem okY4:CxOK Y4:=CxOK.four (fun _ _ _ _ h=>h.elim) (by kernel_rfl) (okInl (by kernel_rfl)) tabB32_ok
structure Bc where
 from_:Int
 asn:Int
 boot:Int
 hops:Int
 bound:Int
 fresh:Int
 seq:Int
 rank:Int
 parent:Int
 first:Int
 next:Int
 uses:List (List Int)
 grants:List (List Int)
 asks:List (List Int)
 below:List (List Int)
 full:Bool
 words:List (List Int)
 mail:List (List Int)
 got:List (List Int)
 nver:Int
 size:Int
 dig:Int
 start:Int
 pages:Int
 version:Int
 page:Int
 seed:Int
 data:List Int
 proof:List (List Int)
 has:Bool
abbrev bcl (from_:Int) (asn:Int) (boot:Int) (hops:Int) (bound:Int) (fresh:Int) (seq:Int) (rank:Int) (parent:Int) (first:Int) (next:Int) (full:Bool) (nver:Int) (size:Int) (dig:Int) (start:Int) (pages:Int) (version:Int) (page:Int) (seed:Int) (has:Bool) (b11:Option Addr) (n11 c11:Nat) (b12:Option Addr) (n12 c12:Nat) (b13:Option Addr) (n13 c13:Nat) (b14:Option Addr) (n14 c14:Nat) (b16:Option Addr) (n16 c16:Nat) (b17:Option Addr) (n17 c17:Nat) (b18:Option Addr) (n18 c18:Nat) (b27:Option Addr) (n27 c27:Nat) (b28:Option Addr) (n28 c28:Nat):List SV:=[I from_,I asn,I boot,I hops,I bound,I fresh,I seq,I rank,I parent,I first,I next,L b11 n11 c11,L b12 n12 c12,L b13 n13 c13,L b14 n14 c14,B full,L b16 n16 c16,L b17 n17 c17,L b18 n18 c18,I nver,I size,.raw (.int .u64 dig),I start,I pages,I version,I page,I seed,L b27 n27 c27,L b28 n28 c28,B has]
abbrev bcx (x:Bc) (b11:Option Addr) (n11 c11:Nat) (b12:Option Addr) (n12 c12:Nat) (b13:Option Addr) (n13 c13:Nat) (b14:Option Addr) (n14 c14:Nat) (b16:Option Addr) (n16 c16:Nat) (b17:Option Addr) (n17 c17:Nat) (b18:Option Addr) (n18 c18:Nat) (b27:Option Addr) (n27 c27:Nat) (b28:Option Addr) (n28 c28:Nat):List SV:=[I x.from_,I x.asn,I x.boot,I x.hops,I x.bound,I x.fresh,I x.seq,I x.rank,I x.parent,I x.first,I x.next,L b11 n11 c11,L b12 n12 c12,L b13 n13 c13,L b14 n14 c14,B x.full,L b16 n16 c16,L b17 n17 c17,L b18 n18 c18,I x.nver,I x.size,.raw (.int .u64 x.dig),I x.start,I x.pages,I x.version,I x.page,I x.seed,L b27 n27 c27,L b28 n28 c28,B x.has]
def encA (x:Bc):List Int×Bool:=(wnum (wnum (wnum (wnum (wdig (wnum (wnum (wList (weI its68) 60 (wList (weI its94) 1 (wList (weI its94) 4 (wnum (wList (weI its92) 60 (wList (weI its90) 24 (wList (weI its88) 24 (wList (weI its85) 24 (wnum (wnum (wnum (wnum (wnum (wnum (wnum (wnum (wnum (wnum (wnum ([],false) x.from_ 0 59) x.asn 0 1000000000) x.boot 0 1000000000) x.hops 0 60) x.bound 0 2000) x.fresh 0 1000000000) x.seq 0 1000000000) x.rank 0 1000000) x.parent (-1) 59) x.first 0 500002) x.next 0 500002) x.uses) x.grants) x.asks) x.below) (if x.full then 1 else 0) 0 1) x.words) x.mail) x.got) x.nver 0 1000000000) x.size 0 4096) x.dig) x.start 0 1000000000) x.pages 0 16) x.version 0 1000000000) (if x.has then 1 else 0) 0 1)
def enc (x:Bc):List Int×Bool:=if x.has then (wList weD 5 (wdat (wnum (wnum (encA x) x.page 0 15) x.seed 0 1000000000) x.data 16) x.proof) else (wuns (wuns (wuns (encA x) x.page) x.seed) (x.data.length+x.proof.length:Nat))
theorem len8 {o':List Int×Bool} {d:Int} {n' cap' tot':Nat} (h:wdig o d=o') (W:WOK o.1 n cap tot) (W':WOK o'.1 n' cap' tot'):n'<=n+8:=by
 have e:(wdig o d).1.length=o.1.length+8:=by unfold wdig;simp [digB]
 rw [h,W'.len,W.len] at e;omega
theorem lenDat {o':List Int×Bool} {z:List Int} {m:Int} {n' cap' tot':Nat} (h:wdat o z m=o') (W:WOK o.1 n cap tot) (W':WOK o'.1 n' cap' tot'):n'<=n+z.length:=by
 have e:(wdat o z m).1.length=o.1.length+z.length:=by unfold wdat;simp
 rw [h,W'.len,W.len] at e;omega
theorem p12 {from_:Int} {asn:Int} {boot:Int} {hops:Int} {bound:Int} {fresh:Int} {seq:Int} {rank:Int} {parent:Int} {first:Int} {next:Int} {uses:List (List Int)} {grants:List (List Int)} {asks:List (List Int)} {below:List (List Int)} {full:Bool} {words:List (List Int)} {mail:List (List Int)} {got:List (List Int)} {nver:Int} {size:Int} {dig:Int} {start:Int} {pages:Int} {version:Int} {page:Int} {seed:Int} {data:List Int} {proof:List (List Int)} {has:Bool} {b11:Option Addr} {n11 c11:Nat} {b12:Option Addr} {n12 c12:Nat} {b13:Option Addr} {n13 c13:Nat} {b14:Option Addr} {n14 c14:Nat} {b16:Option Addr} {n16 c16:Nat} {b17:Option Addr} {n17 c17:Nat} {b18:Option Addr} {n18 c18:Nat} {b27:Option Addr} {n27 c27:Nat} {b28:Option Addr} {n28 c28:Nat} (h11:SL (RK .i64 4) E b11 n11 c11 uses) (h12:SL (RK .i64 5) E b12 n12 c12 grants) (h13:SL (RK .i64 3) E b13 n13 c13 asks) (h14:SL (RK .i64 4) E b14 n14 c14 below) (h16:SL (RK .i64 8) E b16 n16 c16 words) (h17:SL (RK .i64 8) E b17 n17 c17 mail) (h18:SL (RK .i64 1) E b18 n18 c18 got) (h27:Bs E b27 n27 c27 data) (h28:SL (RK .u64 1) E b28 n28 c28 proof) (hl:n27<=100000) (hp:n28<=100000)
  (h:∀ (o':List Int×Bool) (n' cap' tot':Nat),Hyp (enc ⟨from_,asn,boot,hops,bound,fresh,seq,rank,parent,first,next,uses,grants,asks,below,full,words,mail,got,nver,size,dig,start,pages,version,page,seed,data,proof,has⟩=o')->WOK o'.1 n' cap' tot'->if o'.2 then K (.tup [L none 0 0,I 1]) E else ∀ (base:Option Addr) (E':Mem),Mem.le E E'->WinE E' base (vB o'.1)->K (.tup [.raw (.slice (base.map fun y=>y.add 0) n' cap'),I 0]) E'):
  Ent Y4 8 Try.f12 [.agg [I from_,I asn,I boot,I hops,I bound,I fresh,I seq,I rank,I parent,I first,I next,L b11 n11 c11,L b12 n12 c12,L b13 n13 c13,L b14 n14 c14,B full,L b16 n16 c16,L b17 n17 c17,L b18 n18 c18,I nver,I size,.raw (.int .u64 dig),I start,I pages,I version,I page,I seed,L b27 n27 c27,L b28 n28 c28,B has]] E K:=by
 refine sm_ (?_:((-10000000000000:Int)<=(0:Int)/\(59:Int)<=(10000000000000:Int))/\(76=76/\2=2)/\True/\IntKind.i64=IntKind.i64/\∀ (o':List Int×Bool) (n' cap' tot':Nat),Hyp (wnum ([],false) from_ 0 (59:Int)=o')->WOK o'.fst n' cap' tot'->((-10000000000000:Int)<=(0:Int)/\(1000000000:Int)<=(10000000000000:Int))/\∃ (out:List Int),((76=76/\2=2/\5=5/\vB o'.fst=vB out)/\WOK out n' cap' tot'/\n'<=1000000)/\IntKind.i64=IntKind.i64/\∀ (o'_1:List Int×Bool) (n' cap' tot':Nat),Hyp (wnum (out,o'.snd) asn 0 (1000000000:Int)=o'_1)->WOK o'_1.fst n' cap' tot'->((-10000000000000:Int)<=(0:Int)/\(1000000000:Int)<=(10000000000000:Int))/\∃ (out:List Int),((76=76/\2=2/\5=5/\vB o'_1.fst=vB out)/\WOK out n' cap' tot'/\n'<=1000000)/\IntKind.i64=IntKind.i64/\∀ (o':List Int×Bool) (n' cap' tot':Nat),Hyp (wnum (out,o'_1.snd) boot 0 (1000000000:Int)=o')->WOK o'.fst n' cap' tot'->((-10000000000000:Int)<=(0:Int)/\(60:Int)<=(10000000000000:Int))/\∃ (out:List Int),((76=76/\2=2/\5=5/\vB o'.fst=vB out)/\WOK out n' cap' tot'/\n'<=1000000)/\IntKind.i64=IntKind.i64/\∀ (o'_2:List Int×Bool) (n' cap' tot':Nat),Hyp (wnum (out,o'.snd) hops 0 (60:Int)=o'_2)->WOK o'_2.fst n' cap' tot'->((-10000000000000:Int)<=(0:Int)/\(2000:Int)<=(10000000000000:Int))/\∃ (out:List Int),((76=76/\2=2/\5=5/\vB o'_2.fst=vB out)/\WOK out n' cap' tot'/\n'<=1000000)/\IntKind.i64=IntKind.i64/\∀ (o':List Int×Bool) (n' cap' tot':Nat),Hyp (wnum (out,o'_2.snd) bound 0 (2000:Int)=o')->WOK o'.fst n' cap' tot'->((-10000000000000:Int)<=(0:Int)/\(1000000000:Int)<=(10000000000000:Int))/\∃ (out:List Int),((76=76/\2=2/\5=5/\vB o'.fst=vB out)/\WOK out n' cap' tot'/\n'<=1000000)/\IntKind.i64=IntKind.i64/\∀ (o'_3:List Int×Bool) (n' cap' tot':Nat),Hyp (wnum (out,o'.snd) fresh 0 (1000000000:Int)=o'_3)->WOK o'_3.fst n' cap' tot'->((-10000000000000:Int)<=(0:Int)/\(1000000000:Int)<=(10000000000000:Int))/\∃ (out:List Int),((76=76/\2=2/\5=5/\vB o'_3.fst=vB out)/\WOK out n' cap' tot'/\n'<=1000000)/\IntKind.i64=IntKind.i64/\∀ (o':List Int×Bool) (n' cap' tot':Nat),Hyp (wnum (out,o'_3.snd) seq 0 (1000000000:Int)=o')->WOK o'.fst n' cap' tot'->((-10000000000000:Int)<=(0:Int)/\(1000000:Int)<=(10000000000000:Int))/\∃ (out:List Int),((76=(76:Nat)/\2=(2:Nat)/\(5:Nat)=(5:Nat)/\vB o'.fst=vB out)/\WOK out n' cap' tot'/\n'<=(1000000:Nat))/\IntKind.i64=IntKind.i64/\∀ (o'_4:List Int×Bool) (n' cap' tot':Nat),Hyp (wnum (out,o'.snd) rank 0 (1000000:Int)=o'_4)->WOK o'_4.fst n' cap' tot'->((-10000000000000:Int)<=(-1:Int)/\(59:Int)<=(10000000000000:Int))/\∃ (out:List Int),(((76:Nat)=(76:Nat)/\(2:Nat)=(2:Nat)/\(5:Nat)=(5:Nat)/\vB o'_4.fst=vB out)/\WOK out n' cap' tot'/\n'<=(1000000:Nat))/\IntKind.i64=IntKind.i64/\∀ (o':List Int×Bool) (n' cap' tot':Nat),Hyp (wnum (out,o'_4.snd) parent (-1:Int) (59:Int)=o')->WOK o'.fst n' cap' tot'->((-10000000000000:Int)<=(0:Int)/\(500002:Int)<=(10000000000000:Int))/\∃ (out:List Int),(((76:Nat)=(76:Nat)/\(2:Nat)=(2:Nat)/\(5:Nat)=(5:Nat)/\vB o'.fst=vB out)/\WOK out n' cap' tot'/\n'<=(1000000:Nat))/\IntKind.i64=IntKind.i64/\∀ (o'_5:List Int×Bool) (n' cap' tot':Nat),Hyp (wnum (out,o'.snd) first 0 (500002:Int)=o'_5)->WOK o'_5.fst n' cap' tot'->((-10000000000000:Int)<=(0:Int)/\(500002:Int)<=(10000000000000:Int))/\∃ (out:List Int),(((76:Nat)=(76:Nat)/\(2:Nat)=(2:Nat)/\(5:Nat)=(5:Nat)/\vB o'_5.fst=vB out)/\WOK out n' cap' tot'/\n'<=(1000000:Nat))/\IntKind.i64=IntKind.i64/\∀ (o':List Int×Bool) (n' cap' tot':Nat),Hyp (wnum (out,o'_5.snd) next 0 (500002:Int)=o')->WOK o'.fst n' cap' tot'->((74:Nat)=(74:Nat)/\(85:Nat)=(85:Nat))/\((129:Nat)=(129:Nat)/\(74:Nat)=(74:Nat)/\(1:Nat)=(1:Nat))/\∃ (out:List Int),(((76:Nat)=(76:Nat)/\(2:Nat)=(2:Nat)/\(5:Nat)=(5:Nat)/\vB o'.fst=vB out)/\WOK out n' cap' tot'/\n'<=(1000000:Nat))/\SV.loc 1 (0:Nat)=SV.loc 1 (0:Nat)/\(40:Nat)=(40:Nat)/\∃ (xs:List (List Int)),(SL (RK IntKind.i64 4) E b11 n11 c11 xs/\n'<=(800000:Nat)/\(0:Int)<=(24:Int)/\(24:Int)<=(60:Int))/\∀ (o'_6:List Int×Bool) (n'_1 cap' tot':Nat),Hyp (wList (weI its85) 24 (out,o'.snd) xs=o'_6)->WOK o'_6.fst n'_1 cap' tot'->n'_1<=n'+(5000:Nat)->((74:Nat)=(74:Nat)/\(88:Nat)=(88:Nat))/\((129:Nat)=(129:Nat)/\(74:Nat)=(74:Nat)/\(1:Nat)=(1:Nat))/\∃ (out:List Int),(((76:Nat)=(76:Nat)/\(2:Nat)=(2:Nat)/\(5:Nat)=(5:Nat)/\vB o'_6.fst=vB out)/\WOK out n'_1 cap' tot'/\n'_1<=(1000000:Nat))/\SV.loc 1 (0:Nat)=SV.loc 1 (0:Nat)/\(40:Nat)=(40:Nat)/\∃ (xs:List (List Int)),(SL (RK IntKind.i64 5) E b12 n12 c12 xs/\n'_1<=(800000:Nat)/\(0:Int)<=(24:Int)/\(24:Int)<=(60:Int))/\∀ (o':List Int×Bool) (n' cap' tot':Nat),Hyp (wList (weI its88) 24 (out,o'_6.snd) xs=o')->WOK o'.fst n' cap' tot'->n'<=n'_1+(5000:Nat)->((74:Nat)=(74:Nat)/\(90:Nat)=(90:Nat))/\((129:Nat)=(129:Nat)/\(74:Nat)=(74:Nat)/\(1:Nat)=(1:Nat))/\∃ (out:List Int),(((76:Nat)=(76:Nat)/\(2:Nat)=(2:Nat)/\(5:Nat)=(5:Nat)/\vB o'.fst=vB out)/\WOK out n' cap' tot'/\n'<=(1000000:Nat))/\SV.loc 1 (0:Nat)=SV.loc 1 (0:Nat)/\(40:Nat)=(40:Nat)/\∃ (xs:List (List Int)),(SL (RK IntKind.i64 3) E b13 n13 c13 xs/\n'<=(800000:Nat)/\(0:Int)<=(24:Int)/\(24:Int)<=(60:Int))/\∀ (o'_7:List Int×Bool) (n'_2 cap' tot':Nat),Hyp (wList (weI its90) 24 (out,o'.snd) xs=o'_7)->WOK o'_7.fst n'_2 cap' tot'->n'_2<=n'+(5000:Nat)->((74:Nat)=(74:Nat)/\(92:Nat)=(92:Nat))/\((129:Nat)=(129:Nat)/\(74:Nat)=(74:Nat)/\(1:Nat)=(1:Nat))/\∃ (out:List Int),(((76:Nat)=(76:Nat)/\(2:Nat)=(2:Nat)/\(5:Nat)=(5:Nat)/\vB o'_7.fst=vB out)/\WOK out n'_2 cap' tot'/\n'_2<=(1000000:Nat))/\SV.loc 1 (0:Nat)=SV.loc 1 (0:Nat)/\(40:Nat)=(40:Nat)/\∃ (xs:List (List Int)),(SL (RK IntKind.i64 4) E b14 n14 c14 xs/\n'_2<=(800000:Nat)/\(0:Int)<=(60:Int)/\(60:Int)<=(60:Int))/\∀ (o':List Int×Bool) (n' cap' tot':Nat),Hyp (wList (weI its92) 60 (out,o'_7.snd) xs=o')->WOK o'.fst n' cap' tot'->n'<=n'_2+(5000:Nat)->(74:Nat)=(74:Nat)/\∃ (out:List Int),(((76:Nat)=(76:Nat)/\(2:Nat)=(2:Nat)/\(5:Nat)=(5:Nat)/\vB o'.fst=vB out)/\WOK out n' cap' tot'/\n'<=(1000000:Nat))/\(40:Nat)=(40:Nat)/\∀ (o'_8:List Int×Bool) (n' cap' tot':Nat),Hyp (wnum (out,o'.snd) (if full=true then 1 else 0) 0 (1:Int)=o'_8)->WOK o'_8.fst n' cap' tot'->((74:Nat)=(74:Nat)/\(94:Nat)=(94:Nat))/\((129:Nat)=(129:Nat)/\(74:Nat)=(74:Nat)/\(1:Nat)=(1:Nat))/\∃ (out:List Int),(((76:Nat)=(76:Nat)/\(2:Nat)=(2:Nat)/\(5:Nat)=(5:Nat)/\vB o'_8.fst=vB out)/\WOK out n' cap' tot'/\n'<=(1000000:Nat))/\SV.loc 1 (0:Nat)=SV.loc 1 (0:Nat)/\(40:Nat)=(40:Nat)/\∃ (xs:List (List Int)),(SL (RK IntKind.i64 8) E b16 n16 c16 xs/\n'<=(800000:Nat)/\(0:Int)<=(4:Int)/\(4:Int)<=(60:Int))/\∀ (o':List Int×Bool) (n'_3 cap' tot':Nat),Hyp (wList (weI its94) 4 (out,o'_8.snd) xs=o')->WOK o'.fst n'_3 cap' tot'->n'_3<=n'+(5000:Nat)->((74:Nat)=(74:Nat)/\(94:Nat)=(94:Nat))/\((129:Nat)=(129:Nat)/\(74:Nat)=(74:Nat)/\(1:Nat)=(1:Nat))/\∃ (out:List Int),(((76:Nat)=(76:Nat)/\(2:Nat)=(2:Nat)/\(5:Nat)=(5:Nat)/\vB o'.fst=vB out)/\WOK out n'_3 cap' tot'/\n'_3<=(1000000:Nat))/\SV.loc 1 (0:Nat)=SV.loc 1 (0:Nat)/\(40:Nat)=(40:Nat)/\∃ (xs:List (List Int)),(SL (RK IntKind.i64 8) E b17 n17 c17 xs/\n'_3<=(800000:Nat)/\(0:Int)<=(1:Int)/\(1:Int)<=(60:Int))/\∀ (o'_9:List Int×Bool) (n' cap' tot':Nat),Hyp (wList (weI its94) 1 (out,o'.snd) xs=o'_9)->WOK o'_9.fst n' cap' tot'->n'<=n'_3+(5000:Nat)->((74:Nat)=(74:Nat)/\(68:Nat)=(68:Nat))/\((129:Nat)=(129:Nat)/\(74:Nat)=(74:Nat)/\(1:Nat)=(1:Nat))/\∃ (out:List Int),(((76:Nat)=(76:Nat)/\(2:Nat)=(2:Nat)/\(5:Nat)=(5:Nat)/\vB o'_9.fst=vB out)/\WOK out n' cap' tot'/\n'<=(1000000:Nat))/\SV.loc 1 (0:Nat)=SV.loc 1 (0:Nat)/\(40:Nat)=(40:Nat)/\∃ (xs:List (List Int)),(SL (RK IntKind.i64 1) E b18 n18 c18 xs/\n'<=(800000:Nat)/\(0:Int)<=(60:Int)/\(60:Int)<=(60:Int))/\∀ (o':List Int×Bool) (n'_4 cap' tot':Nat),Hyp (wList (weI its68) 60 (out,o'_9.snd) xs=o')->WOK o'.fst n'_4 cap' tot'->n'_4<=n'+(5000:Nat)->((-10000000000000:Int)<=(0:Int)/\(1000000000:Int)<=(10000000000000:Int))/\∃ (out:List Int),(((76:Nat)=(76:Nat)/\(2:Nat)=(2:Nat)/\(5:Nat)=(5:Nat)/\vB o'.fst=vB out)/\WOK out n'_4 cap' tot'/\n'_4<=(1000000:Nat))/\IntKind.i64=IntKind.i64/\∀ (o'_10:List Int×Bool) (n' cap' tot':Nat),Hyp (wnum (out,o'.snd) nver 0 (1000000000:Int)=o'_10)->WOK o'_10.fst n' cap' tot'->((-10000000000000:Int)<=(0:Int)/\(4096:Int)<=(10000000000000:Int))/\∃ (out:List Int),(((76:Nat)=(76:Nat)/\(2:Nat)=(2:Nat)/\(5:Nat)=(5:Nat)/\vB o'_10.fst=vB out)/\WOK out n' cap' tot'/\n'<=(1000000:Nat))/\IntKind.i64=IntKind.i64/\∀ (o':List Int×Bool) (n' cap' tot':Nat),Hyp (wnum (out,o'_10.snd) size 0 (4096:Int)=o')->WOK o'.fst n' cap' tot'->∃ (out:List Int),(((76:Nat)=(76:Nat)/\(2:Nat)=(2:Nat)/\(5:Nat)=(5:Nat)/\vB o'.fst=vB out)/\WOK out n' cap' tot'/\n'<=(1000000:Nat))/\IntKind.u64=IntKind.u64/\∀ (o'_11:List Int×Bool) (n' cap' tot':Nat),Hyp ((out++digB dig,o'.snd)=o'_11)->WOK o'_11.fst n' cap' tot'->((-10000000000000:Int)<=(0:Int)/\(1000000000:Int)<=(10000000000000:Int))/\∃ (out:List Int),(((76:Nat)=(76:Nat)/\(2:Nat)=(2:Nat)/\(5:Nat)=(5:Nat)/\vB o'_11.fst=vB out)/\WOK out n' cap' tot'/\n'<=(1000000:Nat))/\IntKind.i64=IntKind.i64/\∀ (o':List Int×Bool) (n' cap' tot':Nat),Hyp (wnum (out,o'_11.snd) start 0 (1000000000:Int)=o')->WOK o'.fst n' cap' tot'->((-10000000000000:Int)<=(0:Int)/\(16:Int)<=(10000000000000:Int))/\∃ (out:List Int),(((76:Nat)=(76:Nat)/\(2:Nat)=(2:Nat)/\(5:Nat)=(5:Nat)/\vB o'.fst=vB out)/\WOK out n' cap' tot'/\n'<=(1000000:Nat))/\IntKind.i64=IntKind.i64/\∀ (o'_12:List Int×Bool) (n' cap' tot':Nat),Hyp (wnum (out,o'.snd) pages 0 (16:Int)=o'_12)->WOK o'_12.fst n' cap' tot'->((-10000000000000:Int)<=(0:Int)/\(1000000000:Int)<=(10000000000000:Int))/\∃ (out:List Int),(((76:Nat)=(76:Nat)/\(2:Nat)=(2:Nat)/\(5:Nat)=(5:Nat)/\vB o'_12.fst=vB out)/\WOK out n' cap' tot'/\n'<=(1000000:Nat))/\IntKind.i64=IntKind.i64/\∀ (o':List Int×Bool) (n' cap' tot':Nat),Hyp (wnum (out,o'_12.snd) version 0 (1000000000:Int)=o')->WOK o'.fst n' cap' tot'->(74:Nat)=(74:Nat)/\∃ (out:List Int),(((76:Nat)=(76:Nat)/\(2:Nat)=(2:Nat)/\(5:Nat)=(5:Nat)/\vB o'.fst=vB out)/\WOK out n' cap' tot'/\n'<=(1000000:Nat))/\(40:Nat)=(40:Nat)/\∀ (o'_13:List Int×Bool) (n' cap' tot':Nat),Hyp (wnum (out,o'.snd) (if has=true then 1 else 0) 0 (1:Int)=o'_13)->WOK o'_13.fst n' cap' tot'->bif !has then ∃ (out:List Int),(((76:Nat)=(76:Nat)/\(2:Nat)=(2:Nat)/\(5:Nat)=(5:Nat)/\vB o'_13.fst=vB out)/\WOK out n' cap' tot'/\n'<=(1000000:Nat))/\IntKind.i64=IntKind.i64/\∃ (out:List Int),(((76:Nat)=(76:Nat)/\(2:Nat)=(2:Nat)/\(5:Nat)=(5:Nat)/\vB o'_13.fst=vB out)/\WOK out n' cap' tot'/\n'<=(1000000:Nat))/\IntKind.i64=IntKind.i64/\∃ (out:List Int),(((76:Nat)=(76:Nat)/\(2:Nat)=(2:Nat)/\(5:Nat)=(5:Nat)/\vB o'_13.fst=vB out)/\WOK out n' cap' tot'/\n'<=(1000000:Nat))/\IntKind.i64=IntKind.i64/\bif o'_13.snd||page !=(0:Int)||seed !=(0:Int)||WI ((NI n27)+(NI n28)) !=(0:Int) then Mem.le E E/\K (SV.tup [L none 0 0,I 1]) E else ∀ (base:Option Addr) (E':Mem),Mem.le E E'->WinE E' base (vB o'_13.fst)->Mem.le E E'/\K (SV.tup [L (Option.map (fun (x:Addr)=>Addr.add x 0) base) n' cap',I 0]) E' else ((-10000000000000:Int)<=(0:Int)/\(15:Int)<=(10000000000000:Int))/\∃ (out:List Int),(((76:Nat)=(76:Nat)/\(2:Nat)=(2:Nat)/\(5:Nat)=(5:Nat)/\vB o'_13.fst=vB out)/\WOK out n' cap' tot'/\n'<=(1000000:Nat))/\IntKind.i64=IntKind.i64/\∀ (o':List Int×Bool) (n' cap' tot':Nat),Hyp (wnum (out,o'_13.snd) page 0 (15:Int)=o')->WOK o'.fst n' cap' tot'->((-10000000000000:Int)<=(0:Int)/\(1000000000:Int)<=(10000000000000:Int))/\∃ (out:List Int),(((76:Nat)=(76:Nat)/\(2:Nat)=(2:Nat)/\(5:Nat)=(5:Nat)/\vB o'.fst=vB out)/\WOK out n' cap' tot'/\n'<=(1000000:Nat))/\IntKind.i64=IntKind.i64/\∀ (o'_14:List Int×Bool) (n' cap' tot':Nat),Hyp (wnum (out,o'.snd) seed 0 (1000000000:Int)=o'_14)->WOK o'_14.fst n' cap' tot'->∃ (out:List Int),(((76:Nat)=(76:Nat)/\(2:Nat)=(2:Nat)/\(5:Nat)=(5:Nat)/\vB o'_14.fst=vB out)/\WOK out n' cap' tot'/\n'<=(1000000:Nat))/\∃ (zs:List Int),(Bs E b27 n27 c27 zs/\n27<=(1000000:Nat))/\∀ (o':List Int×Bool) (n' cap' tot':Nat),Hyp ((out++zs,o'_14.snd||(NI (List.length zs)) !=(16:Int))=o')->WOK o'.fst n' cap' tot'->((74:Nat)=(74:Nat)/\(96:Nat)=(96:Nat))/\((129:Nat)=(129:Nat)/\(74:Nat)=(74:Nat)/\(1:Nat)=(1:Nat))/\∃ (out:List Int),(((76:Nat)=(76:Nat)/\(2:Nat)=(2:Nat)/\(5:Nat)=(5:Nat)/\vB o'.fst=vB out)/\WOK out n' cap' tot'/\n'<=(1000000:Nat))/\SV.loc 1 (0:Nat)=SV.loc 1 (0:Nat)/\(40:Nat)=(40:Nat)/\∃ (xs:List (List Int)),(SL (RK IntKind.u64 1) E b28 n28 c28 xs/\n'<=(800000:Nat)/\(0:Int)<=(5:Int)/\(5:Int)<=(60:Int))/\∀ (o'_15:List Int×Bool) (n'_5 cap' tot':Nat),Hyp (wList weD 5 (out,o'.snd) xs=o'_15)->WOK o'_15.fst n'_5 cap' tot'->n'_5<=n'+(5000:Nat)->bif o'_15.snd then Mem.le E E/\K (SV.tup [L none 0 0,I 1]) E else ∀ (base:Option Addr) (E':Mem),Mem.le E E'->WinE E' base (vB o'_15.fst)->Mem.le E E'/\K (SV.tup [L (Option.map (fun (x:Addr)=>Addr.add x 0) base) n'_5 cap',I 0]) E')
 delta WI NI
 refine ⟨by decide,⟨rfl,rfl⟩,trivial,rfl,fun o1 m1 k1 t1 q1 W1=>?_⟩
 have q1:wnum ([],false) from_ 0 59=o1:=q1
 have l1:m1<=10:=by have:=wnum_len ([],false) from_ 0 59;rw [q1,W1.len] at this;simpa using this
 refine ⟨by decide,_,⟨⟨rfl,rfl,rfl,rfl⟩,W1,by omega⟩,rfl,fun o2 m2 k2 t2 q2 W2=>?_⟩
 have q2:wnum o1 asn 0 1000000000=o2:=q2
 have l2:=len10 q2 W1 W2
 refine ⟨by decide,_,⟨⟨rfl,rfl,rfl,rfl⟩,W2,by omega⟩,rfl,fun o3 m3 k3 t3 q3 W3=>?_⟩
 have q3:wnum o2 boot 0 1000000000=o3:=q3
 have l3:=len10 q3 W2 W3
 refine ⟨by decide,_,⟨⟨rfl,rfl,rfl,rfl⟩,W3,by omega⟩,rfl,fun o4 m4 k4 t4 q4 W4=>?_⟩
 have q4:wnum o3 hops 0 60=o4:=q4
 have l4:=len10 q4 W3 W4
 refine ⟨by decide,_,⟨⟨rfl,rfl,rfl,rfl⟩,W4,by omega⟩,rfl,fun o5 m5 k5 t5 q5 W5=>?_⟩
 have q5:wnum o4 bound 0 2000=o5:=q5
 have l5:=len10 q5 W4 W5
 refine ⟨by decide,_,⟨⟨rfl,rfl,rfl,rfl⟩,W5,by omega⟩,rfl,fun o6 m6 k6 t6 q6 W6=>?_⟩
 have q6:wnum o5 fresh 0 1000000000=o6:=q6
 have l6:=len10 q6 W5 W6
 refine ⟨by decide,_,⟨⟨rfl,rfl,rfl,rfl⟩,W6,by omega⟩,rfl,fun o7 m7 k7 t7 q7 W7=>?_⟩
 have q7:wnum o6 seq 0 1000000000=o7:=q7
 have l7:=len10 q7 W6 W7
 refine ⟨by decide,_,⟨⟨rfl,rfl,rfl,rfl⟩,W7,by omega⟩,rfl,fun o8 m8 k8 t8 q8 W8=>?_⟩
 have q8:wnum o7 rank 0 1000000=o8:=q8
 have l8:=len10 q8 W7 W8
 refine ⟨by decide,_,⟨⟨rfl,rfl,rfl,rfl⟩,W8,by omega⟩,rfl,fun o9 m9 k9 t9 q9 W9=>?_⟩
 have q9:wnum o8 parent (-1) 59=o9:=q9
 have l9:=len10 q9 W8 W9
 refine ⟨by decide,_,⟨⟨rfl,rfl,rfl,rfl⟩,W9,by omega⟩,rfl,fun o10 m10 k10 t10 q10 W10=>?_⟩
 have q10:wnum o9 first 0 500002=o10:=q10
 have l10:=len10 q10 W9 W10
 refine ⟨by decide,_,⟨⟨rfl,rfl,rfl,rfl⟩,W10,by omega⟩,rfl,fun o11 m11 k11 t11 q11 W11=>?_⟩
 have q11:wnum o10 next 0 500002=o11:=q11
 have l11:=len10 q11 W10 W11
 refine ⟨⟨rfl,rfl⟩,⟨rfl,rfl,rfl⟩,_,⟨⟨rfl,rfl,rfl,rfl⟩,W11,by omega⟩,rfl,rfl,uses,⟨h11,by omega,by decide,by decide⟩,fun o12 m12 k12 t12 q12 W12 l12=>?_⟩
 have q12:wList (weI its85) 24 o11 uses=o12:=q12
 refine ⟨⟨rfl,rfl⟩,⟨rfl,rfl,rfl⟩,_,⟨⟨rfl,rfl,rfl,rfl⟩,W12,by omega⟩,rfl,rfl,grants,⟨h12,by omega,by decide,by decide⟩,fun o13 m13 k13 t13 q13 W13 l13=>?_⟩
 have q13:wList (weI its88) 24 o12 grants=o13:=q13
 refine ⟨⟨rfl,rfl⟩,⟨rfl,rfl,rfl⟩,_,⟨⟨rfl,rfl,rfl,rfl⟩,W13,by omega⟩,rfl,rfl,asks,⟨h13,by omega,by decide,by decide⟩,fun o14 m14 k14 t14 q14 W14 l14=>?_⟩
 have q14:wList (weI its90) 24 o13 asks=o14:=q14
 refine ⟨⟨rfl,rfl⟩,⟨rfl,rfl,rfl⟩,_,⟨⟨rfl,rfl,rfl,rfl⟩,W14,by omega⟩,rfl,rfl,below,⟨h14,by omega,by decide,by decide⟩,fun o15 m15 k15 t15 q15 W15 l15=>?_⟩
 have q15:wList (weI its92) 60 o14 below=o15:=q15
 refine ⟨rfl,_,⟨⟨rfl,rfl,rfl,rfl⟩,W15,by omega⟩,rfl,fun o16 m16 k16 t16 q16 W16=>?_⟩
 have q16:wnum o15 (if full then 1 else 0) 0 1=o16:=q16
 have l16:=len10 q16 W15 W16
 refine ⟨⟨rfl,rfl⟩,⟨rfl,rfl,rfl⟩,_,⟨⟨rfl,rfl,rfl,rfl⟩,W16,by omega⟩,rfl,rfl,words,⟨h16,by omega,by decide,by decide⟩,fun o17 m17 k17 t17 q17 W17 l17=>?_⟩
 have q17:wList (weI its94) 4 o16 words=o17:=q17
 refine ⟨⟨rfl,rfl⟩,⟨rfl,rfl,rfl⟩,_,⟨⟨rfl,rfl,rfl,rfl⟩,W17,by omega⟩,rfl,rfl,mail,⟨h17,by omega,by decide,by decide⟩,fun o18 m18 k18 t18 q18 W18 l18=>?_⟩
 have q18:wList (weI its94) 1 o17 mail=o18:=q18
 refine ⟨⟨rfl,rfl⟩,⟨rfl,rfl,rfl⟩,_,⟨⟨rfl,rfl,rfl,rfl⟩,W18,by omega⟩,rfl,rfl,got,⟨h18,by omega,by decide,by decide⟩,fun o19 m19 k19 t19 q19 W19 l19=>?_⟩
 have q19:wList (weI its68) 60 o18 got=o19:=q19
 refine ⟨by decide,_,⟨⟨rfl,rfl,rfl,rfl⟩,W19,by omega⟩,rfl,fun o20 m20 k20 t20 q20 W20=>?_⟩
 have q20:wnum o19 nver 0 1000000000=o20:=q20
 have l20:=len10 q20 W19 W20
 refine ⟨by decide,_,⟨⟨rfl,rfl,rfl,rfl⟩,W20,by omega⟩,rfl,fun o21 m21 k21 t21 q21 W21=>?_⟩
 have q21:wnum o20 size 0 4096=o21:=q21
 have l21:=len10 q21 W20 W21
 refine ⟨_,⟨⟨rfl,rfl,rfl,rfl⟩,W21,by omega⟩,rfl,fun o22 m22 k22 t22 q22 W22=>?_⟩
 have q22:wdig o21 dig=o22:=q22
 have l22:=len8 q22 W21 W22
 refine ⟨by decide,_,⟨⟨rfl,rfl,rfl,rfl⟩,W22,by omega⟩,rfl,fun o23 m23 k23 t23 q23 W23=>?_⟩
 have q23:wnum o22 start 0 1000000000=o23:=q23
 have l23:=len10 q23 W22 W23
 refine ⟨by decide,_,⟨⟨rfl,rfl,rfl,rfl⟩,W23,by omega⟩,rfl,fun o24 m24 k24 t24 q24 W24=>?_⟩
 have q24:wnum o23 pages 0 16=o24:=q24
 have l24:=len10 q24 W23 W24
 refine ⟨by decide,_,⟨⟨rfl,rfl,rfl,rfl⟩,W24,by omega⟩,rfl,fun o25 m25 k25 t25 q25 W25=>?_⟩
 have q25:wnum o24 version 0 1000000000=o25:=q25
 have l25:=len10 q25 W24 W25
 refine ⟨rfl,_,⟨⟨rfl,rfl,rfl,rfl⟩,W25,by omega⟩,rfl,fun o26 m26 k26 t26 q26 W26=>?_⟩
 have q26:wnum o25 (if has then 1 else 0) 0 1=o26:=q26
 have l26:=len10 q26 W25 W26
 have eA:encA ⟨from_,asn,boot,hops,bound,fresh,seq,rank,parent,first,next,uses,grants,asks,below,full,words,mail,got,nver,size,dig,start,pages,version,page,seed,data,proof,has⟩=o26:=by
  show (wnum (wnum (wnum (wnum (wdig (wnum (wnum (wList (weI its68) 60 (wList (weI its94) 1 (wList (weI its94) 4 (wnum (wList (weI its92) 60 (wList (weI its90) 24 (wList (weI its88) 24 (wList (weI its85) 24 (wnum (wnum (wnum (wnum (wnum (wnum (wnum (wnum (wnum (wnum (wnum ([],false) from_ 0 59) asn 0 1000000000) boot 0 1000000000) hops 0 60) bound 0 2000) fresh 0 1000000000) seq 0 1000000000) rank 0 1000000) parent (-1) 59) first 0 500002) next 0 500002) uses) grants) asks) below) (if full then 1 else 0) 0 1) words) mail) got) nver 0 1000000000) size 0 4096) dig) start 0 1000000000) pages 0 16) version 0 1000000000) (if has then 1 else 0) 0 1)=o26
  rw [q1,q2,q3,q4,q5,q6,q7,q8,q9,q10,q11,q12,q13,q14,q15,q16,q17,q18,q19,q20,q21,q22,q23,q24,q25,q26]
 have s27:=h27.2.1
 have s28:=h28.len
 refine condC (fun g=>?_) (fun g=>?_)
 ·have g:has=false:=by simpa using g
  subst g
  refine ⟨_,⟨⟨rfl,rfl,rfl,rfl⟩,W26,by omega⟩,rfl,_,⟨⟨rfl,rfl,rfl,rfl⟩,W26,by omega⟩,rfl,_,⟨⟨rfl,rfl,rfl,rfl⟩,W26,by omega⟩,rfl,?_⟩
  have ew:IntKind.wrap .i64 ((n27:Int)+(n28:Int))=((data.length+proof.length:Nat):Int):=by rw [wrap_i64 (by omega)];omega
  have fin:=h (o26.1,(o26.2||page !=0||seed !=0||IntKind.wrap .i64 ((n27:Int)+(n28:Int)) !=0)) m26 k26 t26 (by show enc _=_;unfold enc;rw [if_neg Bool.false_ne_true,eA,ew];rfl) W26
  refine condC (fun g=>?_) (fun g=>?_)
  ·rw [if_pos (by exact g)] at fin
   exact ⟨mr_,fin⟩
  ·rw [if_neg (by rw [show (o26.2||page !=0||seed !=0||IntKind.wrap .i64 ((n27:Int)+(n28:Int)) !=0)=false from g];exact Bool.false_ne_true)] at fin
   exact fun base E2 h3 h4=>⟨h3,fin base E2 h3 h4⟩
 ·have g:has=true:=by simpa using g
  subst g
  refine ⟨by decide,_,⟨⟨rfl,rfl,rfl,rfl⟩,W26,by omega⟩,rfl,fun o27 m27 k27 t27 q27 W27=>?_⟩
  have q27:wnum o26 page 0 15=o27:=q27
  have l27:=len10 q27 W26 W27
  refine ⟨by decide,_,⟨⟨rfl,rfl,rfl,rfl⟩,W27,by omega⟩,rfl,fun o28 m28 k28 t28 q28 W28=>?_⟩
  have q28:wnum o27 seed 0 1000000000=o28:=q28
  have l28:=len10 q28 W27 W28
  refine ⟨_,⟨⟨rfl,rfl,rfl,rfl⟩,W28,by omega⟩,data,⟨h27,by omega⟩,fun o29 m29 k29 t29 q29 W29=>?_⟩
  have q29:wdat o28 data 16=o29:=q29
  have l29:=lenDat q29 W28 W29
  refine ⟨⟨rfl,rfl⟩,⟨rfl,rfl,rfl⟩,_,⟨⟨rfl,rfl,rfl,rfl⟩,W29,by omega⟩,rfl,rfl,proof,⟨h28,by omega,by decide,by decide⟩,fun o30 m30 k30 t30 q30 W30 l30=>?_⟩
  have q30:wList weD 5 o29 proof=o30:=q30
  have fin:=h o30 m30 k30 t30 (by show enc _=_;unfold enc;rw [if_pos rfl,eA];show (wList weD 5 (wdat (wnum (wnum o26 page 0 15) seed 0 1000000000) data 16) proof)=_;rw [q27,q28,q29,q30]) W30
  refine condC (fun g=>?_) (fun g=>?_)
  ·rw [if_pos (by exact g)] at fin
   exact ⟨mr_,fin⟩
  ·rw [if_neg (by rw [show o30.2=false from g];exact Bool.false_ne_true)] at fin
   exact fun base E2 h3 h4=>⟨h3,fin base E2 h3 h4⟩
noncomputable def Z1:Cx:={ P:=Try.prog,inl:=fun f=>List.contains [86,63] f,tab:=fun _ _ _ _=>False,isB:=fun f=>f==123||f==124||f==125||f==126,tabB:=tabBR,opt:={ unroll:=3,carry:=[] },muts:=(fun o=>match o with | .call _=>true|o=>mutsD o) }
theorem okZ1:CxOK Z1:=CxOK.four (fun _ _ _ _ h=>h.elim) (by kernel_rfl) (okInl (by kernel_rfl)) tabBR_ok
theorem layV_at (h:off+ys.length<=us.length) (hj:j<ys.length):(layV us off ys)[off+j]? =ys[j]?:=by
 unfold layV
 have h1:(us.take off).length=off:=by rw [List.length_take];omega
 rw [List.append_assoc,List.getElem?_append_right (by omega),h1,Nat.add_sub_cancel_left,List.getElem?_append_left hj]
theorem layV_lenL (h:off+ys.length<=us.length):(layV us off ys).length=us.length:=by
 unfold layV;simp;omega
theorem layV_one (h:p<us.length):layV us p [v]=us.set p v:=by
 unfold layV
 rw [List.set_eq_take_append_cons_drop,if_pos h,List.append_assoc];rfl
theorem layV_put (h:off+ys.length<=us.length) (hj:j<ys.length):layV (layV us off ys) (off+j) [v]=layV us off (ys.set j v):=by
 rw [layV_one (by rw [layV_lenL h];omega)]
 unfold layV
 have h1:(us.take off).length=off:=by rw [List.length_take];omega
 rw [List.append_assoc,List.set_append_right _ _ (by omega),h1,Nat.add_sub_cancel_left,List.set_append_left _ _ hj,List.length_set,List.append_assoc]
def rItem (zs:List Int) (st:List Int×(Int×Int)) (it:Item):List Int×(Int×Int):=match it.2 with
 | some r=>match rnum zs st.2 r.1 r.2 with
  | (v,s')=>(st.1.set it.1 v,s')
 | none=>(st.1.set it.1 0,st.2)
def rI (its:List Item) (k:Nat) (zs:List Int) (s:Int×Int):List Int×(Int×Int):=its.foldl (rItem zs) (List.replicate k 0,s)
def rD (zs:List Int) (s:Int×Int):List Int×(Int×Int):=match rdig zs s 0 with
 | (v,s')=>([v],s')
theorem rItem_num {s s':Int×Int} {lo v:Int} {x:List Int} (h:rnum zs s lo hi=(v,s')):rItem zs (x,s) (j,some (lo,hi))=(x.set j v,s'):=by
 show (match rnum zs s lo hi with |(v,s')=>(x.set j v,s'))=_
 rw [h]
theorem rItem_uns {s:Int×Int} {x:List Int}:rItem zs (x,s) (j,none)=(x.set j 0,s):=rfl
theorem r85 (hB:Bs E b l c zs) (hl:l<=100000) (ha:0<=s0.1/\s0.1<=l) (ho:off+4<=us.length)
  (h:∀ (x:List Int) (s':Int×Int) (E':Mem),Mem.le E E'->Hyp (rI its85 4 zs s0=(x,s'))->0<=s'.1/\s'.1<=l->KK (.tup []) [rBox b l c s',⟨e,.vals (layV us off (x.map (.int .i64))),t,true⟩,⟨129,.lst [.ifc 79 (.loc 0 0)],1,true⟩] E') (hQ:∀ s bx' E',cloK 3 KK s bx' E'->Q s bx' E'):
  EntB Z1 6 Try.f85 [.loc 1 off,.loc 2 0] [rBox b l c s0,⟨e,.vals (layV us off [.int .i64 a0,.int .i64 a1,.int .i64 a2,.int .i64 a3]),t,true⟩,⟨129,.lst [.ifc 79 (.loc 0 0)],1,true⟩] E Q:=by
 refine sm_ (?_:∃ (zs:List Int),((81=81/\3=3/\Sx.Alike al2 (IntKind.i64=IntKind.i64))/\Bs E b l c zs/\l<=100000/\0<=s0.fst/\s0.fst<=(NI l))/\∃ (v:Int),(layV us off [Value.int IntKind.i64 a0,Value.int IntKind.i64 a1,Value.int IntKind.i64 a2,Value.int IntKind.i64 a3])[off+0+0]? =some (Value.int IntKind.i64 v)/\(0=1->False)/\∀ (v:Int) (s':Int×Int) (E':Mem),Mem.le E E'->Hyp (rnum zs (s0.fst,s0.snd) 0 (59:Int)=(v,s'))->0<=s'.fst/\s'.fst<=(NI l)->∃ (zs:List Int),((81=81/\3=3/\Sx.Alike al2 (IntKind.i64=IntKind.i64))/\Bs E' b l c zs/\l<=100000/\0<=s'.fst/\s'.fst<=(NI l))/\∃ (v_1:Int),(layV (layV us off [Value.int IntKind.i64 a0,Value.int IntKind.i64 a1,Value.int IntKind.i64 a2,Value.int IntKind.i64 a3]) (off+0+0) [Value.int IntKind.i64 v])[off+0+1]? =some (Value.int IntKind.i64 v_1)/\(0=1->False)/\∀ (v_2:Int) (s'_1:Int×Int) (E'_1:Mem),Mem.le E' E'_1->Hyp (rnum zs (s'.fst,s'.snd) 0 (15:Int)=(v_2,s'_1))->0<=s'_1.fst/\s'_1.fst<=(NI l)->∃ (zs:List Int),((81=81/\3=3/\Sx.Alike al2 (IntKind.i64=IntKind.i64))/\Bs E'_1 b l c zs/\l<=100000/\0<=s'_1.fst/\s'_1.fst<=(NI l))/\∃ (v_3:Int),(layV (layV (layV us off [Value.int IntKind.i64 a0,Value.int IntKind.i64 a1,Value.int IntKind.i64 a2,Value.int IntKind.i64 a3]) (off+0+0) [Value.int IntKind.i64 v]) (off+0+1) [Value.int IntKind.i64 v_2])[off+2]? =some (Value.int IntKind.i64 v_3)/\(0=1->False)/\∀ (v_4:Int) (s':Int×Int) (E':Mem),Mem.le E'_1 E'->Hyp (rnum zs (s'_1.fst,s'_1.snd) 0 (59:Int)=(v_4,s'))->0<=s'.fst/\s'.fst<=(NI l)->∃ (zs:List Int),((81=81/\3=3/\Sx.Alike al2 (IntKind.i64=IntKind.i64))/\Bs E' b l c zs/\l<=100000/\0<=s'.fst/\s'.fst<=(NI l))/\∃ (v_5:Int),(layV (layV (layV (layV us off [Value.int IntKind.i64 a0,Value.int IntKind.i64 a1,Value.int IntKind.i64 a2,Value.int IntKind.i64 a3]) (off+0+0) [Value.int IntKind.i64 v]) (off+0+1) [Value.int IntKind.i64 v_2]) (off+2) [Value.int IntKind.i64 v_4])[off+3]? =some (Value.int IntKind.i64 v_5)/\(0=1->False)/\∀ (v_6:Int) (s'_2:Int×Int) (E'_2:Mem),Mem.le E' E'_2->Hyp (rnum zs (s'.fst,s'.snd) 0 (1000000000:Int)=(v_6,s'_2))->0<=s'_2.fst/\s'_2.fst<=(NI l)->Q (SV.tup []) [⟨81,.lst [L b l c,I s'_2.fst,I s'_2.snd],3,true⟩,⟨e,Row.vals (layV (layV (layV (layV (layV us off [Value.int IntKind.i64 a0,Value.int IntKind.i64 a1,Value.int IntKind.i64 a2,Value.int IntKind.i64 a3]) (off+0+0) [Value.int IntKind.i64 v]) (off+0+1) [Value.int IntKind.i64 v_2]) (off+2) [Value.int IntKind.i64 v_4]) (off+3) [Value.int IntKind.i64 v_6]),t,true⟩,⟨129,.lst [SV.ifc 79 (SV.loc 0 0)],1,true⟩] E'_2)
 delta NI
 refine ⟨zs,⟨⟨rfl,rfl,alike rfl⟩,hB,hl,ha⟩,a0,layV_at (ys:=[.int .i64 a0,.int .i64 a1,.int .i64 a2,.int .i64 a3]) (j:=0) (by simpa using ho) (by simp),by decide,fun v1 s1 E1 e1 q1 w1=>?_⟩
 have q1:rnum zs s0 (0) 59=(v1,s1):=q1
 rw [layV_put (ys:=[.int .i64 a0,.int .i64 a1,.int .i64 a2,.int .i64 a3]) (j:=0) (by simpa using ho) (by simp),show ([.int .i64 a0,.int .i64 a1,.int .i64 a2,.int .i64 a3]:List Value).set 0 (.int .i64 v1)=[.int .i64 v1,.int .i64 a1,.int .i64 a2,.int .i64 a3] from rfl]
 refine ⟨zs,⟨⟨rfl,rfl,alike rfl⟩,(hB.mono (e1)),hl,w1⟩,a1,layV_at (ys:=[.int .i64 v1,.int .i64 a1,.int .i64 a2,.int .i64 a3]) (j:=1) (by simpa using ho) (by simp),by decide,fun v2 s2 E2 e2 q2 w2=>?_⟩
 have q2:rnum zs s1 (0) 15=(v2,s2):=q2
 rw [layV_put (ys:=[.int .i64 v1,.int .i64 a1,.int .i64 a2,.int .i64 a3]) (j:=1) (by simpa using ho) (by simp),show ([.int .i64 v1,.int .i64 a1,.int .i64 a2,.int .i64 a3]:List Value).set 1 (.int .i64 v2)=[.int .i64 v1,.int .i64 v2,.int .i64 a2,.int .i64 a3] from rfl]
 refine ⟨zs,⟨⟨rfl,rfl,alike rfl⟩,(hB.mono (mt_ (e1) e2)),hl,w2⟩,a2,layV_at (ys:=[.int .i64 v1,.int .i64 v2,.int .i64 a2,.int .i64 a3]) (j:=2) (by simpa using ho) (by simp),by decide,fun v3 s3 E3 e3 q3 w3=>?_⟩
 have q3:rnum zs s2 (0) 59=(v3,s3):=q3
 rw [layV_put (ys:=[.int .i64 v1,.int .i64 v2,.int .i64 a2,.int .i64 a3]) (j:=2) (by simpa using ho) (by simp),show ([.int .i64 v1,.int .i64 v2,.int .i64 a2,.int .i64 a3]:List Value).set 2 (.int .i64 v3)=[.int .i64 v1,.int .i64 v2,.int .i64 v3,.int .i64 a3] from rfl]
 refine ⟨zs,⟨⟨rfl,rfl,alike rfl⟩,(hB.mono (mt_ (mt_ (e1) e2) e3)),hl,w3⟩,a3,layV_at (ys:=[.int .i64 v1,.int .i64 v2,.int .i64 v3,.int .i64 a3]) (j:=3) (by simpa using ho) (by simp),by decide,fun v4 s4 E4 e4 q4 w4=>?_⟩
 have q4:rnum zs s3 (0) 1000000000=(v4,s4):=q4
 rw [layV_put (ys:=[.int .i64 v1,.int .i64 v2,.int .i64 v3,.int .i64 a3]) (j:=3) (by simpa using ho) (by simp),show ([.int .i64 v1,.int .i64 v2,.int .i64 v3,.int .i64 a3]:List Value).set 3 (.int .i64 v4)=[.int .i64 v1,.int .i64 v2,.int .i64 v3,.int .i64 v4] from rfl]
 exact hQ _ _ _ (cloK_intro [some 0,some 1,some 2] (h [v1,v2,v3,v4] s4 E4 (mt_ (mt_ (mt_ (e1) e2) e3) e4) (by show rI its85 4 zs s0=_;unfold rI its85;simp only [List.foldl_cons,List.foldl_nil];rw [rItem_num q1,rItem_num q2,rItem_num q3,rItem_num q4];rfl) w4) (wkH mr_))
theorem r88 {a4:Int} (hB:Bs E b l c zs) (hl:l<=100000) (ha:0<=s0.1/\s0.1<=l) (ho:off+5<=us.length)
  (h:∀ (x:List Int) (s':Int×Int) (E':Mem),Mem.le E E'->Hyp (rI its88 5 zs s0=(x,s'))->0<=s'.1/\s'.1<=l->KK (.tup []) [rBox b l c s',⟨e,.vals (layV us off (x.map (.int .i64))),t,true⟩,⟨129,.lst [.ifc 79 (.loc 0 0)],1,true⟩] E') (hQ:∀ s bx' E',cloK 3 KK s bx' E'->Q s bx' E'):
  EntB Z1 6 Try.f88 [.loc 1 off,.loc 2 0] [rBox b l c s0,⟨e,.vals (layV us off [.int .i64 a0,.int .i64 a1,.int .i64 a2,.int .i64 a3,.int .i64 a4]),t,true⟩,⟨129,.lst [.ifc 79 (.loc 0 0)],1,true⟩] E Q:=by
 refine sm_ (?_:∃ (zs:List Int),((81=81/\3=3/\Sx.Alike al2 (IntKind.i64=IntKind.i64))/\Bs E b l c zs/\l<=100000/\0<=s0.fst/\s0.fst<=(NI l))/\∃ (v:Int),(layV us off [Value.int IntKind.i64 a0,Value.int IntKind.i64 a1,Value.int IntKind.i64 a2,Value.int IntKind.i64 a3,Value.int IntKind.i64 a4])[off+0+0]? =some (Value.int IntKind.i64 v)/\(0=1->False)/\∀ (v:Int) (s':Int×Int) (E':Mem),Mem.le E E'->Hyp (rnum zs (s0.fst,s0.snd) 0 (59:Int)=(v,s'))->0<=s'.fst/\s'.fst<=(NI l)->∃ (zs:List Int),((81=81/\3=3/\Sx.Alike al2 (IntKind.i64=IntKind.i64))/\Bs E' b l c zs/\l<=100000/\0<=s'.fst/\s'.fst<=(NI l))/\∃ (v_1:Int),(layV (layV us off [Value.int IntKind.i64 a0,Value.int IntKind.i64 a1,Value.int IntKind.i64 a2,Value.int IntKind.i64 a3,Value.int IntKind.i64 a4]) (off+0+0) [Value.int IntKind.i64 v])[off+0+1]? =some (Value.int IntKind.i64 v_1)/\(0=1->False)/\∀ (v_2:Int) (s'_1:Int×Int) (E'_1:Mem),Mem.le E' E'_1->Hyp (rnum zs (s'.fst,s'.snd) 0 (15:Int)=(v_2,s'_1))->0<=s'_1.fst/\s'_1.fst<=(NI l)->∃ (zs:List Int),((81=81/\3=3/\Sx.Alike al2 (IntKind.i64=IntKind.i64))/\Bs E'_1 b l c zs/\l<=100000/\0<=s'_1.fst/\s'_1.fst<=(NI l))/\∃ (v_3:Int),(layV (layV (layV us off [Value.int IntKind.i64 a0,Value.int IntKind.i64 a1,Value.int IntKind.i64 a2,Value.int IntKind.i64 a3,Value.int IntKind.i64 a4]) (off+0+0) [Value.int IntKind.i64 v]) (off+0+1) [Value.int IntKind.i64 v_2])[off+2]? =some (Value.int IntKind.i64 v_3)/\(0=1->False)/\∀ (v_4:Int) (s':Int×Int) (E':Mem),Mem.le E'_1 E'->Hyp (rnum zs (s'_1.fst,s'_1.snd) 0 (59:Int)=(v_4,s'))->0<=s'.fst/\s'.fst<=(NI l)->∃ (zs:List Int),((81=81/\3=3/\Sx.Alike al2 (IntKind.i64=IntKind.i64))/\Bs E' b l c zs/\l<=100000/\0<=s'.fst/\s'.fst<=(NI l))/\∃ (v_5:Int),(layV (layV (layV (layV us off [Value.int IntKind.i64 a0,Value.int IntKind.i64 a1,Value.int IntKind.i64 a2,Value.int IntKind.i64 a3,Value.int IntKind.i64 a4]) (off+0+0) [Value.int IntKind.i64 v]) (off+0+1) [Value.int IntKind.i64 v_2]) (off+2) [Value.int IntKind.i64 v_4])[off+3]? =some (Value.int IntKind.i64 v_5)/\(0=1->False)/\∀ (v_6:Int) (s'_2:Int×Int) (E'_2:Mem),Mem.le E' E'_2->Hyp (rnum zs (s'.fst,s'.snd) 0 (1000000000:Int)=(v_6,s'_2))->0<=s'_2.fst/\s'_2.fst<=(NI l)->∃ (zs:List Int),((81=81/\3=3/\Sx.Alike al2 (IntKind.i64=IntKind.i64))/\Bs E'_2 b l c zs/\l<=100000/\0<=s'_2.fst/\s'_2.fst<=(NI l))/\∃ (v_7:Int),(layV (layV (layV (layV (layV us off [Value.int IntKind.i64 a0,Value.int IntKind.i64 a1,Value.int IntKind.i64 a2,Value.int IntKind.i64 a3,Value.int IntKind.i64 a4]) (off+0+0) [Value.int IntKind.i64 v]) (off+0+1) [Value.int IntKind.i64 v_2]) (off+2) [Value.int IntKind.i64 v_4]) (off+3) [Value.int IntKind.i64 v_6])[off+4]? =some (Value.int IntKind.i64 v_7)/\(0=1->False)/\∀ (v_8:Int) (s':Int×Int) (E':Mem),Mem.le E'_2 E'->Hyp (rnum zs (s'_2.fst,s'_2.snd) 0 (1000000000:Int)=(v_8,s'))->0<=s'.fst/\s'.fst<=(NI l)->Q (SV.tup []) [⟨81,.lst [L b l c,I s'.fst,I s'.snd],3,true⟩,⟨e,Row.vals (layV (layV (layV (layV (layV (layV us off [Value.int IntKind.i64 a0,Value.int IntKind.i64 a1,Value.int IntKind.i64 a2,Value.int IntKind.i64 a3,Value.int IntKind.i64 a4]) (off+(0:Nat)+(0:Nat)) [Value.int IntKind.i64 v]) (off+(0:Nat)+1) [Value.int IntKind.i64 v_2]) (off+2) [Value.int IntKind.i64 v_4]) (off+3) [Value.int IntKind.i64 v_6]) (off+4) [Value.int IntKind.i64 v_8]),t,true⟩,⟨129,.lst [SV.ifc 79 (SV.loc 0 0)],1,true⟩,⟨131,.lst [SV.loc 1 (off+3),SV.loc 1 (off+4)],2,true⟩] E')
 delta NI
 refine ⟨zs,⟨⟨rfl,rfl,alike rfl⟩,hB,hl,ha⟩,a0,layV_at (ys:=[.int .i64 a0,.int .i64 a1,.int .i64 a2,.int .i64 a3,.int .i64 a4]) (j:=0) (by simpa using ho) (by simp),by decide,fun v1 s1 E1 e1 q1 w1=>?_⟩
 have q1:rnum zs s0 (0) 59=(v1,s1):=q1
 rw [layV_put (ys:=[.int .i64 a0,.int .i64 a1,.int .i64 a2,.int .i64 a3,.int .i64 a4]) (j:=0) (by simpa using ho) (by simp),show ([.int .i64 a0,.int .i64 a1,.int .i64 a2,.int .i64 a3,.int .i64 a4]:List Value).set 0 (.int .i64 v1)=[.int .i64 v1,.int .i64 a1,.int .i64 a2,.int .i64 a3,.int .i64 a4] from rfl]
 refine ⟨zs,⟨⟨rfl,rfl,alike rfl⟩,(hB.mono (e1)),hl,w1⟩,a1,layV_at (ys:=[.int .i64 v1,.int .i64 a1,.int .i64 a2,.int .i64 a3,.int .i64 a4]) (j:=1) (by simpa using ho) (by simp),by decide,fun v2 s2 E2 e2 q2 w2=>?_⟩
 have q2:rnum zs s1 (0) 15=(v2,s2):=q2
 rw [layV_put (ys:=[.int .i64 v1,.int .i64 a1,.int .i64 a2,.int .i64 a3,.int .i64 a4]) (j:=1) (by simpa using ho) (by simp),show ([.int .i64 v1,.int .i64 a1,.int .i64 a2,.int .i64 a3,.int .i64 a4]:List Value).set 1 (.int .i64 v2)=[.int .i64 v1,.int .i64 v2,.int .i64 a2,.int .i64 a3,.int .i64 a4] from rfl]
 refine ⟨zs,⟨⟨rfl,rfl,alike rfl⟩,(hB.mono (mt_ (e1) e2)),hl,w2⟩,a2,layV_at (ys:=[.int .i64 v1,.int .i64 v2,.int .i64 a2,.int .i64 a3,.int .i64 a4]) (j:=2) (by simpa using ho) (by simp),by decide,fun v3 s3 E3 e3 q3 w3=>?_⟩
 have q3:rnum zs s2 (0) 59=(v3,s3):=q3
 rw [layV_put (ys:=[.int .i64 v1,.int .i64 v2,.int .i64 a2,.int .i64 a3,.int .i64 a4]) (j:=2) (by simpa using ho) (by simp),show ([.int .i64 v1,.int .i64 v2,.int .i64 a2,.int .i64 a3,.int .i64 a4]:List Value).set 2 (.int .i64 v3)=[.int .i64 v1,.int .i64 v2,.int .i64 v3,.int .i64 a3,.int .i64 a4] from rfl]
 refine ⟨zs,⟨⟨rfl,rfl,alike rfl⟩,(hB.mono (mt_ (mt_ (e1) e2) e3)),hl,w3⟩,a3,layV_at (ys:=[.int .i64 v1,.int .i64 v2,.int .i64 v3,.int .i64 a3,.int .i64 a4]) (j:=3) (by simpa using ho) (by simp),by decide,fun v4 s4 E4 e4 q4 w4=>?_⟩
 have q4:rnum zs s3 (0) 1000000000=(v4,s4):=q4
 rw [layV_put (ys:=[.int .i64 v1,.int .i64 v2,.int .i64 v3,.int .i64 a3,.int .i64 a4]) (j:=3) (by simpa using ho) (by simp),show ([.int .i64 v1,.int .i64 v2,.int .i64 v3,.int .i64 a3,.int .i64 a4]:List Value).set 3 (.int .i64 v4)=[.int .i64 v1,.int .i64 v2,.int .i64 v3,.int .i64 v4,.int .i64 a4] from rfl]
 refine ⟨zs,⟨⟨rfl,rfl,alike rfl⟩,(hB.mono (mt_ (mt_ (mt_ (e1) e2) e3) e4)),hl,w4⟩,a4,layV_at (ys:=[.int .i64 v1,.int .i64 v2,.int .i64 v3,.int .i64 v4,.int .i64 a4]) (j:=4) (by simpa using ho) (by simp),by decide,fun v5 s5 E5 e5 q5 w5=>?_⟩
 have q5:rnum zs s4 (0) 1000000000=(v5,s5):=q5
 rw [layV_put (ys:=[.int .i64 v1,.int .i64 v2,.int .i64 v3,.int .i64 v4,.int .i64 a4]) (j:=4) (by simpa using ho) (by simp),show ([.int .i64 v1,.int .i64 v2,.int .i64 v3,.int .i64 v4,.int .i64 a4]:List Value).set 4 (.int .i64 v5)=[.int .i64 v1,.int .i64 v2,.int .i64 v3,.int .i64 v4,.int .i64 v5] from rfl]
 exact hQ _ _ _ (cloK_intro [some 0,some 1,some 2] (h [v1,v2,v3,v4,v5] s5 E5 (mt_ (mt_ (mt_ (mt_ (e1) e2) e3) e4) e5) (by show rI its88 5 zs s0=_;unfold rI its88;simp only [List.foldl_cons,List.foldl_nil];rw [rItem_num q1,rItem_num q2,rItem_num q3,rItem_num q4,rItem_num q5];rfl) w5) (wkH mr_))
theorem r90 (hB:Bs E b l c zs) (hl:l<=100000) (ha:0<=s0.1/\s0.1<=l) (ho:off+3<=us.length)
  (h:∀ (x:List Int) (s':Int×Int) (E':Mem),Mem.le E E'->Hyp (rI its90 3 zs s0=(x,s'))->0<=s'.1/\s'.1<=l->KK (.tup []) [rBox b l c s',⟨e,.vals (layV us off (x.map (.int .i64))),t,true⟩,⟨129,.lst [.ifc 79 (.loc 0 0)],1,true⟩] E') (hQ:∀ s bx' E',cloK 3 KK s bx' E'->Q s bx' E'):
  EntB Z1 6 Try.f90 [.loc 1 off,.loc 2 0] [rBox b l c s0,⟨e,.vals (layV us off [.int .i64 a0,.int .i64 a1,.int .i64 a2]),t,true⟩,⟨129,.lst [.ifc 79 (.loc 0 0)],1,true⟩] E Q:=by
 refine sm_ (?_:∃ (zs:List Int),((81=81/\3=3/\Sx.Alike al2 (IntKind.i64=IntKind.i64))/\Bs E b l c zs/\l<=100000/\0<=s0.fst/\s0.fst<=(NI l))/\∃ (v:Int),(layV us off [Value.int IntKind.i64 a0,Value.int IntKind.i64 a1,Value.int IntKind.i64 a2])[off+0+0]? =some (Value.int IntKind.i64 v)/\(0=1->False)/\∀ (v:Int) (s':Int×Int) (E':Mem),Mem.le E E'->Hyp (rnum zs (s0.fst,s0.snd) 0 (59:Int)=(v,s'))->0<=s'.fst/\s'.fst<=(NI l)->∃ (zs:List Int),((81=81/\3=3/\Sx.Alike al2 (IntKind.i64=IntKind.i64))/\Bs E' b l c zs/\l<=100000/\0<=s'.fst/\s'.fst<=(NI l))/\∃ (v_1:Int),(layV (layV us off [Value.int IntKind.i64 a0,Value.int IntKind.i64 a1,Value.int IntKind.i64 a2]) (off+0+0) [Value.int IntKind.i64 v])[off+0+1]? =some (Value.int IntKind.i64 v_1)/\(0=1->False)/\∀ (v_2:Int) (s'_1:Int×Int) (E'_1:Mem),Mem.le E' E'_1->Hyp (rnum zs (s'.fst,s'.snd) 0 (15:Int)=(v_2,s'_1))->0<=s'_1.fst/\s'_1.fst<=(NI l)->∃ (zs:List Int),((81=81/\3=3/\Sx.Alike al2 (IntKind.i64=IntKind.i64))/\Bs E'_1 b l c zs/\l<=100000/\0<=s'_1.fst/\s'_1.fst<=(NI l))/\∃ (v_3:Int),(layV (layV (layV us off [Value.int IntKind.i64 a0,Value.int IntKind.i64 a1,Value.int IntKind.i64 a2]) (off+0+0) [Value.int IntKind.i64 v]) (off+0+1) [Value.int IntKind.i64 v_2])[off+2]? =some (Value.int IntKind.i64 v_3)/\(0=1->False)/\∀ (v_4:Int) (s':Int×Int) (E':Mem),Mem.le E'_1 E'->Hyp (rnum zs (s'_1.fst,s'_1.snd) 0 (59:Int)=(v_4,s'))->0<=s'.fst/\s'.fst<=(NI l)->Q (SV.tup []) [⟨81,.lst [L b l c,I s'.fst,I s'.snd],3,true⟩,⟨e,Row.vals (layV (layV (layV (layV us off [Value.int IntKind.i64 a0,Value.int IntKind.i64 a1,Value.int IntKind.i64 a2]) (off+0+0) [Value.int IntKind.i64 v]) (off+0+1) [Value.int IntKind.i64 v_2]) (off+2) [Value.int IntKind.i64 v_4]),t,true⟩,⟨129,.lst [SV.ifc 79 (SV.loc 0 0)],1,true⟩] E')
 delta NI
 refine ⟨zs,⟨⟨rfl,rfl,alike rfl⟩,hB,hl,ha⟩,a0,layV_at (ys:=[.int .i64 a0,.int .i64 a1,.int .i64 a2]) (j:=0) (by simpa using ho) (by simp),by decide,fun v1 s1 E1 e1 q1 w1=>?_⟩
 have q1:rnum zs s0 (0) 59=(v1,s1):=q1
 rw [layV_put (ys:=[.int .i64 a0,.int .i64 a1,.int .i64 a2]) (j:=0) (by simpa using ho) (by simp),show ([.int .i64 a0,.int .i64 a1,.int .i64 a2]:List Value).set 0 (.int .i64 v1)=[.int .i64 v1,.int .i64 a1,.int .i64 a2] from rfl]
 refine ⟨zs,⟨⟨rfl,rfl,alike rfl⟩,(hB.mono (e1)),hl,w1⟩,a1,layV_at (ys:=[.int .i64 v1,.int .i64 a1,.int .i64 a2]) (j:=1) (by simpa using ho) (by simp),by decide,fun v2 s2 E2 e2 q2 w2=>?_⟩
 have q2:rnum zs s1 (0) 15=(v2,s2):=q2
 rw [layV_put (ys:=[.int .i64 v1,.int .i64 a1,.int .i64 a2]) (j:=1) (by simpa using ho) (by simp),show ([.int .i64 v1,.int .i64 a1,.int .i64 a2]:List Value).set 1 (.int .i64 v2)=[.int .i64 v1,.int .i64 v2,.int .i64 a2] from rfl]
 refine ⟨zs,⟨⟨rfl,rfl,alike rfl⟩,(hB.mono (mt_ (e1) e2)),hl,w2⟩,a2,layV_at (ys:=[.int .i64 v1,.int .i64 v2,.int .i64 a2]) (j:=2) (by simpa using ho) (by simp),by decide,fun v3 s3 E3 e3 q3 w3=>?_⟩
 have q3:rnum zs s2 (0) 59=(v3,s3):=q3
 rw [layV_put (ys:=[.int .i64 v1,.int .i64 v2,.int .i64 a2]) (j:=2) (by simpa using ho) (by simp),show ([.int .i64 v1,.int .i64 v2,.int .i64 a2]:List Value).set 2 (.int .i64 v3)=[.int .i64 v1,.int .i64 v2,.int .i64 v3] from rfl]
 exact hQ _ _ _ (cloK_intro [some 0,some 1,some 2] (h [v1,v2,v3] s3 E3 (mt_ (mt_ (e1) e2) e3) (by show rI its90 3 zs s0=_;unfold rI its90;simp only [List.foldl_cons,List.foldl_nil];rw [rItem_num q1,rItem_num q2,rItem_num q3];rfl) w3) (wkH mr_))
theorem r92 (hB:Bs E b l c zs) (hl:l<=100000) (ha:0<=s0.1/\s0.1<=l) (ho:off+4<=us.length)
  (h:∀ (x:List Int) (s':Int×Int) (E':Mem),Mem.le E E'->Hyp (rI its92 4 zs s0=(x,s'))->0<=s'.1/\s'.1<=l->KK (.tup []) [rBox b l c s',⟨e,.vals (layV us off (x.map (.int .i64))),t,true⟩,⟨129,.lst [.ifc 79 (.loc 0 0)],1,true⟩] E') (hQ:∀ s bx' E',cloK 3 KK s bx' E'->Q s bx' E'):
  EntB Z1 6 Try.f92 [.loc 1 off,.loc 2 0] [rBox b l c s0,⟨e,.vals (layV us off [.int .i64 a0,.int .i64 a1,.int .i64 a2,.int .i64 a3]),t,true⟩,⟨129,.lst [.ifc 79 (.loc 0 0)],1,true⟩] E Q:=by
 refine sm_ (?_:∃ (zs:List Int),((81=81/\3=3/\Sx.Alike al2 (IntKind.i64=IntKind.i64))/\Bs E b l c zs/\l<=100000/\0<=s0.fst/\s0.fst<=(NI l))/\∃ (v:Int),(layV us off [Value.int IntKind.i64 a0,Value.int IntKind.i64 a1,Value.int IntKind.i64 a2,Value.int IntKind.i64 a3])[off+0]? =some (Value.int IntKind.i64 v)/\(0=1->False)/\∀ (v:Int) (s':Int×Int) (E':Mem),Mem.le E E'->Hyp (rnum zs (s0.fst,s0.snd) 0 (59:Int)=(v,s'))->0<=s'.fst/\s'.fst<=(NI l)->∃ (zs:List Int),((81=81/\3=3/\Sx.Alike al2 (IntKind.i64=IntKind.i64))/\Bs E' b l c zs/\l<=100000/\0<=s'.fst/\s'.fst<=(NI l))/\∃ (v_1:Int),(layV (layV us off [Value.int IntKind.i64 a0,Value.int IntKind.i64 a1,Value.int IntKind.i64 a2,Value.int IntKind.i64 a3]) (off+0) [Value.int IntKind.i64 v])[off+2]? =some (Value.int IntKind.i64 v_1)/\(0=1->False)/\∀ (v_2:Int) (s'_1:Int×Int) (E'_1:Mem),Mem.le E' E'_1->Hyp (rnum zs (s'.fst,s'.snd) 0 (1000000000:Int)=(v_2,s'_1))->0<=s'_1.fst/\s'_1.fst<=(NI l)->∃ (zs:List Int),((81=81/\3=3/\Sx.Alike al2 (IntKind.i64=IntKind.i64))/\Bs E'_1 b l c zs/\l<=100000/\0<=s'_1.fst/\s'_1.fst<=(NI l))/\∃ (v_3:Int),(layV (layV (layV us off [Value.int IntKind.i64 a0,Value.int IntKind.i64 a1,Value.int IntKind.i64 a2,Value.int IntKind.i64 a3]) (off+0) [Value.int IntKind.i64 v]) (off+2) [Value.int IntKind.i64 v_2])[off+1]? =some (Value.int IntKind.i64 v_3)/\(0=1->False)/\∃ (zs:List Int),((81=81/\3=3/\Sx.Alike al2 (IntKind.i64=IntKind.i64))/\Bs E'_1 b l c zs/\l<=100000/\0<=s'_1.fst/\s'_1.fst<=(NI l))/\∃ (v_4:Int),(layV (layV (layV (layV us off [Value.int IntKind.i64 a0,Value.int IntKind.i64 a1,Value.int IntKind.i64 a2,Value.int IntKind.i64 a3]) (off+0) [Value.int IntKind.i64 v]) (off+2) [Value.int IntKind.i64 v_2]) (off+1) [Value.int IntKind.i64 0])[off+3]? =some (Value.int IntKind.i64 v_4)/\(0=1->False)/\Q (SV.tup []) [⟨81,.lst [L b l c,I s'_1.fst,I s'_1.snd],3,true⟩,⟨e,Row.vals (layV (layV (layV (layV (layV us off [Value.int IntKind.i64 a0,Value.int IntKind.i64 a1,Value.int IntKind.i64 a2,Value.int IntKind.i64 a3]) (off+0) [Value.int IntKind.i64 v]) (off+2) [Value.int IntKind.i64 v_2]) (off+1) [Value.int IntKind.i64 0]) (off+3) [Value.int IntKind.i64 0]),t,true⟩,⟨129,.lst [SV.ifc 79 (SV.loc 0 0)],1,true⟩] E'_1)
 delta NI
 refine ⟨zs,⟨⟨rfl,rfl,alike rfl⟩,hB,hl,ha⟩,a0,layV_at (ys:=[.int .i64 a0,.int .i64 a1,.int .i64 a2,.int .i64 a3]) (j:=0) (by simpa using ho) (by simp),by decide,fun v1 s1 E1 e1 q1 w1=>?_⟩
 have q1:rnum zs s0 (0) 59=(v1,s1):=q1
 rw [layV_put (ys:=[.int .i64 a0,.int .i64 a1,.int .i64 a2,.int .i64 a3]) (j:=0) (by simpa using ho) (by simp),show ([.int .i64 a0,.int .i64 a1,.int .i64 a2,.int .i64 a3]:List Value).set 0 (.int .i64 v1)=[.int .i64 v1,.int .i64 a1,.int .i64 a2,.int .i64 a3] from rfl]
 refine ⟨zs,⟨⟨rfl,rfl,alike rfl⟩,(hB.mono (e1)),hl,w1⟩,a2,layV_at (ys:=[.int .i64 v1,.int .i64 a1,.int .i64 a2,.int .i64 a3]) (j:=2) (by simpa using ho) (by simp),by decide,fun v2 s2 E2 e2 q2 w2=>?_⟩
 have q2:rnum zs s1 (0) 1000000000=(v2,s2):=q2
 rw [layV_put (ys:=[.int .i64 v1,.int .i64 a1,.int .i64 a2,.int .i64 a3]) (j:=2) (by simpa using ho) (by simp),show ([.int .i64 v1,.int .i64 a1,.int .i64 a2,.int .i64 a3]:List Value).set 2 (.int .i64 v2)=[.int .i64 v1,.int .i64 a1,.int .i64 v2,.int .i64 a3] from rfl]
 refine ⟨zs,⟨⟨rfl,rfl,alike rfl⟩,(hB.mono (mt_ (e1) e2)),hl,w2⟩,a1,layV_at (ys:=[.int .i64 v1,.int .i64 a1,.int .i64 v2,.int .i64 a3]) (j:=1) (by simpa using ho) (by simp),by decide,?_⟩
 rw [layV_put (ys:=[.int .i64 v1,.int .i64 a1,.int .i64 v2,.int .i64 a3]) (j:=1) (by simpa using ho) (by simp),show ([.int .i64 v1,.int .i64 a1,.int .i64 v2,.int .i64 a3]:List Value).set 1 (.int .i64 0)=[.int .i64 v1,.int .i64 0,.int .i64 v2,.int .i64 a3] from rfl]
 refine ⟨zs,⟨⟨rfl,rfl,alike rfl⟩,(hB.mono (mt_ (e1) e2)),hl,w2⟩,a3,layV_at (ys:=[.int .i64 v1,.int .i64 0,.int .i64 v2,.int .i64 a3]) (j:=3) (by simpa using ho) (by simp),by decide,?_⟩
 rw [layV_put (ys:=[.int .i64 v1,.int .i64 0,.int .i64 v2,.int .i64 a3]) (j:=3) (by simpa using ho) (by simp),show ([.int .i64 v1,.int .i64 0,.int .i64 v2,.int .i64 a3]:List Value).set 3 (.int .i64 0)=[.int .i64 v1,.int .i64 0,.int .i64 v2,.int .i64 0] from rfl]
 exact hQ _ _ _ (cloK_intro [some 0,some 1,some 2] (h [v1,0,v2,0] s2 E2 (mt_ (e1) e2) (by show rI its92 4 zs s0=_;unfold rI its92;simp only [List.foldl_cons,List.foldl_nil];rw [rItem_num q1,rItem_num q2,rItem_uns,rItem_uns];rfl) w2) (wkH mr_))
theorem r94 {a4 a5 a6 a7:Int} (hB:Bs E b l c zs) (hl:l<=100000) (ha:0<=s0.1/\s0.1<=l) (ho:off+8<=us.length)
  (h:∀ (x:List Int) (s':Int×Int) (E':Mem),Mem.le E E'->Hyp (rI its94 8 zs s0=(x,s'))->0<=s'.1/\s'.1<=l->KK (.tup []) [rBox b l c s',⟨e,.vals (layV us off (x.map (.int .i64))),t,true⟩,⟨129,.lst [.ifc 79 (.loc 0 0)],1,true⟩] E') (hQ:∀ s bx' E',cloK 3 KK s bx' E'->Q s bx' E'):
  EntB Z1 6 Try.f94 [.loc 1 off,.loc 2 0] [rBox b l c s0,⟨e,.vals (layV us off [.int .i64 a0,.int .i64 a1,.int .i64 a2,.int .i64 a3,.int .i64 a4,.int .i64 a5,.int .i64 a6,.int .i64 a7]),t,true⟩,⟨129,.lst [.ifc 79 (.loc 0 0)],1,true⟩] E Q:=by
 refine sm_ (?_:∃ (zs:List Int),((81=81/\3=3/\Sx.Alike al2 (IntKind.i64=IntKind.i64))/\Bs E b l c zs/\l<=100000/\0<=s0.fst/\s0.fst<=(NI l))/\∃ (v:Int),(layV us off [Value.int IntKind.i64 a0,Value.int IntKind.i64 a1,Value.int IntKind.i64 a2,Value.int IntKind.i64 a3,Value.int IntKind.i64 a4,Value.int IntKind.i64 a5,Value.int IntKind.i64 a6,Value.int IntKind.i64 a7])[off+0]? =some (Value.int IntKind.i64 v)/\(0=1->False)/\∀ (v:Int) (s':Int×Int) (E':Mem),Mem.le E E'->Hyp (rnum zs (s0.fst,s0.snd) 1 (4:Int)=(v,s'))->0<=s'.fst/\s'.fst<=(NI l)->∃ (zs:List Int),((81=81/\3=3/\Sx.Alike al2 (IntKind.i64=IntKind.i64))/\Bs E' b l c zs/\l<=100000/\0<=s'.fst/\s'.fst<=(NI l))/\∃ (v_1:Int),(layV (layV us off [Value.int IntKind.i64 a0,Value.int IntKind.i64 a1,Value.int IntKind.i64 a2,Value.int IntKind.i64 a3,Value.int IntKind.i64 a4,Value.int IntKind.i64 a5,Value.int IntKind.i64 a6,Value.int IntKind.i64 a7]) (off+0) [Value.int IntKind.i64 v])[off+1]? =some (Value.int IntKind.i64 v_1)/\(0=1->False)/\∀ (v_2:Int) (s'_1:Int×Int) (E'_1:Mem),Mem.le E' E'_1->Hyp (rnum zs (s'.fst,s'.snd) 0 (59:Int)=(v_2,s'_1))->0<=s'_1.fst/\s'_1.fst<=(NI l)->∃ (zs:List Int),((81=81/\3=3/\Sx.Alike al2 (IntKind.i64=IntKind.i64))/\Bs E'_1 b l c zs/\l<=100000/\0<=s'_1.fst/\s'_1.fst<=(NI l))/\∃ (v_3:Int),(layV (layV (layV us off [Value.int IntKind.i64 a0,Value.int IntKind.i64 a1,Value.int IntKind.i64 a2,Value.int IntKind.i64 a3,Value.int IntKind.i64 a4,Value.int IntKind.i64 a5,Value.int IntKind.i64 a6,Value.int IntKind.i64 a7]) (off+0) [Value.int IntKind.i64 v]) (off+1) [Value.int IntKind.i64 v_2])[off+2]? =some (Value.int IntKind.i64 v_3)/\(0=1->False)/\∀ (v_4:Int) (s':Int×Int) (E':Mem),Mem.le E'_1 E'->Hyp (rnum zs (s'_1.fst,s'_1.snd) (-1:Int) (59:Int)=(v_4,s'))->0<=s'.fst/\s'.fst<=(NI l)->∃ (zs:List Int),((81=81/\3=3/\Sx.Alike al2 (IntKind.i64=IntKind.i64))/\Bs E' b l c zs/\l<=100000/\0<=s'.fst/\s'.fst<=(NI l))/\∃ (v_5:Int),(layV (layV (layV (layV us off [Value.int IntKind.i64 a0,Value.int IntKind.i64 a1,Value.int IntKind.i64 a2,Value.int IntKind.i64 a3,Value.int IntKind.i64 a4,Value.int IntKind.i64 a5,Value.int IntKind.i64 a6,Value.int IntKind.i64 a7]) (off+0) [Value.int IntKind.i64 v]) (off+1) [Value.int IntKind.i64 v_2]) (off+2) [Value.int IntKind.i64 v_4])[off+3]? =some (Value.int IntKind.i64 v_5)/\(0=1->False)/\∀ (v_6:Int) (s'_2:Int×Int) (E'_2:Mem),Mem.le E' E'_2->Hyp (rnum zs (s'.fst,s'.snd) 0 (10000000000000:Int)=(v_6,s'_2))->0<=s'_2.fst/\s'_2.fst<=(NI l)->∃ (zs:List Int),((81=81/\3=3/\Sx.Alike al2 (IntKind.i64=IntKind.i64))/\Bs E'_2 b l c zs/\l<=100000/\0<=s'_2.fst/\s'_2.fst<=(NI l))/\∃ (v_7:Int),(layV (layV (layV (layV (layV us off [Value.int IntKind.i64 a0,Value.int IntKind.i64 a1,Value.int IntKind.i64 a2,Value.int IntKind.i64 a3,Value.int IntKind.i64 a4,Value.int IntKind.i64 a5,Value.int IntKind.i64 a6,Value.int IntKind.i64 a7]) (off+0) [Value.int IntKind.i64 v]) (off+1) [Value.int IntKind.i64 v_2]) (off+2) [Value.int IntKind.i64 v_4]) (off+3) [Value.int IntKind.i64 v_6])[off+4]? =some (Value.int IntKind.i64 v_7)/\(0=1->False)/\∀ (v_8:Int) (s':Int×Int) (E':Mem),Mem.le E'_2 E'->Hyp (rnum zs (s'_2.fst,s'_2.snd) 0 (10000000000000:Int)=(v_8,s'))->0<=s'.fst/\s'.fst<=(NI l)->∃ (zs:List Int),((81=81/\3=3/\Sx.Alike al2 (IntKind.i64=IntKind.i64))/\Bs E' b l c zs/\l<=100000/\0<=s'.fst/\s'.fst<=(NI l))/\∃ (v_9:Int),(layV (layV (layV (layV (layV (layV us off [Value.int IntKind.i64 a0,Value.int IntKind.i64 a1,Value.int IntKind.i64 a2,Value.int IntKind.i64 a3,Value.int IntKind.i64 a4,Value.int IntKind.i64 a5,Value.int IntKind.i64 a6,Value.int IntKind.i64 a7]) (off+(0:Nat)) [Value.int IntKind.i64 v]) (off+(1:Nat)) [Value.int IntKind.i64 v_2]) (off+2) [Value.int IntKind.i64 v_4]) (off+3) [Value.int IntKind.i64 v_6]) (off+4) [Value.int IntKind.i64 v_8])[off+5]? =some (Value.int IntKind.i64 v_9)/\(0=1->False)/\∀ (v_10:Int) (s'_3:Int×Int) (E'_3:Mem),Mem.le E' E'_3->Hyp (rnum zs (s'.fst,s'.snd) 0 (2000000:Int)=(v_10,s'_3))->0<=s'_3.fst/\s'_3.fst<=(NI l)->∃ (zs:List Int),(((81:Nat)=(81:Nat)/\(3:Nat)=(3:Nat)/\Sx.Alike al2 (IntKind.i64=IntKind.i64))/\Bs E'_3 b l c zs/\l<=(100000:Nat)/\0<=s'_3.fst/\s'_3.fst<=(NI l))/\∃ (v_11:Int),(layV (layV (layV (layV (layV (layV (layV us off [Value.int IntKind.i64 a0,Value.int IntKind.i64 a1,Value.int IntKind.i64 a2,Value.int IntKind.i64 a3,Value.int IntKind.i64 a4,Value.int IntKind.i64 a5,Value.int IntKind.i64 a6,Value.int IntKind.i64 a7]) (off+(0:Nat)) [Value.int IntKind.i64 v]) (off+(1:Nat)) [Value.int IntKind.i64 v_2]) (off+(2:Nat)) [Value.int IntKind.i64 v_4]) (off+(3:Nat)) [Value.int IntKind.i64 v_6]) (off+(4:Nat)) [Value.int IntKind.i64 v_8]) (off+(5:Nat)) [Value.int IntKind.i64 v_10])[off+(6:Nat)+(0:Nat)]? =some (Value.int IntKind.i64 v_11)/\((0:Nat)=(1:Nat)->False)/\∀ (v_12:Int) (s':Int×Int) (E':Mem),Mem.le E'_3 E'->Hyp (rnum zs (s'_3.fst,s'_3.snd) 0 (500002:Int)=(v_12,s'))->0<=s'.fst/\s'.fst<=(NI l)->∃ (zs:List Int),(((81:Nat)=(81:Nat)/\(3:Nat)=(3:Nat)/\Sx.Alike al2 (IntKind.i64=IntKind.i64))/\Bs E' b l c zs/\l<=(100000:Nat)/\0<=s'.fst/\s'.fst<=(NI l))/\∃ (v_13:Int),(layV (layV (layV (layV (layV (layV (layV (layV us off [Value.int IntKind.i64 a0,Value.int IntKind.i64 a1,Value.int IntKind.i64 a2,Value.int IntKind.i64 a3,Value.int IntKind.i64 a4,Value.int IntKind.i64 a5,Value.int IntKind.i64 a6,Value.int IntKind.i64 a7]) (off+(0:Nat)) [Value.int IntKind.i64 v]) (off+(1:Nat)) [Value.int IntKind.i64 v_2]) (off+(2:Nat)) [Value.int IntKind.i64 v_4]) (off+(3:Nat)) [Value.int IntKind.i64 v_6]) (off+(4:Nat)) [Value.int IntKind.i64 v_8]) (off+(5:Nat)) [Value.int IntKind.i64 v_10]) (off+(6:Nat)+(0:Nat)) [Value.int IntKind.i64 v_12])[off+(6:Nat)+(1:Nat)]? =some (Value.int IntKind.i64 v_13)/\((0:Nat)=(1:Nat)->False)/\∀ (v_14:Int) (s'_4:Int×Int) (E'_4:Mem),Mem.le E' E'_4->Hyp (rnum zs (s'.fst,s'.snd) 0 (500002:Int)=(v_14,s'_4))->0<=s'_4.fst/\s'_4.fst<=(NI l)->Q (SV.tup []) [⟨(81:Nat),Row.lst [L b l c,I s'_4.fst,I s'_4.snd],(3:Nat),true⟩,⟨e,Row.vals (layV (layV (layV (layV (layV (layV (layV (layV (layV us off [Value.int IntKind.i64 a0,Value.int IntKind.i64 a1,Value.int IntKind.i64 a2,Value.int IntKind.i64 a3,Value.int IntKind.i64 a4,Value.int IntKind.i64 a5,Value.int IntKind.i64 a6,Value.int IntKind.i64 a7]) (off+(0:Nat)) [Value.int IntKind.i64 v]) (off+(1:Nat)) [Value.int IntKind.i64 v_2]) (off+(2:Nat)) [Value.int IntKind.i64 v_4]) (off+(3:Nat)) [Value.int IntKind.i64 v_6]) (off+(4:Nat)) [Value.int IntKind.i64 v_8]) (off+(5:Nat)) [Value.int IntKind.i64 v_10]) (off+(6:Nat)+(0:Nat)) [Value.int IntKind.i64 v_12]) (off+(6:Nat)+(1:Nat)) [Value.int IntKind.i64 v_14]),t,true⟩,⟨(129:Nat),Row.lst [SV.ifc 79 (SV.loc 0 0)],(1:Nat),true⟩,⟨(131:Nat),Row.lst [SV.loc 1 (off+(3:Nat)),SV.loc 1 (off+(4:Nat))],(2:Nat),true⟩,⟨(131:Nat),Row.lst [SV.loc 1 (off+(6:Nat)+(0:Nat)),SV.loc 1 (off+(6:Nat)+(1:Nat))],(2:Nat),true⟩] E'_4)
 delta NI
 refine ⟨zs,⟨⟨rfl,rfl,alike rfl⟩,hB,hl,ha⟩,a0,layV_at (ys:=[.int .i64 a0,.int .i64 a1,.int .i64 a2,.int .i64 a3,.int .i64 a4,.int .i64 a5,.int .i64 a6,.int .i64 a7]) (j:=0) (by simpa using ho) (by simp),by decide,fun v1 s1 E1 e1 q1 w1=>?_⟩
 have q1:rnum zs s0 (1) 4=(v1,s1):=q1
 rw [layV_put (ys:=[.int .i64 a0,.int .i64 a1,.int .i64 a2,.int .i64 a3,.int .i64 a4,.int .i64 a5,.int .i64 a6,.int .i64 a7]) (j:=0) (by simpa using ho) (by simp),show ([.int .i64 a0,.int .i64 a1,.int .i64 a2,.int .i64 a3,.int .i64 a4,.int .i64 a5,.int .i64 a6,.int .i64 a7]:List Value).set 0 (.int .i64 v1)=[.int .i64 v1,.int .i64 a1,.int .i64 a2,.int .i64 a3,.int .i64 a4,.int .i64 a5,.int .i64 a6,.int .i64 a7] from rfl]
 refine ⟨zs,⟨⟨rfl,rfl,alike rfl⟩,(hB.mono (e1)),hl,w1⟩,a1,layV_at (ys:=[.int .i64 v1,.int .i64 a1,.int .i64 a2,.int .i64 a3,.int .i64 a4,.int .i64 a5,.int .i64 a6,.int .i64 a7]) (j:=1) (by simpa using ho) (by simp),by decide,fun v2 s2 E2 e2 q2 w2=>?_⟩
 have q2:rnum zs s1 (0) 59=(v2,s2):=q2
 rw [layV_put (ys:=[.int .i64 v1,.int .i64 a1,.int .i64 a2,.int .i64 a3,.int .i64 a4,.int .i64 a5,.int .i64 a6,.int .i64 a7]) (j:=1) (by simpa using ho) (by simp),show ([.int .i64 v1,.int .i64 a1,.int .i64 a2,.int .i64 a3,.int .i64 a4,.int .i64 a5,.int .i64 a6,.int .i64 a7]:List Value).set 1 (.int .i64 v2)=[.int .i64 v1,.int .i64 v2,.int .i64 a2,.int .i64 a3,.int .i64 a4,.int .i64 a5,.int .i64 a6,.int .i64 a7] from rfl]
 refine ⟨zs,⟨⟨rfl,rfl,alike rfl⟩,(hB.mono (mt_ (e1) e2)),hl,w2⟩,a2,layV_at (ys:=[.int .i64 v1,.int .i64 v2,.int .i64 a2,.int .i64 a3,.int .i64 a4,.int .i64 a5,.int .i64 a6,.int .i64 a7]) (j:=2) (by simpa using ho) (by simp),by decide,fun v3 s3 E3 e3 q3 w3=>?_⟩
 have q3:rnum zs s2 (-1) 59=(v3,s3):=q3
 rw [layV_put (ys:=[.int .i64 v1,.int .i64 v2,.int .i64 a2,.int .i64 a3,.int .i64 a4,.int .i64 a5,.int .i64 a6,.int .i64 a7]) (j:=2) (by simpa using ho) (by simp),show ([.int .i64 v1,.int .i64 v2,.int .i64 a2,.int .i64 a3,.int .i64 a4,.int .i64 a5,.int .i64 a6,.int .i64 a7]:List Value).set 2 (.int .i64 v3)=[.int .i64 v1,.int .i64 v2,.int .i64 v3,.int .i64 a3,.int .i64 a4,.int .i64 a5,.int .i64 a6,.int .i64 a7] from rfl]
 refine ⟨zs,⟨⟨rfl,rfl,alike rfl⟩,(hB.mono (mt_ (mt_ (e1) e2) e3)),hl,w3⟩,a3,layV_at (ys:=[.int .i64 v1,.int .i64 v2,.int .i64 v3,.int .i64 a3,.int .i64 a4,.int .i64 a5,.int .i64 a6,.int .i64 a7]) (j:=3) (by simpa using ho) (by simp),by decide,fun v4 s4 E4 e4 q4 w4=>?_⟩
 have q4:rnum zs s3 (0) 10000000000000=(v4,s4):=q4
 rw [layV_put (ys:=[.int .i64 v1,.int .i64 v2,.int .i64 v3,.int .i64 a3,.int .i64 a4,.int .i64 a5,.int .i64 a6,.int .i64 a7]) (j:=3) (by simpa using ho) (by simp),show ([.int .i64 v1,.int .i64 v2,.int .i64 v3,.int .i64 a3,.int .i64 a4,.int .i64 a5,.int .i64 a6,.int .i64 a7]:List Value).set 3 (.int .i64 v4)=[.int .i64 v1,.int .i64 v2,.int .i64 v3,.int .i64 v4,.int .i64 a4,.int .i64 a5,.int .i64 a6,.int .i64 a7] from rfl]
 refine ⟨zs,⟨⟨rfl,rfl,alike rfl⟩,(hB.mono (mt_ (mt_ (mt_ (e1) e2) e3) e4)),hl,w4⟩,a4,layV_at (ys:=[.int .i64 v1,.int .i64 v2,.int .i64 v3,.int .i64 v4,.int .i64 a4,.int .i64 a5,.int .i64 a6,.int .i64 a7]) (j:=4) (by simpa using ho) (by simp),by decide,fun v5 s5 E5 e5 q5 w5=>?_⟩
 have q5:rnum zs s4 (0) 10000000000000=(v5,s5):=q5
 rw [layV_put (ys:=[.int .i64 v1,.int .i64 v2,.int .i64 v3,.int .i64 v4,.int .i64 a4,.int .i64 a5,.int .i64 a6,.int .i64 a7]) (j:=4) (by simpa using ho) (by simp),show ([.int .i64 v1,.int .i64 v2,.int .i64 v3,.int .i64 v4,.int .i64 a4,.int .i64 a5,.int .i64 a6,.int .i64 a7]:List Value).set 4 (.int .i64 v5)=[.int .i64 v1,.int .i64 v2,.int .i64 v3,.int .i64 v4,.int .i64 v5,.int .i64 a5,.int .i64 a6,.int .i64 a7] from rfl]
 refine ⟨zs,⟨⟨rfl,rfl,alike rfl⟩,(hB.mono (mt_ (mt_ (mt_ (mt_ (e1) e2) e3) e4) e5)),hl,w5⟩,a5,layV_at (ys:=[.int .i64 v1,.int .i64 v2,.int .i64 v3,.int .i64 v4,.int .i64 v5,.int .i64 a5,.int .i64 a6,.int .i64 a7]) (j:=5) (by simpa using ho) (by simp),by decide,fun v6 s6 E6 e6 q6 w6=>?_⟩
 have q6:rnum zs s5 (0) 2000000=(v6,s6):=q6
 rw [layV_put (ys:=[.int .i64 v1,.int .i64 v2,.int .i64 v3,.int .i64 v4,.int .i64 v5,.int .i64 a5,.int .i64 a6,.int .i64 a7]) (j:=5) (by simpa using ho) (by simp),show ([.int .i64 v1,.int .i64 v2,.int .i64 v3,.int .i64 v4,.int .i64 v5,.int .i64 a5,.int .i64 a6,.int .i64 a7]:List Value).set 5 (.int .i64 v6)=[.int .i64 v1,.int .i64 v2,.int .i64 v3,.int .i64 v4,.int .i64 v5,.int .i64 v6,.int .i64 a6,.int .i64 a7] from rfl]
 refine ⟨zs,⟨⟨rfl,rfl,alike rfl⟩,(hB.mono (mt_ (mt_ (mt_ (mt_ (mt_ (e1) e2) e3) e4) e5) e6)),hl,w6⟩,a6,layV_at (ys:=[.int .i64 v1,.int .i64 v2,.int .i64 v3,.int .i64 v4,.int .i64 v5,.int .i64 v6,.int .i64 a6,.int .i64 a7]) (j:=6) (by simpa using ho) (by simp),by decide,fun v7 s7 E7 e7 q7 w7=>?_⟩
 have q7:rnum zs s6 (0) 500002=(v7,s7):=q7
 rw [layV_put (ys:=[.int .i64 v1,.int .i64 v2,.int .i64 v3,.int .i64 v4,.int .i64 v5,.int .i64 v6,.int .i64 a6,.int .i64 a7]) (j:=6) (by simpa using ho) (by simp),show ([.int .i64 v1,.int .i64 v2,.int .i64 v3,.int .i64 v4,.int .i64 v5,.int .i64 v6,.int .i64 a6,.int .i64 a7]:List Value).set 6 (.int .i64 v7)=[.int .i64 v1,.int .i64 v2,.int .i64 v3,.int .i64 v4,.int .i64 v5,.int .i64 v6,.int .i64 v7,.int .i64 a7] from rfl]
 refine ⟨zs,⟨⟨rfl,rfl,alike rfl⟩,(hB.mono (mt_ (mt_ (mt_ (mt_ (mt_ (mt_ (e1) e2) e3) e4) e5) e6) e7)),hl,w7⟩,a7,layV_at (ys:=[.int .i64 v1,.int .i64 v2,.int .i64 v3,.int .i64 v4,.int .i64 v5,.int .i64 v6,.int .i64 v7,.int .i64 a7]) (j:=7) (by simpa using ho) (by simp),by decide,fun v8 s8 E8 e8 q8 w8=>?_⟩
 have q8:rnum zs s7 (0) 500002=(v8,s8):=q8
 rw [layV_put (ys:=[.int .i64 v1,.int .i64 v2,.int .i64 v3,.int .i64 v4,.int .i64 v5,.int .i64 v6,.int .i64 v7,.int .i64 a7]) (j:=7) (by simpa using ho) (by simp),show ([.int .i64 v1,.int .i64 v2,.int .i64 v3,.int .i64 v4,.int .i64 v5,.int .i64 v6,.int .i64 v7,.int .i64 a7]:List Value).set 7 (.int .i64 v8)=[.int .i64 v1,.int .i64 v2,.int .i64 v3,.int .i64 v4,.int .i64 v5,.int .i64 v6,.int .i64 v7,.int .i64 v8] from rfl]
 exact hQ _ _ _ (cloK_intro [some 0,some 1,some 2] (h [v1,v2,v3,v4,v5,v6,v7,v8] s8 E8 (mt_ (mt_ (mt_ (mt_ (mt_ (mt_ (mt_ (e1) e2) e3) e4) e5) e6) e7) e8) (by show rI its94 8 zs s0=_;unfold rI its94;simp only [List.foldl_cons,List.foldl_nil];rw [rItem_num q1,rItem_num q2,rItem_num q3,rItem_num q4,rItem_num q5,rItem_num q6,rItem_num q7,rItem_num q8];rfl) w8) (wkH mr_))
theorem r68 (hB:Bs E b l c zs) (hl:l<=100000) (ha:0<=s0.1/\s0.1<=l) (ho:off+1<=us.length)
  (h:∀ (x:List Int) (s':Int×Int) (E':Mem),Mem.le E E'->Hyp (rI its68 1 zs s0=(x,s'))->0<=s'.1/\s'.1<=l->KK (.tup []) [rBox b l c s',⟨e,.vals (layV us off (x.map (.int .i64))),t,true⟩,⟨129,.lst [.ifc 79 (.loc 0 0)],1,true⟩] E') (hQ:∀ s bx' E',cloK 3 KK s bx' E'->Q s bx' E'):
  EntB Z1 6 Try.f68 [.loc 1 off,.loc 2 0] [rBox b l c s0,⟨e,.vals (layV us off [.int .i64 a0]),t,true⟩,⟨129,.lst [.ifc 79 (.loc 0 0)],1,true⟩] E Q:=by
 refine sm_ (?_:∃ (zs:List Int),((81=81/\3=3/\Sx.Alike al2 (IntKind.i64=IntKind.i64))/\Bs E b l c zs/\l<=100000/\0<=s0.fst/\s0.fst<=(↑l:Int))/\∃ (v:Int),(layV us off [Value.int IntKind.i64 a0])[off]? =some (Value.int IntKind.i64 v)/\(0=1->False)/\∀ (v:Int) (s':Int×Int) (E':Mem),Mem.le E E'->Hyp (rnum zs (s0.fst,s0.snd) (0:Int) (59:Int)=(v,s'))->0<=s'.fst/\s'.fst<=(↑l:Int)->Q (SV.tup []) [⟨81,Row.lst [L b l c,I s'.fst,I s'.snd],3,true⟩,⟨e,Row.vals (layV (layV us off [Value.int IntKind.i64 a0]) off [Value.int IntKind.i64 v]),t,true⟩,⟨129,Row.lst [SV.ifc 79 (SV.loc 0 0)],1,true⟩] E')
 refine ⟨zs,⟨⟨rfl,rfl,alike rfl⟩,hB,hl,ha⟩,a0,layV_at (ys:=[.int .i64 a0]) (j:=0) (by simpa using ho) (by simp),by decide,fun v1 s1 E1 e1 q1 w1=>?_⟩
 have q1:rnum zs s0 (0) 59=(v1,s1):=q1
 rw [layV_layV (by omega)]
 exact hQ _ _ _ (cloK_intro [some 0,some 1,some 2] (h [v1] s1 E1 (e1) (by show rI its68 1 zs s0=_;unfold rI its68;simp only [List.foldl_cons,List.foldl_nil];rw [rItem_num q1];rfl) w1) (wkH mr_))
theorem r96 {a0:Int} (hB:Bs E b l c zs) (hl:l<=100000) (ha:0<=s0.1/\s0.1<=l) (ho:off+1<=us.length)
  (h:∀ (x:List Int) (s':Int×Int) (E':Mem),Mem.le E E'->Hyp (rD zs s0=(x,s'))->0<=s'.1/\s'.1<=l->KK (.tup []) [rBox b l c s',⟨e,.vals (layV us off (x.map (.int .u64))),t,true⟩,⟨129,.lst [.ifc 79 (.loc 0 0)],1,true⟩] E') (hQ:∀ s bx' E',cloK 3 KK s bx' E'->Q s bx' E'):
  EntB Z1 6 Try.f96 [.loc 1 off,.loc 2 0] [rBox b l c s0,⟨e,.vals (layV us off [.int .u64 0]),t,true⟩,⟨129,.lst [.ifc 79 (.loc 0 0)],1,true⟩] E Q:=by
 refine sm_ (?_:∃ (zs:List Int),((81=81/\3=3/\Sx.Alike al2 (IntKind.i64=IntKind.i64))/\Bs E b l c zs/\l<=100000/\0<=s0.fst/\s0.fst<=(↑l:Int))/\∃ (v:Int),(layV us off [Value.int IntKind.u64 (0:Int)])[off]? =some (Value.int IntKind.u64 v)/\(0=1->False)/\∀ (ys:List Int) (s':Int×Int) (E':Mem),Mem.le E E'->Hyp (rtake zs (s0.fst,s0.snd) (8:Int)=(ys,s'))->0<=s'.fst/\s'.fst<=(↑l:Int)->Q (SV.tup []) [⟨81,Row.lst [L b l c,I s'.fst,I s'.snd],3,true⟩,⟨e,Row.vals (layV (layV us off [Value.int IntKind.u64 (0:Int)]) off [Value.int IntKind.u64 (List.foldl dstep v ys)]),t,true⟩,⟨129,Row.lst [SV.ifc 79 (SV.loc 0 0)],1,true⟩] E')
 refine ⟨zs,⟨⟨rfl,rfl,alike rfl⟩,hB,hl,ha⟩,0,layV_at (ys:=[.int .u64 0]) (j:=0) (by simpa using ho) (by decide),by decide,fun ys s1 E1 e1 q1 w1=>?_⟩
 have q1:rtake zs s0 8=(ys,s1):=q1
 rw [layV_layV (by omega)]
 exact hQ _ _ _ (cloK_intro [some 0,some 1,some 2] (h [ys.foldl dstep 0] s1 E1 e1 (by show rD zs s0=_;unfold rD rdig;rw [q1]) w1) (wkH mr_))
def layI (ys:List Int) (off:Nat) (x:List Int):List Int:=ys.take off++x++ys.drop (off+x.length)
theorem layV_map {ys x:List Int}:layV (ys.map (Value.int q)) off (x.map (.int q))=(layI ys off x).map (.int q):=by
 unfold layV layI
 simp [List.map_take,List.map_drop]
theorem layI_self {ys:List Int} (h:off+k<=ys.length):layI ys off ((ys.drop off).take k)=ys:=by
 unfold layI
 rw [List.length_take,List.length_drop,Nat.min_eq_left (by omega),← List.drop_drop,List.append_assoc,List.take_append_drop,List.take_append_drop]
def crS (bx:List Box) (E:Mem) (x:SV) (k:Nat->Nat->Option Addr->Nat->Nat->Int×Int->List Int->Prop):Prop:=match x with
 | .loc cc 0=>match bx[cc]? with
  | some ⟨e,.lst [.ifc t (.loc r 0)],tt,true⟩=>(e=129/\t=79/\tt=1)/\rS bx E (.loc r 0) (fun r b l c s zs=>k cc r b l c s zs)
  | _=>False
 | _=>False
theorem crS_elim {E:Mem} {k:Nat->Nat->Option Addr->Nat->Nat->Int×Int->List Int->Prop} (h:crS bx E x k):
  ∃ cc r b l c s zs,x= .loc cc 0/\bx[cc]? =some ⟨129,.lst [.ifc 79 (.loc r 0)],1,true⟩/\bx[r]? =some (rBox b l c s)/\Bs E b l c zs/\l<=100000/\(0<=s.1/\s.1<=l)/\k cc r b l c s zs:=by
 unfold crS at h
 split at h
 case h_2=>exact h.elim
 rename_i cc
 split at h
 case h_2=>exact h.elim
 rename_i e t r tt hc
 obtain ⟨⟨rfl,rfl,rfl⟩,h⟩:=h
 obtain ⟨r',b,l,c,s,zs,e,hr,hB,hl,ha,hk⟩:=rS_elim h
 cases e
 exact ⟨cc,r,b,l,c,s,zs,rfl,hc,hr,hB,hl,ha,hk⟩
def vAt (q:IntKind) (k:Nat) (bx:List Box) (x:SV) (kk:Nat->Nat->List Int->(List Int->Box)->Prop):Prop:=match x with
 | .loc p off=>match bx[p]? with
  | some ⟨e,.vals us,t,true⟩=>∃ ys:List Int,(us=ys.map (.int q)/\off+k<=ys.length/\e≠81/\e≠129)/\kk p off ys (fun zs=>⟨e,.vals (zs.map (.int q)),t,true⟩)
  | _=>False
 | _=>False
theorem vAt_elim {kk:Nat->Nat->List Int->(List Int->Box)->Prop} (h:vAt q k bx x kk):
  ∃ p off e ys t,x= .loc p off/\bx[p]? =some ⟨e,.vals (ys.map (.int q)),t,true⟩/\off+k<=ys.length/\e≠81/\e≠129/\kk p off ys (fun zs=>⟨e,.vals (zs.map (.int q)),t,true⟩):=by
 unfold vAt at h
 split at h
 case h_2=>exact h.elim
 rename_i p off
 split at h
 case h_2=>exact h.elim
 rename_i e us t hp
 obtain ⟨ys,⟨rfl,h1,h2,h3⟩,hk⟩:=h
 exact ⟨p,off,e,ys,t,rfl,hp,h1,h2,h3,hk⟩
theorem reFrame {r cc:Nat} {e:TypeId} {ys:List Int} {F:List Int×(Int×Int)->Prop} {K:KT} (hr:bx[r]? =some (rBox b l c s0)) (hp:bx[p]? =some ⟨e,.vals (ys.map (.int q)),t,true⟩) (hc:bx[cc]? =some ⟨129,.lst [.ifc 79 (.loc r 0)],1,true⟩) (h1:e≠81) (h2:e≠129)
  (he:∀ KK:KT,(∀ (x:List Int) (s':Int×Int) (E':Mem),Mem.le E E'->F (x,s')->0<=s'.1/\s'.1<=l->KK (.tup []) [rBox b l c s',⟨e,.vals ((layI ys off x).map (.int q)),t,true⟩,⟨129,.lst [.ifc 79 (.loc 0 0)],1,true⟩] E')->
   CallSem Try.prog f [.loc 1 off,.loc 2 0] [rBox b l c s0,⟨e,.vals (ys.map (.int q)),t,true⟩,⟨129,.lst [.ifc 79 (.loc 0 0)],1,true⟩] E (cloK 3 KK))
  (hk:∀ (x:List Int) (s':Int×Int) (E':Mem),Mem.le E E'->F (x,s')->0<=s'.1/\s'.1<=l->K (.tup []) ((bx.set r (rBox b l c s')).set p ⟨e,.vals ((layI ys off x).map (.int q)),t,true⟩) E'):CallSem Try.prog f [.loc p off,.loc cc 0] bx E K:=by
 have n1:r≠p:=elem_ne hr hp (fun q=>h1 q.symm)
 have n2:r≠cc:=elem_ne hr hc (by show (81:Nat)≠129;decide)
 have n3:p≠cc:=elem_ne hp hc h2
 refine CallSem.hand (σ:=[r,p,cc]) (bxs:=[rBox b l c s0,⟨e,.vals (ys.map (.int q)),t,true⟩,⟨129,.lst [.ifc 79 (.loc 0 0)],1,true⟩]) ⟨by simp [n1,n2,n3],rfl,fun i b hb=>?_⟩ (args':=[.loc 1 off,.loc 2 0]) ?_ (he _ fun x s' E' hE hq hs=>?_)
 ·match i,hb with
  | 0,hb=>
   simp only [List.getElem?_cons_zero,Option.some.injEq] at hb;subst hb
   exact ⟨rfl,r,rfl,by simpa [Box.ren,Row.ren,SV.renL,SV.ren,renF] using hr⟩
  | 1,hb=>
   simp only [List.getElem?_cons_succ,List.getElem?_cons_zero,Option.some.injEq] at hb;subst hb
   exact ⟨rfl,p,rfl,by simpa [Box.ren,Row.ren,SV.renL,SV.ren,renF] using hp⟩
  | 2,hb=>
   simp only [List.getElem?_cons_succ,List.getElem?_cons_zero,Option.some.injEq] at hb;subst hb
   exact ⟨rfl,cc,rfl,by simpa [Box.ren,Row.ren,SV.renL,SV.ren,renF] using hc⟩
  | j+3,hb=>simp at hb
 ·simp only [SV.renL,SV.ren,renF,List.getElem?_cons_zero,List.getElem?_cons_succ]
 ·simp only [SV.ren,SV.renL,merge,setAll,List.take,List.drop,List.map,List.length_cons,List.length_nil,Box.ren,Row.ren,renF,List.getElem?_cons_zero,List.getElem?_cons_succ]
  rw [set_same (l:=(bx.set r _).set p _) (p:=cc) (x:=⟨129,.lst [.ifc 79 (.loc r 0)],1,true⟩) (by rw [List.getElem?_set_ne n3,List.getElem?_set_ne n2];exact hc)]
  simpa using hk x s' E' hE hq hs
def rEl (cf:Nat) (zs:List Int) (s:Int×Int):List Int×(Int×Int):=match cf with
 | 85=>(rI its85 4) zs s
 | 88=>(rI its88 5) zs s
 | 90=>(rI its90 3) zs s
 | 92=>(rI its92 4) zs s
 | 94=>(rI its94 8) zs s
 | 68=>(rI its68 1) zs s
 | 96=>rD zs s
 | _=>([],s)
structure RdE (cf:Nat) (zs:List Int) (s:Int×Int) (x:List Int) (s':Int×Int):Prop where
 eq:rEl cf zs s=(x,s')
noncomputable def tabBRE:CallT:=fun f args bx E K=>match f with
 | 85=>d2 args fun x0 x1=>crS bx E x1 fun cc r b l c s zs=>vAt .i64 4 bx x0 fun p off ys put=>(True )/\∀ (x:List Int) (s':Int×Int) (E':Mem),Mem.le E E'->RdE 85 zs s x s'->0<=s'.1/\s'.1<=l->K (.tup []) ((bx.set r (rBox b l c s')).set p (put (layI ys off x))) E'
 | 88=>d2 args fun x0 x1=>crS bx E x1 fun cc r b l c s zs=>vAt .i64 5 bx x0 fun p off ys put=>(True )/\∀ (x:List Int) (s':Int×Int) (E':Mem),Mem.le E E'->RdE 88 zs s x s'->0<=s'.1/\s'.1<=l->K (.tup []) ((bx.set r (rBox b l c s')).set p (put (layI ys off x))) E'
 | 90=>d2 args fun x0 x1=>crS bx E x1 fun cc r b l c s zs=>vAt .i64 3 bx x0 fun p off ys put=>(True )/\∀ (x:List Int) (s':Int×Int) (E':Mem),Mem.le E E'->RdE 90 zs s x s'->0<=s'.1/\s'.1<=l->K (.tup []) ((bx.set r (rBox b l c s')).set p (put (layI ys off x))) E'
 | 92=>d2 args fun x0 x1=>crS bx E x1 fun cc r b l c s zs=>vAt .i64 4 bx x0 fun p off ys put=>(True )/\∀ (x:List Int) (s':Int×Int) (E':Mem),Mem.le E E'->RdE 92 zs s x s'->0<=s'.1/\s'.1<=l->K (.tup []) ((bx.set r (rBox b l c s')).set p (put (layI ys off x))) E'
 | 94=>d2 args fun x0 x1=>crS bx E x1 fun cc r b l c s zs=>vAt .i64 8 bx x0 fun p off ys put=>(True )/\∀ (x:List Int) (s':Int×Int) (E':Mem),Mem.le E E'->RdE 94 zs s x s'->0<=s'.1/\s'.1<=l->K (.tup []) ((bx.set r (rBox b l c s')).set p (put (layI ys off x))) E'
 | 68=>d2 args fun x0 x1=>crS bx E x1 fun cc r b l c s zs=>vAt .i64 1 bx x0 fun p off ys put=>(True )/\∀ (x:List Int) (s':Int×Int) (E':Mem),Mem.le E E'->RdE 68 zs s x s'->0<=s'.1/\s'.1<=l->K (.tup []) ((bx.set r (rBox b l c s')).set p (put (layI ys off x))) E'
 | 96=>d2 args fun x0 x1=>crS bx E x1 fun cc r b l c s zs=>vAt .u64 1 bx x0 fun p off ys put=>(True/\ys.getD off 0=0 )/\∀ (x:List Int) (s':Int×Int) (E':Mem),Mem.le E E'->RdE 96 zs s x s'->0<=s'.1/\s'.1<=l->K (.tup []) ((bx.set r (rBox b l c s')).set p (put (layI ys off x))) E'
 | _=>False
theorem tabBRE_ok:∀ f args bx E K,tabBRE f args bx E K->CallSem Try.prog f args bx E K:=by
 intro f args bx E K h
 unfold tabBRE at h
 split at h
 ·obtain ⟨x0,x1,rfl,h1⟩:=d2_elim h
  obtain ⟨cc,r,b,l,c,s,zs,rfl,hc,hr,hB,hl,ha,h2⟩:=crS_elim h1
  obtain ⟨p,off,e,ys,t,rfl,hp,ho,n1,n2,hx,hk⟩:=vAt_elim h2
  refine reFrame (q:=.i64) (F:=fun o=>RdE 85 zs s o.1 o.2) hr hp hc n1 n2 (fun KK hKK=>?_) hk
  obtain ⟨a0,a1,a2,a3,hd⟩:∃ a0 a1 a2 a3:Int,(ys.drop off).take 4=[a0,a1,a2,a3]:=by
   have e1:((ys.drop off).take 4).length=4:=by rw [List.length_take,List.length_drop];omega
   generalize (ys.drop off).take 4=w at e1
   match w,e1 with
   | [a0,a1,a2,a3],_=>exact ⟨a0,a1,a2,a3,rfl⟩
  have hy:ys.map (Value.int .i64)=layV (ys.map (.int .i64)) off [.int .i64 a0,.int .i64 a1,.int .i64 a2,.int .i64 a3]:=by
   have:=layV_map (q:=.i64) (ys:=ys) (x:=(ys.drop off).take 4) (off:=off)
   rw [layI_self ho,hd] at this;exact this.symm
  rw [hy]
  exact bsm okZ1 Try.func85 (r85 hB hl ha (by rw [List.length_map];exact ho) (fun x s' E' hE hq hs=>by rw [layV_map];exact hKK x s' E' hE ⟨hq⟩ hs) (fun _ _ _ q=>q))
 ·obtain ⟨x0,x1,rfl,h1⟩:=d2_elim h
  obtain ⟨cc,r,b,l,c,s,zs,rfl,hc,hr,hB,hl,ha,h2⟩:=crS_elim h1
  obtain ⟨p,off,e,ys,t,rfl,hp,ho,n1,n2,hx,hk⟩:=vAt_elim h2
  refine reFrame (q:=.i64) (F:=fun o=>RdE 88 zs s o.1 o.2) hr hp hc n1 n2 (fun KK hKK=>?_) hk
  obtain ⟨a0,a1,a2,a3,a4,hd⟩:∃ a0 a1 a2 a3 a4:Int,(ys.drop off).take 5=[a0,a1,a2,a3,a4]:=by
   have e1:((ys.drop off).take 5).length=5:=by rw [List.length_take,List.length_drop];omega
   generalize (ys.drop off).take 5=w at e1
   match w,e1 with
   | [a0,a1,a2,a3,a4],_=>exact ⟨a0,a1,a2,a3,a4,rfl⟩
  have hy:ys.map (Value.int .i64)=layV (ys.map (.int .i64)) off [.int .i64 a0,.int .i64 a1,.int .i64 a2,.int .i64 a3,.int .i64 a4]:=by
   have:=layV_map (q:=.i64) (ys:=ys) (x:=(ys.drop off).take 5) (off:=off)
   rw [layI_self ho,hd] at this;exact this.symm
  rw [hy]
  exact bsm okZ1 Try.func88 (r88 hB hl ha (by rw [List.length_map];exact ho) (fun x s' E' hE hq hs=>by rw [layV_map];exact hKK x s' E' hE ⟨hq⟩ hs) (fun _ _ _ q=>q))
 ·obtain ⟨x0,x1,rfl,h1⟩:=d2_elim h
  obtain ⟨cc,r,b,l,c,s,zs,rfl,hc,hr,hB,hl,ha,h2⟩:=crS_elim h1
  obtain ⟨p,off,e,ys,t,rfl,hp,ho,n1,n2,hx,hk⟩:=vAt_elim h2
  refine reFrame (q:=.i64) (F:=fun o=>RdE 90 zs s o.1 o.2) hr hp hc n1 n2 (fun KK hKK=>?_) hk
  obtain ⟨a0,a1,a2,hd⟩:∃ a0 a1 a2:Int,(ys.drop off).take 3=[a0,a1,a2]:=by
   have e1:((ys.drop off).take 3).length=3:=by rw [List.length_take,List.length_drop];omega
   generalize (ys.drop off).take 3=w at e1
   match w,e1 with
   | [a0,a1,a2],_=>exact ⟨a0,a1,a2,rfl⟩
  have hy:ys.map (Value.int .i64)=layV (ys.map (.int .i64)) off [.int .i64 a0,.int .i64 a1,.int .i64 a2]:=by
   have:=layV_map (q:=.i64) (ys:=ys) (x:=(ys.drop off).take 3) (off:=off)
   rw [layI_self ho,hd] at this;exact this.symm
  rw [hy]
  exact bsm okZ1 Try.func90 (r90 hB hl ha (by rw [List.length_map];exact ho) (fun x s' E' hE hq hs=>by rw [layV_map];exact hKK x s' E' hE ⟨hq⟩ hs) (fun _ _ _ q=>q))
 ·obtain ⟨x0,x1,rfl,h1⟩:=d2_elim h
  obtain ⟨cc,r,b,l,c,s,zs,rfl,hc,hr,hB,hl,ha,h2⟩:=crS_elim h1
  obtain ⟨p,off,e,ys,t,rfl,hp,ho,n1,n2,hx,hk⟩:=vAt_elim h2
  refine reFrame (q:=.i64) (F:=fun o=>RdE 92 zs s o.1 o.2) hr hp hc n1 n2 (fun KK hKK=>?_) hk
  obtain ⟨a0,a1,a2,a3,hd⟩:∃ a0 a1 a2 a3:Int,(ys.drop off).take 4=[a0,a1,a2,a3]:=by
   have e1:((ys.drop off).take 4).length=4:=by rw [List.length_take,List.length_drop];omega
   generalize (ys.drop off).take 4=w at e1
   match w,e1 with
   | [a0,a1,a2,a3],_=>exact ⟨a0,a1,a2,a3,rfl⟩
  have hy:ys.map (Value.int .i64)=layV (ys.map (.int .i64)) off [.int .i64 a0,.int .i64 a1,.int .i64 a2,.int .i64 a3]:=by
   have:=layV_map (q:=.i64) (ys:=ys) (x:=(ys.drop off).take 4) (off:=off)
   rw [layI_self ho,hd] at this;exact this.symm
  rw [hy]
  exact bsm okZ1 Try.func92 (r92 hB hl ha (by rw [List.length_map];exact ho) (fun x s' E' hE hq hs=>by rw [layV_map];exact hKK x s' E' hE ⟨hq⟩ hs) (fun _ _ _ q=>q))
 ·obtain ⟨x0,x1,rfl,h1⟩:=d2_elim h
  obtain ⟨cc,r,b,l,c,s,zs,rfl,hc,hr,hB,hl,ha,h2⟩:=crS_elim h1
  obtain ⟨p,off,e,ys,t,rfl,hp,ho,n1,n2,hx,hk⟩:=vAt_elim h2
  refine reFrame (q:=.i64) (F:=fun o=>RdE 94 zs s o.1 o.2) hr hp hc n1 n2 (fun KK hKK=>?_) hk
  obtain ⟨a0,a1,a2,a3,a4,a5,a6,a7,hd⟩:∃ a0 a1 a2 a3 a4 a5 a6 a7:Int,(ys.drop off).take 8=[a0,a1,a2,a3,a4,a5,a6,a7]:=by
   have e1:((ys.drop off).take 8).length=8:=by rw [List.length_take,List.length_drop];omega
   generalize (ys.drop off).take 8=w at e1
   match w,e1 with
   | [a0,a1,a2,a3,a4,a5,a6,a7],_=>exact ⟨a0,a1,a2,a3,a4,a5,a6,a7,rfl⟩
  have hy:ys.map (Value.int .i64)=layV (ys.map (.int .i64)) off [.int .i64 a0,.int .i64 a1,.int .i64 a2,.int .i64 a3,.int .i64 a4,.int .i64 a5,.int .i64 a6,.int .i64 a7]:=by
   have:=layV_map (q:=.i64) (ys:=ys) (x:=(ys.drop off).take 8) (off:=off)
   rw [layI_self ho,hd] at this;exact this.symm
  rw [hy]
  exact bsm okZ1 Try.func94 (r94 hB hl ha (by rw [List.length_map];exact ho) (fun x s' E' hE hq hs=>by rw [layV_map];exact hKK x s' E' hE ⟨hq⟩ hs) (fun _ _ _ q=>q))
 ·obtain ⟨x0,x1,rfl,h1⟩:=d2_elim h
  obtain ⟨cc,r,b,l,c,s,zs,rfl,hc,hr,hB,hl,ha,h2⟩:=crS_elim h1
  obtain ⟨p,off,e,ys,t,rfl,hp,ho,n1,n2,hx,hk⟩:=vAt_elim h2
  refine reFrame (q:=.i64) (F:=fun o=>RdE 68 zs s o.1 o.2) hr hp hc n1 n2 (fun KK hKK=>?_) hk
  obtain ⟨a0,hd⟩:∃ a0:Int,(ys.drop off).take 1=[a0]:=by
   have e1:((ys.drop off).take 1).length=1:=by rw [List.length_take,List.length_drop];omega
   generalize (ys.drop off).take 1=w at e1
   match w,e1 with
   | [a0],_=>exact ⟨a0,rfl⟩
  have hy:ys.map (Value.int .i64)=layV (ys.map (.int .i64)) off [.int .i64 a0]:=by
   have:=layV_map (q:=.i64) (ys:=ys) (x:=(ys.drop off).take 1) (off:=off)
   rw [layI_self ho,hd] at this;exact this.symm
  rw [hy]
  exact bsm okZ1 Try.func68 (r68 hB hl ha (by rw [List.length_map];exact ho) (fun x s' E' hE hq hs=>by rw [layV_map];exact hKK x s' E' hE ⟨hq⟩ hs) (fun _ _ _ q=>q))
 ·obtain ⟨x0,x1,rfl,h1⟩:=d2_elim h
  obtain ⟨cc,r,b,l,c,s,zs,rfl,hc,hr,hB,hl,ha,h2⟩:=crS_elim h1
  obtain ⟨p,off,e,ys,t,rfl,hp,ho,n1,n2,hx,hk⟩:=vAt_elim h2
  refine reFrame (q:=.u64) (F:=fun o=>RdE 96 zs s o.1 o.2) hr hp hc n1 n2 (fun KK hKK=>?_) hk
  obtain ⟨a0,hd⟩:∃ a0:Int,(ys.drop off).take 1=[a0]:=by
   have e1:((ys.drop off).take 1).length=1:=by rw [List.length_take,List.length_drop];omega
   generalize (ys.drop off).take 1=w at e1
   match w,e1 with
   | [a0],_=>exact ⟨a0,rfl⟩
  have e0:a0=0:=by
   have h0:=hx.2
   rw [List.getD_eq_getElem?_getD,← Nat.add_zero off,← List.getElem?_drop] at h0
   have h3:((ys.drop off).take 1)[0]? =(ys.drop off)[0]?:=by rw [List.getElem?_take];rfl
   rw [hd] at h3
   rw [← h3] at h0;exact h0
  subst e0
  have hy:ys.map (Value.int .u64)=layV (ys.map (.int .u64)) off [.int .u64 0]:=by
   have:=layV_map (q:=.u64) (ys:=ys) (x:=(ys.drop off).take 1) (off:=off)
   rw [layI_self ho,hd] at this;exact this.symm
  rw [hy]
  exact bsm okZ1 Try.func96 (r96 (a0:=0) hB hl ha (by rw [List.length_map];exact ho) (fun x s' E' hE hq hs=>by rw [layV_map];exact hKK x s' E' hE ⟨hq⟩ hs) (fun _ _ _ q=>q))
 ·exact h.elim
noncomputable def tabBRL:CallT:=fun f args bx E K=>if 118<=f then tabBR f args bx E K else tabBRE f args bx E K
theorem tabBRL_ok:∀ f args bx E K,tabBRL f args bx E K->CallSem Try.prog f args bx E K:=by
 intro f args bx E K h
 unfold tabBRL at h
 split at h
 ·exact tabBR_ok _ _ _ _ _ h
 ·exact tabBRE_ok _ _ _ _ _ h
end Go.Proofs.Ytnjmojacdkjfoaa.BeaconOwn
