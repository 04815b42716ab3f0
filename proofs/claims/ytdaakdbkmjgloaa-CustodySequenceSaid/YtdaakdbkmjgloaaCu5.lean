/- What functions of the program compute; plain lemmas on it. Conditions: none. -/
import Derived.Test.YtdaakdbkmjgloaaCg15
import Derived.Test.YtdaakdbkmjgloaaSyBB
namespace Go.Proofs.Ytdaakdbkmjgloaa.CustodyOwn
open Go Go.Sx
set_option maxRecDepth 100000
set_option maxHeartbeats 4000000
set_option linter.unusedVariables false
set_option linter.unusedSimpArgs false
variable {E:Mem} {K:SV->Mem->Prop}
theorem CallSem.wr3 {P:Program} {f:FuncId} {bx:List Box} {iw ij ir:Nat} {cs:List Value} {vs:List Value} {tot n cap:Nat} {args args':List SV} {E:Mem} {K:KT} (hw:bx[iw]? =some ⟨97,.lst [.slc ir 0 n cap],1,true⟩) (hj:bx[ij]? =some ⟨84,.lst (cs.map .raw),7,true⟩) (hb:bx[ir]? =some ⟨24,.vals vs,tot,true⟩) (hne:iw≠ij/\iw≠ir/\ij≠ir) (ha:args=SV.renL [iw,ij,ir] bx.length args')
  (h:CallSem P f args' [⟨97,.lst [.slc 2 0 n cap],1,true⟩,⟨84,.lst (cs.map .raw),7,true⟩,⟨24,.vals vs,tot,true⟩] E (cloK 3 fun s bx' E'=>∃ k n' cap' vs' tot',s=I k/\bx'=[⟨97,.lst [.slc 3 0 n' cap'],1,true⟩,⟨84,.lst (cs.map .raw),7,true⟩,⟨24,.lst [],0,false⟩,⟨24,.vals vs',tot',true⟩]/\K (I k) ((bx.set iw ⟨97,.lst [.slc bx.length 0 n' cap'],1,true⟩).set ir ⟨24,.lst [],0,false⟩++[⟨24,.vals vs',tot',true⟩]) E')):
  CallSem P f args bx E K:=by
 obtain ⟨h1,h2,h3⟩:=hne
 have rawr:∀ (l:List Value) (σ:List Nat) (m:Nat),SV.renL σ m (l.map .raw)=l.map .raw:=fun l σ m=>renL_of_val σ m (l.map .raw) (vs:=l) (by induction l with |nil=>rfl|cons x l ih=>simp [SV.valL,SV.val,ih])
 refine frame (σ:=[iw,ij,ir]) ⟨by simp [h1,h2,h3],rfl,fun i y hy=>?_⟩ ha h.clo ?_
 ·match i,hy with
  | 0,hy=>
   simp only [List.getElem?_cons_zero,Option.some.injEq] at hy;subst hy
   exact ⟨rfl,iw,rfl,hw⟩
  | 1,hy=>
   simp only [List.getElem?_cons_succ,List.getElem?_cons_zero,Option.some.injEq] at hy;subst hy
   refine ⟨rfl,ij,rfl,?_⟩
   rw [hj];simp [Box.ren,Row.ren,rawr]
  | 2,hy=>
   simp only [List.getElem?_cons_succ,List.getElem?_cons_zero,Option.some.injEq] at hy;subst hy
   exact ⟨rfl,ir,rfl,hb⟩
 ·rintro s bxs' E' ⟨k,n',cap',vs',tot',rfl,rfl,hK⟩
  have e2:∀ y,(bx.set iw y).set ij ⟨84,.lst (cs.map .raw),7,true⟩=bx.set iw y:=fun y=>by
   apply List.ext_getElem?
   intro i
   rw [List.getElem?_set]
   split
   ·rename_i h';subst h'
    rw [List.getElem?_set_ne h1,hj]
    have hlt:ij<bx.length:=(List.getElem?_eq_some_iff.1 hj).1
    simp only [List.length_set,hlt,if_true]
   ·rfl
  simpa [merge,setAll,SV.ren,renF,Box.ren,Row.ren,SV.renL,rawr,e2] using hK
noncomputable def tabI:CallT:=fun f args bx E K=>match f with
  | 39=>tabB29 39 args bx E K
  | 48=>tabW 48 args bx E K
  | 71=>d2 args fun x0 x1=>dS x0 fun b l c=>match x1 with
    | .clo 60 [] []=>∃ zs:List Int,(Bs E b l c zs/\l<=100000)/\∀ r:Int,Hyp (decide (r>=0)=(!(zs.all (fun x=>decide (x=255)))))->K (I r) bx E
    | _=>False
  | 47=>d3 args fun x0 x1 x2=>dS x2 fun kb kn kc=>match x0 with
    | .loc iw 0=>match x1 with
      | .loc ij 0=>match bx[iw]? with
        | some ⟨97,.lst [.slc ir 0 1 cap],1,true⟩=>match bx[ir]? with
          | some ⟨e1,r,tot,true⟩=>match r.val with
            | some vs=>∃ (s g:Int) (b lb:Option Addr) (l c a ln lc e:Nat) (zs:List Int) (rs:List FRow) (keep:List (List Int)),((iw≠ij/\iw≠ir/\ij≠ir)/\bx[ij]? =some ⟨84,.lst [I s,L b l c,I (a:Nat),I (areaF s zs.length:Nat),I g,L lb ln lc,I (e:Nat)],7,true⟩/\e1=24/\vs=rs.flatMap rowV/\FLr E rs [(s,zs)]/\(∀ z∈zs,0<=z/\z<=255)/\(1<=cap/\cap*2<=tot)/\areaF s zs.length≠0/\usedF (areaF s zs.length) zs=((a:Int),g)/\BL E kb kn kc keep/\kn<=1000/\5+needF keep<=areaF s zs.length)/\
               ∀ (n' cap' tot':Nat) (rs':List FRow) (E':Mem),Mem.le E E'->FLr E' rs' (rewL s zs (areaF s zs.length) a g keep)->Hyp ((rewL s zs (areaF s zs.length) a g keep).length=n')->n'<=cap'/\cap'*2<=tot'->K (I (areaF s zs.length-a+5+needF keep:Nat)) ((bx.set iw ⟨97,.lst [.slc bx.length 0 n' cap'],1,true⟩).set ir ⟨24,.lst [],0,false⟩++[⟨24,.vals (rs'.flatMap rowV),tot',true⟩]) E'
            | none=>False
          | _=>False
        | _=>False
      | _=>False
    | _=>False
  | _=>False
theorem tabI_ok:∀ f args bx E K,tabI f args bx E K->CallSem Try.prog f args bx E K:=by
 intro f args bx E K h
 unfold tabI at h
 split at h
 ·exact tabB29_ok _ _ _ _ _ h
 ·exact tabW_ok _ _ _ _ _ h
 ·obtain ⟨x0,x1,rfl,h1⟩:=d2_elim h
  obtain ⟨b,l,c,rfl,h2⟩:=dS_elim h1
  clear h h1
  split at h2
  case h_2=>exact h2.elim
  obtain ⟨zs,⟨hz,hl⟩,hK⟩:=h2
  refine frame (σ:=[]) (args':=[L b l c,.clo 60 [] []]) ⟨List.nodup_nil,rfl,fun i b h=>by simp at h⟩ (by simp [SV.renL,SV.ren]) (bsm okKE Try.func71 (b63 (KK:=fun s bx' E'=>∃ r,s=I r/\bx'=[]/\K (I r) bx E') hz hl fun r hr=>⟨r,rfl,rfl,hK r hr⟩)) ?_
  rintro s bxs' E' ⟨r,rfl,rfl,hK⟩
  simpa [merge,setAll,SV.ren] using hK
 ·obtain ⟨x0,x1,x2,rfl,h1⟩:=d3_elim h
  obtain ⟨kb,kn,kc,rfl,h3⟩:=dS_elim h1
  clear h h1
  split at h3
  case h_2=>exact h3.elim
  rename_i iw
  split at h3
  case h_2=>exact h3.elim
  rename_i ij
  split at h3
  case h_2=>exact h3.elim
  rename_i ir cap hw
  split at h3
  case h_2=>exact h3.elim
  rename_i e1 r tot hb
  split at h3
  case h_2=>exact h3.elim
  rename_i vs hr
  obtain ⟨s,g,b,lb,l,c,a,ln,lc,e,zs,rs,keep,⟨hne,hj,rfl,rfl,R,hzb,hc,hA,hu,hk,hkn,hroom⟩,hK⟩:=h3
  refine CallSem.asV hb hr ?_
  have hlt:ir<bx.length:=(List.getElem?_eq_some_iff.1 hb).1
  have hb2:(bx.set ir ⟨24,.vals (rs.flatMap rowV),tot,true⟩)[ir]? =some ⟨24,.vals (rs.flatMap rowV),tot,true⟩:=by rw [List.getElem?_set_self hlt]
  have hw2:(bx.set ir ⟨24,.vals (rs.flatMap rowV),tot,true⟩)[iw]? =some ⟨97,.lst [.slc ir 0 1 cap],1,true⟩:=by rw [List.getElem?_set_ne (Ne.symm hne.2.1)];exact hw
  have hj2:(bx.set ir ⟨24,.vals (rs.flatMap rowV),tot,true⟩)[ij]? =some ⟨84,.lst (([.int .i64 s,.slice b l c,.int .i64 (a:Nat),.int .i64 (areaF s zs.length:Nat),.int .i64 g,.slice lb ln lc,.int .i64 (e:Nat)]:List Value).map .raw),7,true⟩:=by rw [List.getElem?_set_ne (Ne.symm hne.2.2)];exact hj
  refine CallSem.wr3 (args':=[.loc 0 0,.loc 1 0,L kb kn kc]) hw2 hj2 hb2 hne (by simp [SV.renL,SV.ren,renF]) (bsm okKD Try.func47 (b33 (b:=b) (lb:=lb) (l:=l) (c:=c) (ln:=ln) (lc:=lc) (e:=e) R hzb hc hA hu hk hkn hroom fun n' cap' tot' rs' E' h1 h2 h3 h4=>?_))
  refine cloK_intro [some 0,some 1,some 2,some 7] ⟨_,n',cap',_,tot',rfl,rfl,?_⟩ (wkG mr_ (h6:=(by repeat' first|exact True.intro|exact rfl|exact Or.inl rfl|exact (by decide:2<8)|refine And.intro ?_ ?_)))
  have:=hK n' cap' tot' rs' E' h1 h2 h3 h4
  rw [List.length_set,List.set_comm _ _ (Ne.symm hne.2.1),List.set_set]
  exact this
 ·exact h.elim
noncomputable def KI:Cx:={ P:=Try.prog,inl:=fun f=>List.contains [45,46,58,59,61] f,tab:=fun _ _ _ _=>False,isB:=fun f=>f==39||f==47||f==48||f==71,tabB:=tabI,opt:={ unroll:=0,carry:=[8,22],cuts:=[7] },muts:=(fun o=>match o with | .call { callee:=.value (.func 45),.. }=>true| .call { callee:=.value (.func 59),.. }=>true| .call { callee:=.value (.func 58),.. }=>true| .call { callee:=.value (.func 61),.. }=>true|o=>mutsD o) }
theorem okKI:CxOK KI:=CxOK.four (fun _ _ _ _ h=>h.elim) (by kernel_rfl) (okInl (by kernel_rfl)) tabI_ok
noncomputable def KJ:Cx:={ P:=Try.prog,inl:=fun f=>List.contains [45,46,58,59,61] f,tab:=fun _ _ _ _=>False,isB:=fun f=>f==39||f==47||f==48||f==71,tabB:=tabI,opt:={ unroll:=0,carry:=[8,22],cuts:=[13] },muts:=(fun o=>match o with | .call { callee:=.value (.func 45),.. }=>true| .call { callee:=.value (.func 59),.. }=>true| .call { callee:=.value (.func 58),.. }=>true| .call { callee:=.value (.func 61),.. }=>true|o=>mutsD o) }
theorem okKJ:CxOK KJ:=CxOK.four (fun _ _ _ _ h=>h.elim) (by kernel_rfl) (okInl (by kernel_rfl)) tabI_ok
theorem readF_nil {s:Int} {zs:List Int} (h:(openF s zs).2≠0):(openF s zs).1.1=[]:=by
 by_cases h1:areaF s zs.length=0
 ·rw [openF_arg h1]
 obtain ⟨u,g,hu⟩:∃ u g,usedF (areaF s zs.length) zs=(u,g):=⟨_,_,rfl⟩
 by_cases h2:u<0
 ·rw [openF_none h1 hu h2]
 obtain ⟨a,rfl⟩:∃ a:Nat,u=a:=⟨u.toNat,by omega⟩
 cases h3:parseF (recsB (areaF s zs.length) a zs) with
 | none=>rw [openF_sum h1 hu h3]
 | some q=>rw [openF_ok h1 hu h3] at h;exact absurd rfl h
theorem clean_eq {h a e:Nat} {zs:List Int}:((((zs.drop a).take h).drop e).all (fun x=>decide (x=255)))=cleanF h a e zs:=by
 unfold cleanF
 rw [List.drop_take,List.drop_drop]
theorem open_facts {s:Int} {zs:List Int} {yss:List (List Int)} {a e:Nat} {g:Int} (ro:openF s zs=((yss,a,g,e),0)):areaF s zs.length≠0/\usedF (areaF s zs.length) zs=((a:Int),g)/\(a=0\/a=areaF s zs.length)/\needF yss+5=e/\e<=areaF s zs.length/\11*yss.length<=needF yss/\2*areaF s zs.length=zs.length/\16<=areaF s zs.length/\zs.length<=16384/\validF s zs.length:=by
 obtain ⟨ls,a',n,g',hA,hu,hp,ho⟩:=openF_inv (s:=s) (zs:=zs) (by rw [ro])
 rw [ro] at ho
 simp only [Prod.mk.injEq,and_true] at ho
 obtain ⟨rfl,rfl,rfl,rfl⟩:=ho
 obtain ⟨a1',hv,a3,a4,a5,a6⟩:=areaF_ok hA
 have hn:=parseF_len hp
 have ha:=used_ok hu
 rw [recs_len (by omega)] at hn
 have hnd:=parseF_need hp
 have:=needF_ge yss
 exact ⟨hA,hu,ha,by omega,by omega,this,a5,by omega,a6,hv⟩
theorem clean_intro {E:Mem} {b:Option Addr} {l c h a e:Nat} {zs:List Int} (hz:Bs E b l c zs) (hah:a+h<=l) (hl:l<=16384) (he:e<=h) {Q:Mem->Int->Prop} (k:∀ (E':Mem) (r:Int),Mem.le E E'->decide (r>=0)=(!(cleanF h a e zs))->Q E' r):
  req (l<=c) (req (0<=IntKind.wrap .i64 ((a:Int)+(h:Int))/\IntKind.wrap .i64 ((a:Int)+(h:Int))<=(c:Int)) (req (0<=IntKind.wrap .i64 ((a:Int)+(h:Int))/\IntKind.wrap .i64 ((a:Int)+(h:Int))<=((toN (some (IntKind.wrap .i64 ((a:Int)+(h:Int)))) c:Nat):Int)) (req (0<=(a:Int)/\(a:Int)<=((toN (some (IntKind.wrap .i64 ((a:Int)+(h:Int)))) l:Nat):Int)) (∀ (b':Option Addr) (E':Mem),Mem.le E E'->
   (∀ cs:List Value,E (.slice b l c) cs->E' (.slice b' (toN (some (IntKind.wrap .i64 ((a:Int)+(h:Int)))) l-toN (some (a:Int)) 0) (toN (some (IntKind.wrap .i64 ((a:Int)+(h:Int)))) c-toN (some (a:Int)) 0)) (List.take ((toN (some (IntKind.wrap .i64 ((a:Int)+(h:Int)))) l-toN (some (a:Int)) 0)*1) (List.drop (toN (some (a:Int)) 0*1) cs)))->b'.isNone=b.isNone->
    req (toN (some (IntKind.wrap .i64 ((a:Int)+(h:Int)))) l-toN (some (a:Int)) 0<=toN (some (IntKind.wrap .i64 ((a:Int)+(h:Int)))) c-toN (some (a:Int)) 0) (req (0<=(e:Int)/\(e:Int)<=((toN none (toN (some (IntKind.wrap .i64 ((a:Int)+(h:Int)))) l-toN (some (a:Int)) 0):Nat):Int)) (∀ (b2:Option Addr) (E2:Mem),Mem.le E' E2->
     (∀ cs:List Value,E' (.slice b' (toN (some (IntKind.wrap .i64 ((a:Int)+(h:Int)))) l-toN (some (a:Int)) 0) (toN (some (IntKind.wrap .i64 ((a:Int)+(h:Int)))) c-toN (some (a:Int)) 0)) cs->E2 (.slice b2 (toN none (toN (some (IntKind.wrap .i64 ((a:Int)+(h:Int)))) l-toN (some (a:Int)) 0)-toN (some (e:Int)) 0) (toN none (toN (some (IntKind.wrap .i64 ((a:Int)+(h:Int)))) c-toN (some (a:Int)) 0)-toN (some (e:Int)) 0)) (List.take ((toN none (toN (some (IntKind.wrap .i64 ((a:Int)+(h:Int)))) l-toN (some (a:Int)) 0)-toN (some (e:Int)) 0)*1) (List.drop (toN (some (e:Int)) 0*1) cs)))->b2.isNone=b'.isNone->
      ∃ zs':List Int,(Bs E2 b2 (toN none (toN (some (IntKind.wrap .i64 ((a:Int)+(h:Int)))) l-toN (some (a:Int)) 0)-toN (some (e:Int)) 0) (toN none (toN (some (IntKind.wrap .i64 ((a:Int)+(h:Int)))) c-toN (some (a:Int)) 0)-toN (some (e:Int)) 0) zs'/\toN none (toN (some (IntKind.wrap .i64 ((a:Int)+(h:Int)))) l-toN (some (a:Int)) 0)-toN (some (e:Int)) 0<=100000)/\
       ∀ r:Int,Hyp (decide (r>=0)=(!(zs'.all (fun x=>decide (x=255)))))->Q E2 r)))))):=by
 have hzl:=hz.2.1
 have e1:IntKind.wrap .i64 ((a:Int)+(h:Int))=((a+h:Nat):Int):=by rw [wrap_i64 (by omega)];omega
 rw [e1]
 refine slice_introM hz (lo:=a) (hi:=a+h) rfl rfl (by omega) (by omega) (fun b' E' q hB hl=>?_) Bs.subM
 rw [show a+h-a=h by omega] at hB hl
 rw [hl] at hB ⊢
 refine slice_introE hB (lo:=e) rfl he fun b2 E2 k2 hB2 hl2=>⟨_,⟨hB2,by omega⟩,fun r hr=>k E2 r (mt_ q k2) ?_⟩
 rw [← clean_eq];exact hr
theorem j15 {a1:Int} {b2:Option Addr} {l3:Nat} {c4:Nat} {zs:List Int} (h0:Bs E b2 l3 c4 zs) (h:∀ (b':Option Addr) (l' c':Nat) (yss:List (List Int)) (e:Int) (E':Mem),Mem.le E E'->Hyp (readF a1 zs=(yss,e))->BL E' b' l' c' yss->K (.tup [L b' l' c',I e]) E'):
  Ent KI 8 Try.f29 [.agg [I a1,L b2 l3 c4]] E K:=by
 refine sm_ (?_:∃ (zs:List Int),Bs E b2 l3 c4 zs/\(∀ (e:Int) (E':Mem),Mem.le E E'->Hyp ((openF a1 zs).snd=e)->(e=(0:Int)->False)->Mem.le E E'/\bif e !=(0:Int) then Mem.le E E'/\K (SV.tup [L none 0 0,I e]) E' else False)/\∀ (yss:List (List Int)) (a:Nat) (g:Int) (h e:Nat) (lb:Option Addr) (ln lc:Nat) (E':Mem),Mem.le E E'->Hyp (areaF a1 l3=h)->Hyp (openF a1 zs=((yss,a,g,e),(0:Int)))->BL E' lb ln lc yss->Mem.le E E'/\Mem.le E E'/\K (SV.tup [L lb ln lc,I (0:Int)]) E')
 refine ⟨zs,h0,fun e E1 k1 r1 ne=>⟨k1,condC (fun _=>⟨k1,h none 0 0 [] e E1 k1 ?_ SL.nil⟩) (fun q=>absurd (show e=0 by simpa using q) ne)⟩,fun yss a g hh e lb ln lc E1 k1 rA ro B1=>⟨k1,k1,h lb ln lc yss 0 E1 k1 ?_ B1⟩⟩
 ·have r1:(openF a1 zs).2=e:=r1
  show readF a1 zs=_
  unfold readF
  rw [r1,readF_nil (fun q=>ne (by rw [← r1,q]))]
 ·have ro:openF a1 zs=((yss,a,g,e),0):=ro
  show readF a1 zs=_
  unfold readF
  rw [ro]
def z17 (s g:Int) (b lb:Option Addr) (l c a h ln lc e:Nat) (d:Option Addr) (dl dc:Nat) (rb:Option Addr) (rl rc x:Nat) (E:Mem):St:=⟨[none,oL d dl dc,none,none,none,none,oc 0 0,none,oc 2 0,oI (x:Nat),none,none,none,none,none,none,none,none,none,none,none,none,none,none,none,none,none,none,none,none,none,none,none,none,none,none,none,none,none,none,none,none,none,none,none,none,none,none,none,none,none,none,none,none,none,none,none,none,none,none,none,none,none,none,none,none,none,none,none,none,none,none],[⟨84,.lst [I s,L b l c,I (a:Nat),I (h:Nat),I g,L lb ln lc,I (e:Nat)],7,true⟩,⟨24,.lst [I s,L rb rl rc],2,true⟩,⟨97,.lst [.slc 1 0 1 1],1,true⟩],E⟩
def z19 (s g:Int) (b lb:Option Addr) (l c a h ln lc e:Nat) (kb:Option Addr) (kn kc:Nat) (rb:Option Addr) (rl rc:Nat) (E:Mem):St:=⟨[none,oL kb kn kc,none,none,none,none,oc 0 0,none,none,none,none,oc 2 0,none,none,none,none,none,none,none,none,none,none,none,none,none,none,none,none,none,none,none,none,none,none,none,none,none,none,none,none,none,none,none,none,none,none,none,none,none,none,none,none,none,none,none],[⟨84,.lst [I s,L b l c,I (a:Nat),I (h:Nat),I g,L lb ln lc,I (e:Nat)],7,true⟩,⟨24,.lst [I s,L rb rl rc],2,true⟩,⟨97,.lst [.slc 1 0 1 1],1,true⟩],E⟩
theorem y17 {s g:Int} {b lb:Option Addr} {c a ln lc e:Nat} {d:Option Addr} {dl dc:Nat} {rb:Option Addr} {rl rc x:Nat} {E0:Mem} {zs ds:List Int} {yss:List (List Int)} (hz:Bs E b zs.length c zs) (hr:Bs E rb rl rc zs) (ro:openF s zs=((yss,a,g,e),0)) (hB:BL E lb ln lc yss) (hd:Bs E d dl dc ds) (hroom:e+dl+11<=areaF s zs.length) (hx:x=a+e) (hdl:dl<=60000)
  (hg:cleanF (areaF s zs.length) a e zs=false->¬ g=4294967295) (hE:Mem.le E0 E)
  (ex:∀ (ms:List (Int×List Int)),appendF s zs ds=(ms,0)->∀ (b':Option Addr) (l' c':Nat) (E':Mem),Mem.le E0 E'->FL E' b' l' c' ms->K (.tup [L b' l' c',I 0]) E'):Pc KI 8 Try.f35 [1,1,1,1,1] 0 (pubK E0 K) (z17 s g b lb zs.length c a (areaF s zs.length) ln lc e d dl dc rb rl rc x E):=by
 refine sm_ (?_:Sx.Alike al2 (req (List.length zs<=c) (req ((0:Int)<=WI ((NI a)+(NI (areaF s (List.length zs))))/\WI ((NI a)+(NI (areaF s (List.length zs))))<=(NI c)) (req ((0:Int)<=WI ((NI a)+(NI (areaF s (List.length zs))))/\WI ((NI a)+(NI (areaF s (List.length zs))))<=(NI (toN (some (WI ((NI a)+(NI (areaF s (List.length zs)))))) c))) (req (0<=(NI a)/\(NI a)<=(NI (toN (some (WI ((NI a)+(NI (areaF s (List.length zs)))))) (List.length zs)))) (∀ (base':Option Addr) (E':Mem),Mem.le E E'->(∀ (cs:List Value),E (VS b (List.length zs) c) cs->E' (VS base' (toN (some (WI ((NI a)+(NI (areaF s (List.length zs)))))) (List.length zs)-toN (some (NI a)) 0) (toN (some (WI ((NI a)+(NI (areaF s (List.length zs)))))) c-toN (some (NI a)) 0)) (List.take ((toN (some (WI ((NI a)+(NI (areaF s (List.length zs)))))) (List.length zs)-toN (some (NI a)) 0)*1) (List.drop (toN (some (NI a)) 0*1) cs)))->Option.isNone base'=Option.isNone b->req (toN (some (WI ((NI a)+(NI (areaF s (List.length zs)))))) (List.length zs)-toN (some (NI a)) 0<=toN (some (WI ((NI a)+(NI (areaF s (List.length zs)))))) c-toN (some (NI a)) 0) (req (0<=(NI e)/\(NI e)<=(NI (toN none (toN (some (WI ((NI a)+(NI (areaF s (List.length zs)))))) (List.length zs)-toN (some (NI a)) 0)))) (∀ (base'_1:Option Addr) (E'_1:Mem),Mem.le E' E'_1->(∀ (cs:List Value),E' (VS base' (toN (some (WI ((NI a)+(NI (areaF s (List.length zs)))))) (List.length zs)-toN (some (NI a)) 0) (toN (some (WI ((NI a)+(NI (areaF s (List.length zs)))))) c-toN (some (NI a)) 0)) cs->E'_1 (VS base'_1 (toN none (toN (some (WI ((NI a)+(NI (areaF s (List.length zs)))))) (List.length zs)-toN (some (NI a)) 0)-toN (some (NI e)) 0) (toN none (toN (some (WI ((NI a)+(NI (areaF s (List.length zs)))))) c-toN (some (NI a)) 0)-toN (some (NI e)) 0)) (List.take ((toN none (toN (some (WI ((NI a)+(NI (areaF s (List.length zs)))))) (List.length zs)-toN (some (NI a)) 0)-toN (some (NI e)) 0)*1) (List.drop (toN (some (NI e)) 0*1) cs)))->Option.isNone base'_1=Option.isNone base'->∃ (zs_1:List Int),(Bs E'_1 base'_1 (toN none (toN (some (WI ((NI a)+(NI (areaF s (List.length zs)))))) (List.length zs)-toN (some (NI a)) 0)-toN (some (NI e)) 0) (toN none (toN (some (WI ((NI a)+(NI (areaF s (List.length zs)))))) c-toN (some (NI a)) 0)-toN (some (NI e)) 0) zs_1/\toN none (toN (some (WI ((NI a)+(NI (areaF s (List.length zs)))))) (List.length zs)-toN (some (NI a)) 0)-toN (some (NI e)) 0<=100000)/\∀ (r:Int),Hyp (decide (r>=(0:Int))= !List.all zs_1 fun (x:Int)=>decide (x=(255:Int)))->bif !!decide (r>=(0:Int)) then ∃ (s_1:Int),∃ (g_1:Int),∃ (b_1:Option Addr),∃ (lb_1:Option Addr),∃ (l:Nat),∃ (c_1:Nat),∃ (a_8:Nat),∃ (ln_1:Nat),∃ (lc_1:Nat),∃ (e_1:Nat),∃ (zs_2:List Int),∃ (rs:List FRow),∃ (keep:List (List Int)),(((2=0->False)/\(2=1->False)/\(0=1->False))/\some (⟨84,.lst [I s,L b (List.length zs) c,I (NI a),I (NI (areaF s (List.length zs))),I g,L lb ln lc,I (NI e)],7,true⟩:Box)=some (⟨84,.lst [I s_1,L b_1 l c_1,I (NI a_8),I (NI (areaF s_1 (List.length zs_2))),I g_1,L lb_1 ln_1 lc_1,I (NI e_1)],7,true⟩:Box)/\24=24/\[Value.int IntKind.i64 s,VS rb rl rc]=List.flatMap rowV rs/\FLr E'_1 rs [(s_1,zs_2)]/\(∀ (z:Int),List.Mem z zs_2->(0:Int)<=z/\z<=(255:Int))/\(1<=1/\2<=2)/\(areaF s_1 (List.length zs_2)=0->False)/\usedF (areaF s_1 (List.length zs_2)) zs_2=((NI a_8),g_1)/\BL E'_1 lb ln lc keep/\ln<=1000/\5+needF keep<=areaF s_1 (List.length zs_2))/\∀ (n' cap' tot':Nat) (rs':List FRow) (E':Mem),Mem.le E'_1 E'->FLr E' rs' (rewL s_1 zs_2 (areaF s_1 (List.length zs_2)) a_8 g_1 keep)->Hyp (List.length (rewL s_1 zs_2 (areaF s_1 (List.length zs_2)) a_8 g_1 keep)=n')->n'<=cap'/\cap'*2<=tot'->∃ (rs:List FRow),∃ (ms:List (Int×List Int)),∃ (ds:List Int),((2=3->False)/\24=24/\List.flatMap rowV rs'=List.flatMap rowV rs/\FLr E' rs ms/\List.length ms=n'/\(n'<=cap'/\cap'*2<=tot')/\(1<=n'/\n'<=(100000000000:Nat))/\Bs E' d dl dc ds/\validF (lastM ms).fst (List.length (lastM ms).snd)/\0<=(NI (areaF s_1 (List.length zs_2)-a_8+(5:Nat)+needF keep))/\Int.toNat (NI (areaF s_1 (List.length zs_2)-a_8+(5:Nat)+needF keep))+dl+(11:Nat)<=List.length (lastM ms).snd)/\∀ (n' cap' tot':Nat) (rs':List FRow) (E'_2:Mem),Mem.le E' E'_2->FLr E'_2 rs' (writeL ms (Int.toNat (NI (areaF s_1 (List.length zs_2)-a_8+5+needF keep))) ds)->Hyp (List.length (writeL ms (Int.toNat (NI (areaF s_1 (List.length zs_2)-a_8+(5:Nat)+needF keep))) ds)=n')->n'<=cap'/\cap'*2<=tot'->∀ (base:Option Addr) (E':Mem),Mem.le E'_2 E'->WinE E' base (List.flatMap rowV rs')->Mem.le E0 E'/\K (SV.tup [L (Option.map (fun (x:Addr)=>Addr.add x 0) base) n' cap',I 0]) E' else ∃ (rs:List FRow),∃ (ms:List (Int×List Int)),∃ (ds:List Int),((2=1->False)/\24=24/\[Value.int IntKind.i64 s,VS rb rl rc]=List.flatMap rowV rs/\FLr E'_1 rs ms/\List.length ms=1/\(1<=1/\2<=2)/\(1<=1/\1<=100000000000)/\Bs E'_1 d dl dc ds/\validF (lastM ms).fst (List.length (lastM ms).snd)/\0<=(NI x)/\Int.toNat (NI x)+dl+11<=List.length (lastM ms).snd)/\∀ (n' cap' tot':Nat) (rs':List FRow) (E':Mem),Mem.le E'_1 E'->FLr E' rs' (writeL ms (Int.toNat (NI x)) ds)->Hyp (List.length (writeL ms (Int.toNat (NI x)) ds)=n')->n'<=cap'/\cap'*2<=tot'->∀ (base:Option Addr) (E'_2:Mem),Mem.le E' E'_2->WinE E'_2 base (List.flatMap rowV rs')->Mem.le E0 E'_2/\K (SV.tup [L (Option.map (fun (x:Addr)=>Addr.add x 0) base) n' cap',I 0]) E'_2))))))))
 delta WI NI VS
 obtain ⟨hA,hu,ha,hn5,heh,hcnt,h2h,h16,hl16,hv⟩:=open_facts ro
 have hdd:=hd.2.1
 have hBl:=hB.len
 have eqA:=appendF_eq ds ro
 refine alike (clean_intro hz (by omega) (by omega) heh fun E1 r k1 hr1=>?_)
 rw [hr1]
 cases hcl:cleanF (areaF s zs.length) a e zs with
 | false=>
  refine condC (fun _=>?_) (fun z=>by cases z)
  have q2:=hg hcl
  obtain ⟨w1,w2,w3⟩:=rewL_ok (g:=g) (keep:=yss) hA ha (by omega)
  refine ⟨s,g,b,lb,_,c,a,ln,lc,e,zs,[(s,rb,rl,rc)],yss,⟨⟨by decide,by decide,by decide⟩,rfl,rfl,rfl,(FLr.nil E1).snoc (r:=(s,rb,rl,rc)) (m:=(s,zs)) rfl (hr.mono k1),hz.2.2.2.1,⟨by omega,by omega⟩,hA,hu,hB.mono RB_ok k1,by omega,by omega⟩,fun n1 cap1 tot1 rs1 E2 k2 R2 n2 c2=>?_⟩
  have n2:(rewL s zs (areaF s zs.length) a g yss).length=n1:=n2
  have ek:areaF s zs.length-a+5+needF yss=areaF s zs.length-a+e:=by omega
  refine ⟨rs1,_,ds,⟨by decide,rfl,rfl,R2,n2,c2,⟨by omega,by omega⟩,hd.mono (mt_ k1 k2),by rw [w1,w2];exact hv,by omega,by rw [Int.toNat_natCast,w2];omega⟩,fun n3 cap3 tot3 rs3 E3 k3 R3 n3' c3 base E4 k4 w4=>?_⟩
  rw [Int.toNat_natCast,ek] at R3 n3'
  have kE:Mem.le E0 E4:=mt_ hE (mt_ k1 (mt_ k2 (mt_ k3 k4)))
  exact ⟨kE,ex _ (by rw [eqA,if_neg (by rw [hcl];rintro (z|z);omega;exact q2 z.2),if_neg (by rw [hcl];simp)]) _ _ _ E4 kE (FL.win w4 rfl (R3.mono k4) n3' c3.1)⟩
 | true=>
  refine condC (fun z=>by cases z) (fun _=>?_)
  refine ⟨[(s,rb,rl,rc)],[(s,zs)],ds,⟨by decide,rfl,rfl,(FLr.nil E1).snoc (r:=(s,rb,rl,rc)) (m:=(s,zs)) rfl (hr.mono k1),rfl,⟨by omega,by omega⟩,⟨by omega,by omega⟩,hd.mono k1,hv,by omega,by rw [Int.toNat_natCast];show _<=zs.length;omega⟩,fun n3 cap3 tot3 rs3 E3 k3 R3 n3' c3 base E4 k4 w4=>?_⟩
  rw [Int.toNat_natCast,hx] at R3 n3'
  have kE:Mem.le E0 E4:=mt_ hE (mt_ k1 (mt_ k3 k4))
  exact ⟨kE,ex _ (by rw [eqA,if_neg (by rw [hcl];rintro (z|z);omega;exact absurd z.1 (by simp)),if_pos hcl]) _ _ _ E4 kE (FL.win w4 rfl (R3.mono k4) n3' c3.1)⟩
theorem y19 {s g:Int} {b lb:Option Addr} {c a ln lc e:Nat} {kb:Option Addr} {kn kc:Nat} {rb:Option Addr} {rl rc:Nat} {E0:Mem} {zs:List Int} {yss keep:List (List Int)} (hr:Bs E rb rl rc zs) (ro:openF s zs=((yss,a,g,e),0)) (hk:BL E kb kn kc keep) (hkn:kn<=1000) (hroom:5+needF keep<=areaF s zs.length) (hg:¬ g=4294967295) (hE:Mem.le E0 E)
  (ex:∀ (ms:List (Int×List Int)),compactF s zs keep=(ms,0)->∀ (b':Option Addr) (l' c':Nat) (E':Mem),Mem.le E0 E'->FL E' b' l' c' ms->K (.tup [L b' l' c',I 0]) E'):Pc KJ 8 Try.f36 [1,1,1,1,1,1,1] 0 (pubK E0 K) (z19 s g b lb zs.length c a (areaF s zs.length) ln lc e kb kn kc rb rl rc E):=by
 refine sm_ (?_:∃ (s_1:Int),∃ (g_1:Int),∃ (b_1:Option Addr),∃ (lb_1:Option Addr),∃ (l:Nat),∃ (c_1:Nat),∃ (a_1:Nat),∃ (ln_1:Nat),∃ (lc_1:Nat),∃ (e_1:Nat),∃ (zs_1:List Int),∃ (rs:List FRow),∃ (keep:List (List Int)),(((2=0->False)/\(2=1->False)/\(0=1->False))/\some (⟨84,.lst [I s,L b (List.length zs) c,I (NI a),I (NI (areaF s (List.length zs))),I g,L lb ln lc,I (NI e)],7,true⟩:Box)=some (⟨84,.lst [I s_1,L b_1 l c_1,I (NI a_1),I (NI (areaF s_1 (List.length zs_1))),I g_1,L lb_1 ln_1 lc_1,I (NI e_1)],7,true⟩:Box)/\24=24/\[Value.int IntKind.i64 s,VS rb rl rc]=List.flatMap rowV rs/\FLr E rs [(s_1,zs_1)]/\(∀ (z:Int),List.Mem z zs_1->(0:Int)<=z/\z<=(255:Int))/\(1<=1/\2<=2)/\(areaF s_1 (List.length zs_1)=0->False)/\usedF (areaF s_1 (List.length zs_1)) zs_1=((NI a_1),g_1)/\BL E kb kn kc keep/\kn<=1000/\5+needF keep<=areaF s_1 (List.length zs_1))/\∀ (n' cap' tot':Nat) (rs':List FRow) (E':Mem),Mem.le E E'->FLr E' rs' (rewL s_1 zs_1 (areaF s_1 (List.length zs_1)) a_1 g_1 keep)->Hyp (List.length (rewL s_1 zs_1 (areaF s_1 (List.length zs_1)) a_1 g_1 keep)=n')->n'<=cap'/\cap'*2<=tot'->∀ (base:Option Addr) (E'_1:Mem),Mem.le E' E'_1->WinE E'_1 base (List.flatMap rowV rs')->Mem.le E0 E'_1/\K (SV.tup [L (Option.map (fun (x:Addr)=>Addr.add x 0) base) n' cap',I 0]) E'_1)
 delta NI VS
 obtain ⟨hA,hu,ha,hn5,heh,hcnt,h2h,h16,hl16,hv⟩:=open_facts ro
 refine ⟨s,g,b,lb,_,c,a,ln,lc,e,zs,[(s,rb,rl,rc)],keep,⟨⟨by decide,by decide,by decide⟩,rfl,rfl,rfl,(FLr.nil E).snoc (r:=(s,rb,rl,rc)) (m:=(s,zs)) rfl hr,hr.2.2.2.1,⟨by omega,by omega⟩,hA,hu,hk,hkn,hroom⟩,fun n1 cap1 tot1 rs1 E2 k2 R2 n2 c2 base E4 k4 w4=>?_⟩
 have kE:Mem.le E0 E4:=mt_ hE (mt_ k2 k4)
 exact ⟨kE,ex _ (by rw [compactF_eq keep ro,if_neg (by rintro (z|z);omega;exact hg z)]) _ _ _ E4 kE (FL.win w4 rfl (R2.mono k4) n2 c2.1)⟩
theorem j17 {a1:Int} {b2:Option Addr} {l3:Nat} {c4:Nat} {b5:Option Addr} {l6:Nat} {c7:Nat} {zs:List Int} {ds:List Int} (h0:Bs E b2 l3 c4 zs) (h1:Bs E b5 l6 c7 ds) (h2:l6<=60000) (h:∀ (b':Option Addr) (l' c':Nat) (ms:List (Int×List Int)) (e:Int) (E':Mem),Mem.le E E'->Hyp (appendF a1 zs ds=(ms,e))->FL E' b' l' c' ms->K (.tup [L b' l' c',I e]) E'):
  Ent KI 8 Try.f35 [.agg [I a1,L b2 l3 c4],L b5 l6 c7] E K:=by
 refine sm_ (?_:∃ (zs:List Int),Bs E b2 l3 c4 zs/\(∀ (e:Int) (E':Mem),Mem.le E E'->Hyp ((openF a1 zs).snd=e)->(e=(0:Int)->False)->Mem.le E E'/\bif e !=(0:Int) then Mem.le E E'/\K (SV.tup [L none 0 0,I e]) E' else False)/\∀ (yss:List (List Int)) (a:Nat) (g:Int) (h e:Nat) (lb:Option Addr) (ln lc:Nat) (E':Mem),Mem.le E E'->Hyp (areaF a1 l3=h)->Hyp (openF a1 zs=((yss,a,g,e),(0:Int)))->BL E' lb ln lc yss->Mem.le E E'/\bif decide (WI (WI ((NI e)+(NI l6))+(11:Int))>(NI h)) then Mem.le E E'/\K (SV.tup [L none 0 0,I 10]) E' else Sx.Alike al2 (req (l3<=c4) (req ((0:Int)<=WI ((NI a)+(NI h))/\WI ((NI a)+(NI h))<=(NI c4)) (req ((0:Int)<=WI ((NI a)+(NI h))/\WI ((NI a)+(NI h))<=(NI (toN (some (WI ((NI a)+(NI h)))) c4))) (req (0<=(NI a)/\(NI a)<=(NI (toN (some (WI ((NI a)+(NI h)))) l3))) (∀ (base':Option Addr) (E'_1:Mem),Mem.le E' E'_1->(∀ (cs:List Value),E' (VS b2 l3 c4) cs->E'_1 (VS base' (toN (some (WI ((NI a)+(NI h)))) l3-toN (some (NI a)) 0) (toN (some (WI ((NI a)+(NI h)))) c4-toN (some (NI a)) 0)) (List.take ((toN (some (WI ((NI a)+(NI h)))) l3-toN (some (NI a)) 0)*1) (List.drop (toN (some (NI a)) 0*1) cs)))->Option.isNone base'=Option.isNone b2->req (toN (some (WI ((NI a)+(NI h)))) l3-toN (some (NI a)) 0<=toN (some (WI ((NI a)+(NI h)))) c4-toN (some (NI a)) 0) (req (0<=(NI e)/\(NI e)<=(NI (toN none (toN (some (WI ((NI a)+(NI h)))) l3-toN (some (NI a)) 0)))) (∀ (base'_1:Option Addr) (E':Mem),Mem.le E'_1 E'->(∀ (cs:List Value),E'_1 (VS base' (toN (some (WI ((NI a)+(NI h)))) l3-toN (some (NI a)) 0) (toN (some (WI ((NI a)+(NI h)))) c4-toN (some (NI a)) 0)) cs->E' (VS base'_1 (toN none (toN (some (WI ((NI a)+(NI h)))) l3-toN (some (NI a)) 0)-toN (some (NI e)) 0) (toN none (toN (some (WI ((NI a)+(NI h)))) c4-toN (some (NI a)) 0)-toN (some (NI e)) 0)) (List.take ((toN none (toN (some (WI ((NI a)+(NI h)))) l3-toN (some (NI a)) 0)-toN (some (NI e)) 0)*1) (List.drop (toN (some (NI e)) 0*1) cs)))->Option.isNone base'_1=Option.isNone base'->∃ (zs:List Int),(Bs E' base'_1 (toN none (toN (some (WI ((NI a)+(NI h)))) l3-toN (some (NI a)) 0)-toN (some (NI e)) 0) (toN none (toN (some (WI ((NI a)+(NI h)))) c4-toN (some (NI a)) 0)-toN (some (NI e)) 0) zs/\toN none (toN (some (WI ((NI a)+(NI h)))) l3-toN (some (NI a)) 0)-toN (some (NI e)) 0<=100000)/\∀ (r:Int),Hyp (decide (r>=(0:Int))= !List.all zs fun (x:Int)=>decide (x=(255:Int)))->bif !!decide (r>=(0:Int)) then bif bif false then true else bif true then g==(4294967295:Int) else false then Mem.le E E'/\K (SV.tup [L none 0 0,I 10]) E' else Sx.Alike al2 (bif Option.isNone b2 then Mem.le E' E'/\Mem.le E' E'/\Ct KI 8 Try.f35 [1,1,1,1,1] 0 (pubK E K) { fr:=some (SV.agg [I a1,L b2 l3 c4])::oL b5 l6 c7::oc 0 0::none::oL none 0 0::oI 0::oc 1 0::oI 0::oc 4 0::oI (WI ((NI a)+(NI e)))::some (SV.tup [SV.loc 1 0,I 0])::some (SV.agg [I a1,L b2 l3 c4])::some (SV.tup [SV.loc 1 0,I 0])::oc 1 0::oI 0::oI 0::oB false::none::oc 1 0::oc 1 0::oc 1 6::oI (NI e)::oL b5 l6 c7::oI (NI l6)::oI (WI ((NI e)+(NI l6)))::oI (WI (WI ((NI e)+(NI l6))+(11:Int)))::oc 1 0::oc 1 0::oc 1 3::oI (NI h)::oB (decide (WI (WI ((NI e)+(NI l6))+(11:Int))>(NI h)))::oB false::oc 1 0::oB (!decide (r>=(0:Int)))::oB (!!decide (r>=(0:Int)))::oB true::oc 1 0::oc 1 0::oc 1 4::oI g::oB (g==(4294967295:Int))::oB (bif true then g==(4294967295:Int) else false)::oB (bif false then true else bif true then g==(4294967295:Int) else false)::some (SV.agg [I a1,L b2 l3 c4])::oc 4 0::oc 1 0::oc 1 0::oc 1 2::oI (NI a)::oc 1 0::oc 1 0::oc 1 6::oI (NI e)::oI (WI ((NI a)+(NI e)))::no16 (no2 []),bx:=[(⟨24,.lst [I a1,L b2 l3 c4],2,true⟩:Box),⟨84,.lst [I a1,L b2 l3 c4,I (NI a),I (NI h),I g,L lb ln lc,I (NI e)],7,true⟩,⟨24,.lst [I a1,L b2 l3 c4],2,true⟩,⟨24,.lst [I a1,L none 0 0],2,true⟩,⟨97,.lst [SV.slc 3 0 1 1],1,true⟩],E:=E':St } else ∃ (cs:List Value),(cs=[]\/E' (VS b2 l3 c4) cs)/\l3*1<=List.length cs/\(∀ (x:Value),List.Mem x cs->Value.oneCell' x=true)/\0<=0/\0<=0/\0<=0/\req ((0+l3)*1<=140737488355328) (∀ (cap' tot':Nat),0+l3<=cap'->cap'*1<=tot'->Mem.le E' E'/\Mem.le E' E'/\Ct KI 8 Try.f35 [1,1,1,1,1] 0 (pubK E K) { fr:=some (SV.agg [I a1,L b2 l3 c4])::oL b5 l6 c7::oc 0 0::none::oL none 0 0::oI 0::oc 1 0::oI 0::oc 6 0::oI (WI ((NI a)+(NI e)))::some (SV.tup [SV.loc 1 0,I 0])::some (SV.agg [I a1,L b2 l3 c4])::some (SV.tup [SV.loc 1 0,I 0])::oc 1 0::oI 0::oI 0::oB false::none::oc 1 0::oc 1 0::oc 1 6::oI (NI e)::oL b5 l6 c7::oI (NI l6)::oI (WI ((NI e)+(NI l6)))::oI (WI (WI ((NI e)+(NI l6))+(11:Int)))::oc 1 0::oc 1 0::oc 1 3::oI (NI h)::oB (decide (WI (WI ((NI e)+(NI l6))+(11:Int))>(NI h)))::oB false::oc 1 0::oB (!decide (r>=(0:Int)))::oB (!!decide (r>=(0:Int)))::oB true::oc 1 0::oc 1 0::oc 1 4::oI g::oB (g==(4294967295:Int))::oB (bif true then g==(4294967295:Int) else false)::oB (bif false then true else bif true then g==(4294967295:Int) else false)::some (SV.agg [I a1,L b2 l3 c4])::oc 6 0::oc 1 0::oc 1 0::oc 1 2::oI (NI a)::oc 1 0::oc 1 0::oc 1 6::oI (NI e)::oI (WI ((NI a)+(NI e)))::no16 (no2 []),bx:=[(⟨24,.lst [I a1,L b2 l3 c4],2,true⟩:Box),⟨84,.lst [I a1,L b2 l3 c4,I (NI a),I (NI h),I g,L lb ln lc,I (NI e)],7,true⟩,⟨24,.lst [I a1,L b2 l3 c4],2,true⟩,⟨5,.lst [],0,false⟩,⟨5,.vals ([]++List.take (l3*(1:Nat)) cs),tot',true⟩,⟨24,.lst [I a1,SV.slc 4 0 ((0:Nat)+l3) cap'],2,true⟩,⟨97,.lst [SV.slc 5 0 1 1],1,true⟩],E:=E':St })) else Sx.Alike al2 (bif Option.isNone b2 then Mem.le E' E'/\Mem.le E' E'/\Ct KI 8 Try.f35 [1,1,1,1,1] 0 (pubK E K) { fr:=some (SV.agg [I a1,L b2 l3 c4])::oL b5 l6 c7::oc 0 0::none::oL none 0 0::oI 0::oc 1 0::oI 0::oc 4 0::oI (WI ((NI a)+(NI e)))::some (SV.tup [SV.loc 1 0,I 0])::some (SV.agg [I a1,L b2 l3 c4])::some (SV.tup [SV.loc 1 0,I 0])::oc 1 0::oI 0::oI 0::oB false::none::oc 1 0::oc 1 0::oc 1 6::oI (NI e)::oL b5 l6 c7::oI (NI l6)::oI (WI ((NI e)+(NI l6)))::oI (WI (WI ((NI e)+(NI l6))+(11:Int)))::oc 1 0::oc 1 0::oc 1 3::oI (NI h)::oB (decide (WI (WI ((NI e)+(NI l6))+(11:Int))>(NI h)))::oB false::oc 1 0::oB (!decide (r>=(0:Int)))::oB (!!decide (r>=(0:Int)))::oB false::oU::oU::oU::oU::oU::oB false::oB false::some (SV.agg [I a1,L b2 l3 c4])::oc 4 0::oc 1 0::oc 1 0::oc 1 2::oI (NI a)::oc 1 0::oc 1 0::oc 1 6::oI (NI e)::oI (WI ((NI a)+(NI e)))::no16 (no2 []),bx:=[(⟨24,.lst [I a1,L b2 l3 c4],2,true⟩:Box),⟨84,.lst [I a1,L b2 l3 c4,I (NI a),I (NI h),I g,L lb ln lc,I (NI e)],7,true⟩,⟨24,.lst [I a1,L b2 l3 c4],2,true⟩,⟨24,.lst [I a1,L none 0 0],2,true⟩,⟨97,.lst [SV.slc 3 0 1 1],1,true⟩],E:=E':St } else ∃ (cs:List Value),(cs=[]\/E' (VS b2 l3 c4) cs)/\l3*1<=List.length cs/\(∀ (x:Value),List.Mem x cs->Value.oneCell' x=true)/\0<=0/\0<=0/\0<=0/\req ((0+l3)*1<=140737488355328) (∀ (cap' tot':Nat),0+l3<=cap'->cap'*1<=tot'->Mem.le E' E'/\Mem.le E' E'/\Ct KI 8 Try.f35 [1,1,1,1,1] 0 (pubK E K) { fr:=some (SV.agg [I a1,L b2 l3 c4])::oL b5 l6 c7::oc 0 0::none::oL none 0 0::oI 0::oc 1 0::oI 0::oc 6 0::oI (WI ((NI a)+(NI e)))::some (SV.tup [SV.loc 1 0,I 0])::some (SV.agg [I a1,L b2 l3 c4])::some (SV.tup [SV.loc 1 0,I 0])::oc 1 0::oI 0::oI 0::oB false::none::oc 1 0::oc 1 0::oc 1 6::oI (NI e)::oL b5 l6 c7::oI (NI l6)::oI (WI ((NI e)+(NI l6)))::oI (WI (WI ((NI e)+(NI l6))+(11:Int)))::oc 1 0::oc 1 0::oc 1 3::oI (NI h)::oB (decide (WI (WI ((NI e)+(NI l6))+(11:Int))>(NI h)))::oB false::oc 1 0::oB (!decide (r>=(0:Int)))::oB (!!decide (r>=(0:Int)))::oB false::oU::oU::oU::oU::oU::oB false::oB false::some (SV.agg [I a1,L b2 l3 c4])::oc 6 0::oc 1 0::oc 1 0::oc 1 2::oI (NI a)::oc 1 0::oc 1 0::oc 1 6::oI (NI e)::oI (WI ((NI a)+(NI e)))::no16 (no2 []),bx:=[(⟨24,.lst [I a1,L b2 l3 c4],2,true⟩:Box),⟨84,.lst [I a1,L b2 l3 c4,I (NI a),I (NI h),I g,L lb ln lc,I (NI e)],7,true⟩,⟨24,.lst [I a1,L b2 l3 c4],2,true⟩,⟨5,.lst [],0,false⟩,⟨5,.vals ([]++List.take (l3*1) cs),tot',true⟩,⟨24,.lst [I a1,SV.slc 4 0 (0+l3) cap'],2,true⟩,⟨97,.lst [SV.slc 5 0 1 1],1,true⟩],E:=E':St }))))))))))
 delta WI NI VS no2 no16
 have hl:=h0.2.1
 subst hl
 have hdl:=h1.2.1
 have ex:∀ {ms:List (Int×List Int)} {e:Int},appendF a1 zs ds=(ms,e)->∀ (b':Option Addr) (l' c':Nat) (E':Mem),Mem.le E E'->FL E' b' l' c' ms->K (.tup [L b' l' c',I e]) E':=fun he b' l' c' E' hE hF=>h b' l' c' _ _ E' hE he hF
 refine ⟨zs,h0,fun e E1 k1 r1 ne=>⟨k1,condC (fun _=>⟨k1,ex ?_ none 0 0 E1 k1 (FL.nil _)⟩) (fun q=>absurd (show e=0 by simpa using q) ne)⟩,fun yss a g hh e lb ln lc E1 k1 rA ro B1=>⟨k1,condC (fun q=>⟨k1,ex ?_ none 0 0 E1 k1 (FL.nil _)⟩) (fun q=>alike ?_)⟩⟩
 ·have r1:(openF a1 zs).2=e:=r1
  unfold appendF
  rw [if_pos (by rw [r1];exact ne),r1]
 all_goals
  have rA:areaF a1 zs.length=hh:=rA
  subst rA
  have ro:openF a1 zs=((yss,a,g,e),0):=ro
  obtain ⟨hA,hu,ha,hn5,heh,hcnt,h2h,h16,hl16,hv⟩:=open_facts ro
  have eqA:=appendF_eq ds ro
  have e1:IntKind.wrap .i64 (IntKind.wrap .i64 ((e:Int)+((l6:Nat):Int))+11)=((e+l6+11:Nat):Int):=by rw [wrap_i64 (x:=(e:Int)+((l6:Nat):Int)) (by omega),wrap_i64 (by omega)];omega
  rw [e1] at q
 ·rw [eqA,if_pos (.inl (by simp at q;omega))]
 have q:e+l6+11<=areaF a1 zs.length:=by simp at q;omega
 have e2:IntKind.wrap .i64 ((a:Int)+(e:Int))=((a+e:Nat):Int):=by rw [wrap_i64 (by omega)];omega
 have h16l:1<=zs.length:=by omega
 refine clean_intro (h0.mono k1) (by omega) (by omega) heh fun E2 r k2 hr1=>?_
 rw [hr1,e2]
 have hzE:=h0.mono (mt_ k1 k2)
 cases hcl:cleanF (areaF a1 zs.length) a e zs with
 | false=>
  refine condC (fun _=>condC (fun q2=>⟨mt_ k1 k2,ex (by rw [eqA,if_pos (.inr ⟨hcl,by simpa using q2⟩)]) none 0 0 E2 (mt_ k1 k2) (FL.nil _)⟩) (fun q2=>?_)) (fun z=>by cases z)
  have q2:¬ g=4294967295:=by simpa using q2
  refine alike (condC (fun z=>absurd (hzE.2.2.2.2 (by simpa using z)) (by intro z2;rw [z2] at h16l;simp at h16l)) (fun _=>?_))
  obtain ⟨t1,t2,t3⟩:=hzE.src
  refine ⟨_,t1,t2,t3,Nat.le_refl _,Nat.le_refl _,Nat.le_refl _,req_intro (by omega) fun cap1 tot1 c1 c2=>⟨mr_,mr_,?_⟩⟩
  refine Ct_pub 4 _ _ rfl rfl fun base E3 k3 w3=>?_
  have hB3:Bs E3 (base.map fun x=>x.add 0) (0+zs.length) cap1 zs:=Bs.win w3 (by rw [List.nil_append,List.take_of_length_le (by simp)]) (by omega) (by omega) hzE.2.2.2.1
  have key:=Ct_intro okKI (y17 (x:=a+e) (hzE.mono k3) hB3 ro (B1.mono RB_ok (mt_ k2 k3)) (h1.mono (mt_ k1 (mt_ k2 k3))) q rfl h2 (fun _=>q2) (mt_ k1 (mt_ k2 k3)) (fun ms he=>ex he))
  exact Ct_re [some 1,some 5,some 6] (key) (wkG mr_)
 | true=>
  refine condC (fun z=>by cases z) (fun _=>?_)
  refine alike (condC (fun z=>absurd (hzE.2.2.2.2 (by simpa using z)) (by intro z2;rw [z2] at h16l;simp at h16l)) (fun _=>?_))
  obtain ⟨t1,t2,t3⟩:=hzE.src
  refine ⟨_,t1,t2,t3,Nat.le_refl _,Nat.le_refl _,Nat.le_refl _,req_intro (by omega) fun cap1 tot1 c1 c2=>⟨mr_,mr_,?_⟩⟩
  refine Ct_pub 4 _ _ rfl rfl fun base E3 k3 w3=>?_
  have hB3:Bs E3 (base.map fun x=>x.add 0) (0+zs.length) cap1 zs:=Bs.win w3 (by rw [List.nil_append,List.take_of_length_le (by simp)]) (by omega) (by omega) hzE.2.2.2.1
  have key:=Ct_intro okKI (y17 (x:=a+e) (hzE.mono k3) hB3 ro (B1.mono RB_ok (mt_ k2 k3)) (h1.mono (mt_ k1 (mt_ k2 k3))) q rfl h2 (fun z=>by rw [hcl] at z;cases z) (mt_ k1 (mt_ k2 k3)) (fun ms he=>ex he))
  exact Ct_re [some 1,some 5,some 6] (key) (wkG mr_)
def l19 (s g:Int) (b lb:Option Addr) (l c a h ln lc e:Nat) (kb:Option Addr) (kn kc:Nat) (x i:Nat) (E:Mem):St:=⟨[none,oL kb kn kc,oc 0 0,none,none,none,oc 1 0,none,oI (x:Nat),none,none,none,none,none,none,none,none,none,none,none,oL kb kn kc,oI (kn:Nat),oI (i:Nat),none,none,none,none,none,none,none,none,none,none,none,none,none,none,none,none,none,none,none,none,none,none,none,none,none,none,none,none,none,none,none,none],[⟨24,.lst [I s,L b l c],2,true⟩,⟨84,.lst [I s,L b l c,I (a:Nat),I (h:Nat),I g,L lb ln lc,I (e:Nat)],7,true⟩],E⟩
theorem y19r {s g:Int} {b lb:Option Addr} {c a ln lc e:Nat} {kb:Option Addr} {kn kc:Nat} {i:Nat} {E0:Mem} {zs:List Int} {yss keep:List (List Int)} (hz:Bs E b zs.length c zs) (ro:openF s zs=((yss,a,g,e),0)) (hk:BL E kb kn kc keep) (hkl:∀ d∈keep,d.length<=60000) (hkn:kn<=1000) (hi:i<=kn) (hE:Mem.le E0 E)
  (ex:∀ (ms:List (Int×List Int)) (e:Int),compactF s zs keep=(ms,e)->∀ (b':Option Addr) (l' c':Nat) (E':Mem),Mem.le E0 E'->FL E' b' l' c' ms->K (.tup [L b' l' c',I e]) E')
  (ih:i<kn->Lp KJ 8 Try.f36 [1,1,1,1,0,1,0] 0 (pubK E0 K) (l19 s g b lb zs.length c a (areaF s zs.length) ln lc e kb kn kc (5+needF (keep.take (i+1))) (i+1) E)):Rnd KJ 8 Try.f36 [1,1,1,1,0,1,0] 0 (pubK E0 K) (l19 s g b lb zs.length c a (areaF s zs.length) ln lc e kb kn kc (5+needF (keep.take i)) i E):=by
 refine sm_ (?_:bif decide ((NI i)<(NI kn)) then req (0<=(NI i)/\(NI i)<(NI kn)) ((∃ (cs:List Value),E (VS kb kn kc) cs/\(cs=[]->False))/\∃ (base:Option Addr),∃ (len:Nat),∃ (cap:Nat),LoadE KJ.P E 22 (VS kb kn kc) (Int.toNat (NI i)*1) (L base len cap)/\Lp KJ 8 Try.f36 [1,1,1,1,0,1,0] 0 (pubK E0 K) { fr:=none::oL kb kn kc::oc 0 0::none::none::none::oc 1 0::none::oI (WI ((NI (5+needF (List.take i keep)))+WI ((NI len)+11)))::no8 (no2 (none::(oL kb kn kc::oI (NI kn)::oI (WI ((NI i)+1))::no32 []))),bx:=[(⟨24,.lst [I s,L b (List.length zs) c],2,true⟩:Box),⟨84,.lst [I s,L b (List.length zs) c,I (NI a),I (NI (areaF s (List.length zs))),I g,L lb ln lc,I (NI e)],7,true⟩],E:=E:St }) else bif decide ((NI (5+needF (List.take i keep)))>(NI (areaF s (List.length zs)))) then Mem.le E0 E/\K (SV.tup [L none 0 0,I 10]) E else bif bif false then true else g==(4294967295:Int) then Mem.le E0 E/\K (SV.tup [L none 0 0,I 10]) E else Sx.Alike al2 (bif Option.isNone b then Mem.le E E/\Mem.le E E/\Ct KJ 8 Try.f36 [1,1,1,1,1,1,1] 0 (pubK E0 K) { fr:=none::oL kb kn kc::oc 0 0::none::none::none::oc 1 0::none::oI (NI (5+needF (List.take i keep)))::none::none::oc 4 0::no8 (oL kb kn kc::oI (NI kn)::oI (NI i)::oB (decide ((NI i)<(NI kn)))::no8 (oI (NI (5+needF (List.take i keep)))::oc 1 0::oc 1 0::oc 1 3::oI (NI (areaF s (List.length zs)))::oB (decide ((NI (5+needF (List.take i keep)))>(NI (areaF s (List.length zs)))))::oB false::oc 1 0::oc 1 0::oc 1 4::oI g::oB (g==(4294967295:Int))::oB (bif false then true else g==(4294967295:Int))::some (SV.agg [I s,L b (List.length zs) c])::oc 4 0::no8 [])),bx:=[(⟨24,.lst [I s,L b (List.length zs) c],2,true⟩:Box),⟨84,.lst [I s,L b (List.length zs) c,I (NI a),I (NI (areaF s (List.length zs))),I g,L lb ln lc,I (NI e)],7,true⟩,⟨24,.lst [I s,L b (List.length zs) c],2,true⟩,⟨24,.lst [I s,L none 0 0],2,true⟩,⟨97,.lst [SV.slc 3 0 1 1],1,true⟩],E:=E:St } else ∃ (cs:List Value),(cs=[]\/E (VS b (List.length zs) c) cs)/\List.length zs*1<=List.length cs/\(∀ (x:Value),List.Mem x cs->Value.oneCell' x=true)/\0<=0/\0<=0/\0<=0/\req ((0+List.length zs)*1<=140737488355328) (∀ (cap' tot':Nat),0+List.length zs<=cap'->cap'*1<=tot'->Mem.le E E/\Mem.le E E/\Ct KJ 8 Try.f36 [1,1,1,1,1,1,1] 0 (pubK E0 K) { fr:=none::oL kb kn kc::oc 0 0::none::none::none::oc 1 0::none::oI (NI (5+needF (List.take i keep)))::none::none::oc 6 0::no8 (oL kb kn kc::oI (NI kn)::oI (NI i)::oB (decide ((NI i)<(NI kn)))::no8 (oI (NI (5+needF (List.take i keep)))::oc 1 0::oc 1 0::oc 1 3::oI (NI (areaF s (List.length zs)))::oB (decide ((NI (5+needF (List.take i keep)))>(NI (areaF s (List.length zs)))))::oB false::oc 1 0::oc 1 0::oc 1 4::oI g::oB (g==(4294967295:Int))::oB (bif false then true else g==(4294967295:Int))::some (SV.agg [I s,L b (List.length zs) c])::oc 6 0::no8 [])),bx:=[(⟨24,.lst [I s,L b (List.length zs) c],2,true⟩:Box),⟨84,.lst [I s,L b (List.length zs) c,I (NI a),I (NI (areaF s (List.length zs))),I g,L lb ln lc,I (NI e)],7,true⟩,⟨24,.lst [I s,L b (List.length zs) c],2,true⟩,⟨5,.lst [],0,false⟩,⟨5,.vals ([]++List.take (List.length zs*1) cs),tot',true⟩,⟨24,.lst [I s,SV.slc 4 0 (0+List.length zs) cap'],2,true⟩,⟨97,.lst [SV.slc 5 0 1 1],1,true⟩],E:=E:St })))
 delta WI NI VS no2 no8 no32
 obtain ⟨hA,hu,ha,hn5,heh,hcnt,h2h,h16,hl16,hv⟩:=open_facts ro
 have eqC:=compactF_eq keep ro
 have h16l:1<=zs.length:=by omega
 have hzE:=hz
 have q3:=needF_bd (dss:=keep.take i) (m:=60000) (fun d h=>hkl d (List.mem_of_mem_take h))
 have q4:(keep.take i).length*(60000+11)<=1000*60011:=Nat.mul_le_mul (by rw [List.length_take];omega) (Nat.le_refl _)
 refine condC (fun g1=>?_) (fun g1=>?_)
 ·have g1:i<kn:=by simpa using g1
  obtain ⟨d,ed⟩:=hk.get g1
  obtain ⟨p1,b1,l1,c1,p2,p3⟩:=hk.load ed
  have hd:=p3.2.1
  have hd2:=hkl d (List.mem_of_getElem? ed)
  have hnt:=needF_take ed
  refine req_intro (by omega) ⟨p1,b1,l1,c1,p2,?_⟩
  have ek:IntKind.wrap .i64 (((5+needF (keep.take i):Nat):Int)+IntKind.wrap .i64 (((l1:Nat):Int)+11))=((5+needF (keep.take (i+1)):Nat):Int):=by rw [wrap_i64 (x:=((l1:Nat):Int)+11) (by omega),wrap_i64 (by omega)];omega
  rw [ek,wrap_i64 (x:=(i:Int)+1) (by omega),show (i:Int)+1=((i+1:Nat):Int) by simp]
  exact Lp_re [some 0,some 1] (ih g1) (wkG mr_)
 ·have g1:i=kn:=by simp at g1;omega
  subst g1
  have et:keep.take i=keep:=List.take_of_length_le (by rw [hk.len];omega)
  rw [et]
  refine condC (fun q=>⟨hE,ex [] 10 (by rw [eqC,if_pos (.inl (by simp at q;omega))]) none 0 0 E hE (FL.nil _)⟩) (fun q=>condC (fun q2=>⟨hE,ex [] 10 (by rw [eqC,if_pos (.inr (by simpa using q2))]) none 0 0 E hE (FL.nil _)⟩) (fun q2=>?_))
  have q:5+needF keep<=areaF s zs.length:=by simp at q;omega
  have q2:¬ g=4294967295:=by simpa using q2
  refine alike (condC (fun z=>absurd (hzE.2.2.2.2 (by simpa using z)) (by intro z2;rw [z2] at h16l;simp at h16l)) (fun _=>?_))
  obtain ⟨t1,t2,t3⟩:=hzE.src
  refine ⟨_,t1,t2,t3,Nat.le_refl _,Nat.le_refl _,Nat.le_refl _,req_intro (by omega) fun cap1 tot1 c1 c2=>⟨mr_,mr_,?_⟩⟩
  refine Ct_pub 4 _ _ rfl rfl fun base E3 k3 w3=>?_
  have hB3:Bs E3 (base.map fun x=>x.add 0) (0+zs.length) cap1 zs:=Bs.win w3 (by rw [List.nil_append,List.take_of_length_le (by simp)]) (by omega) (by omega) hzE.2.2.2.1
  have key:=Ct_intro okKJ (y19 (b:=b) (lb:=lb) (c:=c) (ln:=ln) (lc:=lc) hB3 ro (hk.mono RB_ok k3) hkn q q2 (mt_ hE k3) (fun ms he=>ex ms 0 he))
  exact Ct_re [some 1,some 5,some 6] (key) (wkG mr_)
theorem y19l {s g:Int} {b lb:Option Addr} {c a ln lc e:Nat} {kb:Option Addr} {kn kc:Nat} {E0:Mem} {zs:List Int} {yss keep:List (List Int)} (hz:Bs E b zs.length c zs) (ro:openF s zs=((yss,a,g,e),0)) (hk:BL E kb kn kc keep) (hkl:∀ d∈keep,d.length<=60000) (hkn:kn<=1000) (hE:Mem.le E0 E)
  (ex:∀ (ms:List (Int×List Int)) (e:Int),compactF s zs keep=(ms,e)->∀ (b':Option Addr) (l' c':Nat) (E':Mem),Mem.le E0 E'->FL E' b' l' c' ms->K (.tup [L b' l' c',I e]) E'):
  ∀ {r i:Nat},i+r=kn->Lp KJ 8 Try.f36 [1,1,1,1,0,1,0] 0 (pubK E0 K) (l19 s g b lb zs.length c a (areaF s zs.length) ln lc e kb kn kc (5+needF (keep.take i)) i E)
 | 0,i,hr=>Lp_ind (ι:=Unit) okKJ (fun _=>l19 s g b lb zs.length c a (areaF s zs.length) ln lc e kb kn kc (5+needF (keep.take i)) i E) (fun _=>0) (fun _ _=>y19r hz ro hk hkl hkn (by omega) hE ex (fun g=>by omega)) ()
 | r+1,i,hr=>Lp_ind (ι:=Unit) okKJ (fun _=>l19 s g b lb zs.length c a (areaF s zs.length) ln lc e kb kn kc (5+needF (keep.take i)) i E) (fun _=>0) (fun _ _=>y19r hz ro hk hkl hkn (by omega) hE ex (fun g=>y19l hz ro hk hkl hkn hE ex (r:=r) (by omega))) ()
theorem j19 {a1:Int} {b2:Option Addr} {l3:Nat} {c4:Nat} {b5:Option Addr} {l6:Nat} {c7:Nat} {zs:List Int} {keep:List (List Int)} (h0:Bs E b2 l3 c4 zs) (h1:BL E b5 l6 c7 keep) (h2:(∀ d∈keep,d.length<=60000)) (h3:l6<=1000) (h:∀ (b':Option Addr) (l' c':Nat) (ms:List (Int×List Int)) (e:Int) (E':Mem),Mem.le E E'->Hyp (compactF a1 zs keep=(ms,e))->FL E' b' l' c' ms->K (.tup [L b' l' c',I e]) E'):
  Ent KJ 8 Try.f36 [.agg [I a1,L b2 l3 c4],L b5 l6 c7] E K:=by
 refine sm_ (?_:∃ (zs:List Int),Bs E b2 l3 c4 zs/\(∀ (e:Int) (E':Mem),Mem.le E E'->Hyp ((openF a1 zs).snd=e)->(e=(0:Int)->False)->Mem.le E E'/\bif e !=(0:Int) then Mem.le E E'/\K (SV.tup [L none 0 0,I e]) E' else Lp KJ 8 Try.f36 [1,1,1,1,0,1,0] 0 (pubK E K) { fr:=some (SV.agg [I a1,L b2 l3 c4])::oL b5 l6 c7::oc 0 0::none::oL none 0 0::oI 0::some (SV.raw (Value.pointer none))::oI e::oI 5::none::none::none::some (SV.tup [SV.raw (Value.pointer none),I e])::some (SV.agg [I a1,L b2 l3 c4])::some (SV.tup [SV.raw (Value.pointer none),I e])::some (SV.raw (Value.pointer none))::oI e::oI e::oB (e !=(0:Int))::none::oL b5 l6 c7::oI (NI l6)::oI 0::no32 [],bx:=[(⟨24,.lst [I a1,L b2 l3 c4],2,true⟩:Box)],E:=E':St })/\∀ (yss:List (List Int)) (a:Nat) (g:Int) (h e:Nat) (lb:Option Addr) (ln lc:Nat) (E':Mem),Mem.le E E'->Hyp (areaF a1 l3=h)->Hyp (openF a1 zs=((yss,a,g,e),(0:Int)))->BL E' lb ln lc yss->Mem.le E E'/\Lp KJ 8 Try.f36 [1,1,1,1,0,1,0] 0 (pubK E K) { fr:=some (SV.agg [I a1,L b2 l3 c4])::oL b5 l6 c7::oc 0 0::none::oL none 0 0::oI 0::oc 1 0::oI 0::oI 5::none::none::none::some (SV.tup [SV.loc 1 0,I 0])::some (SV.agg [I a1,L b2 l3 c4])::some (SV.tup [SV.loc 1 0,I 0])::oc 1 0::oI 0::oI 0::oB false::none::oL b5 l6 c7::oI (NI l6)::oI 0::no32 [],bx:=[(⟨24,.lst [I a1,L b2 l3 c4],2,true⟩:Box),⟨84,.lst [I a1,L b2 l3 c4,I (NI a),I (NI h),I g,L lb ln lc,I (NI e)],7,true⟩],E:=E':St })
 delta NI no32
 have hl:=h0.2.1
 subst hl
 have ex:∀ {ms:List (Int×List Int)} {e:Int},compactF a1 zs keep=(ms,e)->∀ (b':Option Addr) (l' c':Nat) (E':Mem),Mem.le E E'->FL E' b' l' c' ms->K (.tup [L b' l' c',I e]) E':=fun he b' l' c' E' hE hF=>h b' l' c' _ _ E' hE he hF
 refine ⟨zs,h0,fun e E1 k1 r1 ne=>⟨k1,condC (fun _=>⟨k1,ex ?_ none 0 0 E1 k1 (FL.nil _)⟩) (fun q=>absurd (show e=0 by simpa using q) ne)⟩,fun yss a g hh e lb ln lc E1 k1 rA ro B1=>⟨k1,?_⟩⟩
 ·have r1:(openF a1 zs).2=e:=r1
  unfold compactF
  rw [if_pos (by rw [r1];exact ne),r1]
 have rA:areaF a1 zs.length=hh:=rA
 subst rA
 have ro:openF a1 zs=((yss,a,g,e),0):=ro
 have key:=y19l (lb:=lb) (ln:=ln) (lc:=lc) (h0.mono k1) ro (h1.mono RB_ok k1) h2 h3 k1 (fun ms e he=>ex he) (r:=l6) (i:=0) (by omega)
 exact Lp_re [some 0,some 1] (key) (wkG mr_)
theorem n26 {a1 a2:Int} {KK:KT} (herr:∀ bx:List Box,(newF a1 a2).2≠0->KK (.tup [.agg [I 0,L none 0 0],I 1]) bx E)
  (hok:∀ (n tot:Nat) (zs:List Int),newF a1 a2=((a1,List.replicate n 255),0)->n<=16384->n<=zs.length->zs.take n=List.replicate n 255->KK (.tup [.agg [I a1,.slc 2 0 n n],I 0]) [⟨24,.lst [I a1,.slc 2 0 n n],2,true⟩,⟨5,.lst [.raw (.int .u8 255)],1,true⟩,⟨5,.vals (vB zs),tot,true⟩] E):EntB F8 8 Try.f38 [I a1,I a2] [] E KK:=by
 refine sm_ (?_:bif decide (a1<(1:Int)) then KK (SV.tup [SV.agg [I 0,L none 0 0],I 1]) [⟨24,.lst [I 0,L none 0 0],2,true⟩] E else bif bif false then true else decide (a1>(1024:Int)) then KK (SV.tup [SV.agg [I 0,L none 0 0],I 1]) [⟨24,.lst [I 0,L none 0 0],2,true⟩] E else bif bif false then true else decide (a2<(1:Int)) then KK (SV.tup [SV.agg [I 0,L none 0 0],I 1]) [⟨24,.lst [I 0,L none 0 0],2,true⟩] E else (a1=(0:Int)->False)/\bif bif false then true else decide (a2>WI (Int.tdiv 16384 a1)) then KK (SV.tup [SV.agg [I 0,L none 0 0],I 1]) [⟨24,.lst [I 0,L none 0 0],2,true⟩] E else 53=53/\∃ (n:Nat),[SV.slc 1 0 1 1,I (WI (a1*a2))]=[SV.slc 1 0 1 1,I (NI n)]/\[(⟨24,.lst [I 0,L none 0 0],2,true⟩:Box),⟨5,.lst [SV.raw (U8 255)],1,true⟩]=[(⟨24,.lst [I 0,L none 0 0],2,true⟩:Box),⟨5,.lst [SV.raw (U8 255)],1,true⟩]/\(1<=n/\n<=16384)/\∀ (tot:Nat) (zs:List Int),n<=List.length zs->List.take n zs=List.replicate n (255:Int)->KK (SV.tup [SV.agg [I a1,SV.slc 2 0 n n],I 0]) [⟨24,.lst [I a1,SV.slc 2 0 n n],2,true⟩,⟨5,.lst [SV.raw (U8 255)],1,true⟩,⟨5,.vals (vB zs),tot,true⟩] E)
 delta WI NI U8
 have bad:(a1<1\/a1>1024\/a2<1\/a2>16384 / a1)->(newF a1 a2).2≠0:=fun hb=>by unfold newF;rw [if_pos hb];decide
 refine condC (fun g=>herr _ (bad (.inl (by simpa using g)))) (fun g1=>?_)
 refine condC (fun g=>herr _ (bad (.inr (.inl (by simpa using g))))) (fun g2=>?_)
 refine condC (fun g=>herr _ (bad (.inr (.inr (.inl (by simpa using g)))))) (fun g3=>?_)
 have g1:1<=a1:=by simpa using g1
 have g2:a1<=1024:=by simpa using g2
 have g3:1<=a2:=by simpa using g3
 have hdv:Int.tdiv 16384 a1=16384 / a1:=Int.tdiv_eq_ediv_of_nonneg (by omega)
 have hd1:16384 / a1<=16384:=Int.ediv_le_self _ (by omega)
 have hd0:0<=16384 / a1:=Int.ediv_nonneg (by omega) (by omega)
 rw [hdv,wrap_i64 (x:=16384 / a1) (by omega)]
 refine ⟨by omega,condC (fun g=>herr _ (bad (.inr (.inr (.inr (by simpa using g)))))) (fun g4=>?_)⟩
 have g4:a2<=16384 / a1:=by simpa using g4
 have h8:a1*a2<=16384:=by
  have:=Int.mul_le_mul_of_nonneg_right g4 (show 0<=a1 by omega)
  have h2:=Int.ediv_mul_le 16384 (show a1≠0 by omega)
  rw [Int.mul_comm a1 a2];omega
 have h9:1<=a1*a2:=by
  have:=Int.mul_le_mul_of_nonneg_right g1 (show 0<=a2 by omega)
  omega
 obtain ⟨n,hn⟩:∃ n:Nat,a1*a2=n:=⟨(a1*a2).toNat,by omega⟩
 have eN:newF a1 a2=((a1,List.replicate n 255),0):=by unfold newF;rw [if_neg (by omega),hn,Int.toNat_natCast]
 rw [hn] at h8 h9
 rw [hn,wrap_i64 (x:=(n:Int)) (by omega)]
 exact ⟨rfl,n,rfl,rfl,⟨by omega,by omega⟩,fun tot zs hz ht=>hok n tot zs eN (by omega) hz ht⟩
noncomputable def tabN:CallT:=fun f args bx E K=>match f with
 | 38=>d2 args fun x0 x1=>dI x0 fun a=>dI x1 fun b=>((Hyp ((newF a b).2≠0)->K (.tup [.agg [I 0,L none 0 0],I 1]) bx E)/\∀ (n cap tot:Nat) (zs:List Int),Hyp (newF a b=((a,List.replicate n 255),0))->n<=16384/\n<=zs.length/\zs.take n=List.replicate n 255/\n<=cap->K (.tup [.agg [I a,.slc bx.length 0 n cap],I 0]) (bx++[⟨5,.vals (vB zs),tot,true⟩]) E)
 | _=>False
theorem tabN_ok:∀ f args bx E K,tabN f args bx E K->CallSem Try.prog f args bx E K:=by
 intro f args bx E K h
 unfold tabN at h
 split at h
 ·obtain ⟨x0,x1,rfl,h1⟩:=d2_elim h
  obtain ⟨a,rfl,h2⟩:=dI_elim h1
  obtain ⟨c,rfl,h3⟩:=dI_elim h2
  obtain ⟨kerr,kok⟩:=h3
  refine frame0 (K':=fun s' bx' E'=>K (s'.ren [] bx.length) (bx++bx'.map (Box.ren [] bx.length)) E') (vs:=[.int .i64 a,.int .i64 c]) rfl (CallSem.clo (bsm okF8 Try.func38 (n26 ?_ ?_))) (fun _ _ _ q=>q)
  ·intro bx1 ne
   refine cloK_intro [] (s':=.tup [.agg [I 0,L none 0 0],I 1]) (bx':=[]) (E':=E) ?_ (wkG mr_)
   have:=kerr ne
   simpa [SV.ren,SV.renL] using this
  ·intro n tot zs r1 h16 hz ht
   refine cloK_intro [some 2] (s':=.tup [.agg [I a,.slc 0 0 n n],I 0]) (bx':=[⟨5,.vals (vB zs),tot,true⟩]) (E':=E) ?_ (wkG mr_)
   have:=kok n n tot zs r1 ⟨h16,hz,ht,Nat.le_refl _⟩
   simpa [SV.ren,SV.renL,Box.ren,Row.ren,renF] using this
 ·exact h.elim
noncomputable def KL:Cx:={ P:=Try.prog,inl:=fun f=>List.contains [] f,tab:=fun _ _ _ _=>False,isB:=fun f=>f==38,tabB:=tabN,opt:={ unroll:=0,carry:=[] },muts:=mutsD }
theorem okKL:CxOK KL:=CxOK.four (fun _ _ _ _ h=>h.elim) (by kernel_rfl) (okInl (by kernel_rfl)) tabN_ok
theorem newF_facts {a b:Int} {n:Nat} (h:newF a b=((a,List.replicate n 255),0)):1<=a/\a<=1024/\1<=b/\(n:Int)=a*b/\n<=16384:=by
 unfold newF at h
 split at h
 ·have:=(Prod.mk.inj h).2;omega
 ·rename_i q
  have hl:=congrArg (fun x=>x.1.2.length) h
  simp only [List.length_replicate] at hl
  have h4:b<=16384 / a:=by omega
  have h9:1*b<=a*b:=Int.mul_le_mul_of_nonneg_right (by omega) (by omega)
  have h8:a*b<=16384:=by
   have:=Int.mul_le_mul_of_nonneg_right h4 (show 0<=a by omega)
   have h2:=Int.ediv_mul_le 16384 (show a≠0 by omega)
   rw [Int.mul_comm a b];omega
  exact ⟨by omega,by omega,by omega,by omega,by omega⟩
theorem area_new {a b:Int} {n:Nat} (h1:1<=a/\a<=1024) (h2:1<=b) (h3:(n:Int)=a*b) (h4:n<=16384):validF a n/\(n:Int) / a=b/\(areaF a n=if b % 2=0/\32<=n then n / 2 else 0):=by
 have hd:(n:Int) / a=b:=by rw [h3,Int.mul_ediv_cancel_left _ (by omega)]
 have hm:(n:Int) % a=0:=by rw [h3];exact Int.mul_emod_right a b
 have h9:a*1<=a*b:=Int.mul_le_mul_of_nonneg_left h2 (by omega)
 have hv:validF a n:=⟨by omega,by omega,by omega,by omega,hm⟩
 refine ⟨hv,hd,?_⟩
 unfold areaF
 rw [hd]
 by_cases q:b % 2=0/\32<=n
 ·rw [if_pos ⟨hv,q.1,q.2⟩,if_pos q]
 ·rw [if_neg (fun z=>q ⟨z.2.1,z.2.2⟩),if_neg q]
theorem fmt_win {base:Option Addr} {cs:List Value} {zs:List Int} {n cap:Nat} (hW:WinE E base cs) (hcs:cs=vB ([90,0,0,0,0]++zs.drop 5)) (hz:n<=zs.length) (ht:zs.take n=List.replicate n 255) (hn:32<=n) (hc:n<=cap):Bs E (base.map fun x=>x.add 0) n cap ([90,0,0,0,0]++(List.replicate n 255).drop 5):=by
 subst hcs
 have e:([90,0,0,0,0]++zs.drop 5).take n=[90,0,0,0,0]++(List.replicate n 255).drop 5:=by
  rw [List.take_append,List.take_of_length_le (by simp;omega),← ht,List.drop_take];rfl
 have h1:=hW.2 0 n n cap (by simp only [List.length_map,List.length_append,List.length_drop,List.length_cons,List.length_nil];omega)
 rw [List.drop_zero,← List.map_take,e] at h1
 refine ⟨.inr h1,by simp only [List.length_append,List.length_drop,List.length_replicate,List.length_cons,List.length_nil];omega,hc,fun z hz=>?_,fun e2=>?_⟩
 ·rcases List.mem_append.1 hz with q|q
  ·simp only [List.mem_cons,List.not_mem_nil,or_false] at q
   omega
  ·have:=List.eq_of_mem_replicate (List.drop_subset _ _ q);omega
 ·cases base with
  | none=>have:=hW.1 rfl;simp at this
  | some a=>cases e2
theorem formatF_bad {a b:Int} (h:(newF a b).2≠0\/areaF a (newF a b).1.2.length=0):formatF a b=((0,[]),1):=by unfold formatF;rw [if_pos h]
theorem formatF_ok {a b:Int} {n:Nat} (h:newF a b=((a,List.replicate n 255),0)) (hA:areaF a n≠0):formatF a b=((a,[90,0,0,0,0]++(List.replicate n 255).drop 5),0):=by
 unfold formatF
 rw [h,if_neg (by simp only [List.length_replicate];rintro (q|q);exact q rfl;exact hA q)]
theorem j11 {a1:Int} {a2:Int} (h:∀ (s':Int) (b':Option Addr) (l' c':Nat) (ys:List Int) (e:Int) (E':Mem),Mem.le E E'->Hyp (formatF a1 a2=((s',ys),e))->Bs E' b' l' c' ys->K (.tup [.agg [I s',L b' l' c'],I e]) E'):
    Ent KL 8 Try.f26 [I a1,I a2] E K:=by
  refine sm_ (?_:(Hyp ((newF a1 a2).snd≠(0:Int))->Mem.le E E/\Mem.le E E/\K (SV.tup [SV.agg [I 0,L none 0 0],I 1]) E)/\∀ (n cap tot:Nat) (zs:List Int),Hyp (newF a1 a2=((a1,List.replicate n 255),(0:Int)))->n<=16384/\n<=List.length zs/\List.take n zs=List.replicate n (255:Int)/\n<=cap->Mem.le E E/\((2:Int)=(0:Int)->False)/\bif bif false then true else Int.tmod a2 (2:Int) !=(0:Int) then Mem.le E E/\K (SV.tup [SV.agg [I 0,L none 0 0],I 1]) E else bif bif false then true else decide ((NI n)<32) then Mem.le E E/\K (SV.tup [SV.agg [I 0,L none 0 0],I 1]) E else 0+n*1<=List.length (vB zs)/\∀ (base:Option Addr) (E':Mem),Mem.le E E'->WinE E' base (layV (vB zs) 0 (List.take (min 5 n*1) [U8 90,U8 0,U8 0,U8 0,U8 0]))->Mem.le E E'/\K (SV.tup [SV.agg [I a1,L (Option.map (fun (x:Addr)=>Addr.add x 0) base) n cap],I 0]) E')
  delta NI U8
  have ex:∀ {s':Int} {ys:List Int} {e:Int},formatF a1 a2=((s',ys),e)->∀ (b':Option Addr) (l' c':Nat) (E':Mem),Mem.le E E'->Bs E' b' l' c' ys->K (.tup [.agg [I s',L b' l' c'],I e]) E':=fun he b' l' c' E' hE hB=>h _ b' l' c' _ _ E' hE he hB
  refine ⟨fun ne=>⟨mr_,mr_,ex (formatF_bad (.inl ne)) none 0 0 E mr_ (Bs.nil _)⟩,fun n cap tot zs rN hh=>⟨mr_,?_⟩⟩
  obtain ⟨h16,hz,ht,hcap⟩:=hh
  have rN:newF a1 a2=((a1,List.replicate n 255),0):=rN
  obtain ⟨f1,f2,f3,f4,f5⟩:=newF_facts rN
  obtain ⟨hv,hdv,hA⟩:=area_new ⟨f1,f2⟩ f3 f4 f5
  have bad:¬ (a2 % 2=0/\32<=n)->Mem.le E E/\K (.tup [.agg [I 0,L none 0 0],I 1]) E:=fun q=>⟨mr_,ex (formatF_bad (.inr (by rw [rN];simp only [List.length_replicate];rw [hA,if_neg q]))) none 0 0 E mr_ (Bs.nil _)⟩
  rw [Int.tmod_eq_emod_of_nonneg (by omega)]
  refine ⟨by decide,condC (fun q=>bad (fun z=>?_)) (fun q=>condC (fun r=>bad (fun z=>?_)) (fun r=>?_))⟩
  · have q:¬ a2 % 2=0:=by simpa using q
    exact q z.1
  · have r:(n:Int)<32:=by simpa using r
    omega
  have q:a2 % 2=0:=by simpa using q
  have r : 32 ≤ n := by have r:¬ (n:Int)<32:=by simpa using r
                        omega
  refine ⟨by simp;omega,fun base E' k w=>⟨k,ex (formatF_ok rN (by rw [hA,if_pos ⟨q,r⟩];omega)) _ n cap E' k (fmt_win w ?_ hz ht r hcap)⟩⟩
  rw [show min 5 n*1=5 by omega]
  unfold layV
  simp [List.map_drop]
theorem eq2 {α β:Type} {p:α×β} {a:α} {b:β} (h:p=(a,b)):p.1=a/\p.2=b:=by subst h;exact ⟨rfl,rfl⟩
theorem band8_eq (x y:Int):band8 x y=((BitVec.ofInt 8 x&&& BitVec.ofInt 8 y).toNat:Int):=by
 have h:=(BitVec.ofInt 8 x&&& BitVec.ofInt 8 y).isLt
 exact wu8 ⟨by omega,by show ((BitVec.ofInt 8 x&&& BitVec.ofInt 8 y).toNat:Int)<=255;omega⟩
theorem band8_255 {y:Int} (h:0<=y/\y<=255):band8 255 y=y:=by
 rw [band8_eq]
 obtain ⟨n,rfl⟩:∃ n:Nat,y=n:=⟨y.toNat,by omega⟩
 have :n<256:=by omega
 rw [show BitVec.ofInt 8 255=BitVec.allOnes 8 from by decide,BitVec.allOnes_and]
 simp;omega
theorem band8_bd (x y:Int):0<=band8 x y/\band8 x y<=255:=wu8b _
theorem getD_set (zs:List Int) (p:Nat) (x:Int) (j:Nat):(zs.set p x).getD j 0=if p=j/\j<zs.length then x else zs.getD j 0:=by
 rw [List.getD_eq_getElem?_getD,List.getD_eq_getElem?_getD,List.getElem?_set]
 by_cases h:p=j
 ·subst h
  by_cases h2:p<zs.length
  ·simp [h2]
  ·simp [h2]
 ·simp [h]
theorem stp_get (g:Nat->Int->Int) (a:Nat) (zs:List Int):∀ i j,(stp g a zs i).getD j 0=if a<=j/\j<a+i/\j<zs.length then g (j-a) (zs.getD j 0) else zs.getD j 0
 | 0,j=>by rw [if_neg (by omega)];rfl
 | i+1,j=>by
  show ((stp g a zs i).set (a+i) (g i ((stp g a zs i).getD (a+i) 0))).getD j 0=_
  rw [getD_set,stp_len,stp_get g a zs i j,stp_get g a zs i (a+i),if_neg (c:=a<=a+i/\a+i<a+i/\a+i<zs.length) (by omega)]
  by_cases h:a+i=j/\j<zs.length
  ·obtain ⟨rfl,h⟩:=h
   rw [if_pos ⟨rfl,h⟩,if_pos ⟨by omega,by omega,h⟩,show a+i-a=i by omega]
  ·rw [if_neg h]
   by_cases h2:a<=j/\j<a+i/\j<zs.length
   ·rw [if_pos h2,if_pos (by omega)]
   ·rw [if_neg h2,if_neg (by omega)]
theorem ext_getD {xs ys:List Int} (hl:xs.length=ys.length) (h:∀ j,j<xs.length->xs.getD j 0=ys.getD j 0):xs=ys:=by
 apply List.ext_getElem hl
 intro i h1 h2
 have:=h i h1
 simpa [List.getD_eq_getElem?_getD,h1,h2] using this
def encL (ls:List (List Int)):List Int:=ls.flatMap fun d=>90::bodyF d
theorem encL_len (ls:List (List Int)):(encL ls).length=needF ls:=by
 induction ls with
 | nil=>rfl
 | cons d ls ih=>rw [needF_cons];simp only [encL,List.flatMap_cons,List.length_append,List.length_cons,bodyF_len] at ih ⊢;omega
theorem encL_app (ls:List (List Int)) (d:List Int):encL (ls++[d])=encL ls++(90::bodyF d):=by simp [encL]
theorem needF_snoc (ls:List (List Int)) (d:List Int):needF (ls++[d])=needF ls+d.length+11:=by
 rw [← encL_len,encL_app,List.length_append,encL_len,List.length_cons,bodyF_len];omega
theorem numF_cons (x:Int) (zs:List Int):numF (x::zs)=x*256 ^ zs.length+numF zs:=by
 have key:∀ (zs:List Int) (n:Int),zs.foldl (fun n x=>256*n+x) n=n*256 ^ zs.length+zs.foldl (fun n x=>256*n+x) 0:=by
  intro zs
  induction zs with
  | nil=>intro n;simp
  | cons y zs ih=>
   intro n
   simp only [List.foldl_cons,List.length_cons]
   rw [ih (256*n+y),ih (256*0+y),Int.mul_zero,Int.zero_add,Int.add_mul,Int.pow_succ,Int.mul_comm 256 n,Int.mul_assoc n 256,Int.mul_comm 256 (256 ^ zs.length),Int.add_assoc]
 unfold numF
 simp only [List.foldl_cons]
 rw [key];simp
theorem numF_stor {n:Int} (hn:0<=n):∀ k,numF (storF n k)=n % 256 ^ k
 | 0=>by simp [storF,numF]
 | k+1=>by
  rw [storF,numF_cons,storF_len,numF_stor hn k,Int.pow_succ]
  have hp:(0:Int)<256 ^ k:=Int.pow_pos (by decide)
  generalize (256:Int) ^ k=m at *
  have e1:=Int.mul_ediv_add_emod n m
  have e2:=Int.mul_ediv_add_emod (n / m) 256
  have e3:n % (m*256)=n-m*256*(n / (m*256)):=by have:=Int.mul_ediv_add_emod n (m*256);omega
  have e4:n / (m*256)=n / m / 256:=by rw [Int.ediv_ediv_of_nonneg (Int.le_of_lt hp)]
  rw [e3,e4,Int.mul_assoc m 256]
  have e5:m*(256*(n / m / 256))=m*(n / m)-m*(n / m % 256):=by rw [show 256*(n / m / 256)=n / m-n / m % 256 by omega,Int.mul_sub]
  rw [e5,Int.mul_comm (n / m % 256) m]
  omega
theorem getA (X Y:List Int) (j:Nat):(X++Y).getD j 0=if j<X.length then X.getD j 0 else Y.getD (j-X.length) 0:=by
 rw [List.getD_eq_getElem?_getD]
 by_cases h:j<X.length
 ·rw [if_pos h,List.getElem?_append_left h,List.getD_eq_getElem?_getD]
 ·rw [if_neg h,List.getElem?_append_right (by omega),List.getD_eq_getElem?_getD]
theorem getTake (X:List Int) (n j:Nat) (h:j<n):(X.take n).getD j 0=X.getD j 0:=by
 rw [List.getD_eq_getElem?_getD,List.getElem?_take,if_pos h,List.getD_eq_getElem?_getD]
theorem getDrop (X:List Int) (n j:Nat):(X.drop n).getD j 0=X.getD (n+j) 0:=by
 rw [List.getD_eq_getElem?_getD,List.getElem?_drop,List.getD_eq_getElem?_getD]
theorem part_congr {z w:List Int} {lo n:Nat} (hl:z.length=w.length) (h:∀ j,lo<=j->j<lo+n->z.getD j 0=w.getD j 0):(z.drop lo).take n=(w.drop lo).take n:=by
 apply ext_getD (by simp [hl])
 intro j hj
 rw [List.length_take] at hj
 rw [getTake _ _ _ (by omega),getTake _ _ _ (by omega),getDrop,getDrop]
 exact h _ (by omega) (by omega)
theorem parse_mk:∀ {ls:List (List Int)} {t:List Int},(∀ d∈ls,d.length<65536)->(t=[]\/t.getD 0 0=255)->parseF (encL ls++t)=some (ls,needF ls)
 | [],t,_,ht=>by
  rw [parseF_step,if_pos (by simpa [encL] using ht)];rfl
 | d::ls,t,hs,ht=>by
  have hd:=hs d (by simp)
  have ih:=parse_mk (ls:=ls) (t:=t) (fun x hx=>hs x (List.mem_cons_of_mem _ hx)) ht
  have er:encL (d::ls)++t=90::(bodyF d++(encL ls++t)):=by simp [encL]
  rw [er,parseF_step]
  have h1:((90::(bodyF d++(encL ls++t)):List Int).drop 1)=bodyF d++(encL ls++t):=rfl
  have eb:bodyF d=storF (d.length:Int) 2++(d++storF (sumF (storF (d.length:Int) 2++d)) 8):=by unfold bodyF;rw [List.append_assoc]
  have h2:(numF ((bodyF d++(encL ls++t)).take 2)).toNat=d.length:=by
   rw [eb,List.append_assoc,List.take_left' (storF_len _ _),numF_stor (by omega)]
   omega
  have h3:((90::(bodyF d++(encL ls++t)):List Int).drop 3).take d.length=d:=by
   rw [show ((90::(bodyF d++(encL ls++t)):List Int).drop 3)=(bodyF d++(encL ls++t)).drop 2 from rfl,eb,List.append_assoc,List.drop_left' (storF_len _ _),List.append_assoc,List.take_left' rfl]
  have h4:(bodyF d++(encL ls++t)).take (d.length+10)=bodyF d:=List.take_left' (bodyF_len d)
  have h5:(90::(bodyF d++(encL ls++t)):List Int).drop (d.length+11)=encL ls++t:=by
   show (bodyF d++(encL ls++t)).drop (d.length+10)=_
   rw [List.drop_left' (bodyF_len d)]
  rw [if_neg (by simp),h1,h2,if_neg (by simp [bodyF_len];omega),if_neg (by simp [bodyF_len]),h3,h4,if_neg (by simp),h5,ih,needF_cons]
  rfl
theorem parseN_inv:∀ (f:Nat) (r:List Int) (ls:List (List Int)) (n:Nat),r.length<=f->(∀ z∈r,0<=z/\z<=255)->parseN f r=some (ls,n)->r.take n=encL ls/\n=needF ls/\n<=r.length/\(n=r.length\/r.getD n 0=255)/\∀ d∈ls,d.length<65536/\∀ z∈d,0<=z/\z<=255
 | 0,r,ls,n,hf,hb,h=>by
  simp [parseN] at h
  obtain ⟨rfl,rfl⟩:=h
  have :r=[]:=List.length_eq_zero_iff.1 (by omega)
  subst this
  exact ⟨rfl,rfl,Nat.le_refl _,.inl rfl,by simp⟩
 | f+1,r,ls,n,hf,hb,h=>by
  unfold parseN at h
  split at h
  ·rename_i q
   simp at h;obtain ⟨rfl,rfl⟩:=h
   exact ⟨rfl,rfl,Nat.zero_le _,q.imp (fun e=>by rw [e];rfl) id,by simp⟩
  split at h
  ·cases h
  rename_i q2
  split at h
  ·cases h
  rename_i q3
  split at h
  ·cases h
  rename_i q4
  have hlen:(numF ((r.drop 1).take 2)).toNat<65536:=(lenF_bd hb 0).1
  generalize hm:(numF ((r.drop 1).take 2)).toNat=m at *
  cases hp:parseN f (r.drop (m+11)) with
  | none=>rw [hp] at h;cases h
  | some x=>
   rw [hp] at h
   simp only [Option.map_some,Option.some.injEq,Prod.mk.injEq] at h
   obtain ⟨rfl,rfl⟩:=h
   obtain ⟨i1,i2,i3,i4,i5⟩:=parseN_inv f (r.drop (m+11)) x.1 x.2 (by rw [List.length_drop];omega) (fun z hz=>hb z (List.drop_subset _ _ hz)) hp
   rw [List.length_drop] at i3 i4
   simp only [not_or,Decidable.not_not] at q2 q4
   have h0:r=90::r.drop 1:=by
    cases r with
    | nil=>simp at q3
    | cons y r=>have:=q2.1;simp at this;subst this;rfl
   have ed:((r.drop 3).take m).length=m:=by rw [List.length_take,List.length_drop];omega
   refine ⟨?_,by rw [needF_cons,ed];omega,by omega,?_,?_⟩
   ·rw [show encL ((r.drop 3).take m::x.1)=90::(bodyF ((r.drop 3).take m)++encL x.1) by simp [encL],q4,← i1]
    conv=>lhs;rw [h0]
    rw [show m+11+x.2=(m+10+x.2)+1 by omega,List.take_succ_cons]
    congr 1
    rw [show r.drop (m+11)=(r.drop 1).drop (m+10) by rw [List.drop_drop];congr 1;omega,List.take_add]
   ·rw [getDrop] at i4
    exact i4.imp (fun e=>by omega) id
   ·intro d hd
    rcases List.mem_cons.1 hd with rfl|hd
    ·exact ⟨by omega,fun z hz=>hb z (List.drop_subset _ _ (List.take_subset _ _ hz))⟩
    ·exact i5 d hd
theorem parse_inv {r:List Int} {ls:List (List Int)} {n:Nat} (hb:∀ z∈r,0<=z/\z<=255) (h:parseF r=some (ls,n)):r.take n=encL ls/\n=needF ls/\n<=r.length/\(n=r.length\/r.getD n 0=255)/\∀ d∈ls,d.length<65536/\∀ z∈d,0<=z/\z<=255:=parseN_inv _ _ _ _ (Nat.le_refl _) hb h
theorem used_mark {h a:Nat} {g:Int} {z:List Int} (hu:usedF h z=((a:Int),g)):z.getD a 0=90/\g=genF z a:=by
 unfold usedF at hu
 by_cases q0:z.getD 0 0=90
 ·rw [if_pos q0] at hu
  simp only at hu
  split at hu
  ·rename_i q
   obtain ⟨e1,e2⟩:=Prod.mk.inj hu
   have :h=a:=by omega
   subst this
   exact ⟨q.1,e2.symm⟩
  ·obtain ⟨e1,e2⟩:=Prod.mk.inj hu
   have :a=0:=by omega
   subst this
   exact ⟨q0,e2.symm⟩
 ·rw [if_neg q0] at hu
  simp only at hu
  split at hu
  ·rename_i q
   obtain ⟨e1,e2⟩:=Prod.mk.inj hu
   have :h=a:=by omega
   subst this
   exact ⟨q.1,e2.symm⟩
  ·obtain ⟨e1,e2⟩:=Prod.mk.inj hu
   omega
theorem used_one {h a o:Nat} {z:List Int} (ha:(a=0/\o=h)\/(a=h/\o=0)) (hb:∀ x∈z,0<=x/\x<=255) (h1:z.getD a 0=90) (h2:z.getD o 0≠90):usedF h z=((a:Int),genF z a):=by
 have g0:=genF_bd hb a
 unfold usedF
 rcases ha with ⟨rfl,rfl⟩|⟨rfl,rfl⟩
 ·rw [if_pos h1,if_neg (fun q=>h2 q.1)];rfl
 ·rw [if_neg h2,if_pos ⟨h1,by show genF z a> -1;omega⟩]
theorem used_new {h a o:Nat} {z:List Int} (ha:(a=0/\o=h)\/(a=h/\o=0)) (h1:z.getD o 0=90) (h2:genF z o=genF z a+1) (hb:∀ x∈z,0<=x/\x<=255):usedF h z=((o:Int),genF z o):=by
 have g0:=genF_bd hb o
 unfold usedF
 rcases ha with ⟨rfl,rfl⟩|⟨rfl,rfl⟩
 ·by_cases q:z.getD 0 0=90
  ·rw [if_pos q,if_pos ⟨h1,by show genF z o>genF z 0;omega⟩]
  ·rw [if_neg q,if_pos ⟨h1,by show genF z o> -1;omega⟩]
 ·rw [if_pos h1,if_neg (fun q=>by have:=q.2;simp only at this;omega)];rfl
theorem used_congr {h:Nat} {z w:List Int} (hl:z.length=w.length) (c:∀ j,j<5\/(h<=j/\j<h+5)->z.getD j 0=w.getD j 0):usedF h z=usedF h w:=by
 have e0:genF z 0=genF w 0:=by unfold genF;rw [part_congr hl (fun j h1 h2=>c j (.inl (by omega)))]
 have e1:genF z h=genF w h:=by unfold genF;rw [part_congr hl (fun j h1 h2=>c j (.inr (by omega)))]
 unfold usedF
 rw [e0,e1,c 0 (.inl (by omega)),c h (.inr (by omega))]
def AllM (s:Int) (N:Nat) (P R:List Int->Prop) (l:List (Int×List Int)):Prop:=
 l≠[]/\(∀ m∈l,m.1=s/\m.2.length=N/\(∀ x∈m.2,0<=x/\x<=255)/\R m.2)/\P (lastM l).2
def Out (w z:List Int) (lo hi:Nat):Prop:=w.length=z.length/\∀ j,j<lo\/hi<=j->w.getD j 0=z.getD j 0
theorem Out.trans {w v z:List Int} {lo hi lo1 hi1:Nat} (h:Out w v lo1 hi1) (g:Out v z lo hi) (h1:lo<=lo1) (h2:hi1<=hi):Out w z lo hi:=
 ⟨h.1.trans g.1,fun j hj=>(h.2 j (by omega)).trans (g.2 j hj)⟩
theorem Out.refl (z:List Int) (lo hi:Nat):Out z z lo hi:=⟨rfl,fun _ _=>rfl⟩
theorem Out.mono {w z:List Int} {lo hi lo1 hi1:Nat} (h:Out w z lo1 hi1) (h1:lo<=lo1) (h2:hi1<=hi):Out w z lo hi:=⟨h.1,fun j hj=>h.2 j (by omega)⟩
def Er (z:List Int) (lo hi:Nat):Prop:=∀ j,lo<=j->j<hi->z.getD j 0=255
def At (z:List Int) (a:Nat) (ds:List Int):Prop:=∀ j,j<ds.length->z.getD (a+j) 0=ds.getD j 0
def Keeps (lo hi:Nat) (P:List Int->Prop):Prop:=∀ z w:List Int,P z->Out w z lo hi->P w
theorem last_mem {l:List (Int×List Int)} (h:l≠[]):lastM l∈l:=by
 unfold lastM
 rw [List.getLastD_eq_getLast?,List.getLast?_eq_some_getLast h]
 exact List.getLast_mem h
theorem stp_out (g:Nat->Int->Int) (a:Nat) (z:List Int) (i:Nat):Out (stp g a z i) z a (a+i):=
 ⟨stp_len _ _ _ _,fun j hj=>by rw [stp_get,if_neg (by omega)]⟩
theorem chg_all {s:Int} {a lo hi n N:Nat} {g:Nat->Int->Int} {P R:List Int->Prop} {l:List (Int×List Int)} (hP:Keeps lo hi P) (hR:∀ z,P z->R z) (hg:∀ i x,0<=g i x/\g i x<=255)
  (h:AllM s N P R l) (h1:lo<=a) (h2:a+n<=hi) (hn:1<=n):AllM s N P R (chgF l (mems s g a (lastM l).2 (n+1))):=by
 obtain ⟨hl,ha,hp⟩:=h
 obtain ⟨z1,z2,z3,z4⟩:=ha _ (last_mem hl)
 have hst:∀ i,i<=n->P (stp g a (lastM l).2 i):=fun i hi'=>hP _ _ hp ((stp_out g a _ i).mono h1 (by omega))
 refine ⟨by simp [chgF,hl],fun m hm=>?_,?_⟩
 ·rcases List.mem_append.1 hm with h|h
  ·exact ha m h
  ·have h:=List.mem_of_mem_drop h
   simp only [mems,List.mem_map,List.mem_range] at h
   obtain ⟨i,hi',rfl⟩:=h
   exact ⟨rfl,by rw [stp_len];exact z2,stp_byte z3 hg i,hR _ (hst i (by omega))⟩
 ·rw [mems_last hn];exact hst n (Nat.le_refl _)
section
variable {s:Int} {N lo hi:Nat} {P R:List Int->Prop} (hv:validF s N) (hP:Keeps lo hi P) (hR:∀ z,P z->R z)
include hv hP hR
theorem progL_all {a:Nat} {ds:List Int} {l:List (Int×List Int)} (h1:lo<=a) (h2:a+ds.length<=hi) (hN:a+ds.length<=N) (hn:1<=ds.length) (h:AllM s N P R l):AllM s N P R (progL l a ds):=by
 obtain ⟨z1,z2,z3,z4⟩:=h.2.1 _ (last_mem h.1)
 unfold progL
 rw [z1,progF_mk (by rw [z2];exact hv) (by omega) (by omega)]
 exact chg_all hP hR (fun i x=>band8_bd _ _) h (by simpa using h1) (by simpa using h2) hn
theorem writeL_all {a:Nat} {ds:List Int} {l:List (Int×List Int)} (h1:lo<=a) (h2:a+ds.length+11<=hi) (hN:a+ds.length+11<=N) (h:AllM s N P R l):AllM s N P R (writeL l a ds):=
 progL_all hv hP hR h1 (by simp;omega) (by simp;omega) (by simp) (progL_all hv hP hR (by omega) (by rw [bodyF_len];omega) (by rw [bodyF_len];omega) (by rw [bodyF_len];omega) h)
theorem writesL_all:∀ {keep:List (List Int)} {k:Nat} {l:List (Int×List Int)},lo<=k->k+needF keep<=hi->k+needF keep<=N->AllM s N P R l->AllM s N P R (writesL k l keep).1
 | [],_,_,_,_,_,h=>h
 | d::keep,k,l,h1,h2,hN,h=>by
  rw [needF_cons] at h2 hN
  rw [writesL_cons]
  exact writesL_all (by omega) (by omega) (by omega) (writeL_all hv hP hR h1 (by omega) (by omega) h)
end
section
variable {st N lo hi:Nat} {P R:List Int->Prop} (hv:validF st N) (hP:Keeps lo hi P) (hR:∀ z,P z->R z)
include hv
theorem erasL_eq {k:Nat} {l:List (Int×List Int)} (h:AllM st N P R l) (hN:(k+1)*st<=N):erasL l k=chgF l (mems st gE (k*st) (lastM l).2 (st+1)):=by
 obtain ⟨z1,z2,z3,z4⟩:=h.2.1 _ (last_mem h.1)
 have h1:1<=st:=by have:=hv.1;omega
 unfold erasL
 rw [z1,erasF_mk (by rw [z2];exact hv) (by omega) (by
   rw [Int.lt_iff_add_one_le,Int.le_ediv_iff_mul_le (by omega),z2]
   have :(((k+1)*st:Nat):Int)<=(N:Int):=by omega
   rw [Int.natCast_mul] at this
   simpa using this),← Int.natCast_mul,Int.toNat_natCast,Int.toNat_natCast]
include hP hR
theorem erasL_all {k:Nat} {l:List (Int×List Int)} (h1:lo<=k*st) (h2:(k+1)*st<=hi) (hN:(k+1)*st<=N) (h:AllM st N P R l):AllM st N P R (erasL l k):=by
 rw [erasL_eq hv h hN]
 rw [Nat.add_mul] at h2
 exact chg_all hP hR (fun i x=>by simp [gE]) h h1 (by omega) (by have:=hv.1;omega)
theorem erases_all {p:Nat} {zs:List Int} (hl:zs.length=N) (hz:∀ x∈zs,0<=x/\x<=255) (hR0:R zs) (h0:∀ w,w.getD (p*st) 0=255->Out w zs (p*st) hi->P w) (h1:lo<=p*st+1):
  ∀ {n:Nat},(p+n+1)*st<=hi->(p+n+1)*st<=N->AllM st N P R (erasesL p (n+1) [((st:Int),zs)])
 | 0,h2,hN=>by
  have hs1:1<=st:=by have:=hv.1;omega
  have h:AllM st N R R [((st:Int),zs)]:=⟨by simp,fun m hm=>by
   rw [List.mem_singleton] at hm;subst hm;exact ⟨rfl,hl,hz,hR0⟩,hR0⟩
  show AllM st N P R (erasL [((st:Int),zs)] p)
  rw [erasL_eq hv h hN]
  show AllM st N P R (chgF [((st:Int),zs)] (mems st gE (p*st) zs (st+1)))
  have hw:∀ i,1<=i->i<=st->P (stp gE (p*st) zs i):=fun i hi1 hi2=>by
   rw [Nat.add_mul,Nat.add_zero] at h2 hN
   refine h0 _ ?_ ((stp_out gE _ _ i).mono (Nat.le_refl _) (by omega))
   rw [stp_get,if_pos (by omega)];rfl
  refine ⟨by simp [chgF],fun m hm=>?_,by rw [mems_last hs1];exact hw _ hs1 (Nat.le_refl _)⟩
  rcases List.mem_append.1 hm with q|q
  ·exact h.2.1 m q
  ·rw [List.mem_iff_getElem?] at q
   obtain ⟨i,q⟩:=q
   rw [List.getElem?_drop] at q
   have hi':1+i<st+1:=by
    have:=(List.getElem?_eq_some_iff.1 q).1
    rwa [mems_len] at this
   rw [mems_get hi'] at q
   cases q
   exact ⟨rfl,by rw [stp_len];exact hl,stp_byte hz (fun i x=>by simp [gE]) _,hR _ (hw _ (by omega) (by omega))⟩
 | n+1,h2,hN=>by
  have hs1:1<=st:=by have:=hv.1;omega
  have e:(p+(n+1)+1)*st=(p+n+1)*st+st:=by rw [show p+(n+1)+1=(p+n+1)+1 by omega,Nat.add_mul,Nat.one_mul]
  have ih:=erases_all hl hz hR0 h0 h1 (n:=n) (by omega) (by omega)
  have e2:(p+(n+1))*st=p*st+(n+1)*st:=Nat.add_mul _ _ _
  have e3:(n+1)*st=n*st+st:=by rw [Nat.add_mul,Nat.one_mul]
  exact erasL_all hv hP hR (k:=p+(n+1)) (by omega) h2 hN ih
end
theorem prog_last {s:Int} {N a:Nat} {ds z:List Int} {l:List (Int×List Int)} (hv:validF s N) (hl:lastM l=(s,z)) (hN:z.length=N) (ha:a+ds.length<=N) (hd:1<=ds.length) (hds:∀ x∈ds,0<=x/\x<=255) (he:Er z a (a+ds.length)):
  ∃ w,lastM (progL l a ds)=(s,w)/\At w a ds/\Out w z a (a+ds.length):=by
 obtain ⟨e1,_⟩:=progL_ok (l:=l) (a:=a) (ds:=ds) (by rw [hl];simp only;rw [hN];exact hv) (by rw [hl];simp only;omega) hd
 rw [hl] at e1
 refine ⟨_,e1,fun j hj=>?_,stp_out _ _ _ _⟩
 show (stp (gP ds) a z ds.length).getD _ _=_
 rw [stp_get,if_pos (by omega),he _ (by omega) (by omega)]
 show band8 255 (ds.getD (a+j-a) 0)=_
 rw [show a+j-a=j by omega]
 refine band8_255 (hds _ ?_)
 rw [List.getD_eq_getElem?_getD,List.getElem?_eq_getElem hj]
 exact List.getElem_mem hj
theorem At.app {z:List Int} {a:Nat} {xs ys:List Int} (h:At z a xs) (g:At z (a+xs.length) ys):At z a (xs++ys):=fun j hj=>by
 rw [getA]
 by_cases q:j<xs.length
 ·rw [if_pos q];exact h j q
 ·rw [if_neg q]
  rw [List.length_append] at hj
  have:=g (j-xs.length) (by omega)
  rwa [show a+xs.length+(j-xs.length)=a+j by omega] at this
theorem At.out {w z:List Int} {a lo hi:Nat} {xs:List Int} (h:At z a xs) (g:Out w z lo hi) (h1:a+xs.length<=lo\/hi<=a):At w a xs:=fun j hj=>(g.2 _ (by omega)).trans (h j hj)
theorem Er.out {w z:List Int} {a b lo hi:Nat} (h:Er z a b) (g:Out w z lo hi) (h1:b<=lo\/hi<=a):Er w a b:=fun j q1 q2=>(g.2 _ (by omega)).trans (h j q1 q2)
theorem Er.sub {z:List Int} {a b c d:Nat} (h:Er z a b) (h1:a<=c) (h2:d<=b):Er z c d:=fun j q1 q2=>h j (by omega) (by omega)
theorem write_last {s:Int} {N a:Nat} {ds z:List Int} {l:List (Int×List Int)} (hv:validF s N) (hl:lastM l=(s,z)) (hN:z.length=N) (ha:a+ds.length+11<=N) (hds:∀ x∈ds,0<=x/\x<=255) (he:Er z a (a+ds.length+11)):
  ∃ w,lastM (writeL l a ds)=(s,w)/\At w a (90::bodyF ds)/\Out w z a (a+ds.length+11):=by
 have hb:=bodyF_len ds
 obtain ⟨v,h1,h2,h3⟩:=prog_last (a:=a+1) (ds:=bodyF ds) hv hl hN (by omega) (by omega) (bodyF_byte hds) (he.sub (by omega) (by omega))
 have h4:v.length=N:=h3.1.trans hN
 obtain ⟨w,g1,g2,g3⟩:=prog_last (a:=a) (ds:=[90]) hv h1 h4 (by simp;omega) (by simp) (by simp) ((he.sub (Nat.le_refl a) (show a+[90].length<=_ by simp;omega)).out h3 (.inl (by simp)))
 refine ⟨w,g1,At.app (xs:=[90]) g2 (h2.out g3 (.inr (by simp))),?_⟩
 exact (g3.mono (Nat.le_refl _) (by simp;omega)).trans (h3.mono (by omega) (by omega)) (Nat.le_refl a) (Nat.le_refl (a+ds.length+11))
theorem writes_last {s:Int} {N:Nat} (hv:validF s N):∀ {keep:List (List Int)} {k:Nat} {l:List (Int×List Int)} {z:List Int},lastM l=(s,z)->z.length=N->k+needF keep<=N->(∀ d∈keep,∀ x∈d,0<=x/\x<=255)->Er z k (k+needF keep)->
  ∃ w,lastM (writesL k l keep).1=(s,w)/\At w k (encL keep)/\Out w z k (k+needF keep)
 | [],k,l,z,hl,_,_,_,_=>⟨z,hl,fun j hj=>by simp [encL] at hj,Out.refl _ _ _⟩
 | d::keep,k,l,z,hl,hN,hk,hd,he=>by
  rw [needF_cons] at hk he ⊢
  obtain ⟨v,h1,h2,h3⟩:=write_last (a:=k) (ds:=d) hv hl hN (by omega) (hd d (by simp)) (he.sub (by omega) (by omega))
  obtain ⟨w,g1,g2,g3⟩:=writes_last (keep:=keep) (k:=k+d.length+11) (l:=writeL l k d) hv h1 (h3.1.trans hN) (by omega) (fun x hx=>hd x (List.mem_cons_of_mem _ hx)) ((he.sub (by omega) (by omega)).out h3 (.inr (Nat.le_refl _)))
  rw [writesL_cons]
  refine ⟨w,g1,?_,(g3.mono (show k<=_ by omega) (by omega)).trans (h3.mono (Nat.le_refl _) (by omega)) (Nat.le_refl _) (Nat.le_refl (k+(d.length+11+needF keep)))⟩
  have hb:(90::bodyF d).length=d.length+11:=by rw [List.length_cons,bodyF_len]
  exact At.app (xs:=90::bodyF d) (h2.out g3 (.inl (by omega))) (by rw [hb,← Nat.add_assoc];exact g2)
theorem erases_last {st N p:Nat} {z:List Int} (hv:validF st N) (hN:z.length=N):∀ {n:Nat},(p+n)*st<=N->∃ w,lastM (erasesL p n [((st:Int),z)])=((st:Int),w)/\Er w (p*st) ((p+n)*st)/\Out w z (p*st) ((p+n)*st)
 | 0,_=>⟨z,rfl,fun j h1 h2=>by rw [Nat.add_zero] at h2;omega,Out.refl _ _ _⟩
 | n+1,h=>by
  have e:(p+(n+1))*st=(p+n)*st+st:=by rw [← Nat.add_assoc,Nat.add_mul,Nat.one_mul]
  have e2:(p+n)*st=p*st+n*st:=Nat.add_mul _ _ _
  obtain ⟨v,h1,h2,h3⟩:=erases_last (p:=p) hv hN (n:=n) (by omega)
  have h4:=h3.1.trans hN
  obtain ⟨g1,_,_⟩:=erasL_ok (k:=p+n) h1 (by rw [h4];exact hv) (by rw [h4];exact h)
  have g3:=stp_out gE ((p+n)*st) v st
  rw [e]
  refine ⟨_,g1,fun j q1 q2=>?_,(g3.mono (by omega) (Nat.le_refl _)).trans (h3.mono (Nat.le_refl _) (by omega)) (Nat.le_refl _) (Nat.le_refl _)⟩
  by_cases q:j<(p+n)*st
  ·rw [g3.2 j (.inl q)];exact h2 j q1 q
  ·rw [stp_get,if_pos (by rw [h4];omega)];rfl
theorem rewL_eq {s:Int} {zs:List Int} {a:Nat} (g:Int) (keep:List (List Int)) (hA:areaF s zs.length≠0) (ha:a=0\/a=areaF s zs.length):
  ∃ st p q:Nat,s=(st:Int)/\areaF s zs.length=(q+1)*st/\areaF s zs.length-a=p*st/\(p+q+1)*st=areaF s zs.length-a+areaF s zs.length/\1<=st/\
   rewL s zs (areaF s zs.length) a g keep=progL (progL (writesL (areaF s zs.length-a+5) (erasesL p (q+1) [((st:Int),zs)]) keep).1 (areaF s zs.length-a+1) (storF (g+1) 4)) (areaF s zs.length-a) [90]:=by
 obtain ⟨st,q,rfl,hq,hst1,hst2,hl⟩:=areaF_div hA
 have hq0:q≠0:=fun e=>by subst e;simp at hq;exact hA hq
 obtain ⟨q,rfl⟩:∃ k,q=k+1:=⟨q-1,by omega⟩
 obtain ⟨p,hp⟩:∃ p,areaF st zs.length-a=st*p:=by
  rcases ha with rfl|rfl
  ·exact ⟨q+1,by omega⟩
  ·exact ⟨0,by omega⟩
 refine ⟨st,p,q,rfl,by rw [hq,Nat.mul_comm],by rw [hp,Nat.mul_comm],?_,hst1,?_⟩
 ·rw [hp,hq,← Nat.mul_add,Nat.mul_comm,Nat.add_assoc]
 ·unfold rewL
  rw [hp,hq,Int.toNat_natCast,Nat.mul_div_cancel_left _ hst1,Nat.mul_div_cancel_left _ hst1]
theorem rew_all {s:Int} {zs:List Int} {a o h:Nat} {g:Int} {keep:List (List Int)} {P R:List Int->Prop} (hA:areaF s zs.length≠0) (hh:h=areaF s zs.length) (ha:(a=0/\o=h)\/(a=h/\o=0)) (hroom:5+needF keep<=h)
  (hz:∀ x∈zs,0<=x/\x<=255) (hk:∀ d∈keep,∀ x∈d,0<=x/\x<=255) (hR:∀ z,P z->R z) (hR0:R zs) (h0:∀ w,w.getD o 0=255->Out w zs o (o+h)->P w) (hP:Keeps (o+1) (o+h) P):
  ∃ X w,rewL s zs h a g keep=X++[(s,w)]/\AllM s zs.length P R X/\AllM s zs.length (fun _=>True) (fun _=>True) (X++[(s,w)])/\
   w.getD o 0=90/\At w (o+1) (storF (g+1) 4)/\At w (o+5) (encL keep)/\Er w (o+5+needF keep) (o+h)/\Out w zs o (o+h):=by
 obtain ⟨a1,hv,a3,a4,a5,a6⟩:=areaF_ok hA
 obtain ⟨st,p,q,rfl,hq,hp,hpq,hst1,er⟩:=rewL_eq (a:=a) g keep hA (by omega)
 rw [← hh] at hq hp hpq er a5
 have ho:h-a=o:=by omega
 rw [ho] at hp hpq er
 have c1:=erases_all hv hP hR (lo:=o+1) (hi:=o+h) (p:=p) (zs:=zs) rfl hz hR0 (by rw [← hp];exact h0) (by omega) (n:=q) (by omega) (by omega)
 have c2:=writesL_all hv hP hR (keep:=keep) (k:=o+5) (by omega) (by omega) (by omega) c1
 have c3:=progL_all hv hP hR (a:=o+1) (ds:=storF (g+1) 4) (by omega) (by rw [storF_len];omega) (by rw [storF_len];omega) (by rw [storF_len];omega) c2
 obtain ⟨w1,d1,d2,d3⟩:=erases_last (p:=p) (z:=zs) hv rfl (n:=q+1) (by rw [← Nat.add_assoc];omega)
 rw [← Nat.add_assoc,hpq,← hp] at d2 d3
 obtain ⟨w2,e1,e2,e3⟩:=writes_last hv d1 d3.1 (k:=o+5) (keep:=keep) (by omega) hk (d2.sub (by omega) (by omega))
 have l2:=e3.1.trans d3.1
 obtain ⟨w3,f1,f2,f3⟩:=prog_last (a:=o+1) (ds:=storF (g+1) 4) hv e1 l2 (by rw [storF_len];omega) (by rw [storF_len];omega) (storF_byte _ _) ((d2.sub (show o<=o+1 by omega) (by rw [storF_len];omega)).out e3 (.inl (by rw [storF_len];omega)))
 rw [storF_len] at f3
 have l3:=f3.1.trans l2
 have er3:Er w3 o (o+1):=((d2.sub (Nat.le_refl _) (by omega)).out e3 (.inl (by omega))).out f3 (.inl (by omega))
 obtain ⟨w,g1,g2,g3⟩:=prog_last (a:=o) (ds:=[90]) hv f1 l3 (by simp;omega) (by simp) (by simp) er3
 have g3:Out w w3 o (o+1):=g3
 generalize progL (writesL (o+5) (erasesL p (q+1) [((st:Int),zs)]) keep).1 (o+1) (storF (g+1) 4)=X at er c3 f1 g1
 have hX:progL X o [90]=X++[((st:Int),w)]:=by
  have e9:progL X o [90]=X++[((st:Int),stp (gP [90]) o w3 1)]:=by
   unfold progL
   rw [f1]
   simp only
   rw [progF_mk (by rw [l3];exact hv) (by omega) (by rw [l3];simp;omega),Int.toNat_natCast]
   rfl
  rw [e9] at g1 ⊢
  unfold lastM at g1
  rw [List.getLastD_concat] at g1
  rw [g1]
 have hT:AllM st zs.length (fun _=>True) (fun _=>True) X:=⟨c3.1,fun m hm=>by obtain ⟨x1,x2,x3,x4⟩:=c3.2.1 m hm;exact ⟨x1,x2,x3,trivial⟩,trivial⟩
 refine ⟨X,w,by rw [er,hX],c3,by rw [← hX];exact progL_all (lo:=0) (hi:=o+h) hv (fun _ _ _ _=>trivial) (fun _ _=>trivial) (by omega) (by simp;omega) (by simp;omega) (by simp) hT,?_,f2.out g3 (.inr (by omega)),(e2.out f3 (.inr (by omega))).out g3 (.inr (by omega)),?_,?_⟩
 ·exact g2 0 (by simp)
 ·exact (((d2.sub (show o<=o+5+needF keep by omega) (Nat.le_refl _)).out e3 (.inr (by omega))).out f3 (.inr (by omega))).out g3 (.inr (by omega))
 ·exact (g3.mono (Nat.le_refl _) (show o+1<=o+h by omega)).trans ((f3.mono (show o<=o+1 by omega) (show _<=o+h by omega)).trans ((e3.mono (show o<=o+5 by omega) (show _<=o+h by omega)).trans d3 (Nat.le_refl _) (Nat.le_refl _)) (Nat.le_refl _) (Nat.le_refl _)) (Nat.le_refl _) (Nat.le_refl _)
theorem recs_at {z:List Int} {a h:Nat} {ls:List (List Int)} (ha:a+h<=z.length) (hat:At z (a+5) (encL ls)) (hr:5+needF ls<=h):∃ t,recsB h a z=encL ls++t/\t.length+needF ls=h-5/\t.getD 0 0=if 5+needF ls<h then z.getD (a+5+needF ls) 0 else 0:=by
 have hn:=encL_len ls
 refine ⟨(recsB h a z).drop (needF ls),?_,?_,?_⟩
 ·conv=>lhs;rw [← List.take_append_drop (needF ls) (recsB h a z)]
  congr 1
  apply ext_getD (by rw [List.length_take];unfold recsB;rw [List.length_take,List.length_drop];omega)
  intro j hj
  rw [List.length_take] at hj
  rw [getTake _ _ _ (by omega),recs_get (by omega)]
  exact hat j (by omega)
 ·unfold recsB;rw [List.length_drop,List.length_take,List.length_drop];omega
 ·rw [getDrop]
  by_cases q:5+needF ls<h
  ·rw [if_pos q,recs_get (by omega)];rfl
  ·rw [if_neg q,List.getD_eq_getElem?_getD,List.getElem?_eq_none (by unfold recsB;rw [List.length_take,List.length_drop];omega)];rfl
structure Jo (s:Int) (z:List Int) (ls:List (List Int)) (a:Nat) (g:Int) (h:Nat):Prop where
 op:openF s z=((ls,a,g,5+needF ls),0)
 ar:areaF s z.length=h
 h0:h≠0
 us:usedF h z=((a:Int),g)
 hat:At z (a+5) (encL ls)
 rm:5+needF ls<=h
 en:5+needF ls=h\/z.getD (a+5+needF ls) 0=255
 sm:∀ d∈ls,d.length<65536/\∀ x∈d,0<=x/\x<=255
 bz:∀ x∈z,0<=x/\x<=255
 pl:a=0\/a=h
 sz:2*h=z.length
theorem Jo.mk' {s:Int} {z:List Int} {ls:List (List Int)} {a h:Nat} {g:Int} (ar:areaF s z.length=h) (h0:h≠0) (us:usedF h z=((a:Int),g)) (hat:At z (a+5) (encL ls)) (rm:5+needF ls<=h) (en:5+needF ls=h\/z.getD (a+5+needF ls) 0=255)
  (sm:∀ d∈ls,d.length<65536/\∀ x∈d,0<=x/\x<=255) (bz:∀ x∈z,0<=x/\x<=255) (pl:a=0\/a=h):Jo s z ls a g h:=by
 obtain ⟨_,_,_,_,sz,_⟩:=areaF_ok (by rw [ar];exact h0)
 rw [ar] at sz
 refine ⟨?_,ar,h0,us,hat,rm,en,sm,bz,pl,sz⟩
 obtain ⟨t,e1,e2,e3⟩:=recs_at (by omega) hat rm
 subst ar
 refine openF_ok h0 us ?_
 rw [e1]
 refine parse_mk (fun d hd=>(sm d hd).1) ?_
 by_cases q:5+needF ls=areaF s z.length
 ·left;exact List.length_eq_zero_iff.1 (by omega)
 ·right
  rw [e3,if_pos (by omega)]
  exact en.resolve_left q
theorem Jo.of {s:Int} {z:List Int} (bz:∀ x∈z,0<=x/\x<=255) (h:(openF s z).2=0):∃ ls a g h,Jo s z ls a g h:=by
 obtain ⟨l,a,n,g,h1,h2,h3,h4⟩:=openF_inv h
 obtain ⟨_,_,_,_,sz,_⟩:=areaF_ok h1
 have hb:∀ x∈recsB (areaF s z.length) a z,0<=x/\x<=255:=fun x hx=>bz x (List.drop_subset _ _ (List.take_subset _ _ hx))
 obtain ⟨p1,p2,p3,p4,p5⟩:=parse_inv hb h3
 have pl:a=0\/a=areaF s z.length:=by
  have:=usedF_at (zs:=z) (h:=areaF s z.length)
  rw [h2] at this
  simp only at this
  omega
 have f:=open_facts h4
 have rl:(recsB (areaF s z.length) a z).length=areaF s z.length-5:=by unfold recsB;rw [List.length_take,List.length_drop];omega
 have rm:5+needF l<=areaF s z.length:=by omega
 refine ⟨l,a,g,areaF s z.length,Jo.mk' rfl h1 h2 (fun j hj=>?_) rm ?_ p5 bz pl⟩
 ·rw [← p1] at hj ⊢
  rw [List.length_take] at hj
  rw [getTake _ _ _ (by omega),recs_get (by omega)]
 ·rw [rl] at p4
  subst p2
  by_cases q:5+needF l=areaF s z.length
  ·exact .inl q
  ·right
   have p4:=p4.resolve_left (by omega)
   rwa [recs_get (by omega)] at p4
theorem Jo.mark {s:Int} {z:List Int} {ls:List (List Int)} {a h:Nat} {g:Int} (J:Jo s z ls a g h):z.getD a 0=90/\g=genF z a/\0<=g/\g<4294967296:=by
 have:=used_mark J.us
 have g0:=genF_bd J.bz a
 rw [← this.2] at g0
 exact ⟨this.1,this.2,g0⟩
theorem Jo.hb {s:Int} {z:List Int} {ls:List (List Int)} {a h:Nat} {g:Int} (J:Jo s z ls a g h):h<=8192/\z.length<=16384/\validF s z.length/\16<=h/\areaF s z.length≠0:=by
 have h1:areaF s z.length≠0:=by rw [J.ar];exact J.h0
 obtain ⟨_,h2,_,h3,h4,h5⟩:=areaF_ok h1
 have:=J.ar
 exact ⟨by omega,h5,h2,by omega,h1⟩
theorem Jo.keep {s:Int} {z w:List Int} {ls:List (List Int)} {a o h:Nat} {g:Int} (J:Jo s z ls a g h) (ho:(a=0/\o=h)\/(a=h/\o=0)) (hl:w.length=z.length) (bw:∀ x∈w,0<=x/\x<=255) (hs:∀ j,a<=j->j<a+h->w.getD j 0=z.getD j 0) (hm:w.getD o 0≠90):Jo s w ls a g h:=by
 obtain ⟨m1,m2,m3⟩:=J.mark
 have hh:=J.hb
 have rm:=J.rm
 have eg:genF w a=genF z a:=by unfold genF;rw [part_congr hl (fun j h1 h2=>hs j (by omega) (by omega))]
 refine Jo.mk' (by rw [hl];exact J.ar) J.h0 ?_ (fun j hj=>?_) rm ?_ J.sm bw J.pl
 ·rw [m2,← eg]
  exact used_one ho bw (by rw [hs a (Nat.le_refl _) (by omega)];exact m1) hm
 ·rw [encL_len] at hj
  rw [hs _ (by omega) (by omega)]
  exact J.hat j (by rw [encL_len];exact hj)
 ·rcases J.en with q|q
  ·exact .inl q
  ·by_cases q2:5+needF ls=h
   ·exact .inl q2
   ·exact .inr (by rw [hs _ (by omega) (by omega)];exact q)
theorem Jo.pref {s:Int} {z w:List Int} {ls:List (List Int)} {a k h:Nat} {g:Int} (J:Jo s z ls a g h) (bw:∀ x∈w,0<=x/\x<=255) (ho:Out w z k (a+h)) (hk:a+5+needF ls<k):Jo s w ls a g h:=by
 have hh:=J.hb
 have rm:=J.rm
 refine Jo.mk' (by rw [ho.1];exact J.ar) J.h0 (by rw [used_congr ho.1 (fun j q=>ho.2 j (by have:=J.pl;omega))];exact J.us) (J.hat.out ho (.inl (by rw [encL_len];omega))) rm (J.en.imp_right fun q=>by rw [ho.2 _ (.inl (by omega))];exact q) J.sm bw J.pl
theorem Jo.more {s:Int} {z w:List Int} {ls:List (List Int)} {a h:Nat} {g:Int} {ds:List Int} (J:Jo s z ls a g h) (bw:∀ x∈w,0<=x/\x<=255) (hd:ds.length<65536/\∀ x∈ds,0<=x/\x<=255) (hr:5+needF ls+ds.length+11<=h)
  (he:Er z (a+5+needF ls) (a+h)) (hat:At w (a+5+needF ls) (90::bodyF ds)) (ho:Out w z (a+5+needF ls) (a+5+needF ls+ds.length+11)):Jo s w (ls++[ds]) a g h/\Er w (a+5+needF (ls++[ds])) (a+h):=by
 have hn:=needF_snoc ls ds
 have hE:Er w (a+5+needF (ls++[ds])) (a+h):=(he.sub (by omega) (Nat.le_refl _)).out ho (.inr (by omega))
 have hh:=J.hb
 refine ⟨Jo.mk' (by rw [ho.1];exact J.ar) J.h0 (by rw [used_congr ho.1 (fun j q=>ho.2 j (by have:=J.pl;omega))];exact J.us) ?_ (by omega) ?_ (fun d h=>?_) bw J.pl,hE⟩
 ·rw [encL_app]
  exact At.app (J.hat.out ho (.inl (by rw [encL_len];omega))) (by rw [encL_len];exact hat)
 ·by_cases q:5+needF (ls++[ds])=h
  ·exact .inl q
  ·exact .inr (hE _ (Nat.le_refl _) (by omega))
 ·rcases List.mem_append.1 h with h|h
  ·exact J.sm d h
  ·rw [List.mem_singleton] at h;subst h;exact hd
theorem gen_at {w:List Int} {o:Nat} {n:Int} (hw:o+5<=w.length) (h:At w (o+1) (storF n 4)) (h0:0<=n/\n<4294967296):genF w o=n:=by
 have e:(w.drop (o+1)).take 4=storF n 4:=by
  apply ext_getD (by rw [List.length_take,List.length_drop,storF_len];omega)
  intro j hj
  rw [List.length_take] at hj
  rw [getTake _ _ _ (by omega),getDrop]
  exact h j (by rw [storF_len];omega)
 unfold genF
 rw [e,numF_stor h0.1]
 exact Int.emod_eq_of_lt h0.1 h0.2
theorem clean_iff {h a e:Nat} {z:List Int} (hl:a+h<=z.length) (he:e<=h):cleanF h a e z=true↔Er z (a+e) (a+h):=by
 unfold cleanF
 rw [List.all_eq_true]
 constructor
 ·intro q j h1 h2
  have hj:j-(a+e)<((z.drop (a+e)).take (h-e)).length:=by rw [List.length_take,List.length_drop];omega
  have:=q _ (List.getElem_mem hj)
  have e1:((z.drop (a+e)).take (h-e)).getD (j-(a+e)) 0=z.getD j 0:=by rw [getTake _ _ _ (by omega),getDrop];congr 1;omega
  rw [← e1,List.getD_eq_getElem?_getD,List.getElem?_eq_getElem hj]
  simpa using this
 ·intro q x hx
  obtain ⟨i,hi,rfl⟩:=List.getElem_of_mem hx
  have hi2:=hi
  rw [List.length_take,List.length_drop] at hi2
  have:=q (a+e+i) (by omega) (by omega)
  rw [← getDrop,← getTake _ (h-e) i (by omega),List.getD_eq_getElem?_getD,List.getElem?_eq_getElem hi] at this
  simpa using this
theorem Jo.other {s:Int} {z:List Int} {ls:List (List Int)} {a h:Nat} {g:Int} (J:Jo s z ls a g h):∃ o,(a=0/\o=h)\/(a=h/\o=0):=by
 rcases J.pl with e|e
 ·exact ⟨h,.inl ⟨e,rfl⟩⟩
 ·exact ⟨0,.inr ⟨e,rfl⟩⟩
theorem Jo.rew {s:Int} {z:List Int} {ls keep:List (List Int)} {a o h:Nat} {g:Int} (J:Jo s z ls a g h) (ho:(a=0/\o=h)\/(a=h/\o=0)) (hr:5+needF keep<=h) (hk:∀ d∈keep,d.length<65536/\∀ x∈d,0<=x/\x<=255) (hg:g≠4294967295):
  ∃ X w,rewL s z h a g keep=X++[(s,w)]/\(∀ m∈X,m.1=s/\m.2.length=z.length/\Jo s m.2 ls a g h)/\X≠[]/\w.length=z.length/\Jo s w keep o (g+1) h/\Er w (o+5+needF keep) (o+h):=by
 obtain ⟨m1,m2,m3,m4⟩:=J.mark
 have hh:=J.hb
 have sz:=J.sz
 obtain ⟨X,w,x1,x2,x3,x4,x5,x6,x7,x8⟩:=rew_all (s:=s) (zs:=z) (a:=a) (o:=o) (h:=h) (g:=g) (keep:=keep) (P:=fun w=>w.getD o 0=255/\Out w z o (o+h)) (R:=fun w=>w=z\/(w.getD o 0=255/\Out w z o (o+h)))
  hh.2.2.2.2 J.ar.symm ho hr J.bz (fun d hd=>(hk d hd).2) (fun _ q=>.inr q) (.inl rfl) (fun w q1 q2=>⟨q1,q2⟩) (fun w v q1 q2=>⟨by rw [q2.2 _ (.inl (by omega))];exact q1.1,(q2.mono (show o<=o+1 by omega) (Nat.le_refl _)).trans q1.2 (Nat.le_refl _) (Nat.le_refl _)⟩)
 obtain ⟨y1,y2,y3,y4⟩:=x3.2.1 (s,w) (by simp)
 refine ⟨X,w,x1,fun m hm=>?_,x2.1,y2,?_,x7⟩
 ·obtain ⟨z1,z2,z3,z4⟩:=x2.2.1 m hm
  refine ⟨z1,z2,?_⟩
  rcases z4 with z4|⟨z4,z5⟩
  ·rw [z4];exact J
  ·exact J.keep ho z2 z3 (fun j h1 h2=>z5.2 j (by omega)) (by rw [z4];decide)
 ·have eg:=gen_at (w:=w) (o:=o) (by simp only at y2;omega) x5 (by omega)
  have ga:genF w a=g:=by
   rw [m2];unfold genF;rw [part_congr y2 (fun j h1 h2=>x8.2 j (by omega))]
  refine Jo.mk' (by simp only at y2;rw [y2];exact J.ar) J.h0 ?_ x6 hr ?_ hk y3 (by omega)
  ·rw [← eg]
   exact used_new ho x4 (by rw [eg,ga]) y3
  ·by_cases q:5+needF keep=h
   ·exact .inl q
   ·exact .inr (x7 _ (Nat.le_refl _) (by omega))
theorem Jo.write {s:Int} {z ds:List Int} {ls:List (List Int)} {a h:Nat} {g:Int} {Y:List (Int×List Int)} (J:Jo s z ls a g h) (he:Er z (a+5+needF ls) (a+h)) (hd:ds.length<65536/\∀ x∈ds,0<=x/\x<=255) (hr:5+needF ls+ds.length+11<=h):
  ∃ Z w,writeL (Y++[(s,z)]) (a+(5+needF ls)) ds=Y++(s,z)::Z++[(s,w)]/\Z.length=ds.length+10/\(∀ m∈Z,m.1=s/\m.2.length=z.length/\Jo s m.2 ls a g h)/\w.length=z.length/\Jo s w (ls++[ds]) a g h/\Er w (a+5+needF (ls++[ds])) (a+h):=by
 have hh:=J.hb
 have sz:=J.sz
 have pl:=J.pl
 have hb:=bodyF_len ds
 have hv:=hh.2.2.1
 rw [← Nat.add_assoc]
 have hl:lastM (Y++[(s,z)])=(s,z):=by unfold lastM;rw [List.getLastD_concat]
 obtain ⟨w,w1,w2,w3⟩:=write_last (a:=a+5+needF ls) (ds:=ds) hv hl rfl (by omega) hd.2 (he.sub (Nat.le_refl _) (by omega))
 have e1:progL (Y++[(s,z)]) (a+5+needF ls+1) (bodyF ds)=Y++(s,z)::(mems s (gP (bodyF ds)) (a+5+needF ls+1) z ((bodyF ds).length+1)).drop 1:=by
  unfold progL
  rw [hl]
  simp only
  rw [progF_mk hv (by omega) (by omega),Int.toNat_natCast]
  simp [chgF]
 have e2:writeL (Y++[(s,z)]) (a+5+needF ls) ds=progL (Y++[(s,z)]) (a+5+needF ls+1) (bodyF ds)++[(s,stp (gP [90]) (a+5+needF ls) (stp (gP (bodyF ds)) (a+5+needF ls+1) z (bodyF ds).length) 1)]:=by
  obtain ⟨pl,pn⟩:=progL_ok (l:=Y++[(s,z)]) (a:=a+5+needF ls+1) (ds:=bodyF ds) (by rw [hl];exact hv) (by rw [hl];simp only;omega) (by omega)
  rw [hl] at pl
  unfold writeL
  generalize progL (Y++[(s,z)]) (a+5+needF ls+1) (bodyF ds)=V at pl ⊢
  show chgF V (progF (lastM V).1 (lastM V).2 _ [90]).1=_
  rw [pl]
  simp only
  rw [progF_mk (by rw [stp_len];exact hv) (by omega) (by rw [stp_len];simp;omega),Int.toNat_natCast]
  rfl
 have bw:∀ x∈stp (gP [90]) (a+5+needF ls) (stp (gP (bodyF ds)) (a+5+needF ls+1) z (bodyF ds).length) 1,0<=x/\x<=255:=stp_byte (stp_byte J.bz (fun i x=>band8_bd _ _) _) (fun i x=>band8_bd _ _) _
 have ev:stp (gP [90]) (a+5+needF ls) (stp (gP (bodyF ds)) (a+5+needF ls+1) z (bodyF ds).length) 1=w:=by
  rw [e2] at w1
  unfold lastM at w1
  rw [List.getLastD_concat] at w1
  exact (Prod.mk.inj w1).2
 rw [ev] at bw e2
 obtain ⟨j1,j2⟩:=J.more bw hd hr he w2 w3
 refine ⟨_,w,by rw [e2,e1],by rw [List.length_drop,mems_len];omega,fun m hm=>?_,w3.1,j1,j2⟩
 have h:=List.mem_of_mem_drop hm
 simp only [mems,List.mem_map,List.mem_range] at h
 obtain ⟨i,hi',rfl⟩:=h
 have bs:∀ x∈stp (gP (bodyF ds)) (a+5+needF ls+1) z i,0<=x/\x<=255:=stp_byte J.bz (fun i x=>band8_bd _ _) i
 exact ⟨rfl,stp_len _ _ _ _,J.pref bs ((stp_out _ _ z i).mono (Nat.le_refl _) (by omega)) (by omega)⟩
theorem Jo.append {s:Int} {z ds:List Int} {ls:List (List Int)} {a h:Nat} {g:Int} (J:Jo s z ls a g h) (hd:ds.length<65536/\∀ x∈ds,0<=x/\x<=255):
  (appendF s z ds=([],10)/\(5+needF ls+ds.length+11>h\/¬ Er z (a+5+needF ls) (a+h)/\g=4294967295))\/
  (5+needF ls+ds.length+11<=h/\∃ X w a' g',appendF s z ds=(X++[(s,w)],0)/\X≠[]/\(∀ m∈X,m.1=s/\m.2.length=z.length/\∃ a' g',Jo s m.2 ls a' g' h)/\w.length=z.length/\Jo s w (ls++[ds]) a' g' h/\
   (Er z (a+5+needF ls) (a+h)->X.length=ds.length+11/\a'=a/\g'=g/\Er w (a+5+needF (ls++[ds])) (a+h))):=by
 have hh:=J.hb
 have sz:=J.sz
 have rm:=J.rm
 have ar:=J.ar
 obtain ⟨o,ho⟩:=J.other
 have hc:=clean_iff (h:=h) (a:=a) (e:=5+needF ls) (z:=z) (by omega) rm
 rw [← Nat.add_assoc] at hc
 rw [appendF_eq ds J.op,ar]
 by_cases q1:5+needF ls+ds.length+11>h
 ·left;rw [if_pos (.inl q1)];exact ⟨rfl,.inl q1⟩
 by_cases q2:Er z (a+5+needF ls) (a+h)
 ·right
  have hcl:=hc.2 q2
  rw [if_neg (by rw [hcl];simp;omega),if_pos hcl]
  obtain ⟨Z,w,e1,e2,e3,e4,e5,e6⟩:=J.write (Y:=[]) q2 hd (by omega)
  refine ⟨by omega,(s,z)::Z,w,a,g,by rw [List.nil_append] at e1;rw [e1];rfl,by simp,fun m hm=>?_,e4,e5,fun _=>⟨by simp [e2],rfl,rfl,e6⟩⟩
  rcases List.mem_cons.1 hm with rfl|hm
  ·exact ⟨rfl,rfl,a,g,J⟩
  ·obtain ⟨m1,m2,m3⟩:=e3 m hm
   exact ⟨m1,m2,a,g,m3⟩
 ·have hcl:cleanF h a (5+needF ls) z=false:=by
   cases q:cleanF h a (5+needF ls) z with
   | true=>exact absurd (hc.1 q) q2
   | false=>rfl
  by_cases q3:g=4294967295
  ·left;rw [if_pos (.inr ⟨hcl,q3⟩)];exact ⟨rfl,.inr ⟨q2,q3⟩⟩
  ·right
   rw [if_neg (by rw [hcl];simp;omega),if_neg (by rw [hcl];simp)]
   obtain ⟨X,v,x1,x2,x3,x4,x5,x6⟩:=J.rew (keep:=ls) ho rm J.sm q3
   obtain ⟨Z,w,e1,e2,e3,e4,e5,e6⟩:=x5.write (Y:=X) x6 hd (by omega)
   rw [x1,show h-a=o by omega,e1]
   refine ⟨by omega,X++(s,v)::Z,w,o,g+1,rfl,by simp,fun m hm=>?_,e4.trans x4,e5,fun q=>absurd q q2⟩
   rcases List.mem_append.1 hm with hm|hm
   ·obtain ⟨m1,m2,m3⟩:=x2 m hm
    exact ⟨m1,m2,a,g,m3⟩
   ·rcases List.mem_cons.1 hm with rfl|hm
    ·exact ⟨rfl,x4,o,g+1,x5⟩
    ·obtain ⟨m1,m2,m3⟩:=e3 m hm
     exact ⟨m1,m2.trans x4,o,g+1,m3⟩
theorem Jo.compact {s:Int} {z:List Int} {ls keep:List (List Int)} {a h:Nat} {g:Int} (J:Jo s z ls a g h) (hk:∀ d∈keep,d.length<65536/\∀ x∈d,0<=x/\x<=255):
  (compactF s z keep=([],10)/\(5+needF keep>h\/g=4294967295))\/
  (5+needF keep<=h/\g≠4294967295/\∃ X w o,compactF s z keep=(X++[(s,w)],0)/\X≠[]/\(∀ m∈X,m.1=s/\m.2.length=z.length/\Jo s m.2 ls a g h)/\w.length=z.length/\Jo s w keep o (g+1) h/\Er w (o+5+needF keep) (o+h)):=by
 obtain ⟨o,ho⟩:=J.other
 rw [compactF_eq keep J.op,J.ar]
 by_cases q:5+needF keep>h\/g=4294967295
 ·left;rw [if_pos q];exact ⟨rfl,q⟩
 ·right
  rw [if_neg q]
  obtain ⟨X,w,x1,x2,x3,x4,x5,x6⟩:=J.rew ho (by omega) hk (fun e=>q (.inr e))
  exact ⟨by omega,fun e=>q (.inr e),X,w,o,by rw [x1],x3,x2,x4,x5,x6⟩
theorem no_jo {s:Int} {z:List Int} (h:(openF s z).2≠0) (ds:List Int) (keep:List (List Int)):appendF s z ds=([],(openF s z).2)/\compactF s z keep=([],(openF s z).2):=by
 unfold appendF compactF
 rw [if_pos h,if_pos h];exact ⟨rfl,rfl⟩
theorem append_num (s:Int) (z ds:List Int):(appendF s z ds).1.length<=40000:=by
 by_cases h:(openF s z).2=0
 ·obtain ⟨l,a,n,g,h1,h2,h3,h4⟩:=openF_inv h
  have f:=open_facts h4
  rw [appendF_eq ds h4]
  have hv:=f.2.2.2.2.2.2.2.2.2
  split
  ·simp
  ·split
   ·have:=(writeL_ok (l:=[(s,z)]) (a:=a+(5+n)) (ds:=ds) hv (by show a+(5+n)+ds.length+11<=z.length;omega)).2.2
    rw [this];simp only [List.length_singleton];omega
   ·obtain ⟨r1,r2,r3⟩:=rewL_ok (s:=s) (zs:=z) (a:=a) (g:=g) (keep:=l) f.1 f.2.2.1 (by omega)
    have:=(writeL_ok (l:=rewL s z (areaF s z.length) a g l) (a:=areaF s z.length-a+(5+n)) (ds:=ds) (by rw [r1,r2];exact hv) (by rw [r2];omega)).2.2
    rw [this,r3];omega
 ·rw [(no_jo h ds []).1];simp
theorem compact_num (s:Int) (z:List Int) (keep:List (List Int)):(compactF s z keep).1.length<=40000:=by
 by_cases h:(openF s z).2=0
 ·obtain ⟨l,a,n,g,h1,h2,h3,h4⟩:=openF_inv h
  have f:=open_facts h4
  rw [compactF_eq keep h4]
  split
  ·simp
  ·obtain ⟨r1,r2,r3⟩:=rewL_ok (s:=s) (zs:=z) (a:=a) (g:=g) (keep:=keep) f.1 f.2.2.1 (by omega)
   rw [r3];omega
 ·rw [(no_jo h [] keep).2];simp
theorem read_size {s:Int} {z:List Int} (bz:∀ x∈z,0<=x/\x<=255):(openF s z).1.1.length<=8192/\∀ d∈(openF s z).1.1,d.length<65536/\∀ x∈d,0<=x/\x<=255:=by
 by_cases h:(openF s z).2=0
 ·obtain ⟨ls,a,g,h,J⟩:=Jo.of bz h
  have:=needF_ge ls
  have:=J.rm
  have:=J.hb
  rw [J.op]
  exact ⟨by simp only;omega,J.sm⟩
 ·unfold openF at h ⊢
  split
  ·simp
  ·split
   ·simp
   ·split
    ·simp
    ·rename_i q1 q2 _ _ _ q3;rw [if_neg q1,if_neg q2,q3] at h;exact absurd rfl h
theorem Jo_format {s n a:Int} {z:List Int} (hf:formatF s n=((a,z),0)):a=s/\∃ h,Jo s z [] 0 0 h/\Er z 5 h:=by
 by_cases hb:(newF s n).2≠0\/areaF s (newF s n).1.2.length=0
 ·rw [formatF_bad hb] at hf
  exact absurd (Prod.mk.inj hf).2 (by decide)
 ·have hb1:(newF s n).2=0:=Decidable.byContradiction fun q=>hb (.inl q)
  have hb2:areaF s (newF s n).1.2.length≠0:=fun q=>hb (.inr q)
  obtain ⟨m,hm⟩:∃ m,newF s n=((s,List.replicate m 255),0):=by
   unfold newF at hb1 ⊢
   split
   ·rename_i q;rw [if_pos q] at hb1;exact absurd hb1 (by decide)
   ·exact ⟨_,rfl⟩
  rw [hm] at hb2
  simp only [List.length_replicate] at hb2
  rw [formatF_ok hm hb2] at hf
  obtain ⟨h1,_⟩:=Prod.mk.inj hf
  obtain ⟨rfl,h2⟩:=Prod.mk.inj h1
  refine ⟨rfl,areaF s m,?_⟩
  obtain ⟨a1,a2,a3,a4,a5,a6⟩:=areaF_ok hb2
  have hl:z.length=m:=by rw [← h2];simp;omega
  have g5:∀ j,5<=j->j<m->z.getD j 0=255:=fun j h3 h4=>by
   rw [← h2,getA,if_neg (by simp;omega),getDrop,List.getD_eq_getElem?_getD,List.getElem?_replicate,if_pos (by simp;omega)];rfl
  have bz:∀ x∈z,0<=x/\x<=255:=fun x hx=>by
   rw [← h2] at hx
   rcases List.mem_append.1 hx with h|h
   ·simp at h;omega
   ·have:=List.eq_of_mem_replicate (List.mem_of_mem_drop h);omega
  have gz:genF z 0=0:=by
   unfold genF
   rw [← h2];rfl
  refine ⟨Jo.mk' (by rw [hl]) hb2 ?_ (fun j hj=>by simp [encL] at hj) (by show 5+0<=_;omega) (.inr (g5 _ (by omega) (by show 0+5+0<m;omega))) (fun d hd=>by cases hd) bz (.inl rfl),fun j h3 h4=>g5 j h3 (by omega)⟩
  rw [← gz]
  exact used_one (.inl ⟨rfl,rfl⟩) bz (by rw [← h2];rfl) (by rw [g5 _ (by omega) (by omega)];decide)
theorem Jo.clean_append {s:Int} {z ds:List Int} {ls:List (List Int)} {a h:Nat} {g:Int} (J:Jo s z ls a g h) (he:Er z (a+5+needF ls) (a+h)) (hd:ds.length<65536/\∀ x∈ds,0<=x/\x<=255):
  (appendF s z ds=([],10)/\h<5+needF ls+ds.length+11)\/
  (5+needF ls+ds.length+11<=h/\∃ X w,appendF s z ds=(X++[(s,w)],0)/\X.length=ds.length+11/\w.length=z.length/\Jo s w (ls++[ds]) a g h/\Er w (a+5+needF (ls++[ds])) (a+h)):=by
 rcases J.append hd with ⟨e,h1⟩|⟨h1,X,w,a',g',e,_,_,h2,h3,h4⟩
 ·refine .inl ⟨e,?_⟩
  rcases h1 with h1|h1
  ·exact h1
  ·exact absurd he h1.1
 ·obtain ⟨h5,rfl,rfl,h6⟩:=h4 he
  exact .inr ⟨h1,X,w,e,h5,h2,h3,h6⟩
theorem Jo.read {s:Int} {z:List Int} {ls:List (List Int)} {a h:Nat} {g:Int} (J:Jo s z ls a g h):readF s z=(ls,0):=by unfold readF;rw [J.op]
theorem last_facts {α:Type} {X:List α} {y:α} {P:α->Prop} (hX:∀ m∈X,P m) {i:Nat} {m:α} (h:(X++[y])[i]? =some m):(i+1=(X++[y]).length->m=y)/\(i+1≠(X++[y]).length->P m):=by
 have hi:=(List.getElem?_eq_some_iff.1 h).1
 rw [List.length_append,List.length_singleton] at hi ⊢
 by_cases q:i<X.length
 ·rw [List.getElem?_append_left q] at h
  exact ⟨fun e=>by omega,fun _=>hX m (List.mem_of_getElem? h)⟩
 ·rw [List.getElem?_append_right (by omega),show i-X.length=0 by omega] at h
  simp at h
  exact ⟨fun _=>h.symm,fun e=>by omega⟩
theorem Jo.append_reads {s:Int} {z ds:List Int} {ls:List (List Int)} {a h:Nat} {g:Int} (J:Jo s z ls a g h) (hd:ds.length<65536/\∀ x∈ds,0<=x/\x<=255) {ms:List (Int×List Int)} {e:Int} (q:appendF s z ds=(ms,e)):
  (e=0↔0<ms.length)/\∀ i m,ms[i]? =some m->readF m.1 m.2=(if i+1=ms.length then ls++[ds] else ls,0):=by
 rcases J.append hd with ⟨e1,_⟩|⟨_,X,w,a',g',e1,h1,h2,h3,h4,_⟩
 ·rw [e1] at q;cases q;simp
 ·rw [e1] at q
  cases q
  refine ⟨by simp,fun i m hm=>?_⟩
  have lf:=last_facts (P:=fun m=>readF m.1 m.2=(ls,0)) (fun m hm=>by
   obtain ⟨q1,_,a1,g1,q3⟩:=h2 m hm
   rw [q1];exact q3.read) hm
  by_cases c:i+1=(X++[(s,w)]).length
  ·rw [if_pos c,lf.1 c];exact h4.read
  ·rw [if_neg c];exact lf.2 c
theorem Jo.compact_reads {s:Int} {z:List Int} {ls keep:List (List Int)} {a h:Nat} {g:Int} (J:Jo s z ls a g h) (hk:∀ d∈keep,d.length<65536/\∀ x∈d,0<=x/\x<=255) {ms:List (Int×List Int)} {e:Int} (q:compactF s z keep=(ms,e)):
  (e=0↔0<ms.length)/\∀ i m,ms[i]? =some m->readF m.1 m.2=(if i+1=ms.length then keep else ls,0):=by
 rcases J.compact hk with ⟨e1,_⟩|⟨_,_,X,w,o,e1,h1,h2,h3,h4,_⟩
 ·rw [e1] at q;cases q;simp
 ·rw [e1] at q
  cases q
  refine ⟨by simp,fun i m hm=>?_⟩
  have lf:=last_facts (P:=fun m=>readF m.1 m.2=(ls,0)) (fun m hm=>by
   obtain ⟨q1,_,q3⟩:=h2 m hm
   rw [q1];exact q3.read) hm
  by_cases c:i+1=(X++[(s,w)]).length
  ·rw [if_pos c,lf.1 c];exact h4.read
  ·rw [if_neg c];exact lf.2 c
def zig (n:Int):Int:=if n<0 then -2*n-1 else 2*n
def digF:Nat->Int->List Int
 | 0,u=>[u]
 | k+1,u=>if u<128 then [u] else (u % 128+128)::digF k (u / 128)
def dig (u:Int):List Int:=digF 9 u
abbrev deadB:Box:=⟨5,.lst [],0,false⟩
noncomputable def W0:Cx:={ P:=Try.prog,inl:=fun f=>List.contains [49,51,57] f,tab:=fun _ _ _ _=>False,isB:=fun _=>false,tabB:=fun _ _ _ _ _=>False,opt:={ unroll:=1,carry:=[0,1] },muts:=mutsD }
theorem okW0:CxOK W0:=CxOK.four (fun _ _ _ _ h=>h.elim) (by kernel_rfl) (okInl (by kernel_rfl)) (fun _ _ _ _ _ h=>h.elim)
theorem s31w {n:Int} (hn: -10000000000000<=n/\n<=10000000000000) (h:K (I (zig n)) E):Ent W0 6 Try.f52 [I n] E K:=by
 refine sm_ (?_:bif decide (n<(0:Int)) then Mem.le E E/\K (I (WI (WI ((-2:Int)*n)-(1:Int)))) E else Mem.le E E/\K (I (WI ((2:Int)*n))) E)
 delta WI
 unfold zig at h
 refine condC (fun h1=>?_) (fun h1=>?_)
 ·rw [if_pos (by simpa using h1)] at h
  rw [wrap_i64 (x:= -2*n) (by omega),wrap_i64 (by omega)]
  exact ⟨mr_,h⟩
 ·rw [if_neg (by simpa using h1)] at h
  rw [wrap_i64 (by omega)]
  exact ⟨mr_,h⟩
theorem digF_eq:∀ (k k':Nat) (u:Int),0<=u->u<128 ^ (k+1)->u<128 ^ (k'+1)->digF k u=digF k' u
 | 0,0,_,_,_,_=>rfl
 | 0,k+1,u,_,h,_=>by simp only [digF];rw [if_pos (by simpa using h)]
 | k+1,0,u,_,_,h=>by simp only [digF];rw [if_pos (by simpa using h)]
 | k+1,k'+1,u,h0,h1,h2=>by
  simp only [digF]
  by_cases h:u<128
  ·rw [if_pos h,if_pos h]
  ·rw [if_neg h,if_neg h,digF_eq k k' (u / 128) (by omega) (by rw [Int.pow_succ] at h1;omega) (by rw [Int.pow_succ] at h2;omega)]
theorem dig_last {u:Int} (h:u<128):dig u=[u]:=by unfold dig digF;rw [if_pos h]
theorem dig_step {u:Int} (h:¬ u<128) (h1:u<1152921504606846976):dig u=(u % 128+128)::dig (u / 128):=by
 unfold dig
 rw [show digF 9 u=(u % 128+128)::digF 8 (u / 128) from by unfold digF;rw [if_neg h];rfl]
 rw [digF_eq 8 9 (u / 128) (by omega) (by simp;omega) (by simp;omega)]
theorem digF_len:∀ (k:Nat) (u:Int),1<=(digF k u).length/\(digF k u).length<=k+1
 | 0,u=>by simp [digF]
 | k+1,u=>by
  have:=digF_len k (u / 128)
  simp only [digF]
  split
  ·simp
  ·simp;omega
theorem digF_byte:∀ (k:Nat) (u:Int),0<=u->u<128 ^ (k+1)->∀ z∈digF k u,0<=z/\z<=255
 | 0,u,h0,h1,z,hz=>by simp only [digF,List.mem_singleton] at hz;subst hz;simp at h1;omega
 | k+1,u,h0,h1,z,hz=>by
  simp only [digF] at hz
  split at hz
  ·simp only [List.mem_singleton] at hz;subst hz;omega
  ·rcases List.mem_cons.1 hz with rfl|hz
   ·omega
   ·exact digF_byte k (u / 128) (by omega) (by rw [Int.pow_succ] at h1;omega) z hz
theorem dig_byte {u:Int} (h0:0<=u) (h1:u<1152921504606846976):∀ z∈dig u,0<=z/\z<=255:=digF_byte 9 u h0 (by simp;omega)
theorem dig_len (u:Int):1<=(dig u).length/\(dig u).length<=10:=digF_len 9 u
theorem byteW {u:Int} (h0:0<=u):IntKind.wrap .u8 (IntKind.wrap .i64 (Int.tmod u 128+128))=u % 128+128:=by
 rw [Int.tmod_eq_emod_of_nonneg h0,wrap_i64 (by omega),wu8 (by omega)]
theorem fdivW {u:Int}:Int.fdiv u 128=u / 128:=Int.fdiv_eq_ediv_of_nonneg _ (by omega)
def sh29w (u:Int) (m cap tot:Nat) (l:List Int) (E:Mem):St:=⟨[os 1 0 m cap,oI u]++List.replicate 19 none,[deadB,⟨5,.vals (vB l),tot,true⟩],E⟩
structure P29 (full l:List Int) (m cap tot:Nat) (u:Int):Prop where
 u0:0<=u
 u1:u<1152921504606846976
 len:l.length=m
 mc:m<=cap
 ct:cap<=tot
 full:l++dig u=full
theorem rnd29w {full l:List Int} {m cap tot:Nat} {u:Int} {Q:KT} (hP:P29 full l m cap tot u) (hf:full.length<=1000010)
  (hQ:∀ cap' tot':Nat,full.length<=cap'->cap'<=tot'->∀ x:SV,Q (.slc 3 0 full.length cap') [deadB,deadB,⟨5,.lst [x],1,true⟩,⟨5,.vals (vB full),tot',true⟩] E)
  (ih:∀ (l:List Int) (m cap tot:Nat) (u':Int),u'<u->P29 full l m cap tot u'->Lp W0 6 Try.f50 [1,0,0] 1 Q (sh29w u' m cap tot l E)):Rnd W0 6 Try.f50 [1,0,0] 1 Q (sh29w u m cap tot l E):=by
 obtain ⟨h0,h1,hlen,hmc,hct,hfull⟩:=hP
 refine sm_ (?_:bif decide (u>=(128:Int)) then ((128:Int)=(0:Int)->False)/\m*1<=List.length (Row.cells (Row.vals (vB l)))/\cap*1<=tot/\m<=cap/\req ((m+1)*1<=140737488355328) (∀ (cap' tot':Nat),m+1<=cap'->cap'*1<=tot'->Lp W0 6 Try.f50 [1,0,0] 1 Q { fr:=some (SV.slc 3 0 (m+1) cap')::oI (Int.fdiv u 128)::no16 (no2 (none::[])),bx:=[(⟨5,.lst [],0,false⟩:Box),⟨5,.lst [],0,false⟩,⟨5,.lst [SV.raw (U8 (IntKind.wrap IntKind.u8 (WI (Int.tmod u (128:Int)+(128:Int)))))],1,true⟩,⟨5,.vals (List.take (m*1) (vB l)++[U8 (IntKind.wrap IntKind.u8 (WI (Int.tmod u (128:Int)+(128:Int))))]),tot',true⟩],E:=E:St }) else m*1<=List.length (Row.cells (Row.vals (vB l)))/\cap*1<=tot/\m<=cap/\req ((m+1)*1<=140737488355328) (∀ (cap' tot':Nat),m+1<=cap'->cap'*1<=tot'->Q (SV.slc 3 0 (m+1) cap') [⟨5,.lst [],0,false⟩,⟨5,.lst [],0,false⟩,⟨5,.lst [SV.raw (U8 (IntKind.wrap IntKind.u8 u))],1,true⟩,⟨5,.vals (List.take (m*1) (vB l)++[U8 (IntKind.wrap IntKind.u8 u)]),tot',true⟩] E))
 delta WI U8 no2 no16
 have hl:(Row.cells (Row.vals (vB l))).length=m:=by simp [Row.cells,hlen]
 have hlf:l.length+(dig u).length=full.length:=by rw [← hfull];simp
 have hdl:=dig_len u
 have htk:List.take (m*1) (vB l)=vB l:=List.take_of_length_le (by simp [hlen])
 refine condC (fun hu=>?_) (fun hu=>?_)
 ·have hu:128<=u:=by simpa using hu
  refine ⟨by omega,by omega,by omega,hmc,req_intro (by omega) ?_⟩
  intro cap' tot' g1 g2
  have hst:=dig_step (show ¬ u<128 by omega) h1
  rw [byteW h0,fdivW,htk,← List.map_singleton (f:=Value.int .u8),← List.map_append]
  exact Lp_re [some 0,some 3] (ih (l++[u % 128+128]) (m+1) cap' tot' (u / 128) (by omega) ⟨by omega,by omega,by simp [hlen],g1,by omega,by rw [← hfull,hst];simp⟩) ⟨⟨by simp,by simp,fun j h=>(by have e:j=0:=(by omega);subst e;rfl)⟩,rfl,(by repeat' first|exact True.intro|refine And.intro (Or.inl rfl) ?_),(by repeat' first|exact True.intro|exact rfl|exact Or.inl rfl|exact Nat.succ_pos _|refine And.intro ?_ ?_),(List.pairwise_singleton _ _),mr_⟩
 ·have hu:u<128:=by simpa using hu
  have hst:=dig_last hu
  refine ⟨by omega,by omega,hmc,req_intro (by omega) ?_⟩
  intro cap' tot' g1 g2
  rw [hst] at hfull hlf
  have e:m+1=full.length:=by simp at hlf;omega
  rw [wu8 (by omega),htk,← List.map_singleton (f:=Value.int .u8),← List.map_append,hfull,e]
  exact hQ cap' tot' (by omega) (by omega) _
theorem b29w {l:List Int} {n cap tot:Nat} {u:Int} {Q:KT} (hn:l.length=n) (hnc:n<=cap) (hct:cap<=tot) (hsz:n<=1000000) (h0:0<=u) (h1:u<1152921504606846976)
  (hQ:∀ s bx,(∃ cap' tot':Nat,n+(dig u).length<=cap'/\cap'<=tot'/\∃ τ,St.wk 1 τ ⟨[some s],bx,E⟩ ⟨[os 1 0 (n+(dig u).length) cap'],[deadB,⟨5,.vals (vB (l++dig u)),tot',true⟩],E⟩)->Q s bx E):
  EntB W0 6 Try.f50 [.slc 0 0 n cap,I u] [⟨5,.vals (vB l),tot,true⟩] E Q:=by
 refine sm_ (?_:bif decide (u>=(128:Int)) then ((128:Int)=(0:Int)->False)/\n*1<=List.length (Row.cells (Row.vals (vB l)))/\cap*1<=tot/\n<=cap/\req ((n+1)*1<=140737488355328) (∀ (cap' tot':Nat),n+1<=cap'->cap'*1<=tot'->Lp W0 6 Try.f50 [1,0,0] 1 Q { fr:=some (SV.slc 2 0 (n+1) cap')::oI (Int.fdiv u 128)::none::none::oL none 0 0::no16 [],bx:=[(⟨5,.lst [],0,false⟩:Box),⟨5,.lst [SV.raw (U8 (IntKind.wrap IntKind.u8 (WI (Int.tmod u (128:Int)+(128:Int)))))],1,true⟩,⟨5,.vals (List.take (n*1) (vB l)++[U8 (IntKind.wrap IntKind.u8 (WI (Int.tmod u (128:Int)+(128:Int))))]),tot',true⟩],E:=E:St }) else n*1<=List.length (Row.cells (Row.vals (vB l)))/\cap*1<=tot/\n<=cap/\req ((n+1)*1<=140737488355328) (∀ (cap' tot':Nat),n+1<=cap'->cap'*1<=tot'->Q (SV.slc 2 0 (n+1) cap') [⟨5,.lst [],0,false⟩,⟨5,.lst [SV.raw (U8 (IntKind.wrap IntKind.u8 u))],1,true⟩,⟨5,.vals (List.take (n*1) (vB l)++[U8 (IntKind.wrap IntKind.u8 u)]),tot',true⟩] E))
 delta WI U8 no16
 have hl:(Row.cells (Row.vals (vB l))).length=n:=by simp [Row.cells,hn]
 have hdl:=dig_len u
 have htk:List.take (n*1) (vB l)=vB l:=List.take_of_length_le (by simp [hn])
 refine condC (fun hu=>?_) (fun hu=>?_)
 ·have hu:128<=u:=by simpa using hu
  refine ⟨by omega,by omega,by omega,hnc,req_intro (by omega) ?_⟩
  intro cap' tot' g1 g2
  have hst:=dig_step (show ¬ u<128 by omega) h1
  rw [byteW h0,fdivW,htk,← List.map_singleton (f:=Value.int .u8),← List.map_append]
  have key:=Lp_ind okW0 (n:=6) (fn:=Try.f50) (p:=[1,0,0]) (n0:=1) (K:=Q) (fun x:{x:Int×Nat×Nat×Nat×List Int//P29 (l++dig u) x.2.2.2.2 x.2.1 x.2.2.1 x.2.2.2.1 x.1}=>sh29w x.1.1 x.1.2.1 x.1.2.2.1 x.1.2.2.2.1 x.1.2.2.2.2 E) (fun x=>x.1.1.toNat) (by
   rintro ⟨⟨u',m,c,t,l'⟩,hP⟩ ih
   refine rnd29w hP (by simp;omega) ?_ (fun l2 m2 c2 t2 u2 hlt hP2=>ih ⟨⟨u2,m2,c2,t2,l2⟩,hP2⟩ ?_)
   ·intro cap' tot' g1 g2 x
    refine hQ _ _ ⟨cap',tot',by simpa [hn] using g1,g2,[some 0,some 3],?_⟩
    rw [show (l++dig u).length=n+(dig u).length by simp [hn]]
    exact ⟨⟨by simp,by simp,fun j h=>(by have e:j=0:=(by omega);subst e;rfl)⟩,rfl,(by repeat' first|exact True.intro|refine And.intro (Or.inl rfl) ?_),(by repeat' first|exact True.intro|exact rfl|exact Or.inl rfl|exact Nat.succ_pos _|refine And.intro ?_ ?_),(List.pairwise_singleton _ _),mr_⟩
   ·have h0':0<=u2:=hP2.u0
    have hlt':u2<u':=hlt
    show u2.toNat<u'.toNat
    omega)
  exact Lp_re [some 0,some 2] (key ⟨⟨u / 128,n+1,cap',tot',l++[u % 128+128]⟩,⟨by show 0<=u / 128;omega,by show u / 128<_;omega,by simp [hn],g1,by show cap'<=tot';omega,by rw [hst];simp⟩⟩) ⟨⟨by simp,by simp,fun j h=>(by have e:j=0:=(by omega);subst e;rfl)⟩,rfl,(by repeat' first|exact True.intro|refine And.intro (Or.inl rfl) ?_),(by repeat' first|exact True.intro|exact rfl|exact Or.inl rfl|exact Nat.succ_pos _|refine And.intro ?_ ?_),(List.pairwise_singleton _ _),mr_⟩
 ·have hu:u<128:=by simpa using hu
  have hst:=dig_last hu
  refine ⟨by omega,by omega,hnc,req_intro (by omega) ?_⟩
  intro cap' tot' g1 g2
  rw [wu8 (by omega),htk,← List.map_singleton (f:=Value.int .u8),← List.map_append]
  rw [hst] at hQ
  exact hQ _ _ ⟨cap',tot',g1,by omega,[some 0,some 2],⟨⟨by simp,by simp,fun j h=>(by have e:j=0:=(by omega);subst e;rfl)⟩,rfl,(by repeat' first|exact True.intro|refine And.intro (Or.inl rfl) ?_),(by repeat' first|exact True.intro|exact rfl|exact Or.inl rfl|exact Nat.succ_pos _|refine And.intro ?_ ?_),(List.pairwise_singleton _ _),mr_⟩⟩
def sh29n (u:Int) (m cap tot:Nat) (l:List Int) (E:Mem):St:=⟨[os 0 0 m cap,oI u]++List.replicate 19 none,[⟨5,.vals (vB l),tot,true⟩],E⟩
theorem rnd29n {full l:List Int} {m cap tot:Nat} {u:Int} {Q:KT} (hP:P29 full l m cap tot u) (hf:full.length<=1000010)
  (hQ:∀ cap' tot':Nat,full.length<=cap'->cap'<=tot'->∀ x:SV,Q (.slc 2 0 full.length cap') [deadB,⟨5,.lst [x],1,true⟩,⟨5,.vals (vB full),tot',true⟩] E)
  (ih:∀ (l:List Int) (m cap tot:Nat) (u':Int),u'<u->P29 full l m cap tot u'->Lp W0 6 Try.f50 [1,0,0] 0 Q (sh29n u' m cap tot l E)):Rnd W0 6 Try.f50 [1,0,0] 0 Q (sh29n u m cap tot l E):=by
 obtain ⟨h0,h1,hlen,hmc,hct,hfull⟩:=hP
 refine sm_ (?_:bif decide (u>=(128:Int)) then ((128:Int)=(0:Int)->False)/\m*1<=List.length (Row.cells (Row.vals (vB l)))/\cap*1<=tot/\m<=cap/\req ((m+1)*1<=140737488355328) (∀ (cap' tot':Nat),m+1<=cap'->cap'*1<=tot'->Lp W0 6 Try.f50 [1,0,0] 0 Q { fr:=some (SV.slc 2 0 (m+1) cap')::oI (Int.fdiv u 128)::no16 (no2 (none::[])),bx:=[(⟨5,.lst [],0,false⟩:Box),⟨5,.lst [SV.raw (U8 (IntKind.wrap IntKind.u8 (WI (Int.tmod u (128:Int)+(128:Int)))))],1,true⟩,⟨5,.vals (List.take (m*1) (vB l)++[U8 (IntKind.wrap IntKind.u8 (WI (Int.tmod u (128:Int)+(128:Int))))]),tot',true⟩],E:=E:St }) else m*1<=List.length (Row.cells (Row.vals (vB l)))/\cap*1<=tot/\m<=cap/\req ((m+1)*1<=140737488355328) (∀ (cap' tot':Nat),m+1<=cap'->cap'*1<=tot'->Q (SV.slc 2 0 (m+1) cap') [⟨5,.lst [],0,false⟩,⟨5,.lst [SV.raw (U8 (IntKind.wrap IntKind.u8 u))],1,true⟩,⟨5,.vals (List.take (m*1) (vB l)++[U8 (IntKind.wrap IntKind.u8 u)]),tot',true⟩] E))
 delta WI U8 no2 no16
 have hl:(Row.cells (Row.vals (vB l))).length=m:=by simp [Row.cells,hlen]
 have hlf:l.length+(dig u).length=full.length:=by rw [← hfull];simp
 have hdl:=dig_len u
 have htk:List.take (m*1) (vB l)=vB l:=List.take_of_length_le (by simp [hlen])
 refine condC (fun hu=>?_) (fun hu=>?_)
 ·have hu:128<=u:=by simpa using hu
  refine ⟨by omega,by omega,by omega,hmc,req_intro (by omega) ?_⟩
  intro cap' tot' g1 g2
  have hst:=dig_step (show ¬ u<128 by omega) h1
  rw [byteW h0,fdivW,htk,← List.map_singleton (f:=Value.int .u8),← List.map_append]
  exact Lp_re [some 2] (ih (l++[u % 128+128]) (m+1) cap' tot' (u / 128) (by omega) ⟨by omega,by omega,by simp [hlen],g1,by omega,by rw [← hfull,hst];simp⟩) ⟨⟨by simp,by simp,fun j h=>absurd h (Nat.not_lt_zero _)⟩,rfl,(by repeat' first|exact True.intro|refine And.intro (Or.inl rfl) ?_),(by repeat' first|exact True.intro|exact rfl|exact Or.inl rfl|exact Nat.succ_pos _|refine And.intro ?_ ?_),(List.pairwise_singleton _ _),mr_⟩
 ·have hu:u<128:=by simpa using hu
  have hst:=dig_last hu
  refine ⟨by omega,by omega,hmc,req_intro (by omega) ?_⟩
  intro cap' tot' g1 g2
  rw [hst] at hfull hlf
  have e:m+1=full.length:=by simp at hlf;omega
  rw [wu8 (by omega),htk,← List.map_singleton (f:=Value.int .u8),← List.map_append,hfull,e]
  exact hQ cap' tot' (by omega) (by omega) _
theorem b29n {u:Int} {Q:KT} (h0:0<=u) (h1:u<1152921504606846976)
  (hQ:∀ s bx,(∃ cap' tot':Nat,(dig u).length<=cap'/\cap'<=tot'/\∃ τ,St.wk 0 τ ⟨[some s],bx,E⟩ ⟨[os 0 0 (dig u).length cap'],[⟨5,.vals (vB (dig u)),tot',true⟩],E⟩)->Q s bx E):
  EntB W0 6 Try.f50 [.raw (.slice none 0 0),I u] [] E Q:=by
 refine sm_ (?_:bif decide (u>=(128:Int)) then ((128:Int)=(0:Int)->False)/\∀ (cap' tot':Nat),1<=cap'->cap'*1<=tot'->Lp W0 6 Try.f50 [1,0,0] 0 Q { fr:=some (SV.slc 1 0 1 cap')::oI (Int.fdiv u 128)::none::none::oL none 0 0::no16 [],bx:=[(⟨5,.lst [SV.raw (U8 (IntKind.wrap IntKind.u8 (WI (Int.tmod u (128:Int)+(128:Int)))))],1,true⟩:Box),⟨5,.lst [SV.raw (U8 (IntKind.wrap IntKind.u8 (WI (Int.tmod u (128:Int)+(128:Int)))))],tot',true⟩],E:=E:St } else ∀ (cap' tot':Nat),1<=cap'->cap'*1<=tot'->Q (SV.slc 1 0 1 cap') [⟨5,.lst [SV.raw (U8 (IntKind.wrap IntKind.u8 u))],1,true⟩,⟨5,.lst [SV.raw (U8 (IntKind.wrap IntKind.u8 u))],tot',true⟩] E)
 delta WI U8 no16
 have hdl:=dig_len u
 refine condC (fun hu=>?_) (fun hu=>?_)
 ·have hu:128<=u:=by simpa using hu
  refine ⟨by omega,?_⟩
  intro cap' tot' g1 g2
  have hst:=dig_step (show ¬ u<128 by omega) h1
  rw [byteW h0,fdivW]
  have key:=Lp_ind okW0 (n:=6) (fn:=Try.f50) (p:=[1,0,0]) (n0:=0) (K:=Q) (fun x:{x:Int×Nat×Nat×Nat×List Int//P29 (dig u) x.2.2.2.2 x.2.1 x.2.2.1 x.2.2.2.1 x.1}=>sh29n x.1.1 x.1.2.1 x.1.2.2.1 x.1.2.2.2.1 x.1.2.2.2.2 E) (fun x=>x.1.1.toNat) (by
   rintro ⟨⟨u',m,c,t,l'⟩,hP⟩ ih
   refine rnd29n hP (by omega) ?_ (fun l2 m2 c2 t2 u2 hlt hP2=>ih ⟨⟨u2,m2,c2,t2,l2⟩,hP2⟩ ?_)
   ·intro cap' tot' g1 g2 x
    exact hQ _ _ ⟨cap',tot',g1,g2,[some 2],⟨⟨by simp,by simp,fun j h=>absurd h (Nat.not_lt_zero _)⟩,rfl,(by repeat' first|exact True.intro|refine And.intro (Or.inl rfl) ?_),(by repeat' first|exact True.intro|exact rfl|exact Or.inl rfl|exact Nat.succ_pos _|refine And.intro ?_ ?_),(List.pairwise_singleton _ _),mr_⟩⟩
   ·have h0':0<=u2:=hP2.u0
    have hlt':u2<u':=hlt
    show u2.toNat<u'.toNat
    omega)
  exact Lp_re [some 1] (key ⟨⟨u / 128,1,cap',tot',[u % 128+128]⟩,⟨by show 0<=u / 128;omega,by show u / 128<_;omega,rfl,g1,by show cap'<=tot';omega,by rw [hst];rfl⟩⟩) ⟨⟨by simp,by simp,fun j h=>absurd h (Nat.not_lt_zero _)⟩,rfl,(by repeat' first|exact True.intro|refine And.intro (Or.inl rfl) ?_),(by repeat' first|exact True.intro|exact rfl|exact Or.inl rfl|exact Nat.succ_pos _|refine And.intro ?_ ?_),(List.pairwise_singleton _ _),mr_⟩
 ·have hu:u<128:=by simpa using hu
  have hst:=dig_last hu
  intro cap' tot' g1 g2
  rw [wu8 (by omega)]
  rw [hst] at hQ
  exact hQ _ _ ⟨cap',tot',g1,by omega,[some 1],⟨⟨by simp,by simp,fun j h=>absurd h (Nat.not_lt_zero _)⟩,rfl,(by repeat' first|exact True.intro|refine And.intro (Or.inl rfl) ?_),(by repeat' first|exact True.intro|exact rfl|exact Or.inl rfl|exact Nat.succ_pos _|refine And.intro ?_ ?_),(List.pairwise_singleton _ _),mr_⟩⟩
noncomputable def tab1:FuncId->List SV->Mem->(SV->Mem->Prop)->Prop:=fun f args E K=>match f with
 | 52=>d1 args fun x0=>dI x0 fun a1=>(-10000000000000<=a1/\a1<=10000000000000)/\(K (I (zig a1)) E)
 | _=>False
theorem tab1_ok:TabOK Try.prog tab1:=by
 intro f args E K h
 unfold tab1 at h
 split at h
 ·replace h:=d1_elim h
  obtain ⟨x0,rfl,h⟩:=h
  replace h:=dI_elim h
  obtain ⟨a1,rfl,h⟩:=h
  obtain ⟨g0,h⟩:=h
  exact TabSem.congr (valL_cons rfl rfl) (esm okW0 Try.func52 rfl (s31w g0 h))
 ·exact h.elim
noncomputable def tabB1:CallT:=fun f args bx E K=>match f with
 | 50=>d2 args fun x0 x1=>dI x1 fun u=>(0<=u/\u<1152921504606846976)/\(match x0 with
  | .raw (.slice none 0 0)=>∀ cap' tot':Nat,(dig u).length<=cap'->cap'<=tot'->K (.slc bx.length 0 (dig u).length cap') (bx++[⟨5,.vals (vB (dig u)),tot',true⟩]) E
  | .slc b 0 n cap=>match bx[b]? with
   | some ⟨e,.vals vs,tot,true⟩=>∃ l:List Int,(e=5/\vs=vB l/\l.length=n/\n<=cap/\cap<=tot/\n<=1000000)/\
     ∀ cap' tot':Nat,n+(dig u).length<=cap'->cap'<=tot'->K (.slc bx.length 0 (n+(dig u).length) cap') (bx.set b deadB++[⟨5,.vals (vB (l++dig u)),tot',true⟩]) E
   | _=>False
  | _=>False)
 | _=>False
theorem tabB1_ok:∀ f args bx E K,tabB1 f args bx E K->CallSem Try.prog f args bx E K:=by
 intro f args bx E K h
 unfold tabB1 at h
 split at h
 case h_2=>exact h.elim
 obtain ⟨x0,x1,rfl,h⟩:=d2_elim h
 obtain ⟨u,rfl,h⟩:=dI_elim h
 obtain ⟨⟨h0,h1⟩,h⟩:=h
 split at h
 ·refine CallSem.own0 (argv:=[.slice none 0 0,.int .i64 u]) rfl (bsm okW0 Try.func50 (b29n h0 h1 ?_))
  rintro s bx' ⟨cap',tot',g1,g2,τ,hw⟩
  exact cloK_intro τ ⟨_,cap',5,_,tot',rfl,rfl,h cap' tot' g1 g2⟩ hw
 ·rename_i b n cap
  split at h
  case h_2=>exact h.elim
  rename_i e vs tot hb
  obtain ⟨l,⟨rfl,rfl,hl,hnc,hct,hsz⟩,h⟩:=h
  refine CallSem.own1 (rest:=[I u]) (restv:=[.int .i64 u]) hb rfl (bsm okW0 Try.func50 (b29w hl hnc hct hsz h0 h1 ?_))
  rintro s bx' ⟨cap',tot',g1,g2,τ,hw⟩
  exact cloK_intro τ ⟨_,cap',_,tot',rfl,rfl,h cap' tot' g1 g2⟩ hw
 ·exact h.elim
noncomputable def W1:Cx:={ P:=Try.prog,inl:=fun f=>List.contains [49,51] f,tab:=tab1,isB:=fun f=>f==50,tabB:=tabB1,opt:={ unroll:=0,carry:=[] },muts:=mutsD }
theorem okW1:CxOK W1:=CxOK.four tab1_ok (by kernel_rfl) (okInl (by kernel_rfl)) tabB1_ok
def okN (n:Int):Prop:= -10000000000000<=n/\n<=10000000000000
instance (n:Int):Decidable (okN n):=inferInstanceAs (Decidable (_/\_))
def putN (zs:List Int) (n:Int):List Int×Int:=if okN n then (zs++dig (zig n),0) else ([],3)
theorem zig_b {n:Int} (h:okN n):0<=zig n/\zig n<1152921504606846976:=by
 unfold okN at h
 unfold zig
 split<;>omega
theorem s12 {b:Option Addr} {l c:Nat} {zs:List Int} {n:Int} (hB:Bs E b l c zs) (hl:l<=100000)
  (h:∀ (b':Option Addr) (l' c':Nat) (ys:List Int) (e:Int) (E':Mem),Mem.le E E'->Hyp (putN zs n=(ys,e))->Bs E' b' l' c' ys->K (.tup [L b' l' c',I e]) E'):Ent W1 6 Try.f37 [L b l c,I n] E K:=by
 refine sm_ (?_:bif decide (n>=(-10000000000000:Int)) then Mem.le E E/\bif !bif true then decide (n<=(10000000000000:Int)) else false then Mem.le E E/\K (SV.tup [L none 0 0,I (3:Int)]) E else bif Option.isNone b then Mem.le E E/\((-10000000000000:Int)<=n/\n<=(10000000000000:Int))/\Mem.le E E/\((0:Int)<=zig n/\zig n<(1152921504606846976:Int))/\∀ (cap' tot':Nat),List.length (dig (zig n))<=cap'->cap'<=tot'->Mem.le E E/\∀ (base:Option Addr) (E':Mem),Mem.le E E'->WinE E' base (vB (dig (zig n)))->Mem.le E E'/\K (SV.tup [L (Option.map (fun (x:Addr)=>Addr.add x 0) base) (List.length (dig (zig n))) cap',I (0:Int)]) E' else ∃ (cs:List Value),(cs=[]\/E (Value.slice b l c) cs)/\l*1<=List.length cs/\(∀ (x:Value),List.Mem x cs->Value.oneCell' x=true)/\0<=0/\0<=0/\0<=0/\req ((0+l)*1<=140737488355328) (∀ (cap' tot':Nat),0+l<=cap'->cap'*1<=tot'->Mem.le E E/\((-10000000000000:Int)<=n/\n<=(10000000000000:Int))/\Mem.le E E/\((0:Int)<=zig n/\zig n<(1152921504606846976:Int))/\∃ (l_1:List Int),(5=5/\[]++List.take (l*1) cs=vB l_1/\List.length l_1=0+l/\0+l<=cap'/\cap'<=tot'/\0+l<=1000000)/\∀ (cap' tot':Nat),0+l+List.length (dig (zig n))<=cap'->cap'<=tot'->∀ (base:Option Addr) (E':Mem),Mem.le E E'->WinE E' base (vB (l_1++dig (zig n)))->Mem.le E E'/\K (SV.tup [L (Option.map (fun (x:Addr)=>Addr.add x 0) base) (0+l+List.length (dig (zig n))) cap',I (0:Int)]) E') else Mem.le E E/\Mem.le E E/\K (SV.tup [L none 0 0,I (3:Int)]) E)
 have hbad:¬ okN n->K (.tup [L none 0 0,I 3]) E:=fun hn=>h none 0 0 [] 3 E mr_ (by show putN zs n=_;unfold putN;rw [if_neg hn]) (Bs.nil E)
 refine condC (fun h1=>?_) (fun h1=>?_)
 ·refine ⟨mr_,?_⟩
  refine condC (fun h2=>?_) (fun h2=>?_)
  ·exact ⟨mr_,hbad (fun hx=>by simp at h2;unfold okN at hx;omega)⟩
  ·have hok:okN n:=by simp at h1 h2;exact ⟨h1,h2⟩
   have hz:=zig_b hok
   have hp:putN zs n=(zs++dig (zig n),0):=by unfold putN;rw [if_pos hok]
   refine condC (fun hb=>?_) (fun hb=>?_)
   ·have hnil:zs=[]:=hB.2.2.2.2 (by simpa using hb)
    subst hnil
    refine ⟨mr_,hok,mr_,hz,fun cap' tot' g1 g2=>⟨mr_,fun base E' hE hW=>⟨hE,?_⟩⟩⟩
    exact h _ _ _ (dig (zig n)) 0 E' hE hp (Bs.win hW rfl rfl g1 (dig_byte hz.1 hz.2))
   ·obtain ⟨s1,s2,s3⟩:=hB.src
    have hlen:=hB.2.1
    refine ⟨_,s1,s2,s3,Nat.le_refl _,Nat.le_refl _,Nat.le_refl _,req_intro (by omega) ?_⟩
    intro cap' tot' g1 g2
    refine ⟨mr_,hok,mr_,hz,zs,⟨rfl,?_,by omega,g1,by omega,by omega⟩,?_⟩
    ·rw [List.nil_append,List.take_of_length_le (by simp [hlen])]
    ·intro cap'' tot'' g3 g4 base E' hE hW
     refine ⟨hE,h _ _ _ (zs++dig (zig n)) 0 E' hE hp (Bs.win hW rfl (by simp [hlen]) g3 ?_)⟩
     intro z hz'
     rcases List.mem_append.1 hz' with q|q
     ·exact hB.2.2.2.1 z q
     ·exact dig_byte hz.1 hz.2 z q
 ·exact ⟨mr_,mr_,hbad (fun hx=>by simp at h1;unfold okN at hx;omega)⟩
theorem BsB {E:Mem} {b:Option Addr} {l c:Nat} {zs:List Int} (h:Bs E b l c zs):∀ z∈zs,0<=z/\z<=255:=h.2.2.2.1
def unzig (v:Int):Int:=if v % 2=1 then -((v+1) / 2) else v / 2
def rdF (a:Int) (ws:List Int):Nat->Nat->Int->Int×Int×Int
 | 0,_,_=>(0,0,3)
 | k+1,i,u=>if ws.length<=i then (0,0,11) else
   if 128<=ws.getD i 0 then (if k=0 then (0,0,3) else rdF a ws k (i+1) (u+(ws.getD i 0-128)*128 ^ i))
   else if okN (unzig (u+ws.getD i 0*128 ^ i))/\(0<ws.getD i 0\/i=0) then (unzig (u+ws.getD i 0*128 ^ i),a+i+1,0) else (0,0,3)
def rd (zs:List Int) (a:Int):Int×Int×Int:=if a<0\/a>zs.length then (0,0,1) else rdF a (zs.drop a.toNat) 7 0 0
theorem or_add {u d s:Nat} (hu:u<2 ^ s) (h:u+d*2 ^ s<4611686018427387904):(BitVec.ofInt 64 (u:Int)|||BitVec.ofInt 64 ((d:Int)*2 ^ s)).toNat=u+d*2 ^ s:=by
 have hd:(d:Int)*2 ^ s=((d*2 ^ s:Nat):Int):=by simp
 rw [BitVec.toNat_or,hd,BitVec.ofInt_natCast,BitVec.ofInt_natCast,BitVec.toNat_ofNat,BitVec.toNat_ofNat,Nat.mod_eq_of_lt (by omega),Nat.mod_eq_of_lt (by omega)]
 rw [Nat.or_comm,Nat.mul_comm d,← Nat.two_pow_add_eq_or_of_lt hu]
 omega
theorem orW {u d:Int} {i:Nat} (hi:i<=6) (hu:0<=u/\u<128 ^ i) (hd:0<=d/\d<128):
  IntKind.wrap .i64 (((BitVec.ofInt (IntKind.bits .i64) u|||BitVec.ofInt (IntKind.bits .i64) (IntKind.wrap .i64 (d*2 ^ min (Int.toNat (IntKind.wrap .i64 (7*(i:Int)))) (IntKind.bits .i64)))).toNat:Nat):Int)=u+d*128 ^ i/\0<=u+d*128 ^ i/\u+d*128 ^ i<128 ^ (i+1):=by
 obtain ⟨u',rfl⟩:∃ k:Nat,u=k:=⟨u.toNat,by omega⟩
 obtain ⟨d',rfl⟩:∃ k:Nat,d=k:=⟨d.toNat,by omega⟩
 obtain ⟨h0,h1⟩:=hu
 obtain ⟨h2,h3⟩:=hd
 rw [show IntKind.bits .i64=64 from rfl]
 have key:∀ (s p:Nat),p=2 ^ s->s<=42->(u':Int)<p->IntKind.wrap .i64 (((BitVec.ofInt 64 (u':Int)|||BitVec.ofInt 64 (IntKind.wrap .i64 ((d':Int)*2 ^ min (Int.toNat (IntKind.wrap .i64 (s:Int))) 64))).toNat:Nat):Int)=u'+d'*p:=by
  intro s p hp hs h1
  have hp2:p<=4398046511104:=by rw [hp];have:=Nat.pow_le_pow_right (show 2>0 by omega) hs;simpa using this
  have hdp:d'*p<=127*4398046511104:=Nat.mul_le_mul (by omega) hp2
  have e1:min (Int.toNat (IntKind.wrap .i64 (s:Int))) 64=s:=by
   rw [wrap_i64 (by omega)];omega
  rw [e1]
  have e2:(d':Int)*2 ^ s=((d'*p:Nat):Int):=by rw [hp];simp
  have:=or_add (u:=u') (d:=d') (s:=s) (by rw [← hp];omega) (by rw [← hp];omega)
  rw [e2,wrap_i64 (x:=((d'*p:Nat):Int)) (by omega),← e2,this,← hp,wrap_i64 (by omega)]
  simp
 have hc:i=0\/i=1\/i=2\/i=3\/i=4\/i=5\/i=6:=by omega
 rcases hc with rfl|rfl|rfl|rfl|rfl|rfl|rfl
 ·exact ⟨(key 0 1 rfl (by omega) (by simpa using h1)).trans (by simp),by simp at h1 ⊢;omega,by simp at h1 ⊢;omega⟩
 ·exact ⟨(key 7 128 rfl (by omega) (by simpa using h1)).trans (by simp),by simp at h1 ⊢;omega,by simp at h1 ⊢;omega⟩
 ·exact ⟨(key 14 16384 rfl (by omega) (by simpa using h1)).trans (by simp),by simp at h1 ⊢;omega,by simp at h1 ⊢;omega⟩
 ·exact ⟨(key 21 2097152 rfl (by omega) (by simpa using h1)).trans (by simp),by simp at h1 ⊢;omega,by simp at h1 ⊢;omega⟩
 ·exact ⟨(key 28 268435456 rfl (by omega) (by simpa using h1)).trans (by simp),by simp at h1 ⊢;omega,by simp at h1 ⊢;omega⟩
 ·exact ⟨(key 35 34359738368 rfl (by omega) (by simpa using h1)).trans (by simp),by simp at h1 ⊢;omega,by simp at h1 ⊢;omega⟩
 ·exact ⟨(key 42 4398046511104 rfl (by omega) (by simpa using h1)).trans (by simp),by simp at h1 ⊢;omega,by simp at h1 ⊢;omega⟩
noncomputable def W8:Cx:={ P:=Try.prog,inl:=fun f=>List.contains [] f,tab:=fun _ _ _ _=>False,isB:=fun _=>false,tabB:=fun _ _ _ _ _=>False,opt:={ unroll:=0,carry:=[] },muts:=mutsD }
theorem okW8:CxOK W8:=CxOK.four (fun _ _ _ _ h=>h.elim) (by kernel_rfl) (okInl (by kernel_rfl)) (fun _ _ _ _ _ h=>h.elim)
theorem s35 {a1:Int} (h0:(0<=a1/\a1<1152921504606846976)) (h:K (I (unzig a1)) E):
  Ent W8 6 Try.f57 [I a1] E K:=by
 refine sm_ (?_:((2:Int)=(0:Int)->False)/\bif Int.tmod a1 (2:Int)==(1:Int) then ((2:Int)=(0:Int)->False)/\Mem.le E E/\K (I (WI (Int.tdiv (WI ((0:Int)-WI (a1+(1:Int)))) 2))) E else ((2:Int)=(0:Int)->False)/\Mem.le E E/\K (I (WI (Int.tdiv a1 2))) E)
 delta WI
 obtain ⟨g0,g1⟩:=h0
 rw [Int.tmod_eq_emod_of_nonneg g0]
 unfold unzig at h
 refine ⟨by omega,condC (fun h1=>?_) (fun h1=>?_)⟩
 ·have h1:a1 % 2=1:=by simpa using h1
  rw [if_pos h1] at h
  rw [wrap_i64 (x:=a1+1) (by omega),wrap_i64 (x:=0-(a1+1)) (by omega),Int.zero_sub,Int.neg_tdiv,Int.tdiv_eq_ediv_of_nonneg (by omega),wrap_i64 (by omega)]
  exact ⟨by omega,mr_,h⟩
 ·have h1:¬ a1 % 2=1:=by simpa using h1
  rw [if_neg h1] at h
  rw [Int.tdiv_eq_ediv_of_nonneg (by omega),wrap_i64 (by omega)]
  exact ⟨by omega,mr_,h⟩
theorem s28 {a1:Int} (h:K (B (decide (okN a1))) E):
  Ent W8 6 Try.f49 [I a1] E K:=by
 refine sm_ (?_:bif decide (a1>=(-10000000000000:Int)) then Mem.le E E/\K (B (bif true then decide (a1<=(10000000000000:Int)) else false)) E else Mem.le E E/\K (B false) E)
 unfold okN at h
 refine condC (fun h1=>?_) (fun h1=>?_)
 ·have h1: -10000000000000<=a1:=by simpa using h1
  exact ⟨mr_,by simpa [h1] using h⟩
 ·have h1:¬ -10000000000000<=a1:=by simpa using h1
  exact ⟨mr_,by simpa [h1] using h⟩
noncomputable def tab7:FuncId->List SV->Mem->(SV->Mem->Prop)->Prop:=fun f args E K=>match f with
 | 57=>d1 args fun x0=>dI x0 fun a1=>(0<=a1/\a1<1152921504606846976)/\(K (I (unzig a1)) E)
 | 49=>d1 args fun x0=>dI x0 fun a1=>(K (B (decide (okN a1))) E)
 | _=>False
theorem tab7_ok:TabOK Try.prog tab7:=by
 intro f args E K h
 unfold tab7 at h
 split at h
 ·replace h:=d1_elim h
  obtain ⟨x0,rfl,h⟩:=h
  replace h:=dI_elim h
  obtain ⟨a1,rfl,h⟩:=h
  obtain ⟨g0,h⟩:=h
  exact TabSem.congr (valL_cons rfl rfl) (esm okW8 Try.func57 rfl (s35 g0 h))
 ·replace h:=d1_elim h
  obtain ⟨x0,rfl,h⟩:=h
  replace h:=dI_elim h
  obtain ⟨a1,rfl,h⟩:=h
  exact TabSem.congr (valL_cons rfl rfl) (esm okW8 Try.func49 rfl (s28 h))
 ·exact h.elim
noncomputable def W7:Cx:={ P:=Try.prog,inl:=fun f=>List.contains [] f,tab:=tab7,isB:=fun _=>false,tabB:=fun _ _ _ _ _=>False,opt:={ unroll:=0,carry:=[7,23] },muts:=mutsD }
theorem okW7:CxOK W7:=CxOK.four tab7_ok (by kernel_rfl) (okInl (by kernel_rfl)) (fun _ _ _ _ _ h=>h.elim)
def sh15w (b:Option Addr) (l c:Nat) (a:Int) (b2:Option Addr) (l2 c2:Nat) (i:Nat) (u:Int) (E:Mem):St:={ fr:=[oL b l c,oI a,none,none,none,none,none,oI u,none,none,none,none,none,none,none,none,none,none,none,none,none,oL b2 l2 c2,oI l2,oI i,none,none,none,none,none,none,none,none,none,none,none,none,none,none,none,none,none,none,none,none,none,none,none,none,none,none,none,none,none,none,none,none,none,none,none,none,none,none,none,none,none,none,none,none,none,none,none],bx:=[],E:=E }
structure I15 (E:Mem) (K:SV->Mem->Prop) (a:Int) (ws:List Int) (l2 i:Nat) (u:Int):Prop where
 i6:i<=6
 il:i<=l2
 hu:0<=u/\u<128 ^ i
 h:∀ (n end' e:Int) (E':Mem),Mem.le E E'->Hyp (rdF a ws (7-i) i u=(n,end',e))->K (.tup [I n,I end',I e]) E'
theorem rnd15 {E0:Mem} {b:Option Addr} {l c:Nat} {a:Int} {b2:Option Addr} {l2 c2 i:Nat} {u:Int} {ws:List Int} (hB:Bs E b2 l2 c2 ws) (hE0:Mem.le E0 E) (hl:l2<=100000) (ha:0<=a/\a<=100000) (hi:i<=6) (hil:i<=l2) (hu:0<=u/\u<128 ^ i) (h:∀ (n end' e:Int) (E':Mem),Mem.le E E'->Hyp (rdF a ws (7-i) i u=(n,end',e))->K (.tup [I n,I end',I e]) E')
  (ih:∀ u',i<6->i<l2->0<=u'/\u'<128 ^ (i+1)->(∀ (n end' e:Int) (E':Mem),Mem.le E E'->Hyp (rdF a ws (7-(i+1)) (i+1) u'=(n,end',e))->K (.tup [I n,I end',I e]) E')->Lp W7 6 Try.f40 [1,1,1,0,1,0] 0 (pubK E0 K) (sh15w b l c a b2 l2 c2 (i+1) u' E)):
  Rnd W7 6 Try.f40 [1,1,1,0,1,0] 0 (pubK E0 K) (sh15w b l c a b2 l2 c2 i u E):=by
 refine sm_ (?_:bif decide ((NI i)<(NI l2)) then req (0<=(NI i)/\(NI i)<(NI l2)) ((∃ (cs:List Value),E (VS b2 l2 c2) cs/\(cs=[]->False))/\∃ (n:Int),LoadE W7.P E 5 (VS b2 l2 c2) (Int.toNat (NI i)*1) (SV.raw (U8 n))/\bif decide (n>=(128:Int)) then bif bif true then (NI i)==6 else false then Mem.le E0 E/\K (SV.tup [I 0,I 0,I 3]) E else bif decide (n>=(128:Int)) then req ((0:Int)<=WI ((7:Int)*(NI i))) (Lp W7 6 Try.f40 [1,1,1,0,1,0] 0 (pubK E0 K) { fr:=some (L b l c)::oI a::none::none::none::none::none::oI (WI (NI (BitVec.toNat (BitVec.ofInt (IntKind.bits IntKind.i64) u|||BitVec.ofInt (IntKind.bits IntKind.i64) (WI (WI (IntKind.wrap IntKind.u8 (n-(128:Int)))*(2:Int) ^ min (Int.toNat (WI ((7:Int)*(NI i)))) (IntKind.bits IntKind.i64)))))))::no8 (no4 (none::(oL b2 l2 c2::oI (NI l2)::oI (WI ((NI i)+1))::no32 (no8 (no4 (no2 (none::[]))))))),bx:=[],E:=E:St }) else req ((0:Int)<=WI ((7:Int)*(NI i))) (((0:Int)<=WI (NI (BitVec.toNat (BitVec.ofInt (IntKind.bits IntKind.i64) u|||BitVec.ofInt (IntKind.bits IntKind.i64) (WI (WI n*(2:Int) ^ min (Int.toNat (WI ((7:Int)*(NI i)))) (IntKind.bits IntKind.i64))))))/\WI (NI (BitVec.toNat (BitVec.ofInt (IntKind.bits IntKind.i64) u|||BitVec.ofInt (IntKind.bits IntKind.i64) (WI (WI n*(2:Int) ^ min (Int.toNat (WI ((7:Int)*(NI i)))) (IntKind.bits IntKind.i64))))))<(1152921504606846976:Int))/\Mem.le E E/\Mem.le E E/\bif decide (okN (unzig (WI (NI (BitVec.toNat (BitVec.ofInt (IntKind.bits IntKind.i64) u|||BitVec.ofInt (IntKind.bits IntKind.i64) (WI (WI n*(2:Int) ^ min (Int.toNat (WI ((7:Int)*(NI i)))) (IntKind.bits IntKind.i64))))))))) then bif decide (n>(0:Int)) then Mem.le E0 E/\K (SV.tup [I (unzig (WI (NI (BitVec.toNat (BitVec.ofInt (IntKind.bits IntKind.i64) u|||BitVec.ofInt (IntKind.bits IntKind.i64) (WI (WI n*(2:Int) ^ min (Int.toNat (WI ((7:Int)*(NI i)))) (IntKind.bits IntKind.i64)))))))),I (WI (WI (a+(NI i))+(1:Int))),I 0]) E else bif bif true then bif false then true else (NI i)==0 else false then Mem.le E0 E/\K (SV.tup [I (unzig (WI (NI (BitVec.toNat (BitVec.ofInt (IntKind.bits IntKind.i64) u|||BitVec.ofInt (IntKind.bits IntKind.i64) (WI (WI n*(2:Int) ^ min (Int.toNat (WI ((7:Int)*(NI i)))) (IntKind.bits IntKind.i64)))))))),I (WI (WI (a+(NI i))+(1:Int))),I 0]) E else Mem.le E0 E/\K (SV.tup [I 0,I 0,I 3]) E else Mem.le E0 E/\K (SV.tup [I 0,I 0,I 3]) E) else bif decide (n>=(128:Int)) then req ((0:Int)<=WI ((7:Int)*(NI i))) (Lp W7 6 Try.f40 [1,1,1,0,1,0] 0 (pubK E0 K) { fr:=some (L b l c)::oI a::none::none::none::none::none::oI (WI (NI (BitVec.toNat (BitVec.ofInt (IntKind.bits IntKind.i64) u|||BitVec.ofInt (IntKind.bits IntKind.i64) (WI (WI (IntKind.wrap IntKind.u8 (n-(128:Int)))*(2:Int) ^ min (Int.toNat (WI ((7:Int)*(NI i)))) (IntKind.bits IntKind.i64)))))))::no8 (no4 (none::(oL b2 l2 c2::oI (NI l2)::oI (WI ((NI i)+1))::no32 (no8 (no4 (no2 (none::[]))))))),bx:=[],E:=E:St }) else req ((0:Int)<=WI ((7:Int)*(NI i))) (((0:Int)<=WI (NI (BitVec.toNat (BitVec.ofInt (IntKind.bits IntKind.i64) u|||BitVec.ofInt (IntKind.bits IntKind.i64) (WI (WI n*(2:Int) ^ min (Int.toNat (WI ((7:Int)*(NI i)))) (IntKind.bits IntKind.i64))))))/\WI (NI (BitVec.toNat (BitVec.ofInt (IntKind.bits IntKind.i64) u|||BitVec.ofInt (IntKind.bits IntKind.i64) (WI (WI n*(2:Int) ^ min (Int.toNat (WI ((7:Int)*(NI i)))) (IntKind.bits IntKind.i64))))))<(1152921504606846976:Int))/\Mem.le E E/\Mem.le E E/\bif decide (okN (unzig (WI (NI (BitVec.toNat (BitVec.ofInt (IntKind.bits IntKind.i64) u|||BitVec.ofInt (IntKind.bits IntKind.i64) (WI (WI n*(2:Int) ^ min (Int.toNat (WI ((7:Int)*(NI i)))) (IntKind.bits IntKind.i64))))))))) then bif decide (n>(0:Int)) then Mem.le E0 E/\K (SV.tup [I (unzig (WI (NI (BitVec.toNat (BitVec.ofInt (IntKind.bits IntKind.i64) u|||BitVec.ofInt (IntKind.bits IntKind.i64) (WI (WI n*(2:Int) ^ min (Int.toNat (WI ((7:Int)*(NI i)))) (IntKind.bits IntKind.i64)))))))),I (WI (WI (a+(NI i))+(1:Int))),I 0]) E else bif bif true then bif false then true else (NI i)==0 else false then Mem.le E0 E/\K (SV.tup [I (unzig (WI (NI (BitVec.toNat (BitVec.ofInt (IntKind.bits IntKind.i64) u|||BitVec.ofInt (IntKind.bits IntKind.i64) (WI (WI n*(2:Int) ^ min (Int.toNat (WI ((7:Int)*(NI i)))) (IntKind.bits IntKind.i64)))))))),I (WI (WI (a+(NI i))+(1:Int))),I 0]) E else Mem.le E0 E/\K (SV.tup [I 0,I 0,I 3]) E else Mem.le E0 E/\K (SV.tup [I 0,I 0,I 3]) E)) else Mem.le E0 E/\K (SV.tup [I 0,I 0,I 11]) E)
 delta WI NI U8 VS no2 no4 no8 no32
 have hlen:=hB.2.1
 obtain ⟨k,hk⟩:∃ k,7-i=k+1:=⟨6-i,by omega⟩
 have hk':7-(i+1)=k:=by omega
 rw [hk'] at ih
 rw [hk] at h
 have h7:IntKind.wrap .i64 (7*(i:Int))=7*i:=wrap_i64 (by omega)
 unfold rdF at h
 refine condC (fun hlt=>?_) (fun hlt=>?_)
 ·have hlt:i<l2:=by simpa using hlt
  rw [if_neg (by omega)] at h
  have hc:0<=ws.getD i 0/\ws.getD i 0<=255:=by
   refine BsB hB _ ?_
   rw [List.getD_eq_getElem?_getD,List.getElem?_eq_getElem (by omega)];exact List.getElem_mem _
  refine req_intro ⟨by omega,by omega⟩ ⟨hB.ne hlt,ws.getD i 0,hB.load rfl hlt,?_⟩
  generalize ws.getD i 0=c1 at hc h ih
  refine condC (fun h1=>?_) (fun h1=>?_)
  ·have h1:128<=c1:=by simpa using h1
   rw [if_pos h1] at h
   refine condC (fun h2=>?_) (fun h2=>?_)
   ·have h2:i=6:=by simp at h2;omega
    rw [if_pos (by omega)] at h
    exact ⟨hE0,h 0 0 3 E mr_ rfl⟩
   ·have h2:i<6:=by simp at h2;omega
    rw [if_neg (by omega)] at h
    refine condC (fun _=>?_) (fun h3=>absurd h1 (by simp at h3;omega))
    refine req_intro (by rw [h7];omega) ?_
    have ho:=orW hi hu (d:=c1-128) (by omega)
    have e1:IntKind.wrap .i64 (IntKind.wrap .u8 (c1-128))=c1-128:=by rw [wu8 (by omega),wrap_i64 (by omega)]
    have e2:IntKind.wrap .i64 ((i:Int)+1)=((i+1:Nat):Int):=by rw [wrap_i64 (by omega)];simp
    rw [e1,ho.1,e2]
    exact Lp_from (by repeat' first|exact True.intro|refine And.intro rfl ?_) (ih _ h2 hlt ho.2 h)
  ·have h1:¬ 128<=c1:=by simpa using h1
   rw [if_neg h1] at h
   refine condC (fun h3=>absurd h3 (by simp;omega)) (fun _=>?_)
   refine req_intro (by rw [h7];omega) ?_
   have ho:=orW hi hu (d:=c1) (by omega)
   have e1:IntKind.wrap .i64 c1=c1:=wrap_i64 (by omega)
   have e2:IntKind.wrap .i64 (IntKind.wrap .i64 (a+(i:Int))+1)=a+i+1:=by rw [wrap_i64 (x:=a+i) (by omega),wrap_i64 (by omega)]
   have hb:(128:Int) ^ (i+1)<=128 ^ 7:=by
    have:=Nat.pow_le_pow_right (show 128>0 by omega) (show i+1<=7 by omega)
    exact_mod_cast this
   simp only [e1,ho.1,e2]
   refine ⟨⟨ho.2.1,by have:=ho.2.2;simp at hb;omega⟩,mr_,mr_,?_⟩
   refine condC (fun h4=>?_) (fun h4=>?_)
   ·have h4:okN (unzig (u+c1*128 ^ i)):=by simpa using h4
    refine condC (fun h5=>?_) (fun h5=>?_)
    ·have h5:0<c1:=by simpa using h5
     rw [if_pos ⟨h4,.inl h5⟩] at h
     exact ⟨hE0,h _ _ _ E mr_ rfl⟩
    ·have h5:¬ 0<c1:=by simpa using h5
     refine condC (fun h6=>?_) (fun h6=>?_)
     ·have h6:i=0:=by simp at h6;omega
      rw [if_pos ⟨h4,.inr h6⟩] at h
      exact ⟨hE0,h _ _ _ E mr_ rfl⟩
     ·have h6:¬ i=0:=by simp at h6;omega
      rw [if_neg (by rintro ⟨_,q|q⟩;exact h5 q;exact h6 q)] at h
      exact ⟨hE0,h _ _ _ E mr_ rfl⟩
   ·have h4:¬ okN (unzig (u+c1*128 ^ i)):=by simpa using h4
    rw [if_neg (fun q=>h4 q.1)] at h
    exact ⟨hE0,h _ _ _ E mr_ rfl⟩
 ·have hlt:¬ i<l2:=by simpa using hlt
  rw [if_pos (by omega)] at h
  exact ⟨hE0,h 0 0 11 E mr_ rfl⟩
theorem s15 {b:Option Addr} {l c:Nat} {zs:List Int} {a:Int} (hB:Bs E b l c zs) (hl:l<=100000) (h:∀ (n end' e:Int) (E':Mem),Mem.le E E'->Hyp (rd zs a=(n,end',e))->K (.tup [I n,I end',I e]) E'):Ent W7 6 Try.f40 [L b l c,I a] E K:=by
 refine sm_ (?_:bif decide (a<(0:Int)) then Mem.le E E/\K (SV.tup [I 0,I 0,I 1]) E else bif bif false then true else decide (a>(NI l)) then Mem.le E E/\K (SV.tup [I 0,I 0,I 1]) E else req (l<=c) (req ((0:Int)<=a/\a<=(NI (toN none l))) (∀ (base':Option Addr) (E':Mem),Mem.le E E'->(∀ (cs:List Value),E (VS b l c) cs->E' (VS base' (toN none l-toN (some a) 0) (toN none c-toN (some a) 0)) (List.take ((toN none l-toN (some a) 0)*1) (List.drop (toN (some a) 0*1) cs)))->Option.isNone base'=Option.isNone b->Lp W7 6 Try.f40 [1,1,1,0,1,0] 0 (pubK E K) { fr:=some (L b l c)::oI a::none::none::none::none::none::oI 0::none::none::none::oI a::oB (decide (a<(0:Int)))::oB false::oI a::oL b l c::oI (NI l)::oB (decide (a>(NI l)))::oB (bif false then true else decide (a>(NI l)))::oL b l c::oI a::oL base' (toN none l-toN (some a) 0) (toN none c-toN (some a) 0)::oI (NI (toN none l-toN (some a) 0))::oI 0::no32 (no8 (no4 (no2 (none::[])))),bx:=[],E:=E':St })))
 delta NI VS no2 no4 no8 no32
 have hlen:=hB.2.1
 refine condC (fun h1=>?_) (fun h1=>?_)
 ·exact ⟨mr_,h 0 0 1 E mr_ (by show rd zs a=_;unfold rd;rw [if_pos (.inl (by simpa using h1))])⟩
 ·have h1:¬ a<0:=by simpa using h1
  refine condC (fun h2=>?_) (fun h2=>?_)
  ·have h2:a>l:=by simpa using h2
   exact ⟨mr_,h 0 0 1 E mr_ (by show rd zs a=_;unfold rd;rw [if_pos (.inr (by omega))])⟩
  ·have h2:a<=l:=by simpa using h2
   have hr:rd zs a=rdF a (zs.drop a.toNat) 7 0 0:=by unfold rd;rw [if_neg (by omega)]
   rw [hr] at h
   refine req_intro hB.2.2.1 (req_intro ⟨by omega,h2⟩ ?_)
   intro b2 E' hE hF hN
   have hB2:Bs E' b2 (l-a.toNat) (c-a.toNat) (zs.drop a.toNat):=by
    refine ⟨?_,by simp [hlen],by have:=hB.2.2.1;omega,fun z hz=>BsB hB z (List.drop_subset _ _ hz),fun e=>?_⟩
    ·rcases hB.1 with q|q
     ·exact .inl (by rw [q];simp)
     ·refine .inr ?_
      have:=hF _ q
      rw [Nat.mul_one,Nat.mul_one,← List.map_drop,List.take_of_length_le (by show _<=l-a.toNat;rw [List.length_map,List.length_drop,hlen];exact Nat.le_refl _)] at this
      exact this
    ·have :zs=[]:=hB.2.2.2.2 (by cases b with |none=>rfl|some x=>rw [e] at hN;cases hN)
     rw [this];simp
   have key:=Lp_ind okW7 (n:=6) (fn:=Try.f40) (p:=[1,1,1,0,1,0]) (n0:=0) (K:=pubK E K) (fun x:{x:Nat×Int//I15 E' K a (zs.drop a.toNat) (l-a.toNat) x.1 x.2}=>sh15w b l c a b2 (l-a.toNat) (c-a.toNat) x.1.1 x.1.2 E') (fun x=>7-x.1.1) (by
    rintro ⟨⟨i,u⟩,hP⟩ ih
    have hP:I15 E' K a (zs.drop a.toNat) (l-a.toNat) i u:=hP
    have g6:=hP.i6
    refine rnd15 hB2 hE (by omega) (by omega) hP.i6 hP.il hP.hu hP.h (fun u' q1 q2 q3 q4=>?_)
    exact ih ⟨⟨i+1,u'⟩,⟨q1,q2,q3,q4⟩⟩ (by show 7-(i+1)<7-i;omega))
   exact Lp_from (by repeat' first|exact True.intro|refine And.intro rfl ?_) (key ⟨⟨0,0⟩,⟨by omega,by omega,by simp,fun n e' e E2 hE2 hy=>h n e' e E2 (mt_ hE hE2) hy⟩⟩)
abbrev RK (q:IntKind) (k:Nat):RowR (List Int):=fun _ x r=>r=x.map (.int q)/\x.length=k
theorem RK_ok (q:IntKind) {k:Nat} (hk:0<k):RowOK k (RK q k) where
 mono _ h:=h
 len h:=by rw [h.1,List.length_map];exact h.2
 one h v hv:=by
  rw [h.1] at hv
  obtain ⟨z,_,rfl⟩:=List.mem_map.1 hv
  rfl
 pos:=hk
theorem RK_load {q:IntKind} {k:Nat} (hk:0<k) {T:TypeId} (hT:Try.prog.underlying T=some (.int q)) {b:Option Addr} {n c:Nat} {xs:List (List Int)} (h:SL (RK q k) E b n c xs) {i:Nat} {x:List Int} (hx:xs[i]? =some x):
  ∀ j,j<k->LoadE Try.prog E T (.slice b n c) (i*k+j) (.raw (.int q (x.getD j 0))):=fun j hj=>by
 obtain ⟨r,v,⟨h1,h2⟩,h3,h4⟩:=SL.loadC (RK_ok q hk) h hT rfl hx hj
 rw [h1,List.getElem?_map] at h3
 rw [List.getD_eq_getElem?_getD]
 rw [List.getElem?_eq_getElem (by omega)] at h3 ⊢
 simp only [Option.map_some,Option.some.injEq] at h3
 rw [← h3] at h4
 exact h4
theorem SLr_RK {q:IntKind} {k:Nat} {xs:List (List Int)} {E:Mem} (h:∀ x∈xs,x.length=k):SLr (RK q k) E (xs.map fun x=>x.map (Value.int q)) xs:=by
 refine ⟨by simp,fun i r x h1 h2=>?_⟩
 rw [List.getElem?_map,h2] at h1
 simp only [Option.map_some,Option.some.injEq] at h1
 exact ⟨h1.symm,h x (List.mem_of_getElem? h2)⟩
theorem SLr_RKeq {q:IntKind} {k:Nat} {E:Mem} {rs:List (List Value)} {xs:List (List Int)} (h:SLr (RK q k) E rs xs):rs=xs.map fun x=>x.map (Value.int q):=by
 refine List.ext_getElem? fun i=>?_
 rw [List.getElem?_map]
 cases hx:xs[i]? with
 | none=>
  have :rs[i]? =none:=by
   rw [List.getElem?_eq_none_iff] at hx ⊢
   rw [h.1];exact hx
  rw [this];rfl
 | some x=>
  have hi:i<rs.length:=by rw [h.1];exact (List.getElem?_eq_some_iff.1 hx).1
  rw [List.getElem?_eq_getElem hi,(h.2 i _ x (List.getElem?_eq_getElem hi) hx).1];rfl
theorem rowK5 {q:IntKind} {T:TypeId} {b:Option Addr} {n c:Nat} {xs:List (List Int)} (h:SL (RK q 5) E b n c xs) (hu:(match Try.prog.underlying T with |some (.struct _)=>true|_=>false)=true) (hs:(Try.prog.info? T).map (·.size)=some 5) {i:Nat} {x:List Int} (hx:xs[i]? =some x):
  ∃ a0 a1 a2 a3 a4:Int,x=[a0,a1,a2,a3,a4]/\LoadE Try.prog E T (.slice b n c) (i*5) (.agg [.raw (.int q a0),.raw (.int q a1),.raw (.int q a2),.raw (.int q a3),.raw (.int q a4)]):=by
 obtain ⟨r,⟨h1,h2⟩,h3⟩:=SL.loadE (RK_ok q (by decide)) h hu hs hx
 match x,h2 with
 | [a0,a1,a2,a3,a4],_=>subst h1;exact ⟨a0,a1,a2,a3,a4,rfl,h3⟩
noncomputable def Q1:Cx:={ P:=Try.prog,inl:=fun f=>List.contains [28] f,tab:=fun _ _ _ _=>False,isB:=fun _=>false,tabB:=fun _ _ _ _ _=>False,opt:={ unroll:=0,carry:=[] },muts:=mutsD }
theorem okQ1:CxOK Q1:=CxOK.four (fun _ _ _ _ h=>h.elim) (by kernel_rfl) (okInl (by kernel_rfl)) (fun _ _ _ _ _ h=>h.elim)
def okR (o n k v a:Int):Bool:=decide ((0<=o/\o<=59)/\(1<=n/\n<=1000000000)/\(0<=k/\k<=1)/\(0<=v/\v<=10000000000000)/\(0<=a/\a<=1000000000))
theorem okR_no {o n k v a:Int} (h:¬ ((0<=o/\o<=59)/\(1<=n/\n<=1000000000)/\(0<=k/\k<=1)/\(0<=v/\v<=10000000000000)/\(0<=a/\a<=1000000000))):okR o n k v a=false:=decide_eq_false h
def recB (l:List Int):List Int:=l.foldl (fun b n=>(putN b n).1) []
theorem c21 {a1:Int} {a2:Int} {a3:Int} {a4:Int} {a5:Int} (h:K (B (okR a1 a2 a3 a4 a5)) E):
  Ent Q1 6 Try.f21 [.agg [I a1,I a2,I a3,I a4,I a5]] E K:=by
 refine sm_ (?_:bif decide (a1>=(0:Int)) then Mem.le E E/\bif bif true then decide (a1<=(59:Int)) else false then bif decide (a2>=(1:Int)) then Mem.le E E/\bif bif true then bif true then decide (a2<=(1000000000:Int)) else false else false then bif decide (a3>=(0:Int)) then Mem.le E E/\bif bif true then bif true then decide (a3<=(1:Int)) else false else false then bif decide (a4>=(0:Int)) then Mem.le E E/\bif bif true then bif true then decide (a4<=(10000000000000:Int)) else false else false then bif decide (a5>=(0:Int)) then Mem.le E E/\Mem.le E E/\K (B (bif true then bif true then decide (a5<=(1000000000:Int)) else false else false)) E else Mem.le E E/\Mem.le E E/\K (B false) E else Mem.le E E/\K (B false) E else Mem.le E E/\Mem.le E E/\K (B false) E else Mem.le E E/\K (B false) E else Mem.le E E/\Mem.le E E/\K (B false) E else Mem.le E E/\K (B false) E else Mem.le E E/\Mem.le E E/\K (B false) E else Mem.le E E/\K (B false) E else Mem.le E E/\Mem.le E E/\K (B false) E)
 have bad:¬ ((0<=a1/\a1<=59)/\(1<=a2/\a2<=1000000000)/\(0<=a3/\a3<=1)/\(0<=a4/\a4<=10000000000000)/\(0<=a5/\a5<=1000000000))->K (B false) E:=fun q=>by rw [okR_no q] at h;exact h
 have b1:∀ {p:Prop},p->¬ ((0<=a1/\a1<=59)/\(1<=a2/\a2<=1000000000)/\(0<=a3/\a3<=1)/\(0<=a4/\a4<=10000000000000)/\(0<=a5/\a5<=1000000000))->p/\K (B false) E:=fun p q=>⟨p,bad q⟩
 have b2:∀ {p r:Prop},p->r->¬ ((0<=a1/\a1<=59)/\(1<=a2/\a2<=1000000000)/\(0<=a3/\a3<=1)/\(0<=a4/\a4<=10000000000000)/\(0<=a5/\a5<=1000000000))->p/\r/\K (B false) E:=fun p r q=>⟨p,r,bad q⟩
 refine condC (fun g1=>?_) (fun g=>b2 mr_ mr_ (fun q=>by simp at g;omega))
 refine ⟨mr_,condC (fun g2=>?_) (fun g=>b1 mr_ (fun q=>by simp at g;omega))⟩
 refine condC (fun g3=>?_) (fun g=>b2 mr_ mr_ (fun q=>by simp at g;omega))
 refine ⟨mr_,condC (fun g4=>?_) (fun g=>b1 mr_ (fun q=>by simp at g;omega))⟩
 refine condC (fun g5=>?_) (fun g=>b2 mr_ mr_ (fun q=>by simp at g;omega))
 refine ⟨mr_,condC (fun g6=>?_) (fun g=>b1 mr_ (fun q=>by simp at g;omega))⟩
 refine condC (fun g7=>?_) (fun g=>b2 mr_ mr_ (fun q=>by simp at g;omega))
 refine ⟨mr_,condC (fun g8=>?_) (fun g=>b1 mr_ (fun q=>by simp at g;omega))⟩
 refine condC (fun g9=>?_) (fun g=>b2 mr_ mr_ (fun q=>by simp at g;omega))
 refine ⟨mr_,mr_,?_⟩
 show K (B (decide (a5<=1000000000))) E
 have e:okR a1 a2 a3 a4 a5=decide (a5<=1000000000):=by unfold okR;simp at g1 g2 g3 g4 g5 g6 g7 g8 g9;simp [g1,g2,g3,g4,g5,g6,g7,g8,g9]
 rw [e] at h;exact h
theorem c14 {a1:Int} {a2:Int} {a3:Int} {a4:Int} {a5:Int} (h:K (B (okR a1 a2 a3 a4 a5)) E):
  Ent Q1 6 Try.f14 [.agg [I a1,I a2,I a3,I a4,I a5]] E K:=by
 refine sm_ (?_:bif decide (a1<(0:Int)) then Mem.le E E/\K (B false) E else bif bif false then true else decide (a1>(59:Int)) then Mem.le E E/\K (B false) E else bif bif false then true else decide (a2<(1:Int)) then Mem.le E E/\K (B false) E else bif bif false then true else decide (a2>(1000000000:Int)) then Mem.le E E/\K (B false) E else bif bif false then true else decide (a3<(0:Int)) then Mem.le E E/\K (B false) E else bif bif false then true else decide (a3>(1:Int)) then Mem.le E E/\K (B false) E else bif decide (a4>=(0:Int)) then bif bif true then decide (a4<=(10000000000000:Int)) else false then bif bif true then decide (a5>=(0:Int)) else false then Mem.le E E/\K (B (bif true then decide (a5<=(1000000000:Int)) else false)) E else Mem.le E E/\K (B false) E else Mem.le E E/\K (B false) E else Mem.le E E/\K (B false) E)
 have bad:¬ ((0<=a1/\a1<=59)/\(1<=a2/\a2<=1000000000)/\(0<=a3/\a3<=1)/\(0<=a4/\a4<=10000000000000)/\(0<=a5/\a5<=1000000000))->K (B false) E:=fun q=>by rw [okR_no q] at h;exact h
 have b1:∀ {p:Prop},p->¬ ((0<=a1/\a1<=59)/\(1<=a2/\a2<=1000000000)/\(0<=a3/\a3<=1)/\(0<=a4/\a4<=10000000000000)/\(0<=a5/\a5<=1000000000))->p/\K (B false) E:=fun p q=>⟨p,bad q⟩
 have b2:∀ {p r:Prop},p->r->¬ ((0<=a1/\a1<=59)/\(1<=a2/\a2<=1000000000)/\(0<=a3/\a3<=1)/\(0<=a4/\a4<=10000000000000)/\(0<=a5/\a5<=1000000000))->p/\r/\K (B false) E:=fun p r q=>⟨p,r,bad q⟩
 refine condC (fun g=>b1 mr_ (fun q=>by simp at g;omega)) (fun g1=>?_)
 refine condC (fun g=>b1 mr_ (fun q=>by simp at g;omega)) (fun g2=>?_)
 refine condC (fun g=>b1 mr_ (fun q=>by simp at g;omega)) (fun g3=>?_)
 refine condC (fun g=>b1 mr_ (fun q=>by simp at g;omega)) (fun g4=>?_)
 refine condC (fun g=>b1 mr_ (fun q=>by simp at g;omega)) (fun g5=>?_)
 refine condC (fun g=>b1 mr_ (fun q=>by simp at g;omega)) (fun g6=>?_)
 refine condC (fun g7=>?_) (fun g=>b1 mr_ (fun q=>by simp at g;omega))
 refine condC (fun g8=>?_) (fun g=>b1 mr_ (fun q=>by simp at g;omega))
 refine condC (fun g9=>?_) (fun g=>b1 mr_ (fun q=>by simp at g;omega))
 refine ⟨mr_,?_⟩
 show K (B (decide (a5<=1000000000))) E
 have e:okR a1 a2 a3 a4 a5=decide (a5<=1000000000):=by unfold okR;simp at g1 g2 g3 g4 g5 g6 g7 g8 g9;simp [g1,g2,g3,g4,g5,g6,g7,g8,g9]
 rw [e] at h;exact h
noncomputable def tab37:FuncId->List SV->Mem->(SV->Mem->Prop)->Prop:=fun f args E K=>match f with
 | 37=>d2 args fun x0 x1=>dS x0 fun b l c=>dI x1 fun n=>∃ zs:List Int,Bs E b l c zs/\l<=100000/\(∀ (b':Option Addr) (l' c':Nat) (ys:List Int) (e:Int) (E':Mem),Mem.le E E'->Hyp (putN zs n=(ys,e))->Bs E' b' l' c' ys->K (.tup [L b' l' c',I e]) E')
 | 40=>d2 args fun x0 x1=>dS x0 fun b l c=>dI x1 fun a=>∃ zs:List Int,Bs E b l c zs/\l<=100000/\(∀ (n end' e:Int) (E':Mem),Mem.le E E'->Hyp (rd zs a=(n,end',e))->K (.tup [I n,I end',I e]) E')
 | _=>False
theorem tab37_ok:TabOK Try.prog tab37:=by
 intro f args E K h
 unfold tab37 at h
 split at h
 ·replace h:=d2_elim h
  obtain ⟨x0,x1,rfl,h⟩:=h
  replace h:=dS_elim h
  obtain ⟨b,l,c,rfl,h⟩:=h
  replace h:=dI_elim h
  obtain ⟨n,rfl,h⟩:=h
  obtain ⟨zs,h1,h2,h⟩:=h
  exact TabSem.congr (valL_cons rfl (valL_cons rfl rfl)) (esm okW1 Try.func37 rfl (s12 h1 h2 h))
 ·replace h:=d2_elim h
  obtain ⟨x0,x1,rfl,h⟩:=h
  replace h:=dS_elim h
  obtain ⟨b,l,c,rfl,h⟩:=h
  replace h:=dI_elim h
  obtain ⟨n,rfl,h⟩:=h
  obtain ⟨zs,h1,h2,h⟩:=h
  exact TabSem.congr (valL_cons rfl (valL_cons rfl rfl)) (esm okW7 Try.func40 rfl (s15 h1 h2 h))
 ·exact h.elim
noncomputable def Q2:Cx:={ P:=Try.prog,inl:=fun f=>List.contains [] f,tab:=tab37,isB:=fun _=>false,tabB:=fun _ _ _ _ _=>False,opt:={ unroll:=0,carry:=[3,8] },muts:=mutsD }
theorem okQ2:CxOK Q2:=CxOK.four tab37_ok (by kernel_rfl) (okInl (by kernel_rfl)) (fun _ _ _ _ _ h=>h.elim)
theorem recB_take {xs:List Int} {i:Nat} {x:Int} (h:xs[i]? =some x):recB (xs.take (i+1))=(putN (recB (xs.take i)) x).1:=by
 unfold recB
 rw [take_get' h,List.foldl_append];rfl
theorem putN_len (zs:List Int) (n:Int):(putN zs n).1.length<=zs.length+10:=by
 unfold putN
 split
 ·have:=(dig_len (zig n)).2;simp;omega
 ·simp
theorem recB_len (xs:List Int):(recB xs).length<=10*xs.length:=by
 have :∀ (l:List Int) (b:List Int),(l.foldl (fun b n=>(putN b n).1) b).length<=b.length+10*l.length:=by
  intro l
  induction l with
  | nil=>intro b;simp
  | cons x l ih=>
   intro b
   have h1:=ih (putN b x).1
   have h2:=putN_len b x
   simp only [List.foldl_cons,List.length_cons]
   omega
 have:=this xs []
 simpa [recB] using this
def us25 (b1:Option Addr) (l2 c3:Nat) (b:Option Addr) (l c:Nat) (i:Nat) (E:Mem):St:=⟨[oL b1 l2 c3,none,oL none 0 0,oL b l c,none,none,oL b1 l2 c3,oI (l2:Nat),oI (i:Nat)]++List.replicate 11 none,[],E⟩
theorem ur25 {b1 b:Option Addr} {l2 c3 l c i:Nat} {xs ys:List Int} {E0:Mem} {K:KT} (h0:SL (RK .i64 1) E0 b1 l2 c3 (xs.map fun z=>[z])) (h1:l2<=100) (hi:i<=l2) (hE:Mem.le E0 E) (hB:Bs E b l c ys) (hy:ys=recB (xs.take i))
  (hK:i=l2->K (L b l c) [] E) (ih:i<l2->∀ (b':Option Addr) (l' c':Nat) (ys':List Int) (E':Mem),Mem.le E E'->Bs E' b' l' c' ys'->ys'=recB (xs.take (i+1))->Lp Q2 8 Try.f25 [1,1,0,1,0] 0 K (us25 b1 l2 c3 b' l' c' (i+1) E')):Rnd Q2 8 Try.f25 [1,1,0,1,0] 0 K (us25 b1 l2 c3 b l c i E):=by
 refine sm_ (?_:bif decide ((NI i)<(NI l2)) then req (0<=(NI i)/\(NI i)<(NI l2)) ((∃ (cs:List Value),E (VS b1 l2 c3) cs/\(cs=[]->False))/\∃ (n:Int),LoadE Q2.P E 3 (VS b1 l2 c3) (Int.toNat (NI i)*1) (I n)/\∃ (zs:List Int),Bs E b l c zs/\l<=100000/\∀ (b':Option Addr) (l' c':Nat) (ys:List Int) (e:Int) (E':Mem),Mem.le E E'->Hyp (putN zs n=(ys,e))->Bs E' b' l' c' ys->Mem.le E E'/\Lp Q2 8 Try.f25 [1,1,0,1,0] 0 K { fr:=some (L b1 l2 c3)::none::oL none 0 0::oL b' l' c'::none::none::oL b1 l2 c3::oI (NI l2)::oI (WI ((NI i)+1))::no8 (no2 (none::[])),bx:=[],E:=E':St }) else K (L b l c) [] E)
 delta WI NI VS no2 no8
 have hl:xs.length=l2:=by have:=h0.len;simpa using this
 have hyl:=hB.2.1
 have hr:=recB_len (xs.take i)
 rw [← hy,List.length_take] at hr
 have h0:=h0.mono (RK_ok .i64 (by decide)) hE
 refine condC (fun g=>?_) (fun g=>hK (by simp at g;omega))
 have g:i<l2:=by simpa using g
 obtain ⟨x,hx⟩:∃ x,xs[i]? =some x:=⟨_,List.getElem?_eq_getElem (by omega)⟩
 have ld:=RK_load (by decide) (T:=3) (k:=1) rfl h0 (x:=[x]) (i:=i) (by simp [hx]) 0 (by decide)
 rw [Int.toNat_natCast,wrap_i64 (x:=(i:Int)+1) (by omega)]
 refine req_intro (by omega) ⟨SL.ne (RK_ok .i64 (by decide)) h0 g,x,ld,ys,hB,by omega,fun b' l' c' ys' e E' q1 q2 q3=>⟨q1,?_⟩⟩
 exact Lp_re [] (ih g b' l' c' ys' E' q1 q3 (by have q2:putN ys x=(ys',e):=q2;rw [recB_take hx,← hy,q2])) (wkG mr_)
theorem c25 {b1:Option Addr} {l2:Nat} {c3:Nat} {zs:List Int} (h0:SL (RK .i64 1) E b1 l2 c3 (zs.map fun z=>[z])) (h1:l2<=100) (h:∀ (b':Option Addr) (l' c':Nat) (ys:List Int) (E':Mem),Mem.le E E'->Hyp (ys=recB zs)->Bs E' b' l' c' ys->K (L b' l' c') E'):
  Ent Q2 8 Try.f25 [L b1 l2 c3] E K:=by
 refine sm_ (?_:Lp Q2 8 Try.f25 [1,1,0,1,0] 0 (pubK E K) { fr:=[oL b1 l2 c3,none,oL none 0 0,oL none 0 0,none,none,oL b1 l2 c3,oI (↑l2:Int),oI (0:Int),none,none,none,none,none,none,none,none,none,none,none],bx:=[],E:=E:St })
 have hl:zs.length=l2:=by have:=h0.len;simpa using this
 have key:=Lp_ind okQ2 (n:=8) (fn:=Try.f25) (p:=[1,1,0,1,0]) (n0:=0) (K:=pubK E K) (fun x:{x:Nat×Option Addr×Nat×Nat×List Int×Mem//x.1<=l2/\Mem.le E x.2.2.2.2.2/\Bs x.2.2.2.2.2 x.2.1 x.2.2.1 x.2.2.2.1 x.2.2.2.2.1/\x.2.2.2.2.1=recB (zs.take x.1)}=>us25 b1 l2 c3 x.1.2.1 x.1.2.2.1 x.1.2.2.2.1 x.1.1 x.1.2.2.2.2.2) (fun x=>l2-x.1.1) (by
  rintro ⟨⟨i,b,l,c,ys,E1⟩,g1,g2,g3,g4⟩ ih
  have g1:i<=l2:=g1
  exact ur25 h0 h1 g1 g2 g3 g4 (fun (hi:i=l2)=>⟨g2,h b l c ys E1 g2 (by
   have g4:ys=recB (zs.take i):=g4
   show ys=recB zs
   rw [g4,List.take_of_length_le (by omega)]) g3⟩) (fun (g:i<l2) b' l' c' ys' E' q1 q2 q3=>ih ⟨⟨i+1,b',l',c',ys',E'⟩,g,mt_ g2 q1,q2,q3⟩ (by show l2-(i+1)<l2-i;omega)))
 exact Lp_re [] (key ⟨⟨0,none,0,0,[],E⟩,Nat.zero_le _,mr_,Bs.nil E,rfl⟩) (wkG mr_)
noncomputable def tab25:FuncId->List SV->Mem->(SV->Mem->Prop)->Prop:=fun f args E K=>match f with
 | 25=>d1 args fun x0=>dS x0 fun b1 l2 c3=>∃ (zs:List Int),SL (RK .i64 1) E b1 l2 c3 (zs.map fun z=>[z])/\l2<=100/\(∀ (b':Option Addr) (l' c':Nat) (ys:List Int) (E':Mem),Mem.le E E'->Hyp (ys=recB zs)->Bs E' b' l' c' ys->K (L b' l' c') E')
 | _=>False
theorem tab25_ok:TabOK Try.prog tab25:=by
 intro f args E K h
 unfold tab25 at h
 split at h
 ·replace h:=d1_elim h
  obtain ⟨x0,rfl,h⟩:=h
  replace h:=dS_elim h
  obtain ⟨b1,l2,c3,rfl,h⟩:=h
  obtain ⟨zs,g0,g1,h⟩:=h
  exact TabSem.congr (valL_cons rfl rfl) (esm okQ2 Try.func25 rfl (c25 g0 g1 h))
 ·exact h.elim
noncomputable def Q3:Cx:={ P:=Try.prog,inl:=fun f=>List.contains [] f,tab:=tab25,isB:=fun _=>false,tabB:=fun _ _ _ _ _=>False,opt:={ unroll:=0,carry:=[] },muts:=mutsD }
theorem okQ3:CxOK Q3:=CxOK.four tab25_ok (by kernel_rfl) (okInl (by kernel_rfl)) (fun _ _ _ _ _ h=>h.elim)
theorem c24 {a1:Int} {a2:Int} {a3:Int} {a4:Int} {a5:Int} (h:∀ (b':Option Addr) (l' c':Nat) (ys:List Int) (E':Mem),Mem.le E E'->Hyp (ys=recB [1,a1,a2,a3,a4,a5])->Bs E' b' l' c' ys->K (L b' l' c') E'):
  Ent Q3 8 Try.f24 [.agg [I a1,I a2,I a3,I a4,I a5]] E K:=by
 refine sm_ (?_:∀ (base:Option Addr) (E':Mem),Mem.le E E'->WinE E' base [Value.int IntKind.i64 (1:Int),Value.int IntKind.i64 a1,Value.int IntKind.i64 a2,Value.int IntKind.i64 a3,Value.int IntKind.i64 a4,Value.int IntKind.i64 a5]->∃ (zs:List Int),SL (RK IntKind.i64 1) E' (Option.map (fun (x:Addr)=>Addr.add x 0) base) 6 6 (List.map (fun (z:Int)=>[z]) zs)/\6<=100/\∀ (b':Option Addr) (l' c':Nat) (ys:List Int) (E'_1:Mem),Mem.le E' E'_1->Hyp (ys=recB zs)->Bs E'_1 b' l' c' ys->Mem.le E E'_1/\K (L b' l' c') E'_1)
 refine fun base E' k w=>⟨[1,a1,a2,a3,a4,a5],SL.win (RK_ok .i64 (by decide)) w (rs:=([1,a1,a2,a3,a4,a5].map fun z=>[z]).map fun x=>x.map (Value.int .i64)) rfl (SLr_RK (fun x hx=>by obtain ⟨z,_,rfl⟩:=List.mem_map.1 hx;rfl)) rfl (Nat.le_refl _),by decide,fun b' l' c' ys E2 k2 q hB=>⟨mt_ k k2,h b' l' c' ys E2 (mt_ k k2) q hB⟩⟩
noncomputable def Q4:Cx:={ P:=Try.prog,inl:=fun f=>List.contains [] f,tab:=tab37,isB:=fun _=>false,tabB:=fun _ _ _ _ _=>False,opt:={ unroll:=0,carry:=[4,5] },muts:=mutsD }
theorem okQ4:CxOK Q4:=CxOK.four tab37_ok (by kernel_rfl) (okInl (by kernel_rfl)) (fun _ _ _ _ _ h=>h.elim)
theorem rdF_ok {a:Int} {ws:List Int}:∀ {k i:Nat} {u n e':Int},rdF a ws k i u=(n,e',0)->okN n/\(∃ m:Nat,e'=a+m/\i<m/\m<=ws.length/\m<=i+k)
 | 0,i,u,n,e',h=>by simp [rdF] at h
 | k+1,i,u,n,e',h=>by
  unfold rdF at h
  split at h
  ·simp at h
  ·rename_i h1
   split at h
   ·split at h
    ·simp at h
    ·obtain ⟨g1,m,g2,g3,g4,g5⟩:=rdF_ok h
     exact ⟨g1,m,g2,by omega,g4,by omega⟩
   ·split at h
    ·rename_i h3
     simp only [Prod.mk.injEq] at h
     obtain ⟨rfl,rfl,_⟩:=h
     exact ⟨h3.1,i+1,by omega,by omega,by omega,by omega⟩
    ·simp at h
theorem rd_ok {zs:List Int} {a n e':Int} (h:rd zs a=(n,e',0)):okN n/\0<=a/\a<e'/\e'<=zs.length/\e'<=a+7:=by
 unfold rd at h
 split at h
 ·simp at h
 ·rename_i h1
  obtain ⟨g1,m,g2,g3,g4,g5⟩:=rdF_ok h
  rw [List.length_drop] at g4
  exact ⟨g1,by omega,by omega,by omega,by omega⟩
def numsN (zs:List Int):Nat->Int->Option (List Int)
 | 0,_=>none
 | f+1,a=>if a<zs.length then (if (rd zs a).2.2=0 then (numsN zs f (rd zs a).2.1).map fun l=>(rd zs a).1::l else none) else some []
def numsF (zs:List Int):Option (List Int):=numsN zs (zs.length+1) 0
theorem flatI (xs:List Int):xs.map (Value.int .i64)=((xs.map fun z=>[z]).map fun x=>x.map (Value.int .i64)).flatten:=by
 induction xs with
 | nil=>rfl
 | cons x xs ih=>simp [ih]
def us30 (b1:Option Addr) (l2 c3:Nat) (n cap tot:Nat) (vs:List Value) (a:Int) (E:Mem):St:=⟨[oL b1 l2 c3,none,none,none,os 0 0 n cap,oI a]++List.replicate 22 none,[⟨3,.vals vs,tot,true⟩],E⟩
theorem ur30 {b1:Option Addr} {l2 c3 n cap tot:Nat} {a:Int} {xs zs:List Int} {E0:Mem} (hB:Bs E0 b1 l2 c3 zs) (hl:l2<=100000) (hE:Mem.le E0 E) (hn:xs.length=n) (hc:n<=cap/\cap*1<=tot) (ha:(n:Int)<=a/\a<=l2)
  {f:Nat} (hf:(l2:Int)<a+f) (hq:numsF zs=(numsN zs f a).map fun l=>xs++l) (h:(∀ E':Mem,Mem.le E0 E'->Hyp (numsF zs=none)->K (.tup [L none 0 0,B false]) E')/\∀ (xs:List Int) (b':Option Addr) (l' c':Nat) (E':Mem),Mem.le E0 E'->Hyp (numsF zs=some xs)->SL (RK .i64 1) E' b' l' c' (xs.map fun z=>[z])->K (.tup [L b' l' c',B true]) E')
  (ih:∀ (x a':Int) (cap' tot':Nat) (E':Mem),Mem.le E E'->n+1<=cap'->cap'*1<=tot'->a<a'->a'<=l2->numsF zs=(numsN zs (f-1) a').map (fun l=>(xs++[x])++l)->Lp Q4 8 Try.f30 [1,1,0,1,0] 0 (pubK E0 K) (us30 b1 l2 c3 (n+1) cap' tot' ((xs++[x]).map (.int .i64)) a' E')):
  Rnd Q4 8 Try.f30 [1,1,0,1,0] 0 (pubK E0 K) (us30 b1 l2 c3 n cap tot (xs.map (.int .i64)) a E):=by
 refine sm_ (?_:bif decide (a<(NI l2)) then ∃ (zs:List Int),Bs E b1 l2 c3 zs/\l2<=100000/\∀ (n_1 end' e:Int) (E':Mem),Mem.le E E'->Hyp (rd zs a=(n_1,end',e))->Mem.le E E'/\bif e !=(0:Int) then Mem.le E0 E'/\K (SV.tup [L none 0 0,B false]) E' else n*1<=List.length (Row.cells (Row.vals (List.map (Value.int IntKind.i64) xs)))/\cap*1<=tot/\n<=cap/\req ((n+1)*8<=140737488355328) (∀ (cap' tot':Nat),n+1<=cap'->cap'*1<=tot'->Lp Q4 8 Try.f30 [1,1,0,1,0] 0 (pubK E0 K) { fr:=some (L b1 l2 c3)::none::none::none::os 2 0 (n+1) cap'::oI end'::no16 (no4 (no2 [])),bx:=[(⟨3,.lst [],0,false⟩:Box),⟨3,.lst [I n_1],1,true⟩,⟨3,.vals (List.take (n*1) (List.map (Value.int IntKind.i64) xs)++[Value.int IntKind.i64 n_1]),tot',true⟩],E:=E':St }) else ∀ (base:Option Addr) (E':Mem),Mem.le E E'->WinE E' base (List.map (Value.int IntKind.i64) xs)->Mem.le E0 E'/\K (SV.tup [L (Option.map (fun (x:Addr)=>Addr.add x 0) base) n cap,B true]) E')
 delta NI no2 no4 no16
 have hz:=hB.2.1
 obtain ⟨f,rfl⟩:∃ f',f=f'+1:=⟨f-1,by omega⟩
 have st:numsN zs (f+1) a=if a<zs.length then (if (rd zs a).2.2=0 then (numsN zs f (rd zs a).2.1).map fun l=>(rd zs a).1::l else none) else some []:=rfl
 refine condC (fun g=>?_) (fun g=>?_)
 ·have g:a<l2:=by simpa using g
  rw [if_pos (by omega)] at st
  refine ⟨zs,hB.mono hE,hl,fun x a' e E' q1 q2=>⟨q1,?_⟩⟩
  have q2:rd zs a=(x,a',e):=q2
  rw [q2] at st
  refine condC (fun ge=>?_) (fun ge=>?_)
  ·have ge:e≠0:=by simpa using ge
   exact ⟨mt_ hE q1,h.1 E' (mt_ hE q1) (by show numsF zs=none;rw [hq,st,if_neg ge];rfl)⟩
  have ge:e=0:=by simpa using ge
  subst ge
  obtain ⟨_,_,o1,o2,_⟩:=rd_ok q2
  refine ⟨by show n*1<=((xs.map (Value.int .i64)).map SV.raw).length;simp [hn],hc.2,hc.1,req_intro (by omega) fun cap' tot' g1 g2=>?_⟩
  have e1:List.take (n*1) (xs.map (Value.int .i64))++[Value.int .i64 x]=(xs++[x]).map (.int .i64):=by rw [List.take_of_length_le (by simp;omega),List.map_append];rfl
  rw [e1]
  exact Lp_re [some 2] (ih x a' cap' tot' E' q1 g1 g2 o1 (by omega) (by rw [hq,st,if_pos rfl,Option.map_map];congr 1;funext l;simp)) (wkG mr_)
 ·have g:¬ a<l2:=by simpa using g
  rw [if_neg (by omega)] at st
  exact fun base E' k w=>⟨mt_ hE k,h.2 xs _ _ _ E' (mt_ hE k) (by show numsF zs=some xs;rw [hq,st];simp) (SL.win (RK_ok .i64 (by decide)) w (rs:=(xs.map fun z=>[z]).map fun x=>x.map (Value.int .i64)) (flatI xs) (SLr_RK (fun x hx=>by obtain ⟨z,_,rfl⟩:=List.mem_map.1 hx;rfl)) (by simp [hn]) hc.1)⟩
theorem c30 {b1:Option Addr} {l2:Nat} {c3:Nat} {zs:List Int} (h0:Bs E b1 l2 c3 zs) (h1:l2<=100000) (h:(∀ E':Mem,Mem.le E E'->Hyp (numsF zs=none)->K (.tup [L none 0 0,B false]) E')/\∀ (xs:List Int) (b':Option Addr) (l' c':Nat) (E':Mem),Mem.le E E'->Hyp (numsF zs=some xs)->SL (RK .i64 1) E' b' l' c' (xs.map fun z=>[z])->K (.tup [L b' l' c',B true]) E'):
  Ent Q4 8 Try.f30 [L b1 l2 c3] E K:=by
 refine sm_ (?_:Lp Q4 8 Try.f30 [1,1,0,1,0] 0 (pubK E K) { fr:=some (L b1 l2 c3)::none::none::none::oL none 0 0::oI 0::no16 (no4 (no2 [])),bx:=[],E:=E:St })
 delta no2 no4 no16
 have hz:=h0.2.1
 have key:=Lp_ind okQ4 (n:=8) (fn:=Try.f30) (p:=[1,1,0,1,0]) (n0:=0) (K:=pubK E K) (fun x:{x:Nat×Nat×Nat×Int×List Int×Mem×Nat//Mem.le E x.2.2.2.2.2.1/\x.2.2.2.2.1.length=x.1/\(x.1<=x.2.1/\x.2.1*1<=x.2.2.1)/\((x.1:Int)<=x.2.2.2.1/\x.2.2.2.1<=l2)/\(l2:Int)<x.2.2.2.1+x.2.2.2.2.2.2/\numsF zs=(numsN zs x.2.2.2.2.2.2 x.2.2.2.1).map fun l=>x.2.2.2.2.1++l}=>us30 b1 l2 c3 x.1.1 x.1.2.1 x.1.2.2.1 (x.1.2.2.2.2.1.map (.int .i64)) x.1.2.2.2.1 x.1.2.2.2.2.2.1) (fun x=>l2-x.1.2.2.2.1.toNat) (by
  rintro ⟨⟨n,cap,tot,a,xs,E1,f⟩,g1,g2,g3,g4,g5,g6⟩ ih
  have g4:(n:Int)<=a/\a<=l2:=g4
  have g5:(l2:Int)<a+f:=g5
  refine ur30 h0 h1 g1 g2 g3 g4 g5 g6 h (fun x a' cap' tot' E' q1 q2 q3 (q4:a<a') q5 q6=>ih ⟨⟨n+1,cap',tot',a',xs++[x],E',f-1⟩,mt_ g1 q1,?_,⟨q2,q3⟩,⟨?_,q5⟩,?_,q6⟩ ?_)
  ·show (xs++[x]).length=n+1
   have g2:xs.length=n:=g2
   simp [g2]
  ·show ((n+1:Nat):Int)<=a'
   omega
  ·show (l2:Int)<a'+(f-1:Nat)
   omega
  ·show l2-a'.toNat<l2-a.toNat
   omega)
 exact Lp_re [none] (key ⟨⟨0,0,0,0,[],E,zs.length+1⟩,mr_,rfl,⟨Nat.le_refl _,Nat.le_refl _⟩,⟨by show ((0:Nat):Int)<=0;omega,by show (0:Int)<=l2;omega⟩,by show (l2:Int)<0+(zs.length+1:Nat);omega,by show numsF zs=_;unfold numsF;simp⟩) (wkG mr_)
theorem flat_map {q:IntKind} {xs:List (List Int)}:xs.flatten.map (Value.int q)=(xs.map fun x=>x.map (Value.int q)).flatten:=by
 induction xs with
 | nil=>rfl
 | cons x xs ih=>simp [ih]
noncomputable def Q5:Cx:={ P:=Try.prog,inl:=fun f=>List.contains [34] f,tab:=fun _ _ _ _=>False,isB:=fun _=>false,tabB:=fun _ _ _ _ _=>False,opt:={ unroll:=0,carry:=[8] },muts:=mutsD }
theorem okQ5:CxOK Q5:=CxOK.four (fun _ _ _ _ h=>h.elim) (by kernel_rfl) (okInl (by kernel_rfl)) (fun _ _ _ _ _ h=>h.elim)
def vR (xs:List (List Int)):List Value:=xs.flatten.map (.int .i64)
def W5 (xs:List (List Int)):Prop:=∀ x∈xs,x.length=5
theorem vR_len {xs:List (List Int)} (h:W5 xs):(vR xs).length=xs.length*5:=by
 have:=flat_len (k:=5) (rs:=xs.map fun x=>x.map (Value.int .i64)) (fun r hr=>by obtain ⟨x,hx,rfl⟩:=List.mem_map.1 hr;simp [h x hx])
 rw [List.length_map] at this
 rw [← this];unfold vR;rw [flat_map]
theorem rd_V {xs:List (List Int)} (h:W5 xs) {i:Nat} {x:List Int} (hx:xs[i]? =some x):
  ∃ a b c d e:Int,x=[a,b,c,d,e]/\∀ js:List Value,LoadV Try.prog 26 (vR xs++js) (i*5) (.agg [I a,I b,I c,I d,I e]):=by
 obtain ⟨r,h1,⟨h2,h3⟩,h4⟩:=(SLr_RK (q:=.i64) (E:=fun _ _=>False) h).get (RK_ok .i64 (by decide)) hx
 match x,h3 with
 | [a,b,c,d,e],_=>
  subst h2
  refine ⟨a,b,c,d,e,rfl,fun js=>?_⟩
  have hi:=(List.getElem?_eq_some_iff.1 hx).1
  have hl:=vR_len h
  refine loadV_row (P:=Try.prog) (T:=26) rfl rfl (k:=5) (r:=[a,b,c,d,e].map (Value.int .i64)) ?_ rfl
  rw [List.drop_append_of_le_length (by omega),List.take_append_of_le_length (by rw [List.length_drop];omega),← h4]
  unfold vR;rw [flat_map]
def isN (o n:Int) (x:List Int):Bool:=x.getD 0 0==o&&x.getD 1 0==n
def idxR (o n:Int) (xs:List (List Int)):Int:=match xs.findIdx? (isN o n) with
 | some i=>(i:Int)
 | none=> -1
theorem idxR_at {o n:Int} {xs:List (List Int)} {i:Nat} {x:List Int} (hx:xs[i]? =some x) (hp:isN o n x=true) (h:∀ (j:Nat) x,j<i->xs[j]? =some x->isN o n x=false):idxR o n xs=i:=by
 unfold idxR
 have :xs.findIdx? (isN o n)=some i:=by
  rw [List.findIdx?_eq_some_iff_getElem]
  obtain ⟨hi,e⟩:=List.getElem?_eq_some_iff.1 hx
  exact ⟨hi,by rw [e];exact hp,fun j hj=>by simpa using h j _ hj (List.getElem?_eq_getElem (by omega))⟩
 rw [this]
theorem idxR_no {o n:Int} {xs:List (List Int)} (h:∀ (j:Nat) x,xs[j]? =some x->isN o n x=false):idxR o n xs= -1:=by
 unfold idxR
 have :xs.findIdx? (isN o n)=none:=by
  rw [List.findIdx?_eq_none_iff]
  intro x hx
  obtain ⟨j,hj,rfl⟩:=List.getElem_of_mem hx
  exact h j _ (List.getElem?_eq_getElem hj)
 rw [this]
def us33 (me cnt o n:Int) (m cap tot:Nat) (xs:List (List Int)) (js:List Value) (i:Nat) (E:Mem):St:=⟨[os 1 0 m cap,some (.clo 34 [] [.loc 2 0]),none,none,none,none,none,oI (m:Nat),oI (i:Nat)]++List.replicate 10 none,[⟨58,.lst [I me,.slc 1 0 m cap,I cnt],3,true⟩,⟨26,.vals (vR xs++js),tot,true⟩,⟨75,.lst [I o,I n],2,true⟩],E⟩
theorem ur33 {me cnt o n:Int} {m cap tot i:Nat} {xs:List (List Int)} {js:List Value} {KK Q:KT} (h5:W5 xs) (hm:xs.length=m) (hn:m<=1000000) (hi:i<=m/\∀ (j:Nat) x,j<i->xs[j]? =some x->isN o n x=false)
  (h:KK (I (idxR o n xs)) [⟨58,.lst [I me,.slc 1 0 m cap,I cnt],3,true⟩,⟨26,.vals (vR xs++js),tot,true⟩,⟨75,.lst [I o,I n],2,true⟩] E) (hQ:∀ s bx',cloK 3 KK s bx' E->Q s bx' E)
  (ih:i<m->(∀ x,xs[i]? =some x->isN o n x=false)->Lp Q5 8 Try.f33 [1,0,1,0] 3 Q (us33 me cnt o n m cap tot xs js (i+1) E)):Rnd Q5 8 Try.f33 [1,0,1,0] 3 Q (us33 me cnt o n m cap tot xs js i E):=by
 refine sm_ (?_:bif decide ((NI i)<(NI m)) then req (0<=(NI i)/\(NI i)<(NI m)) (∃ (n_1:Int),∃ (n_2:Int),∃ (n_3:Int),∃ (n_4:Int),∃ (n_5:Int),LoadV Q5.P 26 (vR xs++js) (0+Int.toNat (NI i)*5) (SV.agg [I n_1,I n_2,I n_3,I n_4,I n_5])/\bif n_1==o&&(n_2==n&&true) then Q (I (NI i)) [⟨58,.lst [I me,SV.slc 1 0 m cap,I cnt],3,true⟩,⟨26,.vals (vR xs++js),tot,true⟩,⟨75,.lst [I o,I n],2,true⟩,⟨26,.lst [I n_1,I n_2,I n_3,I n_4,I n_5],5,true⟩] E else Lp Q5 8 Try.f33 [1,0,1,0] 3 Q { fr:=some (SV.slc 1 0 m cap)::some (SV.clo 34 [] [SV.loc 2 0])::none::none::none::none::none::oI (NI m)::oI (WI ((NI i)+1))::no8 (no2 []),bx:=[(⟨58,.lst [I me,SV.slc 1 0 m cap,I cnt],3,true⟩:Box),⟨26,.vals (vR xs++js),tot,true⟩,⟨75,.lst [I o,I n],2,true⟩,⟨26,.lst [I n_1,I n_2,I n_3,I n_4,I n_5],5,true⟩],E:=E:St }) else Q (I (-1)) [⟨58,.lst [I me,SV.slc 1 0 m cap,I cnt],3,true⟩,⟨26,.vals (vR xs++js),tot,true⟩,⟨75,.lst [I o,I n],2,true⟩] E)
 delta WI NI no2 no8
 refine condC (fun g=>?_) (fun g=>?_)
 ·have g:i<m:=by simpa using g
  obtain ⟨x,hx⟩:∃ x,xs[i]? =some x:=⟨_,List.getElem?_eq_getElem (by omega)⟩
  obtain ⟨a,b,c,d,e,ex,lt⟩:=rd_V h5 hx
  have en:isN o n x=(a==o&&b==n):=by rw [ex];rfl
  rw [show 0+Int.toNat (i:Int)*5=i*5 by rw [Int.toNat_natCast];omega,wrap_i64 (x:=(i:Int)+1) (by omega)]
  refine req_intro (by omega) ⟨a,b,c,d,e,lt js,condC (fun g1=>?_) (fun g1=>?_)⟩
  ·have q:idxR o n xs=(i:Int):=idxR_at hx (by rw [en];simpa using g1) hi.2
   rw [q] at h
   exact hQ _ _ (cloK_intro [some 0,some 1,some 2] h (wkG mr_))
  ·exact Lp_re [some 0,some 1,some 2] (ih g (fun y hy=>by rw [hx] at hy;cases hy;rw [en];simpa using g1)) (wkG mr_)
 ·have q:idxR o n xs= -1:=idxR_no (fun j x hx=>hi.2 j x (by have:=(List.getElem?_eq_some_iff.1 hx).1;simp at g;omega) hx)
  rw [q] at h
  exact hQ _ _ (cloK_intro [some 0,some 1,some 2] h (wkG mr_))
theorem u33 {me cnt o n:Int} {m cap tot:Nat} {xs:List (List Int)} {js:List Value} {KK Q:KT} (h5:W5 xs) (hm:xs.length=m) (hn:m<=1000000) (h:KK (I (idxR o n xs)) [⟨58,.lst [I me,.slc 1 0 m cap,I cnt],3,true⟩,⟨26,.vals (vR xs++js),tot,true⟩,⟨75,.lst [I o,I n],2,true⟩] E) (hQ:∀ s bx',cloK 3 KK s bx' E->Q s bx' E):
  EntB Q5 8 Try.f33 [.slc 1 0 m cap,.clo 34 [] [.loc 2 0]] [⟨58,.lst [I me,.slc 1 0 m cap,I cnt],3,true⟩,⟨26,.vals (vR xs++js),tot,true⟩,⟨75,.lst [I o,I n],2,true⟩] E Q:=by
 refine sm_ (?_:Lp Q5 8 Try.f33 [1,0,1,0] 3 Q { fr:=[os 1 0 m cap,some (SV.clo 34 [] [SV.loc 2 0]),none,none,none,none,os 1 0 m cap,oI (↑m:Int),oI (0:Int),none,none,none,none,none,none,none,none,none,none],bx:=[(⟨58,Row.lst [I me,SV.slc 1 0 m cap,I cnt],3,true⟩:Box),⟨26,Row.vals (vR xs++js),tot,true⟩,⟨75,Row.lst [I o,I n],2,true⟩],E:=E:St })
 exact Lp_re [some 0,some 1,some 2] (Lp_ind okQ5 (fun z:{i:Nat//i<=m/\∀ (j:Nat) x,j<i->xs[j]? =some x->isN o n x=false}=>us33 me cnt o n m cap tot xs js z.1 E) (fun z=>m-z.1) (fun z ih=>ur33 h5 hm hn z.2 h hQ fun g hf=>ih ⟨z.1+1,g,fun j x hj hx=>by
  rcases Nat.lt_succ_iff_lt_or_eq.1 hj with h1|h1
  ·exact z.2.2 j x h1 hx
  ·subst h1;exact hf x hx⟩ (by show m-(_+1)<m-_;omega)) ⟨0,Nat.zero_le _,fun j x hj=>absurd hj (Nat.not_lt_zero _)⟩) (wkG mr_)
def tab33:CallT:=fun f args bx E K=>f=33/\∃ (me cnt o n:Int) (m cap tot:Nat) (xs:List (List Int)) (js:List Value),args=[.slc 1 0 m cap,.clo 34 [] [.loc 2 0]]/\bx=[⟨58,.lst [I me,.slc 1 0 m cap,I cnt],3,true⟩,⟨26,.vals (vR xs++js),tot,true⟩,⟨75,.lst [I o,I n],2,true⟩]/\W5 xs/\xs.length=m/\m<=1000000/\K (I (idxR o n xs)) [⟨58,.lst [I me,.slc 1 0 m cap,I cnt],3,true⟩,⟨26,.vals (vR xs++js),tot,true⟩,⟨75,.lst [I o,I n],2,true⟩] E
theorem tab33_ok (f:FuncId) (args:List SV) (bx:List Box) (E:Mem) (K:KT) (h:tab33 f args bx E K):CallSem Try.prog f args bx E K:=by
 obtain ⟨rfl,me,cnt,o,n,m,cap,tot,xs,js,rfl,rfl,h1,h2,h3,h4⟩:=h
 exact CallSem.clo (bsm okQ5 Try.func33 (u33 h1 h2 h3 h4 fun _ _ q=>q))
noncomputable def Q6:Cx:={ P:=Try.prog,inl:=fun f=>List.contains [] f,tab:=fun _ _ _ _=>False,isB:=fun f=>f==33,tabB:=tab33,opt:={ unroll:=0,carry:=[] },muts:=mutsD }
theorem okQ6:CxOK Q6:=CxOK.four (fun _ _ _ _ h=>h.elim) (by kernel_rfl) (okInl (by kernel_rfl)) tab33_ok
theorem u22 {me cnt o n:Int} {m cap tot:Nat} {xs:List (List Int)} {js:List Value} {KK Q:KT} (h5:W5 xs) (hm:xs.length=m) (hn:m<=1000000) (h:KK (I (idxR o n xs)) [⟨58,.lst [I me,.slc 1 0 m cap,I cnt],3,true⟩,⟨26,.vals (vR xs++js),tot,true⟩] E) (hQ:∀ s bx',cloK 2 KK s bx' E->Q s bx' E):
  EntB Q6 8 Try.f22 [.loc 0 0,I o,I n] [⟨58,.lst [I me,.slc 1 0 m cap,I cnt],3,true⟩,⟨26,.vals (vR xs++js),tot,true⟩] E Q:=by
 refine sm_ (?_:33=33/\∃ (me_1:Int),∃ (cnt_1:Int),∃ (o_1:Int),∃ (n_1:Int),∃ (m_1:Nat),∃ (cap_1:Nat),∃ (tot_1:Nat),∃ (xs_1:List (List Int)),∃ (js_1:List Value),[SV.slc 1 0 m cap,SV.clo 34 [] [SV.loc 2 0]]=[SV.slc 1 0 m_1 cap_1,SV.clo 34 [] [SV.loc 2 0]]/\[(⟨58,Row.lst [I me,SV.slc 1 0 m cap,I cnt],3,true⟩:Box),⟨26,Row.vals (vR xs++js),tot,true⟩,⟨75,Row.lst [I o,I n],2,true⟩]=[(⟨58,Row.lst [I me_1,SV.slc 1 0 m_1 cap_1,I cnt_1],3,true⟩:Box),⟨26,Row.vals (vR xs_1++js_1),tot_1,true⟩,⟨75,Row.lst [I o_1,I n_1],2,true⟩]/\W5 xs_1/\List.length xs_1=m_1/\m_1<=1000000/\Q (I (idxR o_1 n_1 xs_1)) [⟨58,Row.lst [I me_1,SV.slc 1 0 m_1 cap_1,I cnt_1],3,true⟩,⟨26,Row.vals (vR xs_1++js_1),tot_1,true⟩,⟨75,Row.lst [I o_1,I n_1],2,true⟩] E)
 exact ⟨rfl,me,cnt,o,n,m,cap,tot,xs,js,rfl,rfl,h5,hm,hn,hQ _ _ (cloK_intro [some 0,some 1] h (wkG mr_))⟩
structure StAt (bx:List Box) (s h:Nat) (me cnt:Int) (m cap tot:Nat) (xs:List (List Int)) (js:List Value):Prop where
 st:bx[s]? =some ⟨58,.lst [I me,.slc h 0 m cap,I cnt],3,true⟩
 hd:bx[h]? =some ⟨26,.vals (vR xs++js),tot,true⟩
 ne:s≠h
 w5:W5 xs
 len:xs.length=m
 le:m<=16
 room:m<=cap/\cap*5<=tot
theorem set_sameB {bx:List Box} {p:Nat} {b:Box} (h:bx[p]? =some b):bx.set p b=bx:=by
 apply List.ext_getElem?
 intro i
 rw [List.getElem?_set]
 split
 ·rename_i e;subst e
  split
  ·exact h.symm
  ·rename_i q;rw [List.getElem?_eq_none (by omega)] at h;cases h
 ·rfl
theorem find_sem {bx:List Box} {s h:Nat} {me cnt o n:Int} {m cap tot:Nat} {xs:List (List Int)} {js:List Value} {K:KT} (S:StAt bx s h me cnt m cap tot xs js) (hk:K (I (idxR o n xs)) bx E):CallSem Try.prog 22 [.loc s 0,I o,I n] bx E K:=by
 refine CallSem.hand (σ:=[s,h]) (bxs:=[⟨58,.lst [I me,.slc 1 0 m cap,I cnt],3,true⟩,⟨26,.vals (vR xs++js),tot,true⟩]) ⟨by simp [S.ne],rfl,fun i b hb=>?_⟩ (args':=[.loc 0 0,I o,I n]) ?_ (bsm okQ6 Try.func22 (u22 (me:=me) (cnt:=cnt) (o:=o) (n:=n) (m:=m) (cap:=cap) (tot:=tot) S.w5 S.len (Nat.le_trans S.le (by decide)) ?_ (fun _ _ q=>q)))
 ·match i,hb with
  | 0,hb=>
   simp only [List.getElem?_cons_zero,Option.some.injEq] at hb;subst hb
   exact ⟨rfl,s,rfl,by simpa [Box.ren,Row.ren,SV.renL,SV.ren,renF] using S.st⟩
  | 1,hb=>
   simp only [List.getElem?_cons_succ,List.getElem?_cons_zero,Option.some.injEq] at hb;subst hb
   exact ⟨rfl,h,rfl,by simpa [Box.ren,Row.ren,SV.renL,SV.ren,renF] using S.hd⟩
  | j+2,hb=>simp at hb
 ·simp only [SV.renL,SV.ren,renF,List.getElem?_cons_zero,List.getElem?_cons_succ]
 ·simp only [SV.ren,SV.renL,merge,setAll,List.take,List.drop,List.map,List.length_cons,List.length_nil,Box.ren,Row.ren,renF,List.getElem?_cons_zero,List.getElem?_cons_succ]
  rw [set_sameB S.st,set_sameB S.hd]
  simpa using hk
noncomputable def Q7:Cx:={ P:=Try.prog,inl:=fun f=>List.contains [] f,tab:=fun _ _ _ _=>False,isB:=fun _=>false,tabB:=fun _ _ _ _ _=>False,opt:={ unroll:=0,carry:=[7] },muts:=mutsD }
theorem okQ7:CxOK Q7:=CxOK.four (fun _ _ _ _ h=>h.elim) (by kernel_rfl) (okInl (by kernel_rfl)) (fun _ _ _ _ _ h=>h.elim)
noncomputable def Q8:Cx:={ P:=Try.prog,inl:=fun f=>List.contains [] f,tab:=fun _ _ _ _=>False,isB:=fun _=>false,tabB:=fun _ _ _ _ _=>False,opt:={ unroll:=0,carry:=[7,8] },muts:=mutsD }
theorem okQ8:CxOK Q8:=CxOK.four (fun _ _ _ _ h=>h.elim) (by kernel_rfl) (okInl (by kernel_rfl)) (fun _ _ _ _ _ h=>h.elim)
noncomputable def Q9:Cx:={ P:=Try.prog,inl:=fun f=>List.contains [] f,tab:=fun _ _ _ _=>False,isB:=fun _=>false,tabB:=fun _ _ _ _ _=>False,opt:={ unroll:=0,carry:=[5] },muts:=mutsD }
theorem okQ9:CxOK Q9:=CxOK.four (fun _ _ _ _ h=>h.elim) (by kernel_rfl) (okInl (by kernel_rfl)) (fun _ _ _ _ _ h=>h.elim)
def us15 (b:Option Addr) (l c:Nat) (o n:Int) (i:Nat) (E:Mem):St:=⟨[oL b l c,oI o,oI n,none,none,none,none,oI (i:Nat)]++List.replicate 22 none,[],E⟩
theorem ur15 {b:Option Addr} {l c i:Nat} {o n:Int} {xs:List (List Int)} (h0:SL (RK .i64 5) E b l c xs) (hn:l<=1000000) (hi:i<=l/\∀ (j:Nat) x,j<i->xs[j]? =some x->isN o n x=false) (h:K (B (xs.any (isN o n))) E)
  (ih:i<l->(∀ x,xs[i]? =some x->isN o n x=false)->Lp Q7 8 Try.f15 [1,0,1,0] 0 (pubK E K) (us15 b l c o n (i+1) E)):Rnd Q7 8 Try.f15 [1,0,1,0] 0 (pubK E K) (us15 b l c o n i E):=by
 refine sm_ (?_:bif decide ((NI i)<(NI l)) then req (0<=(NI i)/\(NI i)<(NI l)) ((∃ (cs:List Value),E (VS b l c) cs/\(cs=[]->False))/\∃ (n_1:Int),LoadE Q7.P E 3 (VS b l c) (Int.toNat (NI i)*5+0) (I n_1)/\bif n_1==o then req (0<=(NI i)/\(NI i)<(NI l)) ((∃ (cs:List Value),E (VS b l c) cs/\(cs=[]->False))/\∃ (n_2:Int),LoadE Q7.P E 3 (VS b l c) (Int.toNat (NI i)*5+1) (I n_2)/\bif bif true then n_2==n else false then Mem.le E E/\K (B true) E else Lp Q7 8 Try.f15 [1,0,1,0] 0 (pubK E K) { fr:=some (L b l c)::oI o::oI n::none::none::none::none::oI (WI ((NI i)+1))::no16 (no4 (no2 [])),bx:=[],E:=E:St }) else Lp Q7 8 Try.f15 [1,0,1,0] 0 (pubK E K) { fr:=some (L b l c)::oI o::oI n::none::none::none::none::oI (WI ((NI i)+1))::no16 (no4 (no2 [])),bx:=[],E:=E:St }) else Mem.le E E/\K (B false) E)
 delta WI NI VS no2 no4 no16
 have hl:=h0.len
 refine condC (fun g=>?_) (fun g=>⟨mr_,?_⟩)
 ·have g:i<l:=by simpa using g
  obtain ⟨x,hx⟩:∃ x,xs[i]? =some x:=⟨_,List.getElem?_eq_getElem (by omega)⟩
  have l0:=RK_load (by decide) (T:=3) rfl h0 hx 0 (by decide)
  have l1:=RK_load (by decide) (T:=3) rfl h0 hx 1 (by decide)
  have no:isN o n x=false->Lp Q7 8 Try.f15 [1,0,1,0] 0 (pubK E K) (us15 b l c o n (i+1) E):=fun q=>ih g (fun y hy=>by rw [hx] at hy;cases hy;exact q)
  rw [Int.toNat_natCast,wrap_i64 (x:=(i:Int)+1) (by omega)]
  refine req_intro (by omega) ⟨SL.ne (RK_ok .i64 (by decide)) h0 g,_,l0,condC (fun g1=>req_intro (by omega) ⟨SL.ne (RK_ok .i64 (by decide)) h0 g,_,l1,condC (fun g2=>⟨mr_,?_⟩) (fun g2=>?_)⟩) (fun g1=>?_)⟩
  ·have e:xs.any (isN o n)=true:=List.any_eq_true.2 ⟨x,List.mem_of_getElem? hx,by unfold isN;rw [g1];simpa using g2⟩
   rw [e] at h;exact h
  ·exact Lp_re [] (no (by unfold isN;rw [g1];simpa using g2)) (wkG mr_)
  ·exact Lp_re [] (no (by unfold isN;rw [g1];rfl)) (wkG mr_)
 ·have e:xs.any (isN o n)=false:=by
   rw [List.any_eq_false]
   intro x hx
   obtain ⟨j,hj,rfl⟩:=List.getElem_of_mem hx
   rw [hi.2 j _ (by simp at g;omega) (List.getElem?_eq_getElem hj)];simp
  rw [e] at h;exact h
theorem c15 {b1:Option Addr} {l2:Nat} {c3:Nat} {a4:Int} {a5:Int} {xs:List (List Int)} (h0:SL (RK .i64 5) E b1 l2 c3 xs) (h1:l2<=1000000) (h:K (B (xs.any (isN a4 a5))) E):
  Ent Q7 8 Try.f15 [L b1 l2 c3,I a4,I a5] E K:=by
 refine sm_ (?_:Lp Q7 8 Try.f15 [1,0,1,0] 0 (pubK E K) { fr:=some (L b1 l2 c3)::oI a4::oI a5::none::none::none::none::oI 0::no16 (no4 (no2 [])),bx:=[],E:=E:St })
 delta no2 no4 no16
 exact Lp_re [] (Lp_ind okQ7 (fun z:{i:Nat//i<=l2/\∀ (j:Nat) x,j<i->xs[j]? =some x->isN a4 a5 x=false}=>us15 b1 l2 c3 a4 a5 z.1 E) (fun z=>l2-z.1) (fun z ih=>ur15 h0 h1 z.2 h fun g hf=>ih ⟨z.1+1,g,fun j x hj hx=>by rcases Nat.lt_succ_iff_lt_or_eq.1 hj with q|q;exact z.2.2 j x q hx;subst q;exact hf x hx⟩ (by show l2-(_+1)<l2-_;omega)) ⟨0,Nat.zero_le _,fun j x hj=>absurd hj (Nat.not_lt_zero _)⟩) (wkG mr_)
def us12 (b:Option Addr) (l c:Nat) (o n:Int) (m cap tot:Nat) (vs:List Value) (i:Nat) (E:Mem):St:=⟨[oL b l c,oI o,oI n,none,none,none,none,os 0 0 m cap,oI (i:Nat)]++List.replicate 30 none,[⟨26,.vals vs,tot,true⟩],E⟩
theorem vR_snoc {ys:List (List Int)} {m:Nat} {x:List Int} (h5:W5 ys) (hm:ys.length=m):List.take (m*5) (vR ys)++x.map (Value.int .i64)=vR (ys++[x]):=by
 rw [List.take_of_length_le (by rw [vR_len h5,hm];exact Nat.le_refl _)]
 unfold vR;simp
theorem vR_cells {ys:List (List Int)} {m:Nat} (h5:W5 ys) (hm:ys.length=m):m*5<=(Row.cells (Row.vals (vR ys))).length:=by
 show m*5<=((vR ys).map SV.raw).length
 rw [List.length_map,vR_len h5,hm];exact Nat.le_refl _
theorem vR_cellsJ {ys:List (List Int)} {m:Nat} {js:List Value} (h5:W5 ys) (hm:ys.length=m):m*5<=(Row.cells (Row.vals (vR ys++js))).length:=by
 show m*5<=((vR ys++js).map SV.raw).length
 rw [List.length_map,List.length_append,vR_len h5,hm];exact Nat.le_add_right _ _
theorem W5.snoc {ys:List (List Int)} {x:List Int} (h:W5 ys) (q:x.length=5):W5 (ys++[x]):=fun y hy=>(List.mem_append.1 hy).elim (h y) fun e=>by rw [List.mem_singleton.1 e];exact q
theorem vR_win {base:Option Addr} {ys:List (List Int)} {m cap:Nat} (h5:W5 ys) (hm:ys.length=m) (hc:m<=cap) (w:WinE E base (vR ys)):SL (RK .i64 5) E (base.map fun x=>x.add 0) m cap ys:=
 SL.win (RK_ok .i64 (by decide)) w (rs:=ys.map fun x:List Int=>x.map (Value.int .i64)) (show vR ys=_ from flat_map) (SLr_RK h5) hm hc
theorem filter_take {p:List Int->Bool} {xs:List (List Int)} {i:Nat} {x:List Int} (h:xs[i]? =some x):(xs.take (i+1)).filter p=if p x then (xs.take i).filter p++[x] else (xs.take i).filter p:=by
 rw [take_get' h,List.filter_append]
 cases q:p x<;>simp [q]
theorem ur12 {b:Option Addr} {l c i m cap tot:Nat} {o n:Int} {xs ys:List (List Int)} (h0:SL (RK .i64 5) E b l c xs) (hn:l<=1000000) (hi:i<=l) (hy:ys=(xs.take i).filter fun x=> !isN o n x) (h5:W5 ys) (hm:ys.length=m) (hmi:m<=i) (hc:m<=cap/\cap*5<=tot)
  (h:∀ (b':Option Addr) (l' c':Nat) (ys:List (List Int)) (E':Mem),Mem.le E E'->Hyp (ys=xs.filter fun x=> !isN o n x)->SL (RK .i64 5) E' b' l' c' ys->K (L b' l' c') E')
  (ih0:i<l->ys=((xs.take (i+1)).filter fun x=> !isN o n x)->Lp Q8 8 Try.f12 [1,1,0,1,0] 0 (pubK E K) (us12 b l c o n m cap tot (vR ys) (i+1) E))
  (ih1:i<l->∀ (x:List Int) (cap' tot':Nat),x.length=5->m+1<=cap'->cap'*5<=tot'->ys++[x]=((xs.take (i+1)).filter fun x=> !isN o n x)->Lp Q8 8 Try.f12 [1,1,0,1,0] 0 (pubK E K) (us12 b l c o n (m+1) cap' tot' (vR (ys++[x])) (i+1) E)):Rnd Q8 8 Try.f12 [1,1,0,1,0] 0 (pubK E K) (us12 b l c o n m cap tot (vR ys) i E):=by
 refine sm_ (?_:bif decide ((NI i)<(NI l)) then req (0<=(NI i)/\(NI i)<(NI l)) ((∃ (cs:List Value),E (VS b l c) cs/\(cs=[]->False))/\∃ (n_1:Int),LoadE Q8.P E 3 (VS b l c) (Int.toNat (NI i)*5+0) (I n_1)/\bif n_1 !=o then req (0<=(NI i)/\(NI i)<(NI l)) ((∃ (cs:List Value),E (VS b l c) cs/\(cs=[]->False))/\∃ (n_2:Int),∃ (n_3:Int),∃ (n_4:Int),∃ (n_5:Int),∃ (n_6:Int),LoadE Q8.P E 26 (VS b l c) (Int.toNat (NI i)*5) (SV.agg [I n_2,I n_3,I n_4,I n_5,I n_6])/\m*5<=List.length (Row.cells (Row.vals (vR ys)))/\cap*5<=tot/\m<=cap/\req ((m+1)*40<=140737488355328) (∀ (cap' tot':Nat),m+1<=cap'->cap'*5<=tot'->Lp Q8 8 Try.f12 [1,1,0,1,0] 0 (pubK E K) { fr:=some (L b l c)::oI o::oI n::none::none::none::none::os 2 0 (m+1) cap'::oI (WI ((NI i)+1))::no16 (no8 (no4 (no2 []))),bx:=[(⟨26,.lst [],0,false⟩:Box),⟨26,.lst [I n_2,I n_3,I n_4,I n_5,I n_6],5,true⟩,⟨26,.vals (List.take (m*5) (vR ys)++[Value.int IntKind.i64 n_2,Value.int IntKind.i64 n_3,Value.int IntKind.i64 n_4,Value.int IntKind.i64 n_5,Value.int IntKind.i64 n_6]),tot',true⟩],E:=E:St })) else req (0<=(NI i)/\(NI i)<(NI l)) ((∃ (cs:List Value),E (VS b l c) cs/\(cs=[]->False))/\∃ (n_2:Int),LoadE Q8.P E 3 (VS b l c) (Int.toNat (NI i)*5+1) (I n_2)/\bif bif false then true else n_2 !=n then req (0<=(NI i)/\(NI i)<(NI l)) ((∃ (cs:List Value),E (VS b l c) cs/\(cs=[]->False))/\∃ (n_3:Int),∃ (n_4:Int),∃ (n_5:Int),∃ (n_6:Int),∃ (n_7:Int),LoadE Q8.P E 26 (VS b l c) (Int.toNat (NI i)*5) (SV.agg [I n_3,I n_4,I n_5,I n_6,I n_7])/\m*5<=List.length (Row.cells (Row.vals (vR ys)))/\cap*5<=tot/\m<=cap/\req ((m+1)*40<=140737488355328) (∀ (cap' tot':Nat),m+1<=cap'->cap'*5<=tot'->Lp Q8 8 Try.f12 [1,1,0,1,0] 0 (pubK E K) { fr:=some (L b l c)::oI o::oI n::none::none::none::none::os 2 0 (m+1) cap'::oI (WI ((NI i)+1))::no16 (no8 (no4 (no2 []))),bx:=[(⟨26,.lst [],0,false⟩:Box),⟨26,.lst [I n_3,I n_4,I n_5,I n_6,I n_7],5,true⟩,⟨26,.vals (List.take (m*5) (vR ys)++[Value.int IntKind.i64 n_3,Value.int IntKind.i64 n_4,Value.int IntKind.i64 n_5,Value.int IntKind.i64 n_6,Value.int IntKind.i64 n_7]),tot',true⟩],E:=E:St })) else Lp Q8 8 Try.f12 [1,1,0,1,0] 0 (pubK E K) { fr:=some (L b l c)::oI o::oI n::none::none::none::none::os 0 0 m cap::oI (WI ((NI i)+1))::no16 (no8 (no4 (no2 []))),bx:=[(⟨26,.vals (vR ys),tot,true⟩:Box)],E:=E:St })) else ∀ (base:Option Addr) (E':Mem),Mem.le E E'->WinE E' base (vR ys)->Mem.le E E'/\K (L (Option.map (fun (x:Addr)=>Addr.add x 0) base) m cap) E')
 delta WI NI VS no2 no4 no8 no16
 have hl:=h0.len
 refine condC (fun g=>?_) (fun g=>?_)
 ·have g:i<l:=by simpa using g
  obtain ⟨x,hx⟩:∃ x,xs[i]? =some x:=⟨_,List.getElem?_eq_getElem (by omega)⟩
  have l0:=RK_load (by decide) (T:=3) rfl h0 hx 0 (by decide)
  have l1:=RK_load (by decide) (T:=3) rfl h0 hx 1 (by decide)
  obtain ⟨a0,a1,a2,a3,a4,ex,l5⟩:=rowK5 (T:=26) h0 rfl rfl hx
  have hx5:x.length=5:=by rw [ex];rfl
  have ft:=filter_take (p:=fun x=> !isN o n x) hx
  have no:isN o n x=true->Lp Q8 8 Try.f12 [1,1,0,1,0] 0 (pubK E K) (us12 b l c o n m cap tot (vR ys) (i+1) E):=fun q=>ih0 g (by rw [ft,if_neg (by simp [q])];exact hy)
  have yes:isN o n x=false->∀ (cap' tot':Nat),m+1<=cap'->cap'*5<=tot'->Lp Q8 8 Try.f12 [1,1,0,1,0] 0 (pubK E K) (us12 b l c o n (m+1) cap' tot' (vR (ys++[x])) (i+1) E):=fun q cap' tot' q1 q2=>ih1 g x cap' tot' hx5 q1 q2 (by rw [ft,if_pos (by simp [q]),← hy])
  have ev:List.take (m*5) (vR ys)++[Value.int .i64 a0,Value.int .i64 a1,Value.int .i64 a2,Value.int .i64 a3,Value.int .i64 a4]=vR (ys++[x]):=by
   have:=vR_snoc (x:=x) h5 hm
   rw [ex] at this ⊢;exact this
  rw [Int.toNat_natCast,wrap_i64 (x:=(i:Int)+1) (by omega)]
  refine req_intro (by omega) ⟨SL.ne (RK_ok .i64 (by decide)) h0 g,_,l0,condC (fun g1=>?_) (fun g1=>?_)⟩
  ·refine req_intro (by omega) ⟨SL.ne (RK_ok .i64 (by decide)) h0 g,a0,a1,a2,a3,a4,l5,vR_cells h5 hm,hc.2,hc.1,req_intro (by omega) fun cap' tot' q1 q2=>?_⟩
   rw [ev]
   exact Lp_re [some 2] (yes (by unfold isN;simp at g1;simp [g1]) cap' tot' q1 q2) (wkG mr_)
  ·refine req_intro (by omega) ⟨SL.ne (RK_ok .i64 (by decide)) h0 g,_,l1,condC (fun g2=>?_) (fun g2=>?_)⟩
   ·refine req_intro (by omega) ⟨SL.ne (RK_ok .i64 (by decide)) h0 g,a0,a1,a2,a3,a4,l5,vR_cells h5 hm,hc.2,hc.1,req_intro (by omega) fun cap' tot' q1 q2=>?_⟩
    rw [ev]
    exact Lp_re [some 2] (yes (by unfold isN;simp at g1 g2;simp [g1,g2]) cap' tot' q1 q2) (wkG mr_)
   ·exact Lp_re [some 0] (no (by unfold isN;simp at g1 g2;simp [g1,g2])) (wkG mr_)
 ·have g:¬ i<l:=by simpa using g
  exact fun base E' k w=>⟨k,h _ m cap ys E' k (by show ys=_;rw [hy,List.take_of_length_le (by omega)]) (vR_win h5 hm hc.1 w)⟩
theorem c12 {b1:Option Addr} {l2:Nat} {c3:Nat} {a4:Int} {a5:Int} {xs:List (List Int)} (h0:SL (RK .i64 5) E b1 l2 c3 xs) (h1:l2<=1000000) (h:∀ (b':Option Addr) (l' c':Nat) (ys:List (List Int)) (E':Mem),Mem.le E E'->Hyp (ys=xs.filter fun x=> !isN a4 a5 x)->SL (RK .i64 5) E' b' l' c' ys->K (L b' l' c') E'):
  Ent Q8 8 Try.f12 [L b1 l2 c3,I a4,I a5] E K:=by
 refine sm_ (?_:Lp Q8 8 Try.f12 [1,1,0,1,0] 0 (pubK E K) { fr:=some (L b1 l2 c3)::oI a4::oI a5::none::none::none::oL none 0 0::oL none 0 0::oI 0::no16 (no8 (no4 (no2 []))),bx:=[],E:=E:St })
 delta no2 no4 no8 no16
 have key:=Lp_ind okQ8 (n:=8) (fn:=Try.f12) (p:=[1,1,0,1,0]) (n0:=0) (K:=pubK E K) (fun z:{z:Nat×Nat×Nat×Nat×List (List Int)//z.1<=l2/\z.2.2.2.2=((xs.take z.1).filter fun x=> !isN a4 a5 x)/\W5 z.2.2.2.2/\z.2.2.2.2.length=z.2.1/\z.2.1<=z.1/\z.2.1<=z.2.2.1/\z.2.2.1*5<=z.2.2.2.1}=>us12 b1 l2 c3 a4 a5 z.1.2.1 z.1.2.2.1 z.1.2.2.2.1 (vR z.1.2.2.2.2) z.1.1 E) (fun z=>l2-z.1.1) (by
  rintro ⟨⟨i,m,cap,tot,ys⟩,g1,g2,g3,g4,g5,g6,g7⟩ ih
  have g5:m<=i:=g5
  have g4:ys.length=m:=g4
  refine ur12 h0 h1 g1 g2 g3 g4 g5 ⟨g6,g7⟩ h (fun (q:i<l2) e=>ih ⟨⟨i+1,m,cap,tot,ys⟩,q,e,g3,g4,Nat.le_succ_of_le g5,g6,g7⟩ (by show l2-(i+1)<l2-i;omega)) (fun (q:i<l2) x cap' tot' q1 q2 q3 e=>ih ⟨⟨i+1,m+1,cap',tot',ys++[x]⟩,q,e,g3.snoc q1,?_,Nat.succ_le_succ g5,q2,q3⟩ (by show l2-(i+1)<l2-i;omega))
  show (ys++[x]).length=m+1
  simp [g4])
 exact Lp_re [none] (key ⟨⟨0,0,0,0,[]⟩,Nat.zero_le _,rfl,(fun x hx=>by cases hx),rfl,Nat.le_refl _,Nat.le_refl _,Nat.le_refl _⟩) (wkG mr_)
def us27 (b d:Option Addr) (l c m e i:Nat) (E:Mem):St:=⟨[oL b l c,oL d m e,none,none,none,oI (i:Nat)]++List.replicate 20 none,[],E⟩
theorem ur27 {b d:Option Addr} {l c m e i:Nat} {xs ys:List (List Int)} (h0:SL (RK .i64 5) E b l c xs) (h1:SL (RK .i64 5) E d m e ys) (hn:l<=1000000) (hlm:l=m) (hi:i<=l/\xs.take i=ys.take i) (h:K (B (decide (xs=ys))) E)
  (ih:i<l->xs.take (i+1)=ys.take (i+1)->Lp Q9 8 Try.f27 [1,1,0,1,0] 0 (pubK E K) (us27 b d l c m e (i+1) E)):Rnd Q9 8 Try.f27 [1,1,0,1,0] 0 (pubK E K) (us27 b d l c m e i E):=by
 refine sm_ (?_:bif decide ((NI i)<(NI l)) then req (0<=(NI i)/\(NI i)<(NI l)) ((∃ (cs:List Value),E (VS b l c) cs/\(cs=[]->False))/\∃ (n:Int),∃ (n_1:Int),∃ (n_2:Int),∃ (n_3:Int),∃ (n_4:Int),LoadE Q9.P E 26 (VS b l c) (Int.toNat (NI i)*5) (SV.agg [I n,I n_1,I n_2,I n_3,I n_4])/\req (0<=(NI i)/\(NI i)<(NI m)) ((∃ (cs:List Value),E (VS d m e) cs/\(cs=[]->False))/\∃ (n_5:Int),∃ (n_6:Int),∃ (n_7:Int),∃ (n_8:Int),∃ (n_9:Int),LoadE Q9.P E 26 (VS d m e) (Int.toNat (NI i)*5) (SV.agg [I n_5,I n_6,I n_7,I n_8,I n_9])/\bif !(n==n_5&&(n_1==n_6&&(n_2==n_7&&(n_3==n_8&&(n_4==n_9&&true))))) then Mem.le E E/\K (B false) E else Lp Q9 8 Try.f27 [1,1,0,1,0] 0 (pubK E K) { fr:=some (L b l c)::oL d m e::none::none::none::oI (WI ((NI i)+1))::no16 (no4 []),bx:=[],E:=E:St })) else Mem.le E E/\K (B true) E)
 delta WI NI VS no4 no16
 have hl:=h0.len
 have hl2:=h1.len
 refine condC (fun g=>?_) (fun g=>⟨mr_,?_⟩)
 ·have g:i<l:=by simpa using g
  obtain ⟨x,hx⟩:∃ x,xs[i]? =some x:=⟨_,List.getElem?_eq_getElem (by omega)⟩
  obtain ⟨y,hy⟩:∃ y,ys[i]? =some y:=⟨_,List.getElem?_eq_getElem (by omega)⟩
  obtain ⟨a0,a1,a2,a3,a4,ex,l5⟩:=rowK5 (T:=26) h0 rfl rfl hx
  obtain ⟨b0,b1,b2,b3,b4,ey,m5⟩:=rowK5 (T:=26) h1 rfl rfl hy
  rw [Int.toNat_natCast,wrap_i64 (x:=(i:Int)+1) (by omega)]
  refine req_intro (by omega) ⟨SL.ne (RK_ok .i64 (by decide)) h0 g,a0,a1,a2,a3,a4,l5,req_intro (by omega) ⟨SL.ne (RK_ok .i64 (by decide)) h1 (show i<m by omega),b0,b1,b2,b3,b4,m5,condC (fun q=>⟨mr_,?_⟩) (fun q=>?_)⟩⟩
  ·rw [decide_eq_false (fun e=>by rw [e,hy] at hx;cases hx;rw [ex] at ey;cases ey;simp at q)] at h
   exact h
  ·have e:x=y:=by simp at q;rw [ex,ey];simp [q]
   exact Lp_re [] (ih g (by rw [take_get' hx,take_get' hy,hi.2,e])) (wkG mr_)
 ·have g:¬ i<l:=by simpa using g
  have e:xs=ys:=by have:=hi.2;rwa [List.take_of_length_le (by omega),List.take_of_length_le (by omega)] at this
  rw [decide_eq_true e] at h;exact h
theorem c27 {b1:Option Addr} {l2:Nat} {c3:Nat} {b4:Option Addr} {l5:Nat} {c6:Nat} {xs:List (List Int)} {ys:List (List Int)} (h0:SL (RK .i64 5) E b1 l2 c3 xs) (h1:SL (RK .i64 5) E b4 l5 c6 ys) (h2:l2<=1000000) (h:K (B (decide (xs=ys))) E):
  Ent Q9 8 Try.f27 [L b1 l2 c3,L b4 l5 c6] E K:=by
 refine sm_ (?_:bif (NI l2) !=(NI l5) then Mem.le E E/\K (B false) E else Lp Q9 8 Try.f27 [1,1,0,1,0] 0 (pubK E K) { fr:=some (L b1 l2 c3)::oL b4 l5 c6::none::none::none::oI 0::oL b1 l2 c3::oI (NI l2)::oL b4 l5 c6::oI (NI l5)::oB ((NI l2) !=(NI l5))::no8 (no4 (no2 (none::[]))),bx:=[],E:=E:St })
 delta NI no2 no4 no8
 have hl:=h0.len
 have hl2:=h1.len
 refine condC (fun g=>⟨mr_,?_⟩) (fun g=>?_)
 ·rw [decide_eq_false (fun e=>by subst e;simp at g;omega)] at h;exact h
 ·have g:l2=l5:=by simp at g;omega
  exact Lp_re [] (Lp_ind okQ9 (fun z:{i:Nat//i<=l2/\xs.take i=ys.take i}=>us27 b1 b4 l2 c3 l5 c6 z.1 E) (fun z=>l2-z.1) (fun z ih=>ur27 h0 h1 h2 g z.2 h fun q e=>ih ⟨z.1+1,q,e⟩ (by show l2-(_+1)<l2-_;omega)) ⟨0,Nat.zero_le _,rfl⟩) (wkG mr_)
noncomputable def QA:Cx:={ P:=Try.prog,inl:=fun f=>List.contains [] f,tab:=fun _ _ _ _=>False,isB:=fun _=>false,tabB:=fun _ _ _ _ _=>False,opt:={ unroll:=0,carry:=[] },muts:=mutsD }
theorem okQA:CxOK QA:=CxOK.four (fun _ _ _ _ h=>h.elim) (by kernel_rfl) (okInl (by kernel_rfl)) (fun _ _ _ _ _ h=>h.elim)
theorem vR_app (xs ys:List (List Int)):vR (xs++ys)=vR xs++vR ys:=by unfold vR;simp
theorem vR_take {xs:List (List Int)} (h5:W5 xs) {a:Nat} (ha:a<=xs.length) (js:List Value):List.take (a*5) (vR xs++js)=vR (xs.take a):=by
 have e:xs=xs.take a++xs.drop a:=(List.take_append_drop a xs).symm
 have hl:(vR (xs.take a)).length=a*5:=by rw [vR_len (fun x hx=>h5 x (List.mem_of_mem_take hx)),List.length_take];congr 1;omega
 conv=>lhs;rw [e,vR_app,List.append_assoc]
 rw [List.take_append_of_le_length (by omega),List.take_of_length_le (by omega)]
theorem vR_drop {xs:List (List Int)} (h5:W5 xs) {a:Nat} (ha:a<=xs.length) (js:List Value):List.drop (a*5) (vR xs++js)=vR (xs.drop a)++js:=by
 have e:xs=xs.take a++xs.drop a:=(List.take_append_drop a xs).symm
 have hl:(vR (xs.take a)).length=a*5:=by rw [vR_len (fun x hx=>h5 x (List.mem_of_mem_take hx)),List.length_take];congr 1;omega
 conv=>lhs;rw [e,vR_app,List.append_assoc]
 rw [List.drop_append_of_le_length (by omega),List.drop_of_length_le (by omega),List.nil_append]
theorem vR_one {xs:List (List Int)} {js:List Value} (hj:∀ v∈js,v.oneCell'=true):∀ v:Value,List.Mem v (vR xs++js)->v.oneCell'=true:=fun v hv=>by
 rcases List.mem_append.1 hv with q|q
 ·unfold vR at q;obtain ⟨z,_,rfl⟩:=List.mem_map.1 q;rfl
 ·exact hj v q
theorem W5.erase {xs:List (List Int)} (h:W5 xs) (a:Nat):W5 (xs.eraseIdx a):=fun x hx=>h x (List.mem_of_mem_eraseIdx hx)
abbrev z5:List Value:=[.int .i64 0,.int .i64 0,.int .i64 0,.int .i64 0,.int .i64 0]
theorem u42 {m cap tot a:Nat} {xs:List (List Int)} {js:List Value} {KK Q:KT} (h5:W5 xs) (hm:xs.length=m) (hn:m<=16) (ha:a<m) (hc:m<=cap/\cap*5<=tot) (hj:∀ v∈js,v.oneCell'=true)
  (h:∀ cap' tot':Nat,m<=cap'->cap'*5<=tot'->KK (.slc 1 0 (m-1) cap') [⟨26,.lst [],0,false⟩,⟨26,.vals (vR (xs.eraseIdx a)++z5),tot',true⟩] E) (hQ:∀ s bx',cloK 1 KK s bx' E->Q s bx' E):
  EntB QA 8 Try.f42 [.slc 0 0 m cap,I (a:Nat),I ((a+1:Nat):Int)] [⟨26,.vals (vR xs++js),tot,true⟩] E Q:=by
 refine sm_ (?_:req (0<=(NI m)/\(NI m)<=(NI cap)) (req (0<=(NI (a+1))/\(NI (a+1))<=(NI (toN (some (NI m)) cap))) (req (0<=(NI a)/\(NI a)<=(NI (toN (some (NI (a+1))) m))) (bif (NI a)==(NI (a+1)) then Q (SV.slc 0 0 m cap) [⟨26,.vals (vR xs++js),tot,true⟩] E else req (0<=(NI a)/\(NI a)<=(NI (toN none cap))) (req (0<=(NI (a+1))/\(NI (a+1))<=(NI (toN none m))) ((if toN none cap=toN (some (NI (a+1))) 0 then 0 else 0+toN (some (NI (a+1))) 0*5)+(toN none m-toN (some (NI (a+1))) 0)*5<=List.length (vR xs++js)/\(∀ (x:Value),List.Mem x (vR xs++js)->Value.oneCell' x=true)/\req ((if toN none cap=0 then 0 else 0)=0) ((toN (some (NI a)) m-0)*5<=List.length (Row.cells (Row.vals (vR xs++js)))/\(toN none cap-0)*5<=tot/\toN (some (NI a)) m-0<=toN none cap-0/\req ((toN (some (NI a)) m-0+(toN none m-toN (some (NI (a+1))) 0))*40<=140737488355328) (∀ (cap' tot':Nat),toN (some (NI a)) m-0+(toN none m-toN (some (NI (a+1))) 0)<=cap'->cap'*5<=tot'->toN none cap-0<=cap'->req (0<=(NI m)/\(NI m)<=(NI (toN none cap'))) (req (0<=(NI (toN (some (NI a)) m-0+(toN none m-toN (some (NI (a+1))) 0)))/\(NI (toN (some (NI a)) m-0+(toN none m-toN (some (NI (a+1))) 0)))<=(NI (toN (some (NI m)) (toN (some (NI a)) m-0+(toN none m-toN (some (NI (a+1))) 0))))) ((if toN none cap'=toN (some (NI (toN (some (NI a)) m-toN none 0+(toN none m-toN (some (NI (a+1))) 0)))) 0 then 0 else 0+toN (some (NI (toN (some (NI a)) m-toN none 0+(toN none m-toN (some (NI (a+1))) 0)))) 0*5)<=List.length (List.take ((toN (some (NI a)) m-0)*5) (vR xs++js)++List.take ((toN none m-toN (some (NI (a+1))) 0)*5) (List.drop (if toN none cap=toN (some (NI (a+1))) 0 then 0 else 0+toN (some (NI (a+1))) 0*5) (vR xs++js)))/\(if toN none cap'=toN (some (NI (toN (some (NI a)) m-toN none 0+(toN none m-toN (some (NI (a+1))) 0)))) 0 then 0 else 0+toN (some (NI (toN (some (NI a)) m-toN none 0+(toN none m-toN (some (NI (a+1))) 0)))) 0*5)+(toN (some (NI m)) (toN (some (NI a)) m-0+(toN none m-toN (some (NI (a+1))) 0))-toN (some (NI (toN (some (NI a)) m-toN none 0+(toN none m-toN (some (NI (a+1))) 0)))) 0)*5<=tot'/\Q (SV.slc 1 0 (toN (some (NI a)) m-0+(toN none m-toN (some (NI (a+1))) 0)) cap') [⟨26,.lst [],0,false⟩,⟨26,.vals (layV (List.take ((toN (some (NI a)) m-0)*5) (vR xs++js)++List.take ((toN none m-toN (some (NI (a+1))) 0)*5) (List.drop (if toN none cap=toN (some (NI (a+1))) 0 then 0 else 0+toN (some (NI (a+1))) 0*5) (vR xs++js))) (if toN none cap'=toN (some (NI (toN (some (NI a)) m-toN none 0+(toN none m-toN (some (NI (a+1))) 0)))) 0 then 0 else 0+toN (some (NI (toN (some (NI a)) m-toN none 0+(toN none m-toN (some (NI (a+1))) 0)))) 0*5) (zerosV [Value.int IntKind.i64 0,Value.int IntKind.i64 0,Value.int IntKind.i64 0,Value.int IntKind.i64 0,Value.int IntKind.i64 0] (toN (some (NI m)) (toN (some (NI a)) m-0+(toN none m-toN (some (NI (a+1))) 0))-toN (some (NI (toN (some (NI a)) m-toN none 0+(toN none m-toN (some (NI (a+1))) 0)))) 0))),tot',true⟩] E))))))))))
 delta NI
 have hl:=vR_len h5
 have e1:List.take (a*5) (vR xs++js)=vR (xs.take a):=vR_take h5 (by omega) js
 have e2:List.take ((m-(a+1))*5) (List.drop (if cap=a+1 then 0 else 0+(a+1)*5) (vR xs++js))=vR (xs.drop (a+1)):=by
  by_cases q:cap=a+1
  ·rw [show m-(a+1)=0 by omega,List.drop_of_length_le (l:=xs) (by omega)];simp [vR]
  ·rw [if_neg q,Nat.zero_add,vR_drop h5 (by omega),List.take_append_of_le_length,List.take_of_length_le]
   ·rw [vR_len (fun x hx=>h5 x (List.mem_of_mem_drop hx)),List.length_drop,hm];exact Nat.le_refl _
   ·rw [vR_len (fun x hx=>h5 x (List.mem_of_mem_drop hx)),List.length_drop,hm];exact Nat.le_refl _
 have e3:vR (xs.take a)++vR (xs.drop (a+1))=vR (xs.eraseIdx a):=by rw [List.eraseIdx_eq_take_drop_succ,vR_app]
 have hle:(vR (xs.eraseIdx a)).length=(m-1)*5:=by rw [vR_len (h5.erase a),List.length_eraseIdx,hm,if_pos ha]
 have t1:∀ c:Nat,toN none c=c:=fun c=>by cases c<;>rfl
 have t2:∀ (k c:Nat),toN (some (k:Int)) c=k:=fun k c=>by unfold toN;exact Int.toNat_natCast k
 simp only [t1,t2,Nat.sub_zero]
 rw [e1,e2,e3]
 refine req_intro (by omega) (req_intro (by omega) (req_intro (by omega) (condC (fun q=>absurd q (by simp;omega)) (fun _=>req_intro (by omega) (req_intro (by omega) ⟨?_,vR_one hj,req_intro (by simp) ⟨?_,hc.2,by omega,req_intro (by omega) fun cap' tot' g1 g2 g3=>req_intro (by omega) (req_intro (by omega) ⟨?_,?_,?_⟩)⟩⟩)))))
 ·split
  ·simp;omega
  ·simp;omega
 ·show a*5<=((vR xs++js).map SV.raw).length
  simp;omega
 ·rw [if_neg (by omega)];omega
 ·rw [if_neg (by omega)];omega
 ·rw [if_neg (show ¬ cap'=a+(m-(a+1)) by omega),show m-(a+(m-(a+1)))=1 by omega,show a+(m-(a+1))=m-1 by omega,Nat.zero_add]
  have e4:layV (vR (xs.eraseIdx a)) ((m-1)*5) (zerosV [Value.int .i64 0,Value.int .i64 0,Value.int .i64 0,Value.int .i64 0,Value.int .i64 0] 1)=vR (xs.eraseIdx a)++z5:=by
   unfold layV
   rw [List.take_of_length_le (by omega),List.drop_of_length_le (by omega)]
   simp [zerosV]
  rw [e4]
  exact hQ _ _ (cloK_intro [some 0,some 1] (h cap' tot' (by omega) g2) (wkG mr_ (h6:=(by repeat' first|exact True.intro|exact rfl|exact Or.inl rfl|exact (by decide:0<2)|refine And.intro ?_ ?_))))
end Go.Proofs.Ytdaakdbkmjgloaa.CustodyOwn
