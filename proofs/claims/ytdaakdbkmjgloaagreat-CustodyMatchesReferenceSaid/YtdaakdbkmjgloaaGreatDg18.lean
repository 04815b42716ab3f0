/- Walks and plain laws. Conditions: none. -/
import Derived.Test.YtdaakdbkmjgloaaGreatDg11
namespace Go.Proofs.YtdaakdbkmjgloaaGreat.CustodyOwn
open Go Go.Sx
set_option maxRecDepth 100000
set_option maxHeartbeats 4000000
set_option linter.all false
variable {E:Mem} {K:SV->Mem->Prop}
variable {KK:KT} {tot ln n l a kn kc m c q e st lc p k h i o j uc x c4 l3:Nat} {zs A:List Int} {lb b kb ub b2:Option Addr} {g s a1:Int} {rs:List FRow} {E0 E:Mem} {rc:Rc} {vs:List Value} {yss:List (List Int)}
noncomputable def tabB33:CallT:=fun f args bx E K=>match f with
 | 71=>tabW 71 args bx E K
 | 93=>tabBp 93 args bx E K
 | _=>False
theorem tabB33_ok:∀ f args bx E K,tabB33 f args bx E K->CallSem Tryz.prog f args bx E K:=by
 intro f args bx E K h
 unfold tabB33 at h
 split at h
 ·exact tabW_ok _ _ _ _ _ h
 ·exact tabBp_ok _ _ _ _ _ h
 ·exact h.elim
noncomputable def tabJ33:FuncId->List SV->Mem->(SV->Mem->Prop)->Prop:=fun f args E K=>match f with
 | 91=>d2 args fun x0 x1=>dC x0 fun l1=>d2 l1 fun x0_0 x0_1=>dI x0_0 fun a1=>dS x0_1 fun b2 l3 c4=>dI x1 fun a5=>∃ (zs:List Int),Bs E b2 l3 c4 zs/\(∀ (b':Option Addr) (l' c':Nat) (ms:List (Int×List Int)) (e:Int) (E':Mem),Mem.le E E'->Hyp (erasF a1 zs a5=(ms,e))->FL E' b' l' c' ms->K (.tup [L b' l' c',I e]) E')
 | 106=>d3 args fun x0 x1 x2=>dC x0 fun l1=>d2 l1 fun x0_0 x0_1=>dI x0_0 fun a1=>dS x0_1 fun b2 l3 c4=>dI x1 fun a5=>dS x2 fun b6 l7 c8=>∃ (zs:List Int) (ds:List Int),Bs E b2 l3 c4 zs/\Bs E b6 l7 c8 ds/\(∀ (b':Option Addr) (l' c':Nat) (ms:List (Int×List Int)) (e:Int) (E':Mem),Mem.le E E'->Hyp (progF a1 zs a5 ds=(ms,e))->FL E' b' l' c' ms->K (.tup [L b' l' c',I e]) E')
 | _=>False
theorem tabJ33_ok:TabOK Tryz.prog tabJ33:=by
 intro f args E K h
 unfold tabJ33 at h
 split at h
 ·replace h:=d2_elim h
  obtain ⟨x0,x1,rfl,h⟩:=h
  replace h:=dC_elim h
  obtain ⟨l1,hl1,h⟩:=h
  replace h:=d2_elim h
  obtain ⟨x0_0,x0_1,rfl,h⟩:=h
  replace h:=dI_elim h
  obtain ⟨a1,rfl,h⟩:=h
  replace h:=dS_elim h
  obtain ⟨b2,l3,c4,rfl,h⟩:=h
  replace h:=dI_elim h
  obtain ⟨a5,rfl,h⟩:=h
  obtain ⟨zs,g0,h⟩:=h
  exact TabSem.congr (valL_cons (asCells_val hl1) (valL_cons rfl rfl)) (Ent.sem okF4 Tryz.func91 ⟨by kernel_rfl,by kernel_rfl⟩ rfl (s16 g0 h))
 ·replace h:=d3_elim h
  obtain ⟨x0,x1,x2,rfl,h⟩:=h
  replace h:=dC_elim h
  obtain ⟨l1,hl1,h⟩:=h
  replace h:=d2_elim h
  obtain ⟨x0_0,x0_1,rfl,h⟩:=h
  replace h:=dI_elim h
  obtain ⟨a1,rfl,h⟩:=h
  replace h:=dS_elim h
  obtain ⟨b2,l3,c4,rfl,h⟩:=h
  replace h:=dI_elim h
  obtain ⟨a5,rfl,h⟩:=h
  replace h:=dS_elim h
  obtain ⟨b6,l7,c8,rfl,h⟩:=h
  obtain ⟨zs,ds,g0,g1,h⟩:=h
  exact TabSem.congr (valL_cons (asCells_val hl1) (valL_cons rfl (valL_cons rfl rfl))) (Ent.sem okF3 Tryz.func106 ⟨by kernel_rfl,by kernel_rfl⟩ rfl (s14 g0 g1 h))
 ·exact h.elim
noncomputable def KD:Cx:={ P:=Tryz.prog,inl:=fun f=>List.contains [90,92] f,tab:=tabJ33,isB:=fun f=>f==71||f==93,tabB:=tabB33,opt:={ unroll:=0,carry:=[8,9,66],cuts:=[13] },muts:=(fun o=>match o with | .call { callee:=.value (.func 90),.. }=>true| .call { callee:=.value (.func 106),.. }=>true|o=>mutsD o) }
theorem okKD:CxOK KD:=CxOK.four tabJ33_ok (by kernel_rfl) (okInl (by kernel_rfl)) tabB33_ok
def sJ33e (s g:Int) (b lb:Option Addr) (l c a h ln lc e:Nat) (kb:Option Addr) (kn kc:Nat) (o i n cap tot:Nat) (rs:List FRow) (E:Mem):St:=⟨[oc 0 0,oc 1 0,oL kb kn kc]++nn 4++[oI (o:Nat),oI (i:Nat)]++nn 87,[⟨111,.lst [.slc 3 0 n cap],1,true⟩,⟨95,.lst [I s,L b l c,I (a:Nat),I (h:Nat),I g,L lb ln lc,I (e:Nat)],7,true⟩,⟨24,.lst [],0,false⟩,⟨24,.vals (rs.flatMap rowV),tot,true⟩],E⟩
def sJ33a (s g:Int) (b lb:Option Addr) (l c a h ln lc e:Nat) (kb:Option Addr) (kn kc:Nat) (o i n cap tot:Nat) (rs:List FRow) (E:Mem):St:=⟨[oc 0 0,oc 1 0,oL kb kn kc]++nn 4++[oI (o:Nat),oI (i:Nat)]++nn 87,[⟨111,.lst [.slc 2 0 n cap],1,true⟩,⟨95,.lst [I s,L b l c,I (a:Nat),I (h:Nat),I g,L lb ln lc,I (e:Nat)],7,true⟩,⟨24,.vals (rs.flatMap rowV),tot,true⟩],E⟩
def sJ33w (s g:Int) (b lb:Option Addr) (l c a h ln lc e:Nat) (kb:Option Addr) (kn kc:Nat) (o i k n cap tot:Nat) (rs:List FRow) (E:Mem):St:=⟨[oc 0 0,oc 1 0]++nn 5++[oI (o:Nat),none,oI (k:Nat)]++nn 54++[oL kb kn kc,oI (kn:Nat),oI (i:Nat)]++nn 29,[⟨111,.lst [.slc 3 0 n cap],1,true⟩,⟨95,.lst [I s,L b l c,I (a:Nat),I (h:Nat),I g,L lb ln lc,I (e:Nat)],7,true⟩,⟨24,.lst [],0,false⟩,⟨24,.vals (rs.flatMap rowV),tot,true⟩],E⟩
def sJ33p (s g:Int) (b lb:Option Addr) (l c a h ln lc e:Nat) (kb:Option Addr) (kn kc:Nat) (o k n cap tot:Nat) (rs:List FRow) (E:Mem):St:=⟨[oc 0 0,oc 1 0]++nn 5++[oI (o:Nat),none,oI (k:Nat)]++nn 86,[⟨111,.lst [.slc 3 0 n cap],1,true⟩,⟨95,.lst [I s,L b l c,I (a:Nat),I (h:Nat),I g,L lb ln lc,I (e:Nat)],7,true⟩,⟨24,.lst [],0,false⟩,⟨24,.vals (rs.flatMap rowV),tot,true⟩],E⟩
theorem rJ33e {cap:Nat} (hst:1<=st/\zs.length=2*(st*q)/\p<=q/\m<=q) (hv:validF st zs.length)
  (R:FLr E rs (erasesL p m [((st:Int),zs)])) (hn:(erasesL p m [((st:Int),zs)]).length=n) (hc:n<=cap/\cap*2<=tot)
  (ih:∀ (n' cap' tot':Nat) (rs':List FRow) (E':Mem),m<q->Mem.le E E'->FLr E' rs' (erasesL p (m+1) [((st:Int),zs)])->(erasesL p (m+1) [((st:Int),zs)]).length=n'->n'<=cap'/\cap'*2<=tot'->Lp KD 8 Tryz.f70 [1,1,0,1,0] 3 KK (sJ33e st g b lb l c a (st*q) ln lc e kb kn kc (st*p) (p+(m+1)) n' cap' tot' rs' E'))
  (hend:m=q->Lp KD 8 Tryz.f70 [1,1,1,1,0,1,0] 3 KK (sJ33w st g b lb l c a (st*q) ln lc e kb kn kc (st*p) 0 (st*p+5) n cap tot rs E)):
  Rnd KD 8 Tryz.f70 [1,1,0,1,0] 3 KK (sJ33e st g b lb l c a (st*q) ln lc e kb kn kc (st*p) (p+m) n cap tot rs E):=by
 refine sm_ (?_:((NI st)=(0:Int)->False)/\bif decide ((NI (p+m))<WI (Int.tdiv (WI ((NI (st*p))+(NI (st*q)))) (NI st))) then req ((0:Int)<=WI ((NI n)-1)/\WI ((NI n)-1)<(NI n)) (∃ (n_1:Int),∃ (base:Option Addr),∃ (len:Nat),∃ (cap_1:Nat),LoadV KD.P 24 (List.flatMap rowV rs) (0+Int.toNat (WI ((NI n)-1))*2) (SV.agg [I n_1,L base len cap_1])/\∃ (zs:List Int),Bs E base len cap_1 zs/\∀ (b':Option Addr) (l' c':Nat) (ms:List (Int×List Int)) (e_1:Int) (E':Mem),Mem.le E E'->Hyp (erasF n_1 zs (NI (p+m))=(ms,e_1))->FL E' b' l' c' ms->Mem.le E E'/\bif decide ((NI l')>0) then req (l'<=c') (req ((0:Int)<=(1:Int)/\1<=(NI (toN none l'))) (∀ (base':Option Addr) (E'_1:Mem),Mem.le E' E'_1->(∀ (cs:List Value),E' (VS b' l' c') cs->E'_1 (VS base' (toN none l'-1) (toN none c'-1)) (List.take ((toN none l'-1)*2) (List.drop 2 cs)))->Option.isNone base'=Option.isNone b'->∃ (cs:List Value),(cs=[]\/E'_1 (VS base' (toN none l'-1) (toN none c'-1)) cs)/\(toN none l'-1)*2<=List.length cs/\(∀ (x:Value),List.Mem x cs->Value.oneCell' x=true)/\n*2<=List.length (Row.cells (Row.vals (List.flatMap rowV rs)))/\cap*2<=tot/\n<=cap/\req ((n+(toN none l'-1))*32<=140737488355328) (∀ (cap' tot':Nat),n+(toN none l'-1)<=cap'->cap'*2<=tot'->Lp KD 8 Tryz.f70 [1,1,0,1,0] 3 KK { fr:=some (SV.loc 0 0)::oc 1 0::oL kb kn kc::none::none::none::none::oI (NI (st*p))::oI (WI ((NI (p+m))+(1:Int)))::no32 (no32 (no16 (no4 (no2 (none::[]))))),bx:=[(⟨111,.lst [SV.slc 4 0 (n+(toN none l'-1)) cap'],1,true⟩:Box),⟨95,.lst [I (NI st),L b l c,I (NI a),I (NI (st*q)),I g,L lb ln lc,I (NI e)],7,true⟩,⟨24,.lst [],0,false⟩,⟨24,.lst [],0,false⟩,⟨24,.vals (List.take (n*2) (List.flatMap rowV rs)++List.take ((toN none l'-1)*2) cs),tot',true⟩],E:=E'_1:St }))) else Lp KD 8 Tryz.f70 [1,1,0,1,0] 3 KK { fr:=some (SV.loc 0 0)::oc 1 0::oL kb kn kc::none::none::none::none::oI (NI (st*p))::oI (WI ((NI (p+m))+(1:Int)))::no32 (no32 (no16 (no4 (no2 (none::[]))))),bx:=[(⟨111,.lst [SV.slc 3 0 n cap],1,true⟩:Box),⟨95,.lst [I (NI st),L b l c,I (NI a),I (NI (st*q)),I g,L lb ln lc,I (NI e)],7,true⟩,⟨24,.lst [],0,false⟩,⟨24,.vals (List.flatMap rowV rs),tot,true⟩],E:=E':St }) else Lp KD 8 Tryz.f70 [1,1,1,1,0,1,0] 3 KK { fr:=some (SV.loc 0 0)::oc 1 0::oL kb kn kc::none::none::none::none::oI (NI (st*p))::oI (NI (p+m))::oI (WI ((NI (st*p))+(5:Int)))::no16 (no2 (oI (NI (p+m))::oI (NI (st*p))::oc 1 0::oc 1 0::oc 1 3::oI (NI (st*q))::oI (WI ((NI (st*p))+(NI (st*q))))::oc 1 0::oc 1 0::oc 1 0::oc 1 0::oI (NI st)::oI (WI (Int.tdiv (WI ((NI (st*p))+(NI (st*q)))) (NI st)))::oB (decide ((NI (p+m))<WI (Int.tdiv (WI ((NI (st*p))+(NI (st*q)))) (NI st))))::no16 (no4 (oI (NI (st*p))::oI (WI ((NI (st*p))+(5:Int)))::oL kb kn kc::oI (NI kn)::oI 0::no16 (no8 (no4 (none::[]))))))),bx:=[(⟨111,.lst [SV.slc 3 0 n cap],1,true⟩:Box),⟨95,.lst [I (NI st),L b l c,I (NI a),I (NI (st*q)),I g,L lb ln lc,I (NI e)],7,true⟩,⟨24,.lst [],0,false⟩,⟨24,.vals (List.flatMap rowV rs),tot,true⟩],E:=E:St })
 delta WI NI VS no2 no4 no8 no16 no32
 obtain ⟨h1,hz,hpq,hmq⟩:=hst
 have hmq:m<=q:=by omega
 have hz16:zs.length<=16384:=hv.2.2.2.1
 have hpq2:st*p<=st*q:=Nat.mul_le_mul_left st hpq
 have hmq2:st*m<=st*q:=Nat.mul_le_mul_left st hmq
 have hq1:1*q<=st*q:=Nat.mul_le_mul_right q h1
 have hpm:(p+m)*st=st*p+st*m:=by rw [Nat.mul_comm,Nat.mul_add]
 obtain ⟨z',hlast,hz',hlen⟩:=erasesL_ok (p:=p) (m:=m) hv (by rw [hpm];omega)
 rw [hn,Nat.mul_comm m st] at hlen
 have e:IntKind.wrap .i64 (Int.tdiv (IntKind.wrap .i64 (((st*p:Nat):Int)+((st*q:Nat):Int))) (st:Int))=((p+q:Nat):Int):=by
  rw [wrap_i64 (x:=((st*p:Nat):Int)+((st*q:Nat):Int)) (by omega),show ((st*p:Nat):Int)+((st*q:Nat):Int)=((st*(p+q):Nat):Int) by rw [Nat.mul_add];omega]
  exact div_lem h1 (by rw [Nat.mul_add];omega)
 have ei:IntKind.wrap .i64 (((p+m:Nat):Int)+1)=((p+(m+1):Nat):Int):=by rw [wrap_i64 (by omega)];omega
 have eo:IntKind.wrap .i64 (((st*p:Nat):Int)+5)=((st*p+5:Nat):Int):=by rw [wrap_i64 (by omega)];omega
 rw [e,ei,eo]
 refine ⟨by omega,condC (fun g=>?_) (fun g=>?_)⟩
 ·have g:m<q:=by simp at g;omega
  obtain ⟨n1,b2,l2,c2,ld,lb⟩:=last_load R hn (by omega) (by omega)
  rw [hlast] at ld lb
  have hm1:st*(m+1)<=st*q:=Nat.mul_le_mul_left st g
  obtain ⟨ee1,ee2,ee3⟩:=erasL_ok (k:=p+m) hlast (by rw [hz'];exact hv) (by rw [Nat.mul_comm,Nat.add_assoc,Nat.mul_add,hz'];omega)
  refine req_intro n1 ⟨_,b2,l2,c2,ld,_,lb,fun b3 l3 c3 m3 e3 E2 k2 r2 F2=>⟨k2,?_⟩⟩
  have r2:erasF (st:Int) z' ((p+m:Nat):Int)=(m3,e3):=r2
  have hl3:=F2.len
  rw [r2] at ee3
  have ee3:m3.length=st+1:=ee3
  have ht3:toN none l3=l3:=rfl
  refine condC (fun g2=>?_) (fun g2=>by simp at g2;omega)
  have hs1:st<=1024:=by have:=hv.2.1;omega
  refine tail_app F2 (by omega) (R.mono k2) hn hc (by omega) fun base' E3 cs cap3 tot3 rs3 ec k3 R3 n3 g3 g4=>?_
  rw [ec]
  have ep:chgF (erasesL p m [((st:Int),zs)]) m3=erasesL p (m+1) [((st:Int),zs)]:=by
   show _=erasL (erasesL p m [((st:Int),zs)]) (p+m)
   unfold erasL
   rw [hlast]
   show _=chgF _ (erasF (st:Int) z' ((p+m:Nat):Int)).1
   rw [r2]
  rw [ep] at R3 n3
  exact Lp_re [some 0,some 1,some 2,some 4] (ih _ cap3 tot3 rs3 E3 g (mt_ k2 k3) R3 n3 ⟨g3,g4⟩) (wkG mr_ (h6:=(by repeat' first|exact True.intro|exact rfl|exact Or.inl rfl|exact (by decide:2<5)|refine And.intro ?_ ?_)))
 ·have g:m=q:=by simp at g;omega
  exact Lp_re [some 0,some 1,some 2,some 3] (hend g) (wkG mr_ (h6:=(by repeat' first|exact True.intro|exact rfl|exact Or.inl rfl|exact (by decide:2<4)|refine And.intro ?_ ?_)))
theorem rJ33a {cap:Nat} (hst:1<=st/\zs.length=2*(st*q)/\p<=q/\m<q) (hv:validF st zs.length)
    (R:FLr E rs (erasesL p m [((st:Int),zs)])) (hn:(erasesL p m [((st:Int),zs)]).length=n) (hc:n<=cap/\cap*2<=tot)
    (ih:∀ (n' cap' tot':Nat) (rs':List FRow) (E':Mem),m<q->Mem.le E E'->FLr E' rs' (erasesL p (m+1) [((st:Int),zs)])->(erasesL p (m+1) [((st:Int),zs)]).length=n'->n'<=cap'/\cap'*2<=tot'->Lp KD 8 Tryz.f70 [1,1,0,1,0] 3 KK (sJ33e st g b lb l c a (st*q) ln lc e kb kn kc (st*p) (p+(m+1)) n' cap' tot' rs' E'))
     :
    Rnd KD 8 Tryz.f70 [1,1,0,1,0] 3 KK (sJ33a st g b lb l c a (st*q) ln lc e kb kn kc (st*p) (p+m) n cap tot rs E):=by
  refine sm_ (?_:((NI st)=(0:Int)->False)/\bif decide ((NI (p+m))<WI (Int.tdiv (WI ((NI (st*p))+(NI (st*q)))) (NI st))) then req ((0:Int)<=WI ((NI n)-1)/\WI ((NI n)-1)<(NI n)) (∃ (n_1:Int),∃ (base:Option Addr),∃ (len:Nat),∃ (cap_1:Nat),LoadV KD.P 24 (List.flatMap rowV rs) (0+Int.toNat (WI ((NI n)-1))*2) (SV.agg [I n_1,L base len cap_1])/\∃ (zs:List Int),Bs E base len cap_1 zs/\∀ (b':Option Addr) (l' c':Nat) (ms:List (Int×List Int)) (e_1:Int) (E':Mem),Mem.le E E'->Hyp (erasF n_1 zs (NI (p+m))=(ms,e_1))->FL E' b' l' c' ms->Mem.le E E'/\bif decide ((NI l')>0) then req (l'<=c') (req ((0:Int)<=(1:Int)/\1<=(NI (toN none l'))) (∀ (base':Option Addr) (E'_1:Mem),Mem.le E' E'_1->(∀ (cs:List Value),E' (VS b' l' c') cs->E'_1 (VS base' (toN none l'-1) (toN none c'-1)) (List.take ((toN none l'-1)*2) (List.drop 2 cs)))->Option.isNone base'=Option.isNone b'->∃ (cs:List Value),(cs=[]\/E'_1 (VS base' (toN none l'-1) (toN none c'-1)) cs)/\(toN none l'-1)*2<=List.length cs/\(∀ (x:Value),List.Mem x cs->Value.oneCell' x=true)/\n*2<=List.length (Row.cells (Row.vals (List.flatMap rowV rs)))/\cap*2<=tot/\n<=cap/\req ((n+(toN none l'-1))*32<=140737488355328) (∀ (cap' tot':Nat),n+(toN none l'-1)<=cap'->cap'*2<=tot'->Lp KD 8 Tryz.f70 [1,1,0,1,0] 3 KK { fr:=some (SV.loc 0 0)::oc 1 0::oL kb kn kc::none::none::none::none::oI (NI (st*p))::oI (WI ((NI (p+m))+(1:Int)))::no32 (no32 (no16 (no4 (no2 (none::[]))))),bx:=[(⟨111,.lst [SV.slc 3 0 (n+(toN none l'-1)) cap'],1,true⟩:Box),⟨95,.lst [I (NI st),L b l c,I (NI a),I (NI (st*q)),I g,L lb ln lc,I (NI e)],7,true⟩,⟨24,.lst [],0,false⟩,⟨24,.vals (List.take (n*2) (List.flatMap rowV rs)++List.take ((toN none l'-1)*2) cs),tot',true⟩],E:=E'_1:St }))) else Lp KD 8 Tryz.f70 [1,1,0,1,0] 3 KK { fr:=some (SV.loc 0 0)::oc 1 0::oL kb kn kc::none::none::none::none::oI (NI (st*p))::oI (WI ((NI (p+m))+(1:Int)))::no32 (no32 (no16 (no4 (no2 (none::[]))))),bx:=[(⟨111,.lst [SV.slc 2 0 n cap],1,true⟩:Box),⟨95,.lst [I (NI st),L b l c,I (NI a),I (NI (st*q)),I g,L lb ln lc,I (NI e)],7,true⟩,⟨24,.vals (List.flatMap rowV rs),tot,true⟩],E:=E':St }) else Lp KD 8 Tryz.f70 [1,1,1,1,0,1,0] 3 KK { fr:=some (SV.loc 0 0)::oc 1 0::oL kb kn kc::none::none::none::none::oI (NI (st*p))::oI (NI (p+m))::oI (WI ((NI (st*p))+(5:Int)))::no16 (no2 (oI (NI (p+m))::oI (NI (st*p))::oc 1 0::oc 1 0::oc 1 3::oI (NI (st*q))::oI (WI ((NI (st*p))+(NI (st*q))))::oc 1 0::oc 1 0::oc 1 0::oc 1 0::oI (NI st)::oI (WI (Int.tdiv (WI ((NI (st*p))+(NI (st*q)))) (NI st)))::oB (decide ((NI (p+m))<WI (Int.tdiv (WI ((NI (st*p))+(NI (st*q)))) (NI st))))::no16 (no4 (oI (NI (st*p))::oI (WI ((NI (st*p))+(5:Int)))::oL kb kn kc::oI (NI kn)::oI 0::no16 (no8 (no4 (none::[]))))))),bx:=[(⟨111,.lst [SV.slc 2 0 n cap],1,true⟩:Box),⟨95,.lst [I (NI st),L b l c,I (NI a),I (NI (st*q)),I g,L lb ln lc,I (NI e)],7,true⟩,⟨24,.vals (List.flatMap rowV rs),tot,true⟩],E:=E:St })
  delta WI NI VS no2 no4 no8 no16 no32
  obtain ⟨h1,hz,hpq,hmq⟩:=hst
  have hmq:m<=q:=by omega
  have hz16:zs.length<=16384:=hv.2.2.2.1
  have hpq2:st*p<=st*q:=Nat.mul_le_mul_left st hpq
  have hmq2:st*m<=st*q:=Nat.mul_le_mul_left st hmq
  have hq1:1*q<=st*q:=Nat.mul_le_mul_right q h1
  have hpm:(p+m)*st=st*p+st*m:=by rw [Nat.mul_comm,Nat.mul_add]
  obtain ⟨z',hlast,hz',hlen⟩:=erasesL_ok (p:=p) (m:=m) hv (by rw [hpm];omega)
  rw [hn,Nat.mul_comm m st] at hlen
  have e:IntKind.wrap .i64 (Int.tdiv (IntKind.wrap .i64 (((st*p:Nat):Int)+((st*q:Nat):Int))) (st:Int))=((p+q:Nat):Int):=by
    rw [wrap_i64 (x:=((st*p:Nat):Int)+((st*q:Nat):Int)) (by omega),show ((st*p:Nat):Int)+((st*q:Nat):Int)=((st*(p+q):Nat):Int) by rw [Nat.mul_add];omega]
    exact div_lem h1 (by rw [Nat.mul_add];omega)
  have ei:IntKind.wrap .i64 (((p+m:Nat):Int)+1)=((p+(m+1):Nat):Int):=by rw [wrap_i64 (by omega)];omega
  have eo:IntKind.wrap .i64 (((st*p:Nat):Int)+5)=((st*p+5:Nat):Int):=by rw [wrap_i64 (by omega)];omega
  rw [e,ei,eo]
  refine ⟨by omega,condC (fun g=>?_) (fun g=>?_)⟩
  · have g:m<q:=by simp at g;omega
    obtain ⟨n1,b2,l2,c2,ld,lb⟩:=last_load R hn (by omega) (by omega)
    rw [hlast] at ld lb
    have hm1:st*(m+1)<=st*q:=Nat.mul_le_mul_left st g
    obtain ⟨ee1,ee2,ee3⟩:=erasL_ok (k:=p+m) hlast (by rw [hz'];exact hv) (by rw [Nat.mul_comm,Nat.add_assoc,Nat.mul_add,hz'];omega)
    refine req_intro n1 ⟨_,b2,l2,c2,ld,_,lb,fun b3 l3 c3 m3 e3 E2 k2 r2 F2=>⟨k2,?_⟩⟩
    have r2:erasF (st:Int) z' ((p+m:Nat):Int)=(m3,e3):=r2
    have hl3:=F2.len
    rw [r2] at ee3
    have ee3:m3.length=st+1:=ee3
    have ht3:toN none l3=l3:=rfl
    refine condC (fun g2=>?_) (fun g2=>by simp at g2;omega)
    have hs1:st<=1024:=by have:=hv.2.1;omega
    refine tail_app F2 (by omega) (R.mono k2) hn hc (by omega) fun base' E3 cs cap3 tot3 rs3 ec k3 R3 n3 g3 g4=>?_
    rw [ec]
    have ep:chgF (erasesL p m [((st:Int),zs)]) m3=erasesL p (m+1) [((st:Int),zs)]:=by
      show _=erasL (erasesL p m [((st:Int),zs)]) (p+m)
      unfold erasL
      rw [hlast]
      show _=chgF _ (erasF (st:Int) z' ((p+m:Nat):Int)).1
      rw [r2]
    rw [ep] at R3 n3
    exact Lp_re [some 0,some 1,some 2,some 3] (ih _ cap3 tot3 rs3 E3 g (mt_ k2 k3) R3 n3 ⟨g3,g4⟩) (wkG mr_ (h6:=(by repeat' first|exact True.intro|exact rfl|exact Or.inl rfl|exact (by decide:2<4)|refine And.intro ?_ ?_)))
  · have g:m=q:=by simp at g;omega
    omega
theorem rJ33w {cap len:Nat} {ms:List (Int×List Int)} {keep:List (List Int)} (hk:BL E kb kn kc keep) (R:FLr E rs ms) (hn:ms.length=n) (hc:n<=cap/\cap*2<=tot) (hb:1<=n/\n<=100000000) (hv:validF (lastM ms).1 len/\(lastM ms).2.length=len) (hi:i<=kn/\kn<=100000) (hroom:k+(needF keep-needF (keep.take i))<=len)
  (ih:∀ (d:List Int) (n' cap' tot':Nat) (rs':List FRow) (E':Mem),keep[i]? =some d->Mem.le E E'->FLr E' rs' (writeL ms k d)->(writeL ms k d).length=n'->n'<=cap'/\cap'*2<=tot'->Lp KD 8 Tryz.f70 [1,1,1,1,0,1,0] 3 KK (sJ33w s g b lb l c a h ln lc e kb kn kc o (i+1) (k+d.length+11) n' cap' tot' rs' E'))
  (hend:i=kn->Ct KD 8 Tryz.f70 [1,1,1,1,1] 3 KK (sJ33p s g b lb l c a h ln lc e kb kn kc o k n cap tot rs E)):Rnd KD 8 Tryz.f70 [1,1,1,1,0,1,0] 3 KK (sJ33w s g b lb l c a h ln lc e kb kn kc o i k n cap tot rs E):=by
 refine sm_ (?_:bif decide ((NI i)<(NI kn)) then req (0<=(NI i)/\(NI i)<(NI kn)) (nE E kb kn kc/\∃ (base:Option Addr),∃ (len:Nat),∃ (cap_1:Nat),LoadE KD.P E 22 (VS kb kn kc) (Int.toNat (NI i)*1) (L base len cap_1)/\∃ (rs_1:List FRow),∃ (ms:List (Int×List Int)),∃ (ds:List Int),((0=3->False)/\24=24/\List.flatMap rowV rs=List.flatMap rowV rs_1/\FLr E rs_1 ms/\List.length ms=n/\(n<=cap/\cap*2<=tot)/\(1<=n/\n<=100000000000)/\Bs E base len cap_1 ds/\validF (lastM ms).fst (List.length (lastM ms).snd)/\0<=(NI k)/\Int.toNat (NI k)+len+11<=List.length (lastM ms).snd)/\∀ (n' cap' tot':Nat) (rs':List FRow) (E':Mem),Mem.le E E'->FLr E' rs' (writeL ms (Int.toNat (NI k)) ds)->Hyp (List.length (writeL ms (Int.toNat (NI k)) ds)=n')->n'<=cap'/\cap'*2<=tot'->Lp KD 8 Tryz.f70 [1,1,1,1,0,1,0] 3 KK { fr:=some (SV.loc 0 0)::oc 1 0::none::none::none::none::none::oI (NI o)::none::oI (WI ((NI k)+WI ((NI len)+11)))::no32 (no16 (no4 (no2 (oL kb kn kc::oI (NI kn)::oI (WI ((NI i)+1))::no16 (no8 (no4 (none::[]))))))),bx:=[(⟨111,.lst [SV.slc 4 0 n' cap'],1,true⟩:Box),⟨95,.lst [I s,L b l c,I (NI a),I (NI h),I g,L lb ln lc,I (NI e)],7,true⟩,⟨24,.lst [],0,false⟩,⟨24,.lst [],0,false⟩,⟨24,.vals (List.flatMap rowV rs'),tot',true⟩],E:=E':St }) else Ct KD 8 Tryz.f70 [1,1,1,1,1] 3 KK { fr:=some (SV.loc 0 0)::oc 1 0::none::none::none::none::none::oI (NI o)::none::oI (NI k)::no32 (no16 (no4 (no2 (oL kb kn kc::oI (NI kn)::oI (NI i)::oB (decide ((NI i)<(NI kn)))::no16 (no8 (no4 [])))))),bx:=[(⟨111,.lst [SV.slc 3 0 n cap],1,true⟩:Box),⟨95,.lst [I s,L b l c,I (NI a),I (NI h),I g,L lb ln lc,I (NI e)],7,true⟩,⟨24,.lst [],0,false⟩,⟨24,.vals (List.flatMap rowV rs),tot,true⟩],E:=E:St })
 delta WI NI VS no2 no4 no8 no16 no32
 obtain ⟨hv1,hv2⟩:=hv
 have hlen:len<=16384:=hv1.2.2.2.1
 refine condC (fun g=>?_) (fun g=>?_)
 ·have g:i<kn:=by simpa using g
  obtain ⟨d,ed⟩:=hk.get g
  obtain ⟨p1,b1,l1,c1,p2,p3⟩:=hk.load ed
  have hd:=p3.2.1
  have hnt:=needF_take ed
  have hnm:=needF_mono (keep:=keep) (i:=i+1)
  have hkn:=hk.len
  refine req_intro (by omega) ⟨p1,b1,l1,c1,p2,rs,ms,d,⟨by decide,rfl,rfl,R,hn,hc,by omega,p3,by rw [hv2];exact hv1,by omega,by rw [Int.toNat_natCast];omega⟩,fun n' cap' tot' rs' E1 k1 R1 n1 c1'=>?_⟩
  rw [Int.toNat_natCast] at R1 n1
  have ek:IntKind.wrap .i64 ((k:Int)+IntKind.wrap .i64 (((l1:Nat):Int)+11))=((k+d.length+11:Nat):Int):=by rw [wrap_i64 (x:=((l1:Nat):Int)+11) (by omega),wrap_i64 (by omega)];omega
  rw [ek,wrap_i64 (x:=(i:Int)+1) (by omega),show (i:Int)+1=((i+1:Nat):Int) by simp]
  exact Lp_re [some 0,some 1,some 2,some 4] (ih d n' cap' tot' rs' E1 ed k1 R1 n1 c1') (wkG mr_ (h6:=(by repeat' first|exact True.intro|exact rfl|exact Or.inl rfl|exact (by decide:2<5)|refine And.intro ?_ ?_)))
 ·have g:i=kn:=by simp at g;omega
  exact Ct_re [some 0,some 1,some 2,some 3] (hend g) (wkG mr_ (h6:=(by repeat' first|exact True.intro|exact rfl|exact Or.inl rfl|exact (by decide:2<4)|refine And.intro ?_ ?_)))
theorem pJ33 {cap:Nat} {ms:List (Int×List Int)} (R:FLr E rs ms) (hn:ms.length=n) (hc:n<=cap/\cap*2<=tot) (hb:1<=n/\n<=100000000) (hv:validF (lastM ms).1 (lastM ms).2.length) (ho:o+5<=(lastM ms).2.length) (hg:0<=g/\g<4294967296)
  (hKK:∀ (n' cap' tot':Nat) (rs':List FRow) (E':Mem),Mem.le E E'->FLr E' rs' (progL (progL ms (o+1) (storF (g+1) 4)) o [90])->(progL (progL ms (o+1) (storF (g+1) 4)) o [90]).length=n'->n'<=cap'/\cap'*2<=tot'->
   KK (I (k:Nat)) [⟨111,.lst [.slc 7 0 n' cap'],1,true⟩,⟨95,.lst [I s,L b l c,I (a:Nat),I (h:Nat),I g,L lb ln lc,I (e:Nat)],7,true⟩,⟨24,.lst [],0,false⟩,⟨24,.lst [],0,false⟩,⟨5,.vals (vB (storF (g+1) 4)),4,false⟩,⟨24,.lst [],0,false⟩,⟨5,.lst [.raw (.int .u8 90)],1,false⟩,⟨24,.vals (rs'.flatMap rowV),tot',true⟩] E'):Pc KD 8 Tryz.f70 [1,1,1,1,1] 3 KK (sJ33p s g b lb l c a h ln lc e kb kn kc o k n cap tot rs E):=by
 refine sm_ (?_:IntKind.u64=IntKind.u64/\(((0:Int)<=IntKind.wrap IntKind.u64 (WI (g+(1:Int)))/\IntKind.wrap IntKind.u64 (WI (g+(1:Int)))<(18446744073709551616:Int))/\(0:Int)<=(4:Int)/\(4:Int)<=(8:Int))/\Mem.le E E/\req ((0:Int)<=WI ((NI n)-1)/\WI ((NI n)-1)<(NI n)) (∃ (n_1:Int),∃ (base:Option Addr),∃ (len:Nat),∃ (cap_1:Nat),LoadV KD.P 24 (List.flatMap rowV rs) (0+Int.toNat (WI ((NI n)-1))*2) (SV.agg [I n_1,L base len cap_1])/\∀ (base_1:Option Addr) (E':Mem),Mem.le E E'->WinE E' base_1 [U8 (IntKind.wrap IntKind.u64 (WI (g+(1:Int))) / (16777216:Int) % (256:Int)),U8 (IntKind.wrap IntKind.u64 (WI (g+(1:Int))) / (65536:Int) % (256:Int)),U8 (IntKind.wrap IntKind.u64 (WI (g+(1:Int))) / (256:Int) % (256:Int)),U8 (IntKind.wrap IntKind.u64 (WI (g+(1:Int))) / (1:Int) % (256:Int))]->∃ (zs:List Int),∃ (ds:List Int),Bs E' base len cap_1 zs/\Bs E' (Option.map (fun (x:Addr)=>Addr.add x 0) base_1) 4 4 ds/\∀ (b':Option Addr) (l' c':Nat) (ms:List (Int×List Int)) (e_1:Int) (E'_1:Mem),Mem.le E' E'_1->Hyp (progF n_1 zs (WI ((NI o)+1)) ds=(ms,e_1))->FL E'_1 b' l' c' ms->Sx.Alike al2 (bif decide ((NI l')>0) then req (l'<=c') (req ((0:Int)<=(1:Int)/\1<=(NI (toN none l'))) (∀ (base':Option Addr) (E':Mem),Mem.le E'_1 E'->(∀ (cs:List Value),E'_1 (VS b' l' c') cs->E' (VS base' (toN none l'-1) (toN none c'-1)) (List.take ((toN none l'-1)*2) (List.drop 2 cs)))->Option.isNone base'=Option.isNone b'->∃ (cs:List Value),(cs=[]\/E' (VS base' (toN none l'-1) (toN none c'-1)) cs)/\(toN none l'-1)*2<=List.length cs/\(∀ (x:Value),List.Mem x cs->Value.oneCell' x=true)/\n*2<=List.length (Row.cells (Row.vals (List.flatMap rowV rs)))/\cap*2<=tot/\n<=cap/\req ((n+(toN none l'-1))*32<=140737488355328) (∀ (cap' tot':Nat),n+(toN none l'-1)<=cap'->cap'*2<=tot'->req ((0:Int)<=WI ((NI (n+(toN none l'-1)))-(1:Int))/\WI ((NI (n+(toN none l'-1)))-(1:Int))<(NI (n+(toN none l'-1)))) (∃ (n_2:Int),∃ (base:Option Addr),∃ (len:Nat),∃ (cap:Nat),LoadV KD.P 24 (List.take (n*2) (List.flatMap rowV rs)++List.take ((toN none l'-1)*2) cs) (0+Int.toNat (WI ((NI (n+(toN none l'-(1:Nat))))-(1:Int)))*2) (SV.agg [I n_2,L base len cap])/\∀ (base_2:Option Addr) (E'_2:Mem),Mem.le E' E'_2->WinE E'_2 base_2 [U8 90]->∃ (zs:List Int),∃ (ds:List Int),Bs E'_2 base len cap zs/\Bs E'_2 (Option.map (fun (x:Addr)=>Addr.add x 0) base_2) 1 1 ds/\∀ (b':Option Addr) (l'_1 c':Nat) (ms:List (Int×List Int)) (e_2:Int) (E':Mem),Mem.le E'_2 E'->Hyp (progF n_2 zs (NI o) ds=(ms,e_2))->FL E' b' l'_1 c' ms->Sx.Alike al2 (bif decide ((NI l'_1)>0) then req (l'_1<=c') (req ((0:Int)<=(1:Int)/\1<=(NI (toN none l'_1))) (∀ (base':Option Addr) (E'_3:Mem),Mem.le E' E'_3->(∀ (cs:List Value),E' (VS b' l'_1 c') cs->E'_3 (VS base' (toN none l'_1-(1:Nat)) (toN none c'-(1:Nat))) (List.take ((toN none l'_1-(1:Nat))*(2:Nat)) (List.drop 2 cs)))->Option.isNone base'=Option.isNone b'->∃ (cs_1:List Value),(cs_1=[]\/E'_3 (VS base' (toN none l'_1-(1:Nat)) (toN none c'-(1:Nat))) cs_1)/\(toN none l'_1-(1:Nat))*(2:Nat)<=List.length cs_1/\(∀ (x:Value),List.Mem x cs_1->Value.oneCell' x=true)/\(n+(toN none l'-(1:Nat)))*(2:Nat)<=List.length (Row.cells (Row.vals (List.take (n*(2:Nat)) (List.flatMap rowV rs)++List.take ((toN none l'-(1:Nat))*(2:Nat)) cs)))/\cap'*(2:Nat)<=tot'/\n+(toN none l'-(1:Nat))<=cap'/\req ((n+(toN none l'-(1:Nat))+(toN none l'_1-(1:Nat)))*(32:Nat)<=(140737488355328:Nat)) (∀ (cap' tot':Nat),n+(toN none l'-(1:Nat))+(toN none l'_1-(1:Nat))<=cap'->cap'*(2:Nat)<=tot'->KK (I (NI k)) [⟨(111:Nat),Row.lst [SV.slc 7 0 (n+(toN none l'-(1:Nat))+(toN none l'_1-(1:Nat))) cap'],(1:Nat),true⟩,⟨(95:Nat),Row.lst [I s,L b l c,I (NI a),I (NI h),I g,L lb ln lc,I (NI e)],(7:Nat),true⟩,⟨(24:Nat),Row.lst [],(0:Nat),false⟩,⟨(24:Nat),Row.lst [],(0:Nat),false⟩,⟨(5:Nat),Row.vals [U8 (IntKind.wrap IntKind.u64 (WI (g+(1:Int))) / (16777216:Int) % (256:Int)),U8 (IntKind.wrap IntKind.u64 (WI (g+(1:Int))) / (65536:Int) % (256:Int)),U8 (IntKind.wrap IntKind.u64 (WI (g+(1:Int))) / (256:Int) % (256:Int)),U8 (IntKind.wrap IntKind.u64 (WI (g+(1:Int))) / (1:Int) % (256:Int))],(4:Nat),false⟩,⟨(24:Nat),Row.lst [],(0:Nat),false⟩,⟨(5:Nat),Row.lst [SV.raw (U8 90)],(1:Nat),false⟩,⟨(24:Nat),Row.vals (List.take ((n+(toN none l'-(1:Nat)))*(2:Nat)) (List.take (n*(2:Nat)) (List.flatMap rowV rs)++List.take ((toN none l'-(1:Nat))*(2:Nat)) cs)++List.take ((toN none l'_1-(1:Nat))*(2:Nat)) cs_1),tot',true⟩] E'_3))) else KK (I (NI k)) [⟨(111:Nat),Row.lst [SV.slc 5 0 (n+(toN none l'-(1:Nat))) cap'],(1:Nat),true⟩,⟨(95:Nat),Row.lst [I s,L b l c,I (NI a),I (NI h),I g,L lb ln lc,I (NI e)],(7:Nat),true⟩,⟨(24:Nat),Row.lst [],(0:Nat),false⟩,⟨(24:Nat),Row.lst [],(0:Nat),false⟩,⟨(5:Nat),Row.vals [U8 (IntKind.wrap IntKind.u64 (WI (g+(1:Int))) / (16777216:Int) % (256:Int)),U8 (IntKind.wrap IntKind.u64 (WI (g+(1:Int))) / (65536:Int) % (256:Int)),U8 (IntKind.wrap IntKind.u64 (WI (g+(1:Int))) / (256:Int) % (256:Int)),U8 (IntKind.wrap IntKind.u64 (WI (g+(1:Int))) / (1:Int) % (256:Int))],(4:Nat),false⟩,⟨(24:Nat),Row.vals (List.take (n*(2:Nat)) (List.flatMap rowV rs)++List.take ((toN none l'-(1:Nat))*(2:Nat)) cs),tot',true⟩,⟨(5:Nat),Row.lst [SV.raw (U8 90)],(1:Nat),false⟩] E'))))) else req ((0:Int)<=WI ((NI n)-1)/\WI ((NI n)-1)<(NI n)) (∃ (n_2:Int),∃ (base:Option Addr),∃ (len:Nat),∃ (cap_2:Nat),LoadV KD.P 24 (List.flatMap rowV rs) (0+Int.toNat (WI ((NI n)-1))*2) (SV.agg [I n_2,L base len cap_2])/\∀ (base_2:Option Addr) (E':Mem),Mem.le E'_1 E'->WinE E' base_2 [U8 90]->∃ (zs:List Int),∃ (ds:List Int),Bs E' base len cap_2 zs/\Bs E' (Option.map (fun (x:Addr)=>Addr.add x 0) base_2) 1 1 ds/\∀ (b':Option Addr) (l' c':Nat) (ms:List (Int×List Int)) (e_2:Int) (E'_2:Mem),Mem.le E' E'_2->Hyp (progF n_2 zs (NI o) ds=(ms,e_2))->FL E'_2 b' l' c' ms->Sx.Alike al2 (bif decide ((NI l')>0) then req (l'<=c') (req ((0:Int)<=(1:Int)/\1<=(NI (toN none l'))) (∀ (base':Option Addr) (E':Mem),Mem.le E'_2 E'->(∀ (cs:List Value),E'_2 (VS b' l' c') cs->E' (VS base' (toN none l'-1) (toN none c'-1)) (List.take ((toN none l'-1)*2) (List.drop 2 cs)))->Option.isNone base'=Option.isNone b'->∃ (cs:List Value),(cs=[]\/E' (VS base' (toN none l'-1) (toN none c'-1)) cs)/\(toN none l'-1)*2<=List.length cs/\(∀ (x:Value),List.Mem x cs->Value.oneCell' x=true)/\n*2<=List.length (Row.cells (Row.vals (List.flatMap rowV rs)))/\cap*(2:Nat)<=tot/\n<=cap/\req ((n+(toN none l'-(1:Nat)))*(32:Nat)<=(140737488355328:Nat)) (∀ (cap' tot':Nat),n+(toN none l'-(1:Nat))<=cap'->cap'*(2:Nat)<=tot'->KK (I (NI k)) [⟨(111:Nat),Row.lst [SV.slc 6 0 (n+(toN none l'-(1:Nat))) cap'],(1:Nat),true⟩,⟨(95:Nat),Row.lst [I s,L b l c,I (NI a),I (NI h),I g,L lb ln lc,I (NI e)],(7:Nat),true⟩,⟨(24:Nat),Row.lst [],(0:Nat),false⟩,⟨(24:Nat),Row.lst [],(0:Nat),false⟩,⟨(5:Nat),Row.vals [U8 (IntKind.wrap IntKind.u64 (WI (g+(1:Int))) / (16777216:Int) % (256:Int)),U8 (IntKind.wrap IntKind.u64 (WI (g+(1:Int))) / (65536:Int) % (256:Int)),U8 (IntKind.wrap IntKind.u64 (WI (g+(1:Int))) / (256:Int) % (256:Int)),U8 (IntKind.wrap IntKind.u64 (WI (g+(1:Int))) / (1:Int) % (256:Int))],(4:Nat),false⟩,⟨(5:Nat),Row.lst [SV.raw (U8 90)],(1:Nat),false⟩,⟨(24:Nat),Row.vals (List.take (n*(2:Nat)) (List.flatMap rowV rs)++List.take ((toN none l'-(1:Nat))*(2:Nat)) cs),tot',true⟩] E'))) else KK (I (NI k)) [⟨111,.lst [SV.slc 3 0 n cap],1,true⟩,⟨95,.lst [I s,L b l c,I (NI a),I (NI h),I g,L lb ln lc,I (NI e)],7,true⟩,⟨24,.lst [],0,false⟩,⟨24,.vals (List.flatMap rowV rs),tot,true⟩,⟨5,.vals [U8 (IntKind.wrap IntKind.u64 (WI (g+(1:Int))) / (16777216:Int) % (256:Int)),U8 (IntKind.wrap IntKind.u64 (WI (g+(1:Int))) / (65536:Int) % (256:Int)),U8 (IntKind.wrap IntKind.u64 (WI (g+(1:Int))) / (256:Int) % (256:Int)),U8 (IntKind.wrap IntKind.u64 (WI (g+(1:Int))) / (1:Int) % (256:Int))],4,false⟩,⟨5,.lst [SV.raw (U8 90)],1,false⟩] E'_2)))))
 delta WI NI U8 VS
 have hvl:(lastM ms).2.length<=16384:=hv.2.2.2.1
 have eg:IntKind.wrap .u64 (IntKind.wrap .i64 (g+1))=g+1:=by rw [wrap_i64 (by omega),wu64' (by omega)]
 have eo:IntKind.wrap .i64 ((o:Int)+1)=((o+1:Nat):Int):=by rw [wrap_i64 (by omega)];omega
 rw [eg,eo]
 refine ⟨rfl,⟨⟨by omega,by omega⟩,by decide,by decide⟩,mr_,?_⟩
 obtain ⟨n1,b2,l2,c2,ld,lb⟩:=last_load R hn hb.1 (by omega)
 refine req_intro n1 ⟨_,b2,l2,c2,ld,fun base1 E1 k1 w1=>⟨_,storF (g+1) 4,lb.mono k1,Bs.win (zs:=storF (g+1) 4) w1 rfl (storF_len _ _) (Nat.le_refl _) (storF_byte _ _),fun b3 l3 c3 m3 e3 E2 k2 r2 F2=>alike ?_⟩⟩
 have r2:progF (lastM ms).1 (lastM ms).2 ((o+1:Nat):Int) (storF (g+1) 4)=(m3,e3):=r2
 have hl3:m3.length=5:=by
  rw [progF_mk hv (by omega) (by rw [storF_len];omega)] at r2
  rw [← (Prod.mk.inj r2).1,mems_len,storF_len]
 have hl3':=F2.len
 have ht3:toN none l3=l3:=rfl
 refine condC (fun _=>?_) (fun g=>by simp at g;omega)
 refine tail_app F2 (by omega) (R.mono (mt_ k1 k2)) hn hc (by omega) fun base' E3 cs cap3 tot3 rs3 ec k3 R3 n3 g1 g2=>?_
 have ep:chgF ms m3=progL ms (o+1) (storF (g+1) 4):=by
  rw [show progL ms (o+1) (storF (g+1) 4)=chgF ms (progF (lastM ms).1 (lastM ms).2 ((o+1:Nat):Int) (storF (g+1) 4)).1 from rfl,r2]
 rw [ep] at R3 n3
 obtain ⟨pl,pn⟩:=progL_ok (l:=ms) (a:=o+1) (ds:=storF (g+1) 4) hv (by rw [storF_len];omega) (by rw [storF_len];omega)
 have hv2:validF (lastM (progL ms (o+1) (storF (g+1) 4))).1 (lastM (progL ms (o+1) (storF (g+1) 4))).2.length:=by rw [pl];simp only [stp_len];exact hv
 have hz2:(lastM (progL ms (o+1) (storF (g+1) 4))).2.length=(lastM ms).2.length:=by rw [pl];simp only [stp_len]
 rw [ec]
 obtain ⟨n4,b4,l4,c4,ld4,lb4⟩:=last_load R3 n3 (by omega) (by omega)
 refine req_intro n4 ⟨_,b4,l4,c4,ld4,fun base5 E5 k5 w5=>⟨_,[90],lb4.mono k5,Bs.win (zs:=[90]) w5 rfl rfl (Nat.le_refl _) (by decide),fun b6 l6 c6 m6 e6 E6 k6 r6 F6=>alike ?_⟩⟩
 have r6:progF (lastM (progL ms (o+1) (storF (g+1) 4))).1 (lastM (progL ms (o+1) (storF (g+1) 4))).2 (o:Int) [90]=(m6,e6):=r6
 have hl6:m6.length=2:=by
  rw [progF_mk hv2 (by omega) (by simp only [List.length_singleton];omega)] at r6
  rw [← (Prod.mk.inj r6).1,mems_len];rfl
 have hl6':=F6.len
 refine condC (fun _=>?_) (fun g=>by simp at g;omega)
 refine tail_app F6 (by omega) (R3.mono (mt_ k5 k6)) n3 ⟨g1,g2⟩ (by omega) fun base7 E7 cs7 cap7 tot7 rs7 ec7 k7 R7 n7 g3 g4=>?_
 rw [ec7]
 have ep7:chgF (progL ms (o+1) (storF (g+1) 4)) m6=progL (progL ms (o+1) (storF (g+1) 4)) o [90]:=by
  rw [show progL (progL ms (o+1) (storF (g+1) 4)) o [90]=chgF (progL ms (o+1) (storF (g+1) 4)) (progF (lastM (progL ms (o+1) (storF (g+1) 4))).1 (lastM (progL ms (o+1) (storF (g+1) 4))).2 (o:Int) [90]).1 from rfl,r6]
 rw [ep7] at R7 n7
 exact hKK _ cap7 tot7 rs7 E7 (mt_ k1 (mt_ k2 (mt_ k3 (mt_ k5 (mt_ k6 k7))))) R7 n7 ⟨g3,g4⟩
theorem lJ33e {st q p:Nat} {g:Int} {b lb:Option Addr} {l c a ln lc e:Nat} {kb:Option Addr} {kn kc:Nat} {zs:List Int} {KK:KT} (hst:1<=st/\zs.length=2*(st*q)/\p<=q) (hv:validF st zs.length) {E0:Mem}
  (hend:∀ (n' cap' tot':Nat) (rs':List FRow) (E':Mem),Mem.le E0 E'->FLr E' rs' (erasesL p q [((st:Int),zs)])->(erasesL p q [((st:Int),zs)]).length=n'->n'<=cap'/\cap'*2<=tot'->Lp KD 8 Tryz.f70 [1,1,1,1,0,1,0] 3 KK (sJ33w st g b lb l c a (st*q) ln lc e kb kn kc (st*p) 0 (st*p+5) n' cap' tot' rs' E')):
  ∀ {r m n cap tot:Nat} {rs:List FRow} {E:Mem},m+r=q->Mem.le E0 E->FLr E rs (erasesL p m [((st:Int),zs)])->(erasesL p m [((st:Int),zs)]).length=n->(n<=cap/\cap*2<=tot)->Lp KD 8 Tryz.f70 [1,1,0,1,0] 3 KK (sJ33e st g b lb l c a (st*q) ln lc e kb kn kc (st*p) (p+m) n cap tot rs E)
 | 0,m,n,cap,tot,rs,E,hr,hE,R,hn,hc=>Lp_ind (ι:=Unit) okKD (fun _=>sJ33e st g b lb l c a (st*q) ln lc e kb kn kc (st*p) (p+m) n cap tot rs E) (fun _=>0) (fun _ _=>rJ33e ⟨hst.1,hst.2.1,hst.2.2,by omega⟩ hv R hn hc (fun _ _ _ _ _ g=>by omega) (fun g=>by subst g;exact hend n cap tot rs E hE R hn hc)) ()
 | r+1,m,n,cap,tot,rs,E,hr,hE,R,hn,hc=>Lp_ind (ι:=Unit) okKD (fun _=>sJ33e st g b lb l c a (st*q) ln lc e kb kn kc (st*p) (p+m) n cap tot rs E) (fun _=>0) (fun _ _=>rJ33e ⟨hst.1,hst.2.1,hst.2.2,by omega⟩ hv R hn hc (fun n' cap' tot' rs' E' g k1 R1 n1 c1=>lJ33e hst hv hend (r:=r) (by omega) (mt_ hE k1) R1 n1 c1) (fun g=>by omega)) ()
theorem lJ33w {s g:Int} {b lb:Option Addr} {l c a h ln lc e:Nat} {kb:Option Addr} {kn kc:Nat} {o k0 len:Nat} {l0:List (Int×List Int)} {keep:List (List Int)} {KK:KT} {E0:Mem} (hk:BL E0 kb kn kc keep) (hkn:kn<=1000) (hv:validF (lastM l0).1 len/\(lastM l0).2.length=len) (hroom:k0+needF keep<=len) (hb0:1<=l0.length/\l0.length<=1000000)
  (hend:∀ (n' cap' tot':Nat) (rs':List FRow) (E':Mem),Mem.le E0 E'->FLr E' rs' (writesL k0 l0 keep).1->(writesL k0 l0 keep).1.length=n'->n'<=cap'/\cap'*2<=tot'->validF (lastM (writesL k0 l0 keep).1).1 len/\(lastM (writesL k0 l0 keep).1).2.length=len->1<=n'/\n'<=2000000->Ct KD 8 Tryz.f70 [1,1,1,1,1] 3 KK (sJ33p s g b lb l c a h ln lc e kb kn kc o (k0+needF keep) n' cap' tot' rs' E')):
  ∀ {r i n cap tot:Nat} {rs:List FRow} {E:Mem},i+r=kn->Mem.le E0 E->FLr E rs (writesL k0 l0 (keep.take i)).1->(writesL k0 l0 (keep.take i)).1.length=n->(n<=cap/\cap*2<=tot)->(writesL k0 l0 (keep.take i)).2=k0+needF (keep.take i)->n=l0.length+needF (keep.take i)->validF (lastM (writesL k0 l0 (keep.take i)).1).1 len/\(lastM (writesL k0 l0 (keep.take i)).1).2.length=len->
   Lp KD 8 Tryz.f70 [1,1,1,1,0,1,0] 3 KK (sJ33w s g b lb l c a h ln lc e kb kn kc o i (k0+needF (keep.take i)) n cap tot rs E)
 | r,i,n,cap,tot,rs,E,hr,hE,R,hn,hc,h2,h3,h4=>by
  have hlen:len<=16384:=hv.1.2.2.2.1
  have hm:=needF_mono (keep:=keep) (i:=i)
  have hkl:=hk.len
  refine Lp_ind (ι:=Unit) okKD (fun _=>sJ33w s g b lb l c a h ln lc e kb kn kc o i (k0+needF (keep.take i)) n cap tot rs E) (fun _=>0) (fun _ _=>rJ33w (hk.mono RB_ok hE) R hn hc (by omega) h4 ⟨by omega,by omega⟩ (by omega) (fun d n' cap' tot' rs' E' ed k1 R1 n1 c1=>?_) (fun g=>?_)) ()
  ·have hi:i<kn:=by rw [← hkl];exact (List.getElem?_eq_some_iff.1 ed).1
   have hnt:=needF_take ed
   have hm1:=needF_mono (keep:=keep) (i:=i+1)
   obtain ⟨r,rfl⟩:∃ r',r=r'+1:=⟨r-1,by omega⟩
   have hs:=writesL_succ (k:=k0) (l:=l0) ed
   obtain ⟨w1,w2,w3⟩:=writeL_ok (l:=(writesL k0 l0 (keep.take i)).1) (a:=k0+needF (keep.take i)) (ds:=d) (by rw [h4.2];exact h4.1) (by rw [h4.2];omega)
   have hs1:(writesL k0 l0 (keep.take (i+1))).1=writeL (writesL k0 l0 (keep.take i)).1 (k0+needF (keep.take i)) d:=by rw [hs,h2]
   have hs2:(writesL k0 l0 (keep.take (i+1))).2=k0+needF (keep.take (i+1)):=by rw [hs,h2,hnt];show _+_+_=_;omega
   have key:=lJ33w hk hkn hv hroom hb0 hend (r:=r) (i:=i+1) (n:=n') (cap:=cap') (tot:=tot') (rs:=rs') (E:=E') (by omega) (mt_ hE k1) (by rw [hs1];exact R1) (by rw [hs1];exact n1) c1 hs2 (by rw [← n1,w3,hn];omega) (by rw [hs1,w1,w2];exact h4)
   rw [hnt,← Nat.add_assoc,← Nat.add_assoc] at key
   exact key
  ·subst g
   have et:keep.take i=keep:=List.take_of_length_le (by omega)
   rw [et] at R hn h4 h3
   rw [et]
   exact hend n cap tot rs E hE R hn hc h4 ⟨by omega,by omega⟩
theorem usedF_gen {s:Int} (hz:∀ z∈zs,0<=z/\z<=255) (hu:usedF h zs=((a:Int),g)):0<=g/\g<4294967296:=by
 have h0:=genF_bd hz 0
 have h1:=genF_bd hz h
 unfold usedF at hu
 by_cases q0:zs.getD 0 0=90
 ·rw [if_pos q0] at hu
  simp only at hu
  split at hu
  ·have:=(Prod.mk.inj hu).2;omega
  ·have:=(Prod.mk.inj hu).2;omega
 ·rw [if_neg q0] at hu
  simp only at hu
  split at hu
  ·have:=(Prod.mk.inj hu).2;omega
  ·have:=(Prod.mk.inj hu).1;omega
theorem b33 {cap:Nat} {keep:List (List Int)} (R:FLr E rs [(s,zs)]) (hzb:∀ z∈zs,0<=z/\z<=255) (hct:1<=cap/\cap*2<=tot) (hA:areaF s zs.length≠0) (hu:usedF (areaF s zs.length) zs=((a:Int),g)) (hk:BL E kb kn kc keep) (hkn:kn<=1000) (hroom:5+needF keep<=areaF s zs.length)
  (h:∀ (n' cap' tot':Nat) (rs':List FRow) (E':Mem),Mem.le E E'->FLr E' rs' (rewL s zs (areaF s zs.length) a g keep)->(rewL s zs (areaF s zs.length) a g keep).length=n'->n'<=cap'/\cap'*2<=tot'->
   KK (I (areaF s zs.length-a+5+needF keep:Nat)) [⟨111,.lst [.slc 7 0 n' cap'],1,true⟩,⟨95,.lst [I s,L b l c,I (a:Nat),I (areaF s zs.length:Nat),I g,L lb ln lc,I (e:Nat)],7,true⟩,⟨24,.lst [],0,false⟩,⟨24,.lst [],0,false⟩,⟨5,.vals (vB (storF (g+1) 4)),4,false⟩,⟨24,.lst [],0,false⟩,⟨5,.lst [.raw (.int .u8 90)],1,false⟩,⟨24,.vals (rs'.flatMap rowV),tot',true⟩] E'):
  EntB KD 8 Tryz.f70 [.loc 0 0,.loc 1 0,L kb kn kc] [⟨111,.lst [.slc 2 0 1 cap],1,true⟩,⟨95,.lst [I s,L b l c,I (a:Nat),I (areaF s zs.length:Nat),I g,L lb ln lc,I (e:Nat)],7,true⟩,⟨24,.vals (rs.flatMap rowV),tot,true⟩] E KK:=by
 refine sm_ (?_:(s=(0:Int)->False)/\Lp KD 8 Tryz.f70 [1,1,0,1,0] 3 KK { fr:=some (SV.loc 0 0)::oc 1 0::oL kb kn kc::none::none::none::oI 0::oI (WI ((NI (areaF s (List.length zs)))-(NI a)))::oI (WI (Int.tdiv (WI ((NI (areaF s (List.length zs)))-(NI a))) s))::none::none::none::oc 1 0::oc 1 0::oc 1 3::oI (NI (areaF s (List.length zs)))::oc 1 0::oc 1 0::oc 1 2::oI (NI a)::oI (WI ((NI (areaF s (List.length zs)))-(NI a)))::oI (WI ((NI (areaF s (List.length zs)))-(NI a)))::oc 1 0::oc 1 0::oc 1 0::oc 1 0::oI s::oI (WI (Int.tdiv (WI ((NI (areaF s (List.length zs)))-(NI a))) s))::no32 (no32 (no4 [])),bx:=[(⟨111,.lst [SV.slc 2 0 1 cap],1,true⟩:Box),⟨95,.lst [I s,L b l c,I (NI a),I (NI (areaF s (List.length zs))),I g,L lb ln lc,I (NI e)],7,true⟩,⟨24,.vals (List.flatMap rowV rs),tot,true⟩],E:=E:St })
 delta WI NI no4 no32
 obtain ⟨st,q,rfl,hq,hst1,hst2,hl⟩:=areaF_div hA
 obtain ⟨a1',hv,a3,a4,a5,a6⟩:=areaF_ok hA
 have ha:=used_ok hu
 have hg:=usedF_gen (s:=st) hzb hu
 obtain ⟨p,hp,hpq⟩:∃ p,areaF st zs.length-a=st*p/\p<=q:=by
  rcases ha with rfl|rfl
  ·exact ⟨q,by omega,Nat.le_refl _⟩
  ·exact ⟨0,by omega,Nat.zero_le _⟩
 have e1:IntKind.wrap .i64 (((areaF st zs.length:Nat):Int)-(a:Int))=((st*p:Nat):Int):=by rw [wrap_i64 (by omega)];omega
 have er:rewL st zs (areaF st zs.length) a g keep=progL (progL (writesL (st*p+5) (erasesL p q [((st:Int),zs)]) keep).1 (st*p+1) (storF (g+1) 4)) (st*p) [90]:=by
  unfold rewL
  rw [hp,hq,Int.toNat_natCast,Nat.mul_div_cancel_left _ hst1,Nat.mul_div_cancel_left _ hst1]
 have hpq2:st*p<=st*q:=Nat.mul_le_mul_left st hpq
 have hlen2:zs.length=2*(st*q):=by omega
 obtain ⟨z',ez1,ez2,ez3⟩:=erasesL_ok (st:=st) (p:=p) (m:=q) hv (by rw [Nat.mul_comm,Nat.mul_add];omega)
 rw [Nat.mul_comm q st] at ez3
 have fin:∀ (n' cap' tot':Nat) (rs':List FRow) (E':Mem),Mem.le E E'->FLr E' rs' (erasesL p q [((st:Int),zs)])->(erasesL p q [((st:Int),zs)]).length=n'->n'<=cap'/\cap'*2<=tot'->Lp KD 8 Tryz.f70 [1,1,1,1,0,1,0] 3 KK (sJ33w st g b lb l c a (st*q) ln lc e kb kn kc (st*p) 0 (st*p+5) n' cap' tot' rs' E'):=
  fun n' cap' tot' rs' E' k2 R2 n2 c2=>lJ33w (len:=zs.length) (k0:=st*p+5) (l0:=erasesL p q [((st:Int),zs)]) hk hkn ⟨by rw [ez1];exact hv,by rw [ez1];exact ez2⟩ (by omega) ⟨by omega,by omega⟩
   (fun n3 cap3 tot3 rs3 E3 q3 R3 l3 c3 v3 b3=>Ct_intro okKD (pJ33 R3 l3 c3 ⟨b3.1,by omega⟩ (by rw [v3.2];exact v3.1) (by rw [v3.2];omega) hg (fun n4 cap4 tot4 rs4 E4 q4 R4 l4 c4=>by
    rw [← er] at R4 l4
    have:=h n4 cap4 tot4 rs4 E4 (mt_ q3 q4) R4 l4 c4
    rw [hp,hq] at this
    exact this))) (r:=kn) (i:=0) (by omega) k2 R2 n2 c2 rfl (by rw [← n2];rfl) ⟨by show validF (lastM (erasesL p q [((st:Int),zs)])).1 _;rw [ez1];exact hv,by show (lastM (erasesL p q [((st:Int),zs)])).2.length=_;rw [ez1];exact ez2⟩
 have hq0:0<q:=by
  rcases Nat.eq_zero_or_pos q with hq0|hq0
  ·subst hq0;omega
  ·exact hq0
 have key:Lp KD 8 Tryz.f70 [1,1,0,1,0] 3 KK (sJ33a st g b lb l c a (st*q) ln lc e kb kn kc (st*p) (p+0) 1 cap tot rs E):=
  Lp_ind (ι:=Unit) okKD (fun _=>sJ33a st g b lb l c a (st*q) ln lc e kb kn kc (st*p) (p+0) 1 cap tot rs E) (fun _=>0) (fun _ _=>rJ33a ⟨hst1,hlen2,hpq,hq0⟩ hv R rfl hct (fun n' cap' tot' rs' E' g k1 R1 n1 c1=>lJ33e ⟨hst1,hlen2,hpq⟩ hv fin (r:=q-1) (m:=1) (by omega) k1 R1 n1 c1)) ()
 rw [e1,div_lem hst1 (by omega)]
 rw [hq]
 exact ⟨by omega,Lp_re [some 0,some 1,some 2] key (wkG mr_)⟩
theorem all_take (hl:zs.length=l) (q:∀ j,j<l->zs.getD j 0=255):zs.all (fun x=>decide (x=255))=true:=by
 rw [List.all_eq_true]
 intro x hx
 obtain ⟨i,hi,rfl⟩:=List.mem_iff_getElem.1 hx
 have:=q i (by omega)
 rw [List.getD_eq_getElem?_getD,List.getElem?_eq_getElem hi] at this
 simpa using this
theorem all_not (hi:i<zs.length) (q:zs.getD i 0≠255):zs.all (fun x=>decide (x=255))=false:=by
 rw [← Bool.not_eq_true,List.all_eq_true]
 intro hx
 have:=hx _ (List.getElem_mem hi)
 exact q (by rw [List.getD_eq_getElem?_getD,List.getElem?_eq_getElem hi];simpa using this)
noncomputable def KE:Cx:={ P:=Tryz.prog,inl:=fun f=>List.contains [88] f,tab:=fun _ _ _ _=>False,isB:=fun _=>false,tabB:=fun _ _ _ _ _=>False,opt:={ unroll:=0,carry:=[8] },muts:=mutsD }
theorem okKE:CxOK KE:=CxOK.four (fun _ _ _ _ h=>h.elim) (by kernel_rfl) (okInl (by kernel_rfl)) (fun _ _ _ _ _ h=>h.elim)
def sh63 (b:Option Addr) (l:Nat) (c:Nat) (zs:List Int) (i:Nat) (E:Mem):St:=⟨[oL b l c,some (.clo 88 [] [])]++nn 5++[oI (l:Nat),oI (i:Nat)]++nn 10,[],E⟩
theorem rnd63 (hz:Bs E b l c zs) (hl:l<=100000) (hi:i<=l/\(∀ j,j<i->zs.getD j 0=255)) (hE:Mem.le E0 E) (h:∀ r:Int,decide (r>=0)=(!(zs.all (fun x=>decide (x=255))))->KK (I r) [] E)
  (ih:(i<l/\zs.getD i 0=255)->Lp KE 8 Tryz.f102 [1,0,1,0] 0 KK (sh63 b l c zs (i+1) E)):Rnd KE 8 Tryz.f102 [1,0,1,0] 0 KK (sh63 b l c zs i E):=by
 refine sm_ (?_:bif decide ((NI i)<(NI l)) then req (0<=(NI i)/\(NI i)<(NI l)) (nE E b l c/\∃ (n:Int),LoadE KE.P E 5 (VS b l c) (Int.toNat (NI i)*1) (SV.raw (U8 n))/\Mem.le E E/\bif n !=(255:Int) then KK (I (NI i)) [] E else Lp KE 8 Tryz.f102 [1,0,1,0] 0 KK { fr:=some (L b l c)::some (SV.clo 88 [] [])::none::none::none::none::none::oI (NI l)::oI (WI ((NI i)+1))::no8 (no2 []),bx:=[],E:=E:St }) else KK (I (-1)) [] E)
 delta WI NI U8 VS no2 no8
 have hn:=hz.2.1
 obtain ⟨i1,i2⟩:=hi
 refine condC (fun g=>?_) (fun g=>?_)
 ·have g:i<l:=by simpa using g
  refine req_intro (by omega) ⟨hz.ne g,zs.getD i 0,hz.load rfl g,mr_,condC (fun q=>?_) (fun q=>?_)⟩
  ·have q:zs.getD i 0≠255:=by simpa only [bne_iff_ne] using q
   exact h _ (by rw [all_not (by omega) q];simp)
  ·have q:zs.getD i 0=255:=by simpa only [bne_eq_false_iff_eq] using q
   rw [wrap_i64 (x:=(i:Int)+1) (by omega),show (i:Int)+1=((i+1:Nat):Int) by simp]
   exact Lp_re [] (ih ⟨g,q⟩) (wkG mr_)
 ·have g:¬ i<l:=by simpa using g
  exact h _ (by rw [all_take hn (fun j hj=>i2 j (by omega))];rfl)
theorem lp63 (hz:Bs E b l c zs) (hl:l<=100000) (hi:i<=l/\(∀ j,j<i->zs.getD j 0=255)) (hE:Mem.le E0 E) (h:∀ r:Int,decide (r>=0)=(!(zs.all (fun x=>decide (x=255))))->KK (I r) [] E):Lp KE 8 Tryz.f102 [1,0,1,0] 0 KK (sh63 b l c zs i E):=
 Lp_ind okKE (fun q0:{i:Nat//i<=l/\(∀ j,j<i->zs.getD j 0=255)}=>sh63 b l c zs q0.1 E) (fun q0=>l-q0.1) (fun q0 ih=>rnd63 hz hl q0.2 hE h fun g=>ih ⟨q0.1+1,by have q:=q0.2;refine ⟨by omega,fun j h1=>?_⟩;by_cases hj:j=q0.1;exact hj ▸ g.2;exact q.2 j (by omega)⟩ (by show l-(_+1)<l-_;have:=q0.2;omega)) ⟨i,hi⟩
theorem b63 (hz:Bs E b l c zs) (hl:l<=100000) (h:∀ r:Int,decide (r>=0)=(!(zs.all (fun x=>decide (x=255))))->KK (I r) [] E):EntB KE 8 Tryz.f102 [L b l c,.clo 88 [] []] [] E KK:=by
 refine sm_ (?_:Lp KE 8 Tryz.f102 [1,0,1,0] 0 KK { fr:=[oL b l c,some (SV.clo 88 [] []),none,none,none,none,oL b l c,oI (↑l:Int),oI (0:Int),none,none,none,none,none,none,none,none,none,none],bx:=[],E:=E:St })
 exact Lp_re [] (lp63 (i:=0) hz hl ⟨Nat.zero_le _,fun j hj=>by omega⟩ mr_ h) (wkG mr_)
noncomputable def tabJ29:FuncId->List SV->Mem->(SV->Mem->Prop)->Prop:=fun f args E K=>match f with
 | 81=>d1 args fun x0=>dC x0 fun l1=>d2 l1 fun x0_0 x0_1=>dI x0_0 fun a1=>dS x0_1 fun b2 l3 c4=>(K (B (decide (validF a1 l3))) E)
 | 82=>d1 args fun x0=>dS x0 fun b1 l2 c3=>∃ (zs:List Int),Bs E b1 l2 c3 zs/\l2<=4/\(K (I (numF zs)) E)
 | _=>False
theorem tabJ29_ok:TabOK Tryz.prog tabJ29:=by
 intro f args E K h
 unfold tabJ29 at h
 split at h
 ·replace h:=d1_elim h
  obtain ⟨x0,rfl,h⟩:=h
  replace h:=dC_elim h
  obtain ⟨l1,hl1,h⟩:=h
  replace h:=d2_elim h
  obtain ⟨x0_0,x0_1,rfl,h⟩:=h
  replace h:=dI_elim h
  obtain ⟨a1,rfl,h⟩:=h
  replace h:=dS_elim h
  obtain ⟨b2,l3,c4,rfl,h⟩:=h
  exact TabSem.congr (valL_cons (asCells_val hl1) rfl) (Ent.sem okF5 Tryz.func81 ⟨by kernel_rfl,by kernel_rfl⟩ rfl (s18 h))
 ·replace h:=d1_elim h
  obtain ⟨x0,rfl,h⟩:=h
  replace h:=dS_elim h
  obtain ⟨b1,l2,c3,rfl,h⟩:=h
  obtain ⟨zs,g0,g1,h⟩:=h
  exact TabSem.congr (valL_cons rfl rfl) (Ent.sem okJ1 Tryz.func82 ⟨by kernel_rfl,by kernel_rfl⟩ rfl (s43 g0 g1 h))
 ·exact h.elim
noncomputable def KF:Cx:={ P:=Tryz.prog,inl:=fun f=>List.contains [83] f,tab:=tabJ29,isB:=fun _=>false,tabB:=fun _ _ _ _ _=>False,opt:={ unroll:=0,carry:=[5] },muts:=mutsD }
theorem okKF:CxOK KF:=CxOK.four tabJ29_ok (by kernel_rfl) (okInl (by kernel_rfl)) (fun _ _ _ _ _ h=>h.elim)
def sh29 (s:Int) (b:Option Addr) (l c h:Nat) (u g:Int) (x:Nat) (E:Mem):St:=⟨[none,oc 0 0,oc 1 0,oc 2 0,oc 4 0,oI (x:Nat)]++nn 96,[⟨24,.lst [I s,L b l c],2,true⟩,⟨91,.lst [.raw (.pointer none)],1,true⟩,⟨29,.lst [I 0],1,true⟩,⟨95,.lst [I s,L b l c,I u,I (h:Nat),I g,L none 0 0,I 5],7,true⟩,⟨91,.lst [.loc 3 0],1,true⟩],E⟩
abbrev fr29:List (Option SV):=[none,oc 0 0,oc 1 0,oc 2 0,oc 4 0,none,none,none,none,none,none,none,none,none,none,none,none,none,none,none,none,none,none,none,none,none,none,none,none,none,none,none,none,none,none,none,none,none,none,none,none,none,none,none,none,none,none,none,none,none,none,none,none,none,none,none,none,none,none,none,none,none,none,none,none,none,none,none,none,none,none,none,none,none,none,none,none,none,none,none,none,none,some (.clo 99 [] [.loc 5 0]),none,none,none,none,none,none,none,none,none,none,none,none,none,none,none,none,none,none,none]
def sR29 (s:Int) (b:Option Addr) (l c h:Nat) (u g:Int) (E:Mem):St:=⟨fr29,[⟨24,.lst [I s,L b l c],2,true⟩,⟨91,.lst [.raw (.pointer none)],1,true⟩,⟨29,.lst [I 0],1,true⟩,⟨95,.lst [I s,L b l c,I u,I (h:Nat),I g,L none 0 0,I 5],7,true⟩,⟨91,.lst [.loc 3 0],1,true⟩,⟨91,.lst [.loc 3 0],1,true⟩],E⟩
theorem rnd29 {u:Int} (hz:Bs E b l c zs) (hh:2*h=l/\16<=h/\l<=16384) (hi:i<2)
  (ih:∀ (u' g':Int) (E':Mem),Mem.le E E'->stepU h zs i (u,g)=(u',g')->Lp KF 8 Tryz.f56 [1,1,1,0,1,0] 0 KK (sh29 s b l c h u' g' ((i+1)*h) E')):Rnd KF 8 Tryz.f56 [1,1,1,0,1,0] 0 KK (sh29 s b l c h u g (i*h) E):=by
 refine sm_ (?_:bif decide ((NI (i*h))<(NI l)) then req (l<=c) (req ((0:Int)<=WI ((NI (i*h))+(5:Int))/\WI ((NI (i*h))+(5:Int))<=(NI (toN none c))) (req ((0:Int)<=WI ((NI (i*h))+(1:Int))/\WI ((NI (i*h))+(1:Int))<=(NI (toN (some (WI ((NI (i*h))+(5:Int)))) l))) (∀ (base':Option Addr) (E':Mem),Mem.le E E'->(∀ (cs:List Value),E (VS b l c) cs->E' (VS base' (toN (some (WI ((NI (i*h))+(5:Int)))) l-toN (some (WI ((NI (i*h))+(1:Int)))) 0) (toN none c-toN (some (WI ((NI (i*h))+(1:Int)))) 0)) (List.take ((toN (some (WI ((NI (i*h))+(5:Int)))) l-toN (some (WI ((NI (i*h))+(1:Int)))) 0)*1) (List.drop (toN (some (WI ((NI (i*h))+(1:Int)))) 0*1) cs)))->Option.isNone base'=Option.isNone b->∃ (zs:List Int),Bs E' base' (toN (some (WI ((NI (i*h))+(5:Int)))) l-toN (some (WI ((NI (i*h))+(1:Int)))) 0) (toN none c-toN (some (WI ((NI (i*h))+(1:Int)))) 0) zs/\toN (some (WI ((NI (i*h))+(5:Int)))) l-toN (some (WI ((NI (i*h))+(1:Int)))) 0<=4/\Mem.le E' E'/\req (0<=(NI (i*h))/\(NI (i*h))<(NI l)) (nE E' b l c/\∃ (n:Int),LoadE KF.P E' 5 (VS b l c) (Int.toNat (NI (i*h))*1) (SV.raw (U8 n))/\bif n==(90:Int) then bif bif true then decide (numF zs>g) else false then Sx.Alike al2 (Lp KF 8 Tryz.f56 [1,1,1,0,1,0] 0 KK { fr:=none::oc 0 0::oc 1 0::oc 2 0::oc 4 0::oI (WI ((NI (i*h))+(NI h)))::no32 (no32 (no32 [])),bx:=[(⟨24,.lst [I s,L b l c],2,true⟩:Box),⟨91,.lst [SV.raw (Value.pointer none)],1,true⟩,⟨29,.lst [I 0],1,true⟩,⟨95,.lst [I s,L b l c,I (NI (i*h)),I (NI h),I (numF zs),L none 0 0,I 5],7,true⟩,⟨91,.lst [SV.loc 3 0],1,true⟩],E:=E':St }) else Lp KF 8 Tryz.f56 [1,1,1,0,1,0] 0 KK { fr:=none::oc 0 0::oc 1 0::oc 2 0::oc 4 0::oI (WI ((NI (i*h))+(NI h)))::no32 (no32 (no32 [])),bx:=[(⟨24,.lst [I s,L b l c],2,true⟩:Box),⟨91,.lst [SV.raw (Value.pointer none)],1,true⟩,⟨29,.lst [I 0],1,true⟩,⟨95,.lst [I s,L b l c,I u,I (NI h),I g,L none 0 0,I 5],7,true⟩,⟨91,.lst [SV.loc 3 0],1,true⟩],E:=E':St } else Lp KF 8 Tryz.f56 [1,1,1,0,1,0] 0 KK { fr:=none::oc 0 0::oc 1 0::oc 2 0::oc 4 0::oI (WI ((NI (i*h))+(NI h)))::no32 (no32 (no32 [])),bx:=[(⟨24,.lst [I s,L b l c],2,true⟩:Box),⟨91,.lst [SV.raw (Value.pointer none)],1,true⟩,⟨29,.lst [I 0],1,true⟩,⟨95,.lst [I s,L b l c,I u,I (NI h),I g,L none 0 0,I 5],7,true⟩,⟨91,.lst [SV.loc 3 0],1,true⟩],E:=E':St })))) else bif decide (g<(0:Int)) then KK (SV.tup [SV.raw (Value.pointer none),I 4]) [⟨24,.lst [I s,L b l c],2,true⟩,⟨91,.lst [SV.raw (Value.pointer none)],1,true⟩,⟨29,.lst [I 4],1,true⟩,⟨95,.lst [I s,L b l c,I u,I (NI h),I g,L none 0 0,I 5],7,true⟩,⟨91,.lst [SV.loc 3 0],1,true⟩] E else Ct KF 8 Tryz.f56 [1,1,1,1,1,0,1,0] 0 KK { fr:=none::oc 0 0::oc 1 0::oc 2 0::oc 4 0::oI (NI (i*h))::no16 (no8 (no4 (none::(oI (NI (i*h))::oc 0 1::oL b l c::oI (NI l)::oB (decide ((NI (i*h))<(NI l)))::no32 (no4 (oc 3 0::oc 3 0::oc 3 4::oI g::oB (decide (g<(0:Int)))::oc 3 0::some (SV.clo 99 [] [SV.loc 5 0])::no16 (no2 (none::[])))))))),bx:=[(⟨24,.lst [I s,L b l c],2,true⟩:Box),⟨91,.lst [SV.raw (Value.pointer none)],1,true⟩,⟨29,.lst [I 0],1,true⟩,⟨95,.lst [I s,L b l c,I u,I (NI h),I g,L none 0 0,I 5],7,true⟩,⟨91,.lst [SV.loc 3 0],1,true⟩,⟨91,.lst [SV.loc 3 0],1,true⟩],E:=E:St })
 delta WI NI U8 VS no2 no4 no8 no16 no32
 obtain ⟨q1,q2,q3⟩:=hh
 have hp1:i*h<=h:=by have:=Nat.mul_le_mul_right h (show i<=1 by omega);omega
 have hp2:(i+1)*h=i*h+h:=by rw [Nat.add_mul,Nat.one_mul]
 rw [hp2] at ih
 unfold stepU at ih
 generalize i*h=p at *
 have e1:IntKind.wrap .i64 (((p:Nat):Int)+1)=((p+1:Nat):Int):=by rw [wrap_i64 (by omega)];omega
 have e5:IntKind.wrap .i64 (((p:Nat):Int)+5)=((p+5:Nat):Int):=by rw [wrap_i64 (by omega)];omega
 have eh:IntKind.wrap .i64 (((p:Nat):Int)+((h:Nat):Int))=((p+h:Nat):Int):=by rw [wrap_i64 (by omega)];omega
 rw [e1,e5,eh]
 refine condC (fun _=>?_) (fun g=>by simp at g;omega)
 refine slice_intro hz (lo:=p+1) (hi:=p+5) rfl rfl (by omega) (by omega) fun b' E' q hB hl=>?_
 rw [show p+5-(p+1)=4 by omega] at hB hl
 refine ⟨_,hB,by omega,mr_,req_intro (by omega) ⟨(hz.mono q).ne (i:=p) (by omega),zs.getD p 0,(hz.mono q).load rfl (i:=p) (by omega),condC (fun m=>condC (fun m2=>alike ?_) (fun m2=>?_)) (fun m=>?_)⟩⟩
 ·have m:zs.getD p 0=90:=by simpa only [beq_iff_eq] using m
  have m2:genF zs p>g:=of_decide_eq_true m2
  exact Lp_re [some 0,some 1,some 2,some 3,some 4] (ih _ _ E' q (if_pos ⟨m,m2⟩)) (wkG mr_)
 ·have m2:¬ genF zs p>g:=of_decide_eq_false m2
  exact Lp_re [some 0,some 1,some 2,some 3,some 4] (ih _ _ E' q (if_neg (fun z=>m2 z.2))) (wkG mr_)
 ·have m:¬ zs.getD p 0=90:=by simpa only [beq_eq_false_iff_ne] using m
  exact Lp_re [some 0,some 1,some 2,some 3,some 4] (ih _ _ E' q (if_neg (fun z=>m z.1))) (wkG mr_)
theorem rnd29e {u:Int} (hl:2*h=l)
  (herr:g<0->KK (.tup [.raw (.pointer none),I 4]) ([⟨24,.lst [I s,L b l c],2,true⟩,⟨91,.lst [.raw (.pointer none)],1,true⟩,⟨29,.lst [I 0],1,true⟩,⟨95,.lst [I s,L b l c,I u,I (h:Nat),I g,L none 0 0,I 5],7,true⟩,⟨91,.lst [.loc 3 0],1,true⟩].set 2 ⟨29,.lst [I 4],1,true⟩) E)
  (hok:0<=g->Ct KF 8 Tryz.f56 [1,1,1,1,1,0,1,0] 0 KK (sR29 s b l c h u g E)):Rnd KF 8 Tryz.f56 [1,1,1,0,1,0] 0 KK (sh29 s b l c h u g (2*h) E):=by
 refine sm_ (?_:bif decide ((NI (2*h))<(NI l)) then req (l<=c) (req ((0:Int)<=WI ((NI (2*h))+(5:Int))/\WI ((NI (2*h))+(5:Int))<=(NI (toN none c))) (req ((0:Int)<=WI ((NI (2*h))+(1:Int))/\WI ((NI (2*h))+(1:Int))<=(NI (toN (some (WI ((NI (2*h))+(5:Int)))) l))) (∀ (base':Option Addr) (E':Mem),Mem.le E E'->(∀ (cs:List Value),E (VS b l c) cs->E' (VS base' (toN (some (WI ((NI (2*h))+(5:Int)))) l-toN (some (WI ((NI (2*h))+(1:Int)))) 0) (toN none c-toN (some (WI ((NI (2*h))+(1:Int)))) 0)) (List.take ((toN (some (WI ((NI (2*h))+(5:Int)))) l-toN (some (WI ((NI (2*h))+(1:Int)))) 0)*1) (List.drop (toN (some (WI ((NI (2*h))+(1:Int)))) 0*1) cs)))->Option.isNone base'=Option.isNone b->∃ (zs:List Int),Bs E' base' (toN (some (WI ((NI (2*h))+(5:Int)))) l-toN (some (WI ((NI (2*h))+(1:Int)))) 0) (toN none c-toN (some (WI ((NI (2*h))+(1:Int)))) 0) zs/\toN (some (WI ((NI (2*h))+(5:Int)))) l-toN (some (WI ((NI (2*h))+(1:Int)))) 0<=4/\Mem.le E' E'/\req (0<=(NI (2*h))/\(NI (2*h))<(NI l)) (nE E' b l c/\∃ (n:Int),LoadE KF.P E' 5 (VS b l c) (Int.toNat (NI (2*h))*1) (SV.raw (U8 n))/\bif n==(90:Int) then bif bif true then decide (numF zs>g) else false then Sx.Alike al2 (Lp KF 8 Tryz.f56 [1,1,1,0,1,0] 0 KK { fr:=none::oc 0 0::oc 1 0::oc 2 0::oc 4 0::oI (WI ((NI (2*h))+(NI h)))::no32 (no32 (no32 [])),bx:=[(⟨24,.lst [I s,L b l c],2,true⟩:Box),⟨91,.lst [SV.raw (Value.pointer none)],1,true⟩,⟨29,.lst [I 0],1,true⟩,⟨95,.lst [I s,L b l c,I (NI (2*h)),I (NI h),I (numF zs),L none 0 0,I 5],7,true⟩,⟨91,.lst [SV.loc 3 0],1,true⟩],E:=E':St }) else Lp KF 8 Tryz.f56 [1,1,1,0,1,0] 0 KK { fr:=none::oc 0 0::oc 1 0::oc 2 0::oc 4 0::oI (WI ((NI (2*h))+(NI h)))::no32 (no32 (no32 [])),bx:=[(⟨24,.lst [I s,L b l c],2,true⟩:Box),⟨91,.lst [SV.raw (Value.pointer none)],1,true⟩,⟨29,.lst [I 0],1,true⟩,⟨95,.lst [I s,L b l c,I u,I (NI h),I g,L none 0 0,I 5],7,true⟩,⟨91,.lst [SV.loc 3 0],1,true⟩],E:=E':St } else Lp KF 8 Tryz.f56 [1,1,1,0,1,0] 0 KK { fr:=none::oc 0 0::oc 1 0::oc 2 0::oc 4 0::oI (WI ((NI (2*h))+(NI h)))::no32 (no32 (no32 [])),bx:=[(⟨24,.lst [I s,L b l c],2,true⟩:Box),⟨91,.lst [SV.raw (Value.pointer none)],1,true⟩,⟨29,.lst [I 0],1,true⟩,⟨95,.lst [I s,L b l c,I u,I (NI h),I g,L none 0 0,I 5],7,true⟩,⟨91,.lst [SV.loc 3 0],1,true⟩],E:=E':St })))) else bif decide (g<(0:Int)) then KK (SV.tup [SV.raw (Value.pointer none),I 4]) [⟨24,.lst [I s,L b l c],2,true⟩,⟨91,.lst [SV.raw (Value.pointer none)],1,true⟩,⟨29,.lst [I 4],1,true⟩,⟨95,.lst [I s,L b l c,I u,I (NI h),I g,L none 0 0,I 5],7,true⟩,⟨91,.lst [SV.loc 3 0],1,true⟩] E else Ct KF 8 Tryz.f56 [1,1,1,1,1,0,1,0] 0 KK { fr:=none::oc 0 0::oc 1 0::oc 2 0::oc 4 0::oI (NI (2*h))::no16 (no8 (no4 (none::(oI (NI (2*h))::oc 0 1::oL b l c::oI (NI l)::oB (decide ((NI (2*h))<(NI l)))::no32 (no4 (oc 3 0::oc 3 0::oc 3 4::oI g::oB (decide (g<(0:Int)))::oc 3 0::some (SV.clo 99 [] [SV.loc 5 0])::no16 (no2 (none::[])))))))),bx:=[(⟨24,.lst [I s,L b l c],2,true⟩:Box),⟨91,.lst [SV.raw (Value.pointer none)],1,true⟩,⟨29,.lst [I 0],1,true⟩,⟨95,.lst [I s,L b l c,I u,I (NI h),I g,L none 0 0,I 5],7,true⟩,⟨91,.lst [SV.loc 3 0],1,true⟩,⟨91,.lst [SV.loc 3 0],1,true⟩],E:=E:St })
 delta WI NI U8 VS no2 no4 no8 no16 no32
 refine condC (fun g=>by simp at g;omega) (fun _=>condC (fun q=>herr (by simpa using q)) (fun q=>?_))
 exact Ct_re [some 0,some 1,some 2,some 3,some 4,some 5] (hok (by simpa using q)) (wkG mr_)
theorem lp29 (hz:Bs E b l c zs) (hh:2*h=l/\16<=h/\l<=16384)
  (herr:∀ (u g:Int) (E':Mem),Mem.le E E'->(usedF h zs).1<0->KK (.tup [.raw (.pointer none),I 4]) ([⟨24,.lst [I s,L b l c],2,true⟩,⟨91,.lst [.raw (.pointer none)],1,true⟩,⟨29,.lst [I 0],1,true⟩,⟨95,.lst [I s,L b l c,I u,I (h:Nat),I g,L none 0 0,I 5],7,true⟩,⟨91,.lst [.loc 3 0],1,true⟩].set 2 ⟨29,.lst [I 4],1,true⟩) E')
  (hok:∀ (a:Nat) (g:Int) (E':Mem),Mem.le E E'->usedF h zs=((a:Int),g)->Ct KF 8 Tryz.f56 [1,1,1,1,1,0,1,0] 0 KK (sR29 s b l c h a g E')):Lp KF 8 Tryz.f56 [1,1,1,0,1,0] 0 KK (sh29 s b l c h 0 (-1) (0*h) E):=by
 have hzb:=hz.2.2.2.1
 refine Lp_ind (ι:=Unit) okKF (fun _=>sh29 s b l c h 0 (-1) (0*h) E) (fun _=>0) (fun _ _=>rnd29 hz hh (i:=0) (by decide) fun u1 g1 E1 k1 r1=>?_) ()
 refine Lp_ind (ι:=Unit) okKF (fun _=>sh29 s b l c h u1 g1 (1*h) E1) (fun _=>0) (fun _ _=>rnd29 (hz.mono k1) hh (i:=1) (by decide) fun u2 g2 E2 k2 r2=>?_) ()
 have h0:=genF_bd hzb 0
 have h1:=genF_bd hzb h
 have hu:usedF h zs=if g2<0 then (-1, -1) else (u2,g2):=by
  rw [usedF_step hzb]
  unfold stepU at r1 r2 ⊢
  simp only [Nat.zero_mul,Nat.one_mul] at r1 r2 ⊢
  by_cases a1:zs.getD 0 0=90
  ·rw [if_pos ⟨a1,by show genF zs 0> -1;omega⟩] at r1
   rw [if_pos (c:=zs.getD 0 0=90/\genF zs 0>(-1, -1).2) ⟨a1,by show genF zs 0> -1;omega⟩]
   obtain ⟨rfl,rfl⟩:=Prod.mk.inj r1
   rw [r2]
   by_cases a2:zs.getD h 0=90/\genF zs h>genF zs 0
   ·rw [if_pos a2] at r2
    obtain ⟨rfl,rfl⟩:=Prod.mk.inj r2
    rw [if_neg (by omega)]
   ·rw [if_neg a2] at r2
    obtain ⟨rfl,rfl⟩:=Prod.mk.inj r2
    rw [if_neg (by omega)]
  ·rw [if_neg (fun z=>a1 z.1)] at r1
   rw [if_neg (c:=zs.getD 0 0=90/\genF zs 0>(-1, -1).2) (fun z=>a1 z.1)]
   obtain ⟨rfl,rfl⟩:=Prod.mk.inj r1
   by_cases a2:zs.getD h 0=90
   ·rw [if_pos ⟨a2,by show genF zs h> -1;omega⟩] at r2
    obtain ⟨rfl,rfl⟩:=Prod.mk.inj r2
    rw [if_pos ⟨a2,by show genF zs h> -1;omega⟩,if_neg (by omega)]
   ·rw [if_neg (fun z=>a2 z.1)] at r2
    obtain ⟨rfl,rfl⟩:=Prod.mk.inj r2
    rw [if_neg (fun z=>a2 z.1),if_pos (by decide)]
 refine Lp_ind (ι:=Unit) okKF (fun _=>sh29 s b l c h u2 g2 (2*h) E2) (fun _=>0) (fun _ _=>rnd29e hh.1 (fun q=>herr u2 g2 E2 (mt_ k1 k2) (by rw [hu,if_pos q];decide)) (fun q=>?_)) ()
 rw [if_neg (by omega)] at hu
 have hn:(0:Int)<=u2:=by
  have:=usedF_at (zs:=zs) (h:=h)
  rw [hu] at this
  have this:u2= -1\/u2=0\/u2=(h:Int):=this
  rcases this with r|r|r
  ·exfalso
   have hx:=hu
   unfold usedF at hx
   by_cases a1:zs.getD 0 0=90
   ·simp only [a1,if_true] at hx
    split at hx
    ·have:=(Prod.mk.inj hx).1;omega
    ·have:=(Prod.mk.inj hx).1;omega
   ·simp only [a1,if_false] at hx
    split at hx
    ·have:=(Prod.mk.inj hx).1;omega
    ·have:=(Prod.mk.inj hx).2;omega
  ·omega
  ·omega
 obtain ⟨a,rfl⟩:∃ a:Nat,u2=a:=⟨u2.toNat,by omega⟩
 exact hok a g2 E2 (mt_ k1 k2) hu
noncomputable def tabJ60:FuncId->List SV->Mem->(SV->Mem->Prop)->Prop:=fun f args E K=>match f with
 | 82=>d1 args fun x0=>dS x0 fun b1 l2 c3=>∃ (zs:List Int),Bs E b1 l2 c3 zs/\l2<=4/\(K (I (numF zs)) E)
 | 94=>d1 args fun x0=>dS x0 fun b1 l2 c3=>∃ (zs:List Int),Bs E b1 l2 c3 zs/\l2<=70000/\(∀ (b':Option Addr) (l' c':Nat) (ys:List Int) (E':Mem),Mem.le E E'->Hyp (ys=hidB zs)->Bs E' b' l' c' ys->K (L b' l' c') E')
 | 100=>d2 args fun x0 x1=>dS x0 fun b1 l2 c3=>dS x1 fun b4 l5 c6=>∃ (xs:List Int) (ys:List Int),Bs E b1 l2 c3 xs/\Bs E b4 l5 c6 ys/\(K (B (decide (xs=ys))) E)
 | _=>False
theorem tabJ60_ok:TabOK Tryz.prog tabJ60:=by
 intro f args E K h
 unfold tabJ60 at h
 split at h
 ·replace h:=d1_elim h
  obtain ⟨x0,rfl,h⟩:=h
  replace h:=dS_elim h
  obtain ⟨b1,l2,c3,rfl,h⟩:=h
  obtain ⟨zs,g0,g1,h⟩:=h
  exact TabSem.congr (valL_cons rfl rfl) (Ent.sem okJ1 Tryz.func82 ⟨by kernel_rfl,by kernel_rfl⟩ rfl (s43 g0 g1 h))
 ·replace h:=d1_elim h
  obtain ⟨x0,rfl,h⟩:=h
  replace h:=dS_elim h
  obtain ⟨b1,l2,c3,rfl,h⟩:=h
  obtain ⟨zs,g0,g1,h⟩:=h
  exact TabSem.congr (valL_cons rfl rfl) (Ent.sem okJ7 Tryz.func94 ⟨by kernel_rfl,by kernel_rfl⟩ rfl (j54 g0 g1 h))
 ·replace h:=d2_elim h
  obtain ⟨x0,x1,rfl,h⟩:=h
  replace h:=dS_elim h
  obtain ⟨b1,l2,c3,rfl,h⟩:=h
  replace h:=dS_elim h
  obtain ⟨b4,l5,c6,rfl,h⟩:=h
  obtain ⟨xs,ys,g0,g1,h⟩:=h
  exact TabSem.congr (valL_cons rfl (valL_cons rfl rfl)) (s61 g0 g1 h)
 ·exact h.elim
noncomputable def KG:Cx:={ P:=Tryz.prog,inl:=fun f=>List.contains [87,89] f,tab:=tabJ60,isB:=fun _=>false,tabB:=fun _ _ _ _ _=>False,opt:={ unroll:=0,carry:=[4],cuts:=[6,8,9] },muts:=(fun o=>match o with | .call { callee:=.value (.tmp 69),.. }=>true|o=>mutsD o) }
theorem okKG:CxOK KG:=CxOK.four tabJ60_ok (by kernel_rfl) (okInl (by kernel_rfl)) (fun _ _ _ _ _ h=>h.elim)
noncomputable def GY (rc:Rc):Cx:=YCx KG KF 8 fr29 (sub (bodyOf Tryz.f56) [1,1,1,1,1,0,1,0]) rc
abbrev bn29 (s:Int) (b:Option Addr) (l c h a:Nat) (g:Int):List Box:=[⟨24,.lst [I s,L b l c],2,true⟩,⟨91,.lst [.raw (.pointer none)],1,true⟩,⟨29,.lst [I 0],1,true⟩,⟨95,.lst [I s,L b l c,I (a:Nat),I (h:Nat),I g,L none 0 0,I 5],7,true⟩,⟨91,.lst [.loc 3 0],1,true⟩,⟨91,.lst [.loc 3 0],1,true⟩]
abbrev bo29 (s:Int) (b:Option Addr) (l c h a:Nat) (g:Int) (k n cap tot:Nat) (vs:List Value):List Box:=[⟨24,.lst [I s,L b l c],2,true⟩,⟨91,.lst [.raw (.pointer none)],1,true⟩,⟨29,.lst [I 0],1,true⟩,⟨95,.lst [I s,L b l c,I (a:Nat),I (h:Nat),I g,.slc 6 0 n cap,I (k:Nat)],7,true⟩,⟨91,.lst [.loc 3 0],1,true⟩,⟨91,.lst [.loc 3 0],1,true⟩,⟨22,.vals vs,tot,true⟩]
def s60n (s:Int) (b:Option Addr) (l c h a:Nat) (g:Int) (ub:Option Addr) (uc:Nat) (rc:Rc) (k:Nat) (E:Mem):St:=⟨[some (.raw (.func (.yield rc.l) #[] #[])),oc 5 0,none,oL ub h uc,oI (k:Nat)]++nn 78,bn29 s b l c h a g,E⟩
def s60 (s:Int) (b:Option Addr) (l c h a:Nat) (g:Int) (ub:Option Addr) (uc:Nat) (rc:Rc) (k n cap tot:Nat) (vs:List Value) (E:Mem):St:=⟨[some (.raw (.func (.yield rc.l) #[] #[])),oc 5 0,none,oL ub h uc,oI (k:Nat)]++nn 78,bo29 s b l c h a g k n cap tot vs,E⟩
def s60m (s:Int) (b:Option Addr) (l c h a:Nat) (g:Int) (ub:Option Addr) (uc:Nat) (rc:Rc) (k m n cap tot:Nat) (vs:List Value) (E:Mem):St:=⟨[some (.raw (.func (.yield rc.l) #[] #[])),oc 5 0,none,oL ub h uc,oI (k:Nat),oI (m:Nat)]++nn 77,bo29 s b l c h a g k n cap tot vs,E⟩
def s60x (s:Int) (b:Option Addr) (l c h a:Nat) (g:Int) (ub:Option Addr) (uc:Nat) (rc:Rc) (k m x n cap tot:Nat) (vs:List Value) (E:Mem):St:=⟨[some (.raw (.func (.yield rc.l) #[] #[])),oc 5 0,none,oL ub h uc,oI (k:Nat),oI (m:Nat),oI (x:Nat)]++nn 76,bo29 s b l c h a g k n cap tot vs,E⟩
theorem slice_introM {lo hi:Nat} (h:Bs E b l c zs) {X Y:Int} (eX:X=(lo:Nat)) (eY:Y=(hi:Nat)) (h1:lo<=hi) (h2:hi<=l) {Q:Option Addr->Mem->Prop}
  (k:∀ (b':Option Addr) (E':Mem),Mem.le E E'->Bs E' b' (toN (some Y) l-toN (some X) 0) (toN (some Y) c-toN (some X) 0) ((zs.drop lo).take (hi-lo))->toN (some Y) l-toN (some X) 0=hi-lo->Q b' E')
  (hsub:∀ {E E':Mem} {b b':Option Addr} {l c lo hi:Nat} {zs:List Int},Bs E b l c zs->(∀ cs,E (.slice b l c) cs->E' (.slice b' (hi-lo) (hi-lo)) (List.take ((hi-lo)*1) (List.drop (lo*1) cs)))->b'.isNone=b.isNone->lo<=hi->hi<=l->Bs E' b' (hi-lo) (hi-lo) ((zs.drop lo).take (hi-lo))):
  req (l<=c) (req (0<=Y/\Y<=(c:Int)) (req (0<=Y/\Y<=((toN (some Y) c:Nat):Int)) (req (0<=X/\X<=((toN (some Y) l:Nat):Int)) (∀ (b':Option Addr) (E':Mem),Mem.le E E'->
   (∀ cs:List Value,E (.slice b l c) cs->E' (.slice b' (toN (some Y) l-toN (some X) 0) (toN (some Y) c-toN (some X) 0)) (List.take ((toN (some Y) l-toN (some X) 0)*1) (List.drop (toN (some X) 0*1) cs)))->b'.isNone=b.isNone->Q b' E')))):=by
 subst eX;subst eY
 have e1:toN (some ((lo:Nat):Int)) 0=lo:=Int.toNat_natCast lo
 have e2:toN (some ((hi:Nat):Int)) l=hi:=Int.toNat_natCast hi
 have e3:toN (some ((hi:Nat):Int)) c=hi:=Int.toNat_natCast hi
 have h3:=h.2.2.1
 rw [e1,e2,e3] at k ⊢
 exact req_intro h3 (req_intro (by omega) (req_intro (by omega) (req_intro (by omega) fun b' E' q1 q2 q3=>k b' E' q1 (hsub h q2 q3 h1 h2) rfl)))
theorem Bs.subM {E':Mem} {b':Option Addr} {lo hi:Nat} (h:Bs E b l c zs)
  (hF:∀ cs,E (.slice b l c) cs->E' (.slice b' (hi-lo) (hi-lo)) (List.take ((hi-lo)*1) (List.drop (lo*1) cs))) (hN:b'.isNone=b.isNone) (h1:lo<=hi) (h2:hi<=l):Bs E' b' (hi-lo) (hi-lo) ((zs.drop lo).take (hi-lo)):=by
 have hlen:=h.2.1
 refine ⟨?_,by rw [List.length_take,List.length_drop,hlen];omega,Nat.le_refl _,fun z hz=>h.2.2.2.1 z (List.drop_subset _ _ (List.take_subset _ _ hz)),fun e=>?_⟩
 ·rcases h.1 with q|q
  ·exact .inl (by rw [q];simp)
  ·refine .inr ?_
   have:=hF _ q
   rw [Nat.mul_one,Nat.mul_one,← List.map_drop,← List.map_take] at this
   exact this
 ·have :zs=[]:=h.2.2.2.2 (by cases b with |none=>rfl|some x=>rw [e] at hN;cases hN)
  rw [this];simp
theorem combL {X Y:Prop} (k:X) (m:Y) {t1 t2:AlikeT}:(X/\X/\Y)/\Sx.Alike t1 X/\(X/\Y)/\Sx.Alike t2 X/\Y:=⟨⟨k,k,m⟩,alike k,⟨k,m⟩,alike k,m⟩
theorem area_get:A.getD (5+j) 0=(A.drop 5).getD j 0:=by
 rw [List.getD_eq_getElem?_getD,List.getD_eq_getElem?_getD,List.getElem?_drop]
theorem area_part:(A.drop (5+j+i)).take n=((A.drop 5).drop (j+i)).take n:=by rw [List.drop_drop,Nat.add_assoc]
theorem ent60 (hz:Bs E b l c zs) (hh:2*h=l/\16<=h/\l<=16384) (ha:a=0\/a=h)
  (k:∀ (ub:Option Addr) (uc:Nat) (E':Mem),Mem.le E E'->Bs E' ub h uc ((zs.drop a).take h)->Lp (GY rc) 8 Tryz.f99 [1,1,0] 6 (fun _ bx E=>Cn KF 8 Tryz.f56 [1,1,1,1,1,0,1,0] 0 KK ⟨fr29,bx,E⟩) (s60n s b l c h a g ub uc rc (5+0) E')):EntB (GY rc) 8 Tryz.f99 [.raw (.func (.yield rc.l) #[] #[]),.loc 5 0] (bn29 s b l c h a g) E (fun _ bx E=>Cn KF 8 Tryz.f56 [1,1,1,1,1,0,1,0] 0 KK ⟨fr29,bx,E⟩):=by
 refine sm_ (?_:req (l<=c) (req ((0:Int)<=WI ((NI a)+(NI h))/\WI ((NI a)+(NI h))<=(NI c)) (req ((0:Int)<=WI ((NI a)+(NI h))/\WI ((NI a)+(NI h))<=(NI (toN (some (WI ((NI a)+(NI h)))) c))) (req (0<=(NI a)/\(NI a)<=(NI (toN (some (WI ((NI a)+(NI h)))) l))) (∀ (base':Option Addr) (E':Mem),Mem.le E E'->(∀ (cs:List Value),E (VS b l c) cs->E' (VS base' (toN (some (WI ((NI a)+(NI h)))) l-toN (some (NI a)) 0) (toN (some (WI ((NI a)+(NI h)))) c-toN (some (NI a)) 0)) (List.take ((toN (some (WI ((NI a)+(NI h)))) l-toN (some (NI a)) 0)*1) (List.drop (toN (some (NI a)) 0*1) cs)))->Option.isNone base'=Option.isNone b->Lp (GY rc) 8 Tryz.f99 [1,1,0] 6 (fun (x:SV) (bx:List Box) (E:Mem)=>Cn KF 8 Tryz.f56 [1,1,1,1,1,0,1,0] 0 KK { fr:=fr29,bx:=bx,E:=E:St }) { fr:=some (SV.raw (Value.func (Fn.yield rc.l) #[] #[]))::oc 5 0::none::oL base' (toN (some (WI ((NI a)+(NI h)))) l-toN (some (NI a)) 0) (toN (some (WI ((NI a)+(NI h)))) c-toN (some (NI a)) 0)::oI 5::none::none::oc 3 0::oL base' (toN (some (WI ((NI a)+(NI h)))) l-toN (some (NI a)) 0) (toN (some (WI ((NI a)+(NI h)))) c-toN (some (NI a)) 0)::no32 (no32 (no8 (no2 []))),bx:=[(⟨24,.lst [I s,L b l c],2,true⟩:Box),⟨91,.lst [SV.raw (Value.pointer none)],1,true⟩,⟨29,.lst [I 0],1,true⟩,⟨95,.lst [I s,L b l c,I (NI a),I (NI h),I g,L none 0 0,I 5],7,true⟩,⟨91,.lst [SV.loc 3 0],1,true⟩,⟨91,.lst [SV.loc 3 0],1,true⟩],E:=E':St })))))
 delta WI NI VS no2 no8 no32
 have e1:IntKind.wrap .i64 ((a:Int)+((h:Nat):Int))=((a+h:Nat):Int):=by rw [wrap_i64 (by omega)];omega
 rw [e1]
 refine slice_introM hz (lo:=a) (hi:=a+h) rfl rfl (by omega) (by omega) (fun b' E' q hB hl=>?_) Bs.subM
 rw [show a+h-a=h by omega] at hB hl
 rw [hl] at hB ⊢
 exact Lp_re [some 0,some 1,some 2,some 3,some 4,some 5] (k b' _ E' q hB) (wkG mr_)
theorem rJ60 {cap:Nat} (hu:Bs E ub h uc A) (hh:16<=h/\h<=8192) (hj:j<=h-5)
    (hend:(h-5<=j\/(A.drop 5).getD j 0=255)->Cn KF 8 Tryz.f56 [1,1,1,1,1,0,1,0] 0 KK ⟨fr29,bo29 s b l c h a g (5+j) n cap tot vs,E⟩)
    (hm:∀ (m:Nat) (E':Mem),Mem.le E E'->j<h-5->(A.drop 5).getD j 0≠255->(((A.drop 5).getD j 0=90/\j+3<=h-5/\m=lenF (A.drop 5) j)\/(((A.drop 5).getD j 0≠90\/h-5<j+3)/\m=h))->Ct (GY rc) 8 Tryz.f99 [1,1,0,0,1,0,1,1] 6 (fun _ bx E=>Cn KF 8 Tryz.f56 [1,1,1,1,1,0,1,0] 0 KK ⟨fr29,bx,E⟩) (s60m s b l c h a g ub uc rc (5+j) m n cap tot vs E')):
    Rnd (GY rc) 8 Tryz.f99 [1,1,0] 6 (fun _ bx E=>Cn KF 8 Tryz.f56 [1,1,1,1,1,0,1,0] 0 KK ⟨fr29,bx,E⟩) (s60 s b l c h a g ub uc rc (5+j) n cap tot vs E):=by
  refine sm_ (?_:bif decide ((NI (5+j))<(NI h)) then req (0<=(NI (5+j))/\(NI (5+j))<(NI h)) (nE E ub h uc/\∃ (n_1:Int),LoadE (GY rc).P E 5 (VS ub h uc) (Int.toNat (NI (5+j))*1) (SV.raw (U8 n_1))/\bif bif true then n_1 !=(255:Int) else false then req (0<=(NI (5+j))/\(NI (5+j))<(NI h)) (nE E ub h uc/\∃ (n_2:Int),LoadE (GY rc).P E 5 (VS ub h uc) (Int.toNat (NI (5+j))*1) (SV.raw (U8 n_2))/\bif n_2==(90:Int) then bif bif true then decide (WI ((NI (5+j))+(3:Int))<=(NI h)) else false then req (h<=uc) (req ((0:Int)<=WI ((NI (5+j))+(3:Int))/\WI ((NI (5+j))+(3:Int))<=(NI (toN none uc))) (req ((0:Int)<=WI ((NI (5+j))+(1:Int))/\WI ((NI (5+j))+(1:Int))<=(NI (toN (some (WI ((NI (5+j))+(3:Int)))) h))) (∀ (base':Option Addr) (E':Mem),Mem.le E E'->(∀ (cs:List Value),E (VS ub h uc) cs->E' (VS base' (toN (some (WI ((NI (5+j))+(3:Int)))) h-toN (some (WI ((NI (5+j))+(1:Int)))) 0) (toN none uc-toN (some (WI ((NI (5+j))+(1:Int)))) 0)) (List.take ((toN (some (WI ((NI (5+j))+(3:Int)))) h-toN (some (WI ((NI (5+j))+(1:Int)))) 0)*1) (List.drop (toN (some (WI ((NI (5+j))+(1:Int)))) 0*1) cs)))->Option.isNone base'=Option.isNone ub->∃ (zs:List Int),Bs E' base' (toN (some (WI ((NI (5+j))+(3:Int)))) h-toN (some (WI ((NI (5+j))+(1:Int)))) 0) (toN none uc-toN (some (WI ((NI (5+j))+(1:Int)))) 0) zs/\toN (some (WI ((NI (5+j))+(3:Int)))) h-toN (some (WI ((NI (5+j))+(1:Int)))) 0<=4/\Mem.le E' E'/\Ct (GY rc) 8 Tryz.f99 [1,1,0,0,1,0,1,1] 6 (fun (x:SV) (bx:List Box) (E:Mem)=>Cn KF 8 Tryz.f56 [1,1,1,1,1,0,1,0] 0 KK { fr:=fr29,bx:=bx,E:=E:St }) { fr:=some (SV.raw (Value.func (Fn.yield rc.l) #[] #[]))::oc 5 0::none::oL ub h uc::oI (NI (5+j))::oI (numF zs)::none::none::none::oI (NI (5+j))::oL ub h uc::oI (NI h)::oB (decide ((NI (5+j))<(NI h)))::oB true::oL ub h uc::oI (NI (5+j))::some (SV.rp (VS ub h uc) (Int.toNat (NI (5+j))*1))::some (SV.raw (U8 n_1))::oB (n_1 !=(255:Int))::oB (bif true then n_1 !=(255:Int) else false)::oL ub h uc::oI (NI h)::oL ub h uc::oI (NI (5+j))::some (SV.rp (VS ub h uc) (Int.toNat (NI (5+j))*1))::some (SV.raw (U8 n_2))::oB (n_2==(90:Int))::oB true::oI (NI (5+j))::oI (WI ((NI (5+j))+(3:Int)))::oL ub h uc::oI (NI h)::oB (decide (WI ((NI (5+j))+(3:Int))<=(NI h)))::oB (bif true then decide (WI ((NI (5+j))+(3:Int))<=(NI h)) else false)::oL ub h uc::oI (NI (5+j))::oI (WI ((NI (5+j))+(1:Int)))::oI (NI (5+j))::oI (WI ((NI (5+j))+(3:Int)))::oL base' (toN (some (WI ((NI (5+j))+(3:Int)))) h-toN (some (WI ((NI (5+j))+(1:Int)))) 0) (toN none uc-toN (some (WI ((NI (5+j))+(1:Int)))) 0)::oI (numF zs)::no32 (no8 (no2 [])),bx:=[(⟨24,.lst [I s,L b l c],2,true⟩:Box),⟨91,.lst [SV.raw (Value.pointer none)],1,true⟩,⟨29,.lst [I 0],1,true⟩,⟨95,.lst [I s,L b l c,I (NI a),I (NI h),I g,SV.slc 6 0 n cap,I (NI (5+j))],7,true⟩,⟨91,.lst [SV.loc 3 0],1,true⟩,⟨91,.lst [SV.loc 3 0],1,true⟩,⟨22,.vals vs,tot,true⟩],E:=E':St }))) else Ct (GY rc) 8 Tryz.f99 [1,1,0,0,1,0,1,1] 6 (fun (x:SV) (bx:List Box) (E:Mem)=>Cn KF 8 Tryz.f56 [1,1,1,1,1,0,1,0] 0 KK { fr:=fr29,bx:=bx,E:=E:St }) { fr:=some (SV.raw (Value.func (Fn.yield rc.l) #[] #[]))::oc 5 0::none::oL ub h uc::oI (NI (5+j))::oI (NI h)::none::none::none::oI (NI (5+j))::oL ub h uc::oI (NI h)::oB (decide ((NI (5+j))<(NI h)))::oB true::oL ub h uc::oI (NI (5+j))::some (SV.rp (VS ub h uc) (Int.toNat (NI (5+j))*1))::some (SV.raw (U8 n_1))::oB (n_1 !=(255:Int))::oB (bif true then n_1 !=(255:Int) else false)::oL ub h uc::oI (NI h)::oL ub h uc::oI (NI (5+j))::some (SV.rp (VS ub h uc) (Int.toNat (NI (5+j))*1))::some (SV.raw (U8 n_2))::oB (n_2==(90:Int))::oB true::oI (NI (5+j))::oI (WI ((NI (5+j))+(3:Int)))::oL ub h uc::oI (NI h)::oB (decide (WI ((NI (5+j))+(3:Int))<=(NI h)))::oB (bif true then decide (WI ((NI (5+j))+(3:Int))<=(NI h)) else false)::no32 (no16 (none::[])),bx:=[(⟨24,.lst [I s,L b l c],2,true⟩:Box),⟨91,.lst [SV.raw (Value.pointer none)],1,true⟩,⟨29,.lst [I 0],1,true⟩,⟨95,.lst [I s,L b l c,I (NI a),I (NI h),I g,SV.slc 6 0 n cap,I (NI (5+j))],7,true⟩,⟨91,.lst [SV.loc 3 0],1,true⟩,⟨91,.lst [SV.loc 3 0],1,true⟩,⟨22,.vals vs,tot,true⟩],E:=E:St } else Ct (GY rc) 8 Tryz.f99 [1,1,0,0,1,0,1,1] 6 (fun (x:SV) (bx:List Box) (E:Mem)=>Cn KF 8 Tryz.f56 [1,1,1,1,1,0,1,0] 0 KK { fr:=fr29,bx:=bx,E:=E:St }) { fr:=some (SV.raw (Value.func (Fn.yield rc.l) #[] #[]))::oc 5 0::none::oL ub h uc::oI (NI (5+j))::oI (NI h)::none::none::none::oI (NI (5+j))::oL ub h uc::oI (NI h)::oB (decide ((NI (5+j))<(NI h)))::oB true::oL ub h uc::oI (NI (5+j))::some (SV.rp (VS ub h uc) (Int.toNat (NI (5+j))*1))::some (SV.raw (U8 n_1))::oB (n_1 !=(255:Int))::oB (bif true then n_1 !=(255:Int) else false)::oL ub h uc::oI (NI h)::oL ub h uc::oI (NI (5+j))::some (SV.rp (VS ub h uc) (Int.toNat (NI (5+j))*1))::some (SV.raw (U8 n_2))::oB (n_2==(90:Int))::oB false::oU::oU::oU::oU::oU::oB false::no32 (no16 (none::[])),bx:=[(⟨24,.lst [I s,L b l c],2,true⟩:Box),⟨91,.lst [SV.raw (Value.pointer none)],1,true⟩,⟨29,.lst [I 0],1,true⟩,⟨95,.lst [I s,L b l c,I (NI a),I (NI h),I g,SV.slc 6 0 n cap,I (NI (5+j))],7,true⟩,⟨91,.lst [SV.loc 3 0],1,true⟩,⟨91,.lst [SV.loc 3 0],1,true⟩,⟨22,.vals vs,tot,true⟩],E:=E:St }) else Cn KF 8 Tryz.f56 [1,1,1,1,1,0,1,0] 0 KK { fr:=none::oc 0 0::oc 1 0::oc 2 0::oc 4 0::no32 (no32 (no8 (no4 (none::(some (SV.clo 99 [] [SV.loc 5 0])::no16 (no2 (none::[]))))))),bx:=[(⟨24,.lst [I s,L b l c],2,true⟩:Box),⟨91,.lst [SV.raw (Value.pointer none)],1,true⟩,⟨29,.lst [I 0],1,true⟩,⟨95,.lst [I s,L b l c,I (NI a),I (NI h),I g,SV.slc 6 0 n cap,I (NI (5+j))],7,true⟩,⟨91,.lst [SV.loc 3 0],1,true⟩,⟨91,.lst [SV.loc 3 0],1,true⟩,⟨22,.vals vs,tot,true⟩],E:=E:St }) else Cn KF 8 Tryz.f56 [1,1,1,1,1,0,1,0] 0 KK { fr:=none::oc 0 0::oc 1 0::oc 2 0::oc 4 0::no32 (no32 (no8 (no4 (none::(some (SV.clo 99 [] [SV.loc 5 0])::no16 (no2 (none::[]))))))),bx:=[(⟨24,.lst [I s,L b l c],2,true⟩:Box),⟨91,.lst [SV.raw (Value.pointer none)],1,true⟩,⟨29,.lst [I 0],1,true⟩,⟨95,.lst [I s,L b l c,I (NI a),I (NI h),I g,SV.slc 6 0 n cap,I (NI (5+j))],7,true⟩,⟨91,.lst [SV.loc 3 0],1,true⟩,⟨91,.lst [SV.loc 3 0],1,true⟩,⟨22,.vals vs,tot,true⟩],E:=E:St })
  delta WI NI U8 VS no2 no4 no8 no16 no32
  have hul:=hu.2.1
  have hget:=area_get (A:=A) (j:=j)
  have e1:IntKind.wrap .i64 (((5+j:Nat):Int)+1)=((5+j+1:Nat):Int):=by rw [wrap_i64 (by omega)];omega
  have e3:IntKind.wrap .i64 (((5+j:Nat):Int)+3)=((5+j+3:Nat):Int):=by rw [wrap_i64 (by omega)];omega
  rw [e1,e3]
  refine condC (fun g1=>?_) (fun g1=>hend (.inl (by simp at g1;omega)))
  have g1:j<h-5:=by simp at g1;omega
  refine req_intro (by omega) ⟨hu.ne (i:=5+j) (by omega),A.getD (5+j) 0,hu.load rfl (i:=5+j) (by omega),condC (fun g2=>?_) (fun g2=>hend (.inr ?_))⟩
  case refine_2=>
    have g2 : A.getD (5 + j) 0 = 255 := by have g2:(A.getD (5+j) 0 !=255)=false:=g2
                                           simpa only [bne_eq_false_iff_eq] using g2
    rw [← hget];exact g2
  have g2 : (A.drop 5).getD j 0 ≠ 255 := by have g2:(A.getD (5+j) 0 !=255)=true:=g2
                                            rw [← hget];simpa only [bne_iff_ne] using g2
  refine req_intro (by omega) ⟨hu.ne (i:=5+j) (by omega),A.getD (5+j) 0,hu.load rfl (i:=5+j) (by omega),condC (fun g3=>condC (fun g4=>?_) (fun g4=>?_)) (fun g3=>?_)⟩
  · have g3:(A.drop 5).getD j 0=90:=by rw [← hget];simpa only [beq_iff_eq] using g3
    have g4:j+3<=h-5:=by have:=g4;simp at this;omega
    refine slice_intro hu (lo:=5+j+1) (hi:=5+j+3) rfl rfl (by omega) (by omega) fun b1 E1 k1 hB1 hl1=>?_
    rw [show 5+j+3-(5+j+1)=2 by omega] at hB1 hl1
    refine ⟨_,hB1,by omega,mr_,?_⟩
    have hrb:∀ z∈A.drop 5,0<=z/\z<=255:=fun z hz'=>hu.2.2.2.1 z (List.drop_subset _ _ hz')
    obtain ⟨hm1,hm2⟩:=lenF_bd hrb j
    rw [show numF ((A.drop (5+j+1)).take 2)=((lenF (A.drop 5) j:Nat):Int) by rw [area_part];exact hm2]
    exact Ct_re [some 0,some 1,some 2,some 3,some 4,some 5,some 6] (hm _ E1 k1 g1 g2 (.inl ⟨g3,g4,rfl⟩)) (wkG mr_)
  · have g4:h-5<j+3:=by have:=g4;simp at this;omega
    exact Ct_re [some 0,some 1,some 2,some 3,some 4,some 5,some 6] (hm h E mr_ g1 g2 (.inr ⟨.inr g4,rfl⟩)) (wkG mr_)
  · have g3:(A.drop 5).getD j 0≠90:=by rw [← hget];simpa only [beq_eq_false_iff_ne] using g3
    exact Ct_re [some 0,some 1,some 2,some 3,some 4,some 5,some 6] (hm h E mr_ g1 g2 (.inr ⟨.inl g3,rfl⟩)) (wkG mr_)
theorem p60 {cap:Nat} (hu:Bs E ub h uc A) (hh:16<=h/\h<=8192) (hj:j<h-5) (hm:m<65536)
  (hbad:(h-5<j+m+11\/bodyF (((A.drop 5).drop (j+3)).take m)≠((A.drop 5).drop (j+1)).take (m+10))->∀ E':Mem,Mem.le E E'->Ct (GY rc) 8 Tryz.f99 [1,1,0,0,1,0,1,1,1,0,1,0] 6 (fun _ bx E=>Cn KF 8 Tryz.f56 [1,1,1,1,1,0,1,0] 0 KK ⟨fr29,bx,E⟩) (s60x s b l c h a g ub uc rc (5+j) m (5+j+m+11) n cap tot vs E'))
  (hok:j+m+11<=h-5->bodyF (((A.drop 5).drop (j+3)).take m)=((A.drop 5).drop (j+1)).take (m+10)->∀ E':Mem,Mem.le E E'->Ct (GY rc) 8 Tryz.f99 [1,1,0,0,1,0,1,1,1,1] 6 (fun _ bx E=>Cn KF 8 Tryz.f56 [1,1,1,1,1,0,1,0] 0 KK ⟨fr29,bx,E⟩) (s60x s b l c h a g ub uc rc (5+j) m (5+j+m+11) n cap tot vs E')):
  Pc (GY rc) 8 Tryz.f99 [1,1,0,0,1,0,1,1] 6 (fun _ bx E=>Cn KF 8 Tryz.f56 [1,1,1,1,1,0,1,0] 0 KK ⟨fr29,bx,E⟩) (s60m s b l c h a g ub uc rc (5+j) m n cap tot vs E):=by
 refine sm_ (?_:bif decide (WI (WI ((NI (5+j))+(NI m))+(11:Int))>(NI h)) then Ct (GY rc) 8 Tryz.f99 [1,1,0,0,1,0,1,1,1,0,1,0] 6 (fun (x:SV) (bx:List Box) (E:Mem)=>Cn KF 8 Tryz.f56 [1,1,1,1,1,0,1,0] 0 KK { fr:=fr29,bx:=bx,E:=E:St }) { fr:=some (SV.raw (Value.func (Fn.yield rc.l) #[] #[]))::oc 5 0::none::oL ub h uc::oI (NI (5+j))::oI (NI m)::oI (WI (WI ((NI (5+j))+(NI m))+(11:Int)))::no32 (no2 (oI (NI (5+j))::oI (NI m)::oI (WI ((NI (5+j))+(NI m)))::oI (WI (WI ((NI (5+j))+(NI m))+(11:Int)))::oI (WI (WI ((NI (5+j))+(NI m))+(11:Int)))::oL ub h uc::oI (NI h)::oB (decide (WI (WI ((NI (5+j))+(NI m))+(11:Int))>(NI h)))::oB true::oU::oU::oU::oU::oU::oU::oU::oU::oU::oU::oU::oU::oU::oU::oU::oU::oB true::no16 [])),bx:=[(⟨24,.lst [I s,L b l c],2,true⟩:Box),⟨91,.lst [SV.raw (Value.pointer none)],1,true⟩,⟨29,.lst [I 0],1,true⟩,⟨95,.lst [I s,L b l c,I (NI a),I (NI h),I g,SV.slc 6 0 n cap,I (NI (5+j))],7,true⟩,⟨91,.lst [SV.loc 3 0],1,true⟩,⟨91,.lst [SV.loc 3 0],1,true⟩,⟨22,.vals vs,tot,true⟩],E:=E:St } else req (h<=uc) (req ((0:Int)<=WI (WI ((NI (5+j))+(3:Int))+(NI m))/\WI (WI ((NI (5+j))+(3:Int))+(NI m))<=(NI (toN none uc))) (req ((0:Int)<=WI ((NI (5+j))+(3:Int))/\WI ((NI (5+j))+(3:Int))<=(NI (toN (some (WI (WI ((NI (5+j))+(3:Int))+(NI m)))) h))) (∀ (base':Option Addr) (E':Mem),Mem.le E E'->(∀ (cs:List Value),E (VS ub h uc) cs->E' (VS base' (toN (some (WI (WI ((NI (5+j))+(3:Int))+(NI m)))) h-toN (some (WI ((NI (5+j))+(3:Int)))) 0) (toN none uc-toN (some (WI ((NI (5+j))+(3:Int)))) 0)) (List.take ((toN (some (WI (WI ((NI (5+j))+(3:Int))+(NI m)))) h-toN (some (WI ((NI (5+j))+(3:Int)))) 0)*1) (List.drop (toN (some (WI ((NI (5+j))+(3:Int)))) 0*1) cs)))->Option.isNone base'=Option.isNone ub->req (h<=uc) (req ((0:Int)<=WI (WI ((NI (5+j))+(NI m))+(11:Int))/\WI (WI ((NI (5+j))+(NI m))+(11:Int))<=(NI (toN none uc))) (req ((0:Int)<=WI ((NI (5+j))+(1:Int))/\WI ((NI (5+j))+(1:Int))<=(NI (toN (some (WI (WI ((NI (5+j))+(NI m))+(11:Int)))) h))) (∀ (base'_1:Option Addr) (E'_1:Mem),Mem.le E' E'_1->(∀ (cs:List Value),E' (VS ub h uc) cs->E'_1 (VS base'_1 (toN (some (WI (WI ((NI (5+j))+(NI m))+(11:Int)))) h-toN (some (WI ((NI (5+j))+(1:Int)))) 0) (toN none uc-toN (some (WI ((NI (5+j))+(1:Int)))) 0)) (List.take ((toN (some (WI (WI ((NI (5+j))+(NI m))+(11:Int)))) h-toN (some (WI ((NI (5+j))+(1:Int)))) 0)*1) (List.drop (toN (some (WI ((NI (5+j))+(1:Int)))) 0*1) cs)))->Option.isNone base'_1=Option.isNone ub->∃ (zs:List Int),Bs E'_1 base' (toN (some (WI (WI ((NI (5+j))+(3:Int))+(NI m)))) h-toN (some (WI ((NI (5+j))+(3:Int)))) 0) (toN none uc-toN (some (WI ((NI (5+j))+(3:Int)))) 0) zs/\toN (some (WI (WI ((NI (5+j))+(3:Int))+(NI m)))) h-toN (some (WI ((NI (5+j))+(3:Int)))) 0<=70000/\∀ (b':Option Addr) (l' c':Nat) (ys:List Int) (E':Mem),Mem.le E'_1 E'->Hyp (ys=hidB zs)->Bs E' b' l' c' ys->Mem.le E'_1 E'/\∃ (xs:List Int),∃ (ys:List Int),Bs E' b' l' c' xs/\Bs E' base'_1 (toN (some (WI (WI ((NI (5+j))+(NI m))+(11:Int)))) h-toN (some (WI ((NI (5+j))+(1:Int)))) 0) (toN none uc-toN (some (WI ((NI (5+j))+(1:Int)))) 0) ys/\Mem.le E' E'/\bif bif false then true else !decide (xs=ys) then Ct (GY rc) 8 Tryz.f99 [1,1,0,0,1,0,1,1,1,0,1,0] 6 (fun (x:SV) (bx:List Box) (E:Mem)=>Cn KF 8 Tryz.f56 [1,1,1,1,1,0,1,0] 0 KK { fr:=fr29,bx:=bx,E:=E:St }) { fr:=some (SV.raw (Value.func (Fn.yield rc.l) #[] #[]))::oc 5 0::none::oL ub h uc::oI (NI (5+j))::oI (NI m)::oI (WI (WI ((NI (5+j))+(NI m))+(11:Int)))::no32 (no2 (oI (NI (5+j))::oI (NI m)::oI (WI ((NI (5+j))+(NI m)))::oI (WI (WI ((NI (5+j))+(NI m))+(11:Int)))::oI (WI (WI ((NI (5+j))+(NI m))+(11:Int)))::oL ub h uc::oI (NI h)::oB (decide (WI (WI ((NI (5+j))+(NI m))+(11:Int))>(NI h)))::oB false::oL ub h uc::oI (NI (5+j))::oI (WI ((NI (5+j))+(3:Int)))::oI (NI (5+j))::oI (WI ((NI (5+j))+(3:Int)))::oI (NI m)::oI (WI (WI ((NI (5+j))+(3:Int))+(NI m)))::oL base' (toN (some (WI (WI ((NI (5+j))+(3:Int))+(NI m)))) h-toN (some (WI ((NI (5+j))+(3:Int)))) 0) (toN none uc-toN (some (WI ((NI (5+j))+(3:Int)))) 0)::oL b' l' c'::oL ub h uc::oI (NI (5+j))::oI (WI ((NI (5+j))+(1:Int)))::oI (WI (WI ((NI (5+j))+(NI m))+(11:Int)))::oL base'_1 (toN (some (WI (WI ((NI (5+j))+(NI m))+(11:Int)))) h-toN (some (WI ((NI (5+j))+(1:Int)))) 0) (toN none uc-toN (some (WI ((NI (5+j))+(1:Int)))) 0)::oB (decide (xs=ys))::oB (!decide (xs=ys))::oB (bif false then true else !decide (xs=ys))::no16 [])),bx:=[(⟨24,.lst [I s,L b l c],2,true⟩:Box),⟨91,.lst [SV.raw (Value.pointer none)],1,true⟩,⟨29,.lst [I 0],1,true⟩,⟨95,.lst [I s,L b l c,I (NI a),I (NI h),I g,SV.slc 6 0 n cap,I (NI (5+j))],7,true⟩,⟨91,.lst [SV.loc 3 0],1,true⟩,⟨91,.lst [SV.loc 3 0],1,true⟩,⟨22,.vals vs,tot,true⟩],E:=E':St } else Ct (GY rc) 8 Tryz.f99 [1,1,0,0,1,0,1,1,1,1] 6 (fun (x:SV) (bx:List Box) (E:Mem)=>Cn KF 8 Tryz.f56 [1,1,1,1,1,0,1,0] 0 KK { fr:=fr29,bx:=bx,E:=E:St }) { fr:=some (SV.raw (Value.func (Fn.yield rc.l) #[] #[]))::oc 5 0::none::oL ub h uc::oI (NI (5+j))::oI (NI m)::oI (WI (WI ((NI (5+j))+(NI m))+(11:Int)))::no32 (no2 (oI (NI (5+j))::oI (NI m)::oI (WI ((NI (5+j))+(NI m)))::oI (WI (WI ((NI (5+j))+(NI m))+(11:Int)))::oI (WI (WI ((NI (5+j))+(NI m))+(11:Int)))::oL ub h uc::oI (NI h)::oB (decide (WI (WI ((NI (5+j))+(NI m))+(11:Int))>(NI h)))::oB false::oL ub h uc::oI (NI (5+j))::oI (WI ((NI (5+j))+(3:Int)))::oI (NI (5+j))::oI (WI ((NI (5+j))+(3:Int)))::oI (NI m)::oI (WI (WI ((NI (5+j))+(3:Int))+(NI m)))::oL base' (toN (some (WI (WI ((NI (5+j))+(3:Int))+(NI m)))) h-toN (some (WI ((NI (5+j))+(3:Int)))) 0) (toN none uc-toN (some (WI ((NI (5+j))+(3:Int)))) 0)::oL b' l' c'::oL ub h uc::oI (NI (5+j))::oI (WI ((NI (5+j))+(1:Int)))::oI (WI (WI ((NI (5+j))+(NI m))+(11:Int)))::oL base'_1 (toN (some (WI (WI ((NI (5+j))+(NI m))+(11:Int)))) h-toN (some (WI ((NI (5+j))+(1:Int)))) 0) (toN none uc-toN (some (WI ((NI (5+j))+(1:Int)))) 0)::oB (decide (xs=ys))::oB (!decide (xs=ys))::oB (bif false then true else !decide (xs=ys))::no16 [])),bx:=[(⟨24,.lst [I s,L b l c],2,true⟩:Box),⟨91,.lst [SV.raw (Value.pointer none)],1,true⟩,⟨29,.lst [I 0],1,true⟩,⟨95,.lst [I s,L b l c,I (NI a),I (NI h),I g,SV.slc 6 0 n cap,I (NI (5+j))],7,true⟩,⟨91,.lst [SV.loc 3 0],1,true⟩,⟨91,.lst [SV.loc 3 0],1,true⟩,⟨22,.vals vs,tot,true⟩],E:=E':St })))))))
 delta WI NI VS no2 no16 no32
 have hul:=hu.2.1
 have e1:IntKind.wrap .i64 (((5+j:Nat):Int)+1)=((5+j+1:Nat):Int):=by rw [wrap_i64 (by omega)];omega
 have e3:IntKind.wrap .i64 (((5+j:Nat):Int)+3)=((5+j+3:Nat):Int):=by rw [wrap_i64 (by omega)];omega
 have e4:IntKind.wrap .i64 (IntKind.wrap .i64 (((5+j:Nat):Int)+((m:Nat):Int))+11)=((5+j+m+11:Nat):Int):=by rw [wrap_i64 (x:=((5+j:Nat):Int)+((m:Nat):Int)) (by omega),wrap_i64 (by omega)];omega
 have e5:IntKind.wrap .i64 (((5+j+3:Nat):Int)+((m:Nat):Int))=((5+j+3+m:Nat):Int):=by rw [wrap_i64 (by omega)];omega
 rw [e1,e3,e4,e5]
 refine condC (fun g5=>?_) (fun g5=>?_)
 ·have g5:h-5<j+m+11:=by have:=g5;simp at this;omega
  exact Ct_re [some 0,some 1,some 2,some 3,some 4,some 5,some 6] (hbad (.inl g5) E mr_) (wkG mr_)
 have g5:j+m+11<=h-5:=by have:=g5;simp at this;omega
 refine slice_intro hu (lo:=5+j+3) (hi:=5+j+3+m) rfl rfl (by omega) (by omega) fun b2 E2 k2 hB2 hl2=>?_
 rw [show 5+j+3+m-(5+j+3)=m by omega] at hB2 hl2
 rw [area_part] at hB2
 refine slice_intro (hu.mono k2) (lo:=5+j+1) (hi:=5+j+m+11) rfl rfl (by omega) (by omega) fun b5 E5 k5 hB5 hl5=>?_
 rw [show 5+j+m+11-(5+j+1)=m+10 by omega,area_part] at hB5
 have hB2l:=hB2.2.1
 refine ⟨_,hB2.mono k5,by omega,fun b4 l4 c4 ys E4 k4 r4 hB4=>⟨k4,?_⟩⟩
 have r4:ys=hidB _:=r4
 rw [hidB_eq] at r4
 subst r4
 have kE:Mem.le E E4:=mt_ k2 (mt_ k5 k4)
 refine ⟨_,_,hB4,hB5.mono k4,mr_,condC (fun g6=>?_) (fun g6=>?_)⟩
 ·have g6:bodyF (((A.drop 5).drop (j+3)).take m)≠((A.drop 5).drop (j+1)).take (m+10):=by
   have g6:(!decide (bodyF (((A.drop 5).drop (j+3)).take m)=((A.drop 5).drop (j+1)).take (m+10)))=true:=g6
   simpa using g6
  exact Ct_re [some 0,some 1,some 2,some 3,some 4,some 5,some 6] (hbad (.inr g6) E4 kE) (wkG mr_)
 ·have g6:bodyF (((A.drop 5).drop (j+3)).take m)=((A.drop 5).drop (j+1)).take (m+10):=by
   have g6:(!decide (bodyF (((A.drop 5).drop (j+3)).take m)=((A.drop 5).drop (j+1)).take (m+10)))=false:=g6
   simpa using g6
  exact Ct_re [some 0,some 1,some 2,some 3,some 4,some 5,some 6] (hok g5 g6 E4 kE) (wkG mr_)
theorem e60 {cap:Nat} {q:List Box->Mem->Prop} (hq:q ((bo29 s b l c h a g (5+j) n cap tot vs).set 2 ⟨29,.lst [I 12],1,true⟩) E):Pq KG KF 8 8 fr29 (sub (bodyOf Tryz.f56) [1,1,1,1,1,0,1,0]) rc Tryz.f99 [1,1,0,0,1,0,1,1,1,0,1,0] q (s60x s b l c h a g ub uc rc (5+j) m x n cap tot vs E):=by
 refine sm_ (?_:rc.l=rc.l/\q [⟨24,Row.lst [I s,L b l c],2,true⟩,⟨91,Row.lst [SV.raw (Value.pointer none)],1,true⟩,⟨29,Row.lst [I (12:Int)],1,true⟩,⟨95,Row.lst [I s,L b l c,I (↑a:Int),I (↑h:Int),I g,SV.slc 6 0 n cap,I (↑(5+j):Int)],7,true⟩,⟨91,Row.lst [SV.loc 3 0],1,true⟩,⟨91,Row.lst [SV.loc 3 0],1,true⟩,⟨22,Row.vals vs,tot,true⟩] E)
 exact ⟨rfl,hq⟩
theorem q60 {cap:Nat} {rs:List (List Value)} (hr:SLr RB E rs yss) (hvs:vs=rs.flatten) (hn:yss.length=n) (hc:n<=cap/\cap*1<=tot) (hnb:n<=100000) (hu:Bs E ub h uc A) (hh:16<=h/\h<=8192) (hm:j+m+11<=h-5)
  (ih:∀ (bd:Option Addr) (ld cd cap' tot':Nat) (E':Mem),Mem.le E E'->Bs E' bd ld cd (((A.drop 5).drop (j+3)).take m)->n+1<=cap'->cap'*1<=tot'->Lp (GY rc) 8 Tryz.f99 [1,1,0] 6 (fun _ bx E=>Cn KF 8 Tryz.f56 [1,1,1,1,1,0,1,0] 0 KK ⟨fr29,bx,E⟩) (s60 s b l c h a g ub uc rc x (n+1) cap' tot' (rs.flatten++[Value.slice bd ld cd]) E')):
  Pc (GY rc) 8 Tryz.f99 [1,1,0,0,1,0,1,1,1,1] 6 (fun _ bx E=>Cn KF 8 Tryz.f56 [1,1,1,1,1,0,1,0] 0 KK ⟨fr29,bx,E⟩) (s60x s b l c h a g ub uc rc (5+j) m x n cap tot vs E):=by
 refine sm_ (?_:req (h<=uc) (req ((0:Int)<=WI (WI ((NI (5+j))+(3:Int))+(NI m))/\WI (WI ((NI (5+j))+(3:Int))+(NI m))<=(NI (toN none uc))) (req ((0:Int)<=WI ((NI (5+j))+(3:Int))/\WI ((NI (5+j))+(3:Int))<=(NI (toN (some (WI (WI ((NI (5+j))+(3:Int))+(NI m)))) h))) (∀ (base':Option Addr) (E':Mem),Mem.le E E'->(∀ (cs:List Value),E (VS ub h uc) cs->E' (VS base' (toN (some (WI (WI ((NI (5+j))+(3:Int))+(NI m)))) h-toN (some (WI ((NI (5+j))+(3:Int)))) 0) (toN none uc-toN (some (WI ((NI (5+j))+(3:Int)))) 0)) (List.take ((toN (some (WI (WI ((NI (5+j))+(3:Int))+(NI m)))) h-toN (some (WI ((NI (5+j))+(3:Int)))) 0)*1) (List.drop (toN (some (WI ((NI (5+j))+(3:Int)))) 0*1) cs)))->Option.isNone base'=Option.isNone ub->bif Option.isNone base' then Mem.le E' E'/\rc.l=rc.l/\((n*1<=List.length (Row.cells (Row.vals vs))/\cap*1<=tot/\n<=cap/\req ((n+1)*24<=140737488355328) (∀ (cap' tot':Nat),n+1<=cap'->cap'*1<=tot'->Lp (GY rc) 8 Tryz.f99 [1,1,0] 6 (fun (x:SV) (bx:List Box) (E:Mem)=>Cn KF 8 Tryz.f56 [1,1,1,1,1,0,1,0] 0 KK { fr:=fr29,bx:=bx,E:=E:St }) { fr:=some (SV.raw (Value.func (Fn.yield rc.l) #[] #[]))::oc 5 0::none::oL ub h uc::oI (NI x)::no32 (no32 (no8 (no4 (no2 [])))),bx:=[(⟨24,.lst [I s,L b l c],2,true⟩:Box),⟨91,.lst [SV.raw (Value.pointer none)],1,true⟩,⟨29,.lst [I 0],1,true⟩,⟨95,.lst [I s,L b l c,I (NI a),I (NI h),I g,SV.slc 8 0 (n+1) cap',I (NI x)],7,true⟩,⟨91,.lst [SV.loc 3 0],1,true⟩,⟨91,.lst [SV.loc 3 0],1,true⟩,⟨22,.lst [],0,false⟩,⟨22,.lst [L none 0 0],1,true⟩,⟨22,.vals (List.take (n*1) vs++[VS none 0 0]),tot',true⟩],E:=E':St }))/\(n*1<=List.length (Row.cells (Row.vals vs))/\cap*1<=tot/\n<=cap/\req ((n+1)*24<=140737488355328) (∀ (cap' tot':Nat),n+1<=cap'->cap'*1<=tot'->Lp (GY rc) 8 Tryz.f99 [1,1,0] 6 (fun (x:SV) (bx:List Box) (E:Mem)=>Cn KF 8 Tryz.f56 [1,1,1,1,1,0,1,0] 0 KK { fr:=fr29,bx:=bx,E:=E:St }) { fr:=some (SV.raw (Value.func (Fn.yield rc.l) #[] #[]))::oc 5 0::none::oL ub h uc::oI (NI x)::no32 (no32 (no8 (no4 (no2 [])))),bx:=[(⟨24,.lst [I s,L b l c],2,true⟩:Box),⟨91,.lst [SV.raw (Value.pointer none)],1,true⟩,⟨29,.lst [I 0],1,true⟩,⟨95,.lst [I s,L b l c,I (NI a),I (NI h),I g,SV.slc 8 0 (n+1) cap',I (NI x)],7,true⟩,⟨91,.lst [SV.loc 3 0],1,true⟩,⟨91,.lst [SV.loc 3 0],1,true⟩,⟨22,.lst [],0,false⟩,⟨22,.lst [L none 0 0],1,true⟩,⟨22,.vals (List.take (n*1) vs++[VS none 0 0]),tot',true⟩],E:=E':St }))/\n*1<=List.length (Row.cells (Row.vals vs))/\cap*1<=tot/\n<=cap/\req ((n+1)*24<=140737488355328) (∀ (cap' tot':Nat),n+1<=cap'->cap'*1<=tot'->Sx.Alike (AlikeT.n AlikeT.l (AlikeT.n AlikeT.l al2)) (Lp (GY rc) 8 Tryz.f99 [1,1,0] 6 (fun (x:SV) (bx:List Box) (E:Mem)=>Cn KF 8 Tryz.f56 [1,1,1,1,1,0,1,0] 0 KK { fr:=fr29,bx:=bx,E:=E:St }) { fr:=some (SV.raw (Value.func (Fn.yield rc.l) #[] #[]))::oc 5 0::none::oL ub h uc::oI (NI x)::no32 (no32 (no8 (no4 (no2 [])))),bx:=[(⟨24,.lst [I s,L b l c],2,true⟩:Box),⟨91,.lst [SV.raw (Value.pointer none)],1,true⟩,⟨29,.lst [I 0],1,true⟩,⟨95,.lst [I s,L b l c,I (NI a),I (NI h),I g,SV.slc 8 0 (n+1) cap',I (NI x)],7,true⟩,⟨91,.lst [SV.loc 3 0],1,true⟩,⟨91,.lst [SV.loc 3 0],1,true⟩,⟨22,.lst [],0,false⟩,⟨22,.lst [L none 0 0],1,true⟩,⟨22,.vals (List.take (n*1) vs++[VS none 0 0]),tot',true⟩],E:=E':St })))/\Sx.Alike (AlikeT.n AlikeT.l al2) (n*1<=List.length (Row.cells (Row.vals vs))/\cap*1<=tot/\n<=cap/\req ((n+1)*24<=140737488355328) (∀ (cap' tot':Nat),n+1<=cap'->cap'*1<=tot'->Lp (GY rc) 8 Tryz.f99 [1,1,0] 6 (fun (x:SV) (bx:List Box) (E:Mem)=>Cn KF 8 Tryz.f56 [1,1,1,1,1,0,1,0] 0 KK { fr:=fr29,bx:=bx,E:=E:St }) { fr:=some (SV.raw (Value.func (Fn.yield rc.l) #[] #[]))::oc 5 0::none::oL ub h uc::oI (NI x)::no32 (no32 (no8 (no4 (no2 [])))),bx:=[(⟨24,.lst [I s,L b l c],2,true⟩:Box),⟨91,.lst [SV.raw (Value.pointer none)],1,true⟩,⟨29,.lst [I 0],1,true⟩,⟨95,.lst [I s,L b l c,I (NI a),I (NI h),I g,SV.slc 8 0 (n+1) cap',I (NI x)],7,true⟩,⟨91,.lst [SV.loc 3 0],1,true⟩,⟨91,.lst [SV.loc 3 0],1,true⟩,⟨22,.lst [],0,false⟩,⟨22,.lst [L none 0 0],1,true⟩,⟨22,.vals (List.take (n*1) vs++[VS none 0 0]),tot',true⟩],E:=E':St }))/\((n*1<=List.length (Row.cells (Row.vals vs))/\cap*1<=tot/\n<=cap/\req ((n+1)*24<=140737488355328) (∀ (cap' tot':Nat),n+1<=cap'->cap'*1<=tot'->Lp (GY rc) 8 Tryz.f99 [1,1,0] 6 (fun (x:SV) (bx:List Box) (E:Mem)=>Cn KF 8 Tryz.f56 [1,1,1,1,1,0,1,0] 0 KK { fr:=fr29,bx:=bx,E:=E:St }) { fr:=some (SV.raw (Value.func (Fn.yield rc.l) #[] #[]))::oc 5 0::none::oL ub h uc::oI (NI x)::no32 (no32 (no8 (no4 (no2 [])))),bx:=[(⟨24,.lst [I s,L b l c],2,true⟩:Box),⟨91,.lst [SV.raw (Value.pointer none)],1,true⟩,⟨29,.lst [I 0],1,true⟩,⟨95,.lst [I s,L b l c,I (NI a),I (NI h),I g,SV.slc 8 0 (n+1) cap',I (NI x)],7,true⟩,⟨91,.lst [SV.loc 3 0],1,true⟩,⟨91,.lst [SV.loc 3 0],1,true⟩,⟨22,.lst [],0,false⟩,⟨22,.lst [L none 0 0],1,true⟩,⟨22,.vals (List.take (n*1) vs++[VS none 0 0]),tot',true⟩],E:=E':St }))/\n*1<=List.length (Row.cells (Row.vals vs))/\cap*1<=tot/\n<=cap/\req ((n+1)*24<=140737488355328) (∀ (cap' tot':Nat),n+1<=cap'->cap'*1<=tot'->Sx.Alike (AlikeT.n AlikeT.l (AlikeT.n AlikeT.l al2)) (Lp (GY rc) 8 Tryz.f99 [1,1,0] 6 (fun (x:SV) (bx:List Box) (E:Mem)=>Cn KF 8 Tryz.f56 [1,1,1,1,1,0,1,0] 0 KK { fr:=fr29,bx:=bx,E:=E:St }) { fr:=some (SV.raw (Value.func (Fn.yield rc.l) #[] #[]))::oc 5 0::none::oL ub h uc::oI (NI x)::no32 (no32 (no8 (no4 (no2 [])))),bx:=[(⟨24,.lst [I s,L b l c],2,true⟩:Box),⟨91,.lst [SV.raw (Value.pointer none)],1,true⟩,⟨29,.lst [I 0],1,true⟩,⟨95,.lst [I s,L b l c,I (NI a),I (NI h),I g,SV.slc 8 0 (n+1) cap',I (NI x)],7,true⟩,⟨91,.lst [SV.loc 3 0],1,true⟩,⟨91,.lst [SV.loc 3 0],1,true⟩,⟨22,.lst [],0,false⟩,⟨22,.lst [L none 0 0],1,true⟩,⟨22,.vals (List.take (n*1) vs++[VS none 0 0]),tot',true⟩],E:=E':St })))/\Sx.Alike al2 (n*1<=List.length (Row.cells (Row.vals vs))/\cap*1<=tot/\n<=cap/\req ((n+1)*24<=140737488355328) (∀ (cap' tot':Nat),n+1<=cap'->cap'*1<=tot'->Lp (GY rc) 8 Tryz.f99 [1,1,0] 6 (fun (x:SV) (bx:List Box) (E:Mem)=>Cn KF 8 Tryz.f56 [1,1,1,1,1,0,1,0] 0 KK { fr:=fr29,bx:=bx,E:=E:St }) { fr:=some (SV.raw (Value.func (Fn.yield rc.l) #[] #[]))::oc 5 0::none::oL ub h uc::oI (NI x)::no32 (no32 (no8 (no4 (no2 [])))),bx:=[(⟨24,.lst [I s,L b l c],2,true⟩:Box),⟨91,.lst [SV.raw (Value.pointer none)],1,true⟩,⟨29,.lst [I 0],1,true⟩,⟨95,.lst [I s,L b l c,I (NI a),I (NI h),I g,SV.slc 8 0 (n+1) cap',I (NI x)],7,true⟩,⟨91,.lst [SV.loc 3 0],1,true⟩,⟨91,.lst [SV.loc 3 0],1,true⟩,⟨22,.lst [],0,false⟩,⟨22,.lst [L none 0 0],1,true⟩,⟨22,.vals (List.take (n*1) vs++[VS none 0 0]),tot',true⟩],E:=E':St }))/\n*1<=List.length (Row.cells (Row.vals vs))/\cap*1<=tot/\n<=cap/\req ((n+1)*24<=140737488355328) (∀ (cap' tot':Nat),n+1<=cap'->cap'*1<=tot'->Sx.Alike (AlikeT.n AlikeT.l (AlikeT.n AlikeT.l al2)) (Lp (GY rc) 8 Tryz.f99 [1,1,0] 6 (fun (x:SV) (bx:List Box) (E:Mem)=>Cn KF 8 Tryz.f56 [1,1,1,1,1,0,1,0] 0 KK { fr:=fr29,bx:=bx,E:=E:St }) { fr:=some (SV.raw (Value.func (Fn.yield rc.l) #[] #[]))::oc 5 0::none::oL ub h uc::oI (NI x)::no32 (no32 (no8 (no4 (no2 [])))),bx:=[(⟨24,.lst [I s,L b l c],2,true⟩:Box),⟨91,.lst [SV.raw (Value.pointer none)],1,true⟩,⟨29,.lst [I 0],1,true⟩,⟨95,.lst [I s,L b l c,I (NI a),I (NI h),I g,SV.slc 8 0 (n+1) cap',I (NI x)],7,true⟩,⟨91,.lst [SV.loc 3 0],1,true⟩,⟨91,.lst [SV.loc 3 0],1,true⟩,⟨22,.lst [],0,false⟩,⟨22,.lst [L none 0 0],1,true⟩,⟨22,.vals (List.take (n*1) vs++[VS none 0 0]),tot',true⟩],E:=E':St })) else ∃ (cs:List Value),(cs=[]\/E' (VS base' (toN (some (WI (WI ((NI (5+j))+(3:Int))+(NI m)))) h-toN (some (WI ((NI (5+j))+(3:Int)))) 0) (toN none uc-toN (some (WI ((NI (5+j))+(3:Int)))) 0)) cs)/\(toN (some (WI (WI ((NI (5+j))+(3:Int))+(NI m)))) h-toN (some (WI ((NI (5+j))+(3:Int)))) 0)*1<=List.length cs/\(∀ (x:Value),List.Mem x cs->Value.oneCell' x=true)/\0<=0/\0<=0/\0<=0/\req ((0+(toN (some (WI (WI ((NI (5+j))+(3:Int))+(NI m)))) h-toN (some (WI ((NI (5+j))+(3:Int)))) 0))*1<=140737488355328) (∀ (cap' tot':Nat),0+(toN (some (WI (WI ((NI (5+j))+(3:Int))+(NI m)))) h-toN (some (WI ((NI (5+j))+(3:Int)))) 0)<=cap'->cap'*1<=tot'->Mem.le E' E'/\rc.l=rc.l/\((∀ (base:Option Addr) (E'_1:Mem),Mem.le E' E'_1->WinE E'_1 base ([]++List.take ((toN (some (WI (WI ((NI (5+j))+(3:Int))+(NI m)))) h-toN (some (WI ((NI (5+j))+(3:Int)))) 0)*1) cs)->n*1<=List.length (Row.cells (Row.vals vs))/\cap*1<=tot/\n<=cap/\req ((n+1)*24<=140737488355328) (∀ (cap'_1 tot'_1:Nat),n+1<=cap'_1->cap'_1*1<=tot'_1->Lp (GY rc) 8 Tryz.f99 [1,1,0] 6 (fun (x:SV) (bx:List Box) (E:Mem)=>Cn KF 8 Tryz.f56 [1,1,1,1,1,0,1,0] 0 KK { fr:=fr29,bx:=bx,E:=E:St }) { fr:=some (SV.raw (Value.func (Fn.yield rc.l) #[] #[]))::oc 5 0::none::oL ub h uc::oI (NI x)::no32 (no32 (no8 (no4 (no2 [])))),bx:=[(⟨24,.lst [I s,L b l c],2,true⟩:Box),⟨91,.lst [SV.raw (Value.pointer none)],1,true⟩,⟨29,.lst [I 0],1,true⟩,⟨95,.lst [I s,L b l c,I (NI a),I (NI h),I g,SV.slc 10 0 (n+1) cap'_1,I (NI x)],7,true⟩,⟨91,.lst [SV.loc 3 0],1,true⟩,⟨91,.lst [SV.loc 3 0],1,true⟩,⟨22,.lst [],0,false⟩,⟨5,.lst [],0,false⟩,⟨5,.vals ([]++List.take ((toN (some (WI (WI ((NI (5+j))+(3:Int))+(NI m)))) h-toN (some (WI ((NI (5+j))+(3:Int)))) 0)*1) cs),tot',false⟩,⟨22,.lst [L (Option.map (fun (x:Addr)=>Addr.add x 0) base) (0+(toN (some (WI (WI ((NI (5+j))+(3:Int))+(NI m)))) h-toN (some (WI ((NI (5+j))+(3:Int)))) 0)) cap'],1,true⟩,⟨22,.vals (List.take (n*1) vs++[slcAs base 0 (0+(toN (some (WI (WI ((NI (5+j))+(3:Int))+(NI m)))) h-toN (some (WI ((NI (5+j))+(3:Int)))) 0)) cap']),tot'_1,true⟩],E:=E'_1:St }))/\(∀ (base:Option Addr) (E'_1:Mem),Mem.le E' E'_1->WinE E'_1 base ([]++List.take ((toN (some (WI (WI ((NI (5+j))+(3:Int))+(NI m)))) h-toN (some (WI ((NI (5+j))+(3:Int)))) 0)*1) cs)->n*1<=List.length (Row.cells (Row.vals vs))/\cap*1<=tot/\n<=cap/\req ((n+1)*24<=140737488355328) (∀ (cap'_1 tot'_1:Nat),n+1<=cap'_1->cap'_1*1<=tot'_1->Lp (GY rc) 8 Tryz.f99 [1,1,0] 6 (fun (x:SV) (bx:List Box) (E:Mem)=>Cn KF 8 Tryz.f56 [1,1,1,1,1,0,1,0] 0 KK { fr:=fr29,bx:=bx,E:=E:St }) { fr:=some (SV.raw (Value.func (Fn.yield rc.l) #[] #[]))::oc 5 0::none::oL ub h uc::oI (NI x)::no32 (no32 (no8 (no4 (no2 [])))),bx:=[(⟨24,.lst [I s,L b l c],2,true⟩:Box),⟨91,.lst [SV.raw (Value.pointer none)],1,true⟩,⟨29,.lst [I 0],1,true⟩,⟨95,.lst [I s,L b l c,I (NI a),I (NI h),I g,SV.slc 10 0 (n+1) cap'_1,I (NI x)],7,true⟩,⟨91,.lst [SV.loc 3 0],1,true⟩,⟨91,.lst [SV.loc 3 0],1,true⟩,⟨22,.lst [],0,false⟩,⟨5,.lst [],0,false⟩,⟨5,.vals ([]++List.take ((toN (some (WI (WI ((NI (5+j))+(3:Int))+(NI m)))) h-toN (some (WI ((NI (5+j))+(3:Int)))) 0)*1) cs),tot',false⟩,⟨22,.lst [L (Option.map (fun (x:Addr)=>Addr.add x 0) base) (0+(toN (some (WI (WI ((NI (5+j))+(3:Int))+(NI m)))) h-toN (some (WI ((NI (5+j))+(3:Int)))) 0)) cap'],1,true⟩,⟨22,.vals (List.take (n*1) vs++[slcAs base 0 (0+(toN (some (WI (WI ((NI (5+j))+(3:Int))+(NI m)))) h-toN (some (WI ((NI (5+j))+(3:Int)))) 0)) cap']),tot'_1,true⟩],E:=E'_1:St }))/\∀ (base:Option Addr) (E'_1:Mem),Mem.le E' E'_1->WinE E'_1 base ([]++List.take ((toN (some (WI (WI ((NI (5+j))+(3:Int))+(NI m)))) h-toN (some (WI ((NI (5+j))+(3:Int)))) 0)*1) cs)->n*1<=List.length (Row.cells (Row.vals vs))/\cap*1<=tot/\n<=cap/\req ((n+1)*24<=140737488355328) (∀ (cap'_1 tot'_1:Nat),n+1<=cap'_1->cap'_1*1<=tot'_1->Sx.Alike (AlikeT.n AlikeT.l (AlikeT.n AlikeT.l al2)) (Lp (GY rc) 8 Tryz.f99 [1,1,0] 6 (fun (x:SV) (bx:List Box) (E:Mem)=>Cn KF 8 Tryz.f56 [1,1,1,1,1,0,1,0] 0 KK { fr:=fr29,bx:=bx,E:=E:St }) { fr:=some (SV.raw (Value.func (Fn.yield rc.l) #[] #[]))::oc 5 0::none::oL ub h uc::oI (NI x)::no32 (no32 (no8 (no4 (no2 [])))),bx:=[(⟨24,.lst [I s,L b l c],2,true⟩:Box),⟨91,.lst [SV.raw (Value.pointer none)],1,true⟩,⟨29,.lst [I 0],1,true⟩,⟨95,.lst [I s,L b l c,I (NI a),I (NI h),I g,SV.slc 10 0 (n+1) cap'_1,I (NI x)],7,true⟩,⟨91,.lst [SV.loc 3 0],1,true⟩,⟨91,.lst [SV.loc 3 0],1,true⟩,⟨22,.lst [],0,false⟩,⟨5,.lst [],0,false⟩,⟨5,.vals ([]++List.take ((toN (some (WI (WI ((NI (5+j))+(3:Int))+(NI m)))) h-toN (some (WI ((NI (5+j))+(3:Int)))) 0)*1) cs),tot',false⟩,⟨22,.lst [L (Option.map (fun (x:Addr)=>Addr.add x 0) base) (0+(toN (some (WI (WI ((NI (5+j))+(3:Int))+(NI m)))) h-toN (some (WI ((NI (5+j))+(3:Int)))) 0)) cap'],1,true⟩,⟨22,.vals (List.take (n*1) vs++[slcAs base 0 (0+(toN (some (WI (WI ((NI (5+j))+(3:Int))+(NI m)))) h-toN (some (WI ((NI (5+j))+(3:Int)))) 0)) cap']),tot'_1,true⟩],E:=E'_1:St })))/\Sx.Alike (AlikeT.n AlikeT.l al2) (∀ (base:Option Addr) (E'_1:Mem),Mem.le E' E'_1->WinE E'_1 base ([]++List.take ((toN (some (WI (WI ((NI (5+j))+(3:Int))+(NI m)))) h-toN (some (WI ((NI (5+j))+(3:Int)))) 0)*1) cs)->n*1<=List.length (Row.cells (Row.vals vs))/\cap*1<=tot/\n<=cap/\req ((n+1)*24<=140737488355328) (∀ (cap'_1 tot'_1:Nat),n+1<=cap'_1->cap'_1*1<=tot'_1->Lp (GY rc) 8 Tryz.f99 [1,1,0] 6 (fun (x:SV) (bx:List Box) (E:Mem)=>Cn KF 8 Tryz.f56 [1,1,1,1,1,0,1,0] 0 KK { fr:=fr29,bx:=bx,E:=E:St }) { fr:=some (SV.raw (Value.func (Fn.yield rc.l) #[] #[]))::oc 5 0::none::oL ub h uc::oI (NI x)::no32 (no32 (no8 (no4 (no2 [])))),bx:=[(⟨24,.lst [I s,L b l c],2,true⟩:Box),⟨91,.lst [SV.raw (Value.pointer none)],1,true⟩,⟨29,.lst [I 0],1,true⟩,⟨95,.lst [I s,L b l c,I (NI a),I (NI h),I g,SV.slc 10 0 (n+1) cap'_1,I (NI x)],7,true⟩,⟨91,.lst [SV.loc 3 0],1,true⟩,⟨91,.lst [SV.loc 3 0],1,true⟩,⟨22,.lst [],0,false⟩,⟨5,.lst [],0,false⟩,⟨5,.vals ([]++List.take ((toN (some (WI (WI ((NI (5+j))+(3:Int))+(NI m)))) h-toN (some (WI ((NI (5+j))+(3:Int)))) 0)*1) cs),tot',false⟩,⟨22,.lst [L (Option.map (fun (x:Addr)=>Addr.add x 0) base) (0+(toN (some (WI (WI ((NI (5+j))+(3:Int))+(NI m)))) h-toN (some (WI ((NI (5+j))+(3:Int)))) 0)) cap'],1,true⟩,⟨22,.vals (List.take (n*1) vs++[slcAs base 0 (0+(toN (some (WI (WI ((NI (5+j))+(3:Int))+(NI m)))) h-toN (some (WI ((NI (5+j))+(3:Int)))) 0)) cap']),tot'_1,true⟩],E:=E'_1:St }))/\((∀ (base:Option Addr) (E'_1:Mem),Mem.le E' E'_1->WinE E'_1 base ([]++List.take ((toN (some (WI (WI ((NI (5+j))+(3:Int))+(NI m)))) h-toN (some (WI ((NI (5+j))+(3:Int)))) 0)*1) cs)->n*1<=List.length (Row.cells (Row.vals vs))/\cap*1<=tot/\n<=cap/\req ((n+1)*24<=140737488355328) (∀ (cap'_1 tot'_1:Nat),n+1<=cap'_1->cap'_1*1<=tot'_1->Lp (GY rc) 8 Tryz.f99 [1,1,0] 6 (fun (x:SV) (bx:List Box) (E:Mem)=>Cn KF 8 Tryz.f56 [1,1,1,1,1,0,1,0] 0 KK { fr:=fr29,bx:=bx,E:=E:St }) { fr:=some (SV.raw (Value.func (Fn.yield rc.l) #[] #[]))::oc 5 0::none::oL ub h uc::oI (NI x)::no32 (no32 (no8 (no4 (no2 [])))),bx:=[(⟨24,.lst [I s,L b l c],2,true⟩:Box),⟨91,.lst [SV.raw (Value.pointer none)],1,true⟩,⟨29,.lst [I 0],1,true⟩,⟨95,.lst [I s,L b l c,I (NI a),I (NI h),I g,SV.slc 10 0 (n+1) cap'_1,I (NI x)],7,true⟩,⟨91,.lst [SV.loc 3 0],1,true⟩,⟨91,.lst [SV.loc 3 0],1,true⟩,⟨22,.lst [],0,false⟩,⟨5,.lst [],0,false⟩,⟨5,.vals ([]++List.take ((toN (some (WI (WI ((NI (5+j))+(3:Int))+(NI m)))) h-toN (some (WI ((NI (5+j))+(3:Int)))) 0)*1) cs),tot',false⟩,⟨22,.lst [L (Option.map (fun (x:Addr)=>Addr.add x 0) base) (0+(toN (some (WI (WI ((NI (5+j))+(3:Int))+(NI m)))) h-toN (some (WI ((NI (5+j))+(3:Int)))) 0)) cap'],1,true⟩,⟨22,.vals (List.take (n*1) vs++[slcAs base 0 (0+(toN (some (WI (WI ((NI (5+j))+(3:Int))+(NI m)))) h-toN (some (WI ((NI (5+j))+(3:Int)))) 0)) cap']),tot'_1,true⟩],E:=E'_1:St }))/\∀ (base:Option Addr) (E'_1:Mem),Mem.le E' E'_1->WinE E'_1 base ([]++List.take ((toN (some (WI (WI ((NI (5+j))+(3:Int))+(NI m)))) h-toN (some (WI ((NI (5+j))+(3:Int)))) 0)*1) cs)->n*1<=List.length (Row.cells (Row.vals vs))/\cap*1<=tot/\n<=cap/\req ((n+1)*24<=140737488355328) (∀ (cap'_1 tot'_1:Nat),n+1<=cap'_1->cap'_1*1<=tot'_1->Sx.Alike (AlikeT.n AlikeT.l (AlikeT.n AlikeT.l al2)) (Lp (GY rc) 8 Tryz.f99 [1,1,0] 6 (fun (x:SV) (bx:List Box) (E:Mem)=>Cn KF 8 Tryz.f56 [1,1,1,1,1,0,1,0] 0 KK { fr:=fr29,bx:=bx,E:=E:St }) { fr:=some (SV.raw (Value.func (Fn.yield rc.l) #[] #[]))::oc 5 0::none::oL ub h uc::oI (NI x)::no32 (no32 (no8 (no4 (no2 [])))),bx:=[(⟨24,.lst [I s,L b l c],2,true⟩:Box),⟨91,.lst [SV.raw (Value.pointer none)],1,true⟩,⟨29,.lst [I 0],1,true⟩,⟨95,.lst [I s,L b l c,I (NI a),I (NI h),I g,SV.slc 10 0 (n+1) cap'_1,I (NI x)],7,true⟩,⟨91,.lst [SV.loc 3 0],1,true⟩,⟨91,.lst [SV.loc 3 0],1,true⟩,⟨22,.lst [],0,false⟩,⟨5,.lst [],0,false⟩,⟨5,.vals ([]++List.take ((toN (some (WI (WI ((NI (5+j))+(3:Int))+(NI m)))) h-toN (some (WI ((NI (5+j))+(3:Int)))) 0)*1) cs),tot',false⟩,⟨22,.lst [L (Option.map (fun (x:Addr)=>Addr.add x 0) base) (0+(toN (some (WI (WI ((NI ((5:Nat)+j))+(3:Int))+(NI m)))) h-toN (some (WI ((NI (5+j))+(3:Int)))) 0)) cap'],1,true⟩,⟨22,.vals (List.take (n*1) vs++[slcAs base 0 (0+(toN (some (WI (WI ((NI ((5:Nat)+j))+(3:Int))+(NI m)))) h-toN (some (WI ((NI (5+j))+(3:Int)))) 0)) cap']),tot'_1,true⟩],E:=E'_1:St })))/\Sx.Alike al2 (∀ (base:Option Addr) (E'_1:Mem),Mem.le E' E'_1->WinE E'_1 base ([]++List.take ((toN (some (WI (WI ((NI (5+j))+(3:Int))+(NI m)))) h-toN (some (WI ((NI (5+j))+(3:Int)))) 0)*1) cs)->n*1<=List.length (Row.cells (Row.vals vs))/\cap*1<=tot/\n<=cap/\req ((n+1)*24<=140737488355328) (∀ (cap'_1 tot'_1:Nat),n+1<=cap'_1->cap'_1*1<=tot'_1->Lp (GY rc) 8 Tryz.f99 [1,1,0] 6 (fun (x:SV) (bx:List Box) (E:Mem)=>Cn KF 8 Tryz.f56 [1,1,1,1,1,0,1,0] 0 KK { fr:=fr29,bx:=bx,E:=E:St }) { fr:=some (SV.raw (Value.func (Fn.yield rc.l) #[] #[]))::oc 5 0::none::oL ub h uc::oI (NI x)::no32 (no32 (no8 (no4 (no2 [])))),bx:=[(⟨24,.lst [I s,L b l c],2,true⟩:Box),⟨91,.lst [SV.raw (Value.pointer none)],1,true⟩,⟨29,.lst [I 0],1,true⟩,⟨95,.lst [I s,L b l c,I (NI a),I (NI h),I g,SV.slc 10 0 (n+1) cap'_1,I (NI x)],7,true⟩,⟨91,.lst [SV.loc 3 0],1,true⟩,⟨91,.lst [SV.loc 3 0],1,true⟩,⟨22,.lst [],0,false⟩,⟨5,.lst [],0,false⟩,⟨5,.vals ([]++List.take ((toN (some (WI (WI ((NI (5+j))+(3:Int))+(NI m)))) h-toN (some (WI ((NI (5+j))+(3:Int)))) 0)*1) cs),tot',false⟩,⟨22,.lst [L (Option.map (fun (x:Addr)=>Addr.add x 0) base) (0+(toN (some (WI (WI ((NI ((5:Nat)+j))+(3:Int))+(NI m)))) h-toN (some (WI ((NI (5+j))+(3:Int)))) 0)) cap'],1,true⟩,⟨22,.vals (List.take (n*1) vs++[slcAs base 0 (0+(toN (some (WI (WI ((NI ((5:Nat)+j))+(3:Int))+(NI m)))) h-toN (some (WI ((NI (5+j))+(3:Int)))) 0)) cap']),tot'_1,true⟩],E:=E'_1:St }))/\∀ (base:Option Addr) (E'_1:Mem),Mem.le E' E'_1->WinE E'_1 base ([]++List.take ((toN (some (WI (WI ((NI (5+j))+(3:Int))+(NI m)))) h-toN (some (WI ((NI (5+j))+(3:Int)))) 0)*1) cs)->n*1<=List.length (Row.cells (Row.vals vs))/\cap*1<=tot/\n<=cap/\req ((n+1)*24<=140737488355328) (∀ (cap'_1 tot'_1:Nat),n+1<=cap'_1->cap'_1*1<=tot'_1->Sx.Alike (AlikeT.n AlikeT.l (AlikeT.n AlikeT.l al2)) (Lp (GY rc) 8 Tryz.f99 [1,1,0] 6 (fun (x:SV) (bx:List Box) (E:Mem)=>Cn KF 8 Tryz.f56 [1,1,1,1,1,0,1,0] 0 KK { fr:=fr29,bx:=bx,E:=E:St }) { fr:=some (SV.raw (Value.func (Fn.yield rc.l) #[] #[]))::oc 5 0::none::oL ub h uc::oI (NI x)::no32 (no32 (no8 (no4 (no2 [])))),bx:=[(⟨24,.lst [I s,L b l c],2,true⟩:Box),⟨91,.lst [SV.raw (Value.pointer none)],1,true⟩,⟨29,.lst [I 0],1,true⟩,⟨95,.lst [I s,L b l c,I (NI a),I (NI h),I g,SV.slc 10 0 (n+1) cap'_1,I (NI x)],7,true⟩,⟨91,.lst [SV.loc 3 0],1,true⟩,⟨91,.lst [SV.loc 3 0],1,true⟩,⟨22,.lst [],0,false⟩,⟨5,.lst [],0,false⟩,⟨5,.vals ([]++List.take ((toN (some (WI (WI ((NI (5+j))+(3:Int))+(NI m)))) h-toN (some (WI ((NI (5+j))+(3:Int)))) 0)*1) cs),tot',false⟩,⟨22,.lst [L (Option.map (fun (x:Addr)=>Addr.add x 0) base) (0+(toN (some (WI (WI ((NI ((5:Nat)+j))+(3:Int))+(NI m)))) h-toN (some (WI ((NI (5+j))+(3:Int)))) 0)) cap'],1,true⟩,⟨22,.vals (List.take (n*1) vs++[slcAs base 0 (0+(toN (some (WI (WI ((NI ((5:Nat)+j))+(3:Int))+(NI m)))) h-toN (some (WI ((NI (5+j))+(3:Int)))) 0)) cap']),tot'_1,true⟩],E:=E'_1:St })))))))
 delta WI NI VS no2 no4 no8 no32
 have hul:=hu.2.1
 have e3:IntKind.wrap .i64 (((5+j:Nat):Int)+3)=((5+j+3:Nat):Int):=by rw [wrap_i64 (by omega)];omega
 have e5:IntKind.wrap .i64 (((5+j+3:Nat):Int)+((m:Nat):Int))=((5+j+3+m:Nat):Int):=by rw [wrap_i64 (by omega)];omega
 rw [e3,e5]
 subst hvs
 have hfl:rs.flatten.length=n:=by rw [hr.flat RB_ok,hn];omega
 have hlen:n*1<=List.length (Row.cells (Row.vals rs.flatten)):=by show _<=(List.map SV.raw _).length;rw [List.length_map,hfl];omega
 have htk:List.take (n*1) rs.flatten=rs.flatten:=List.take_of_length_le (by omega)
 refine slice_intro hu (lo:=5+j+3) (hi:=5+j+3+m) rfl rfl (by omega) (by omega) fun b2 E2 k2 hB2 hl2=>?_
 rw [show 5+j+3+m-(5+j+3)=m by omega] at hB2 hl2
 rw [area_part,hl2] at hB2
 rw [hl2]
 have hB2l:=hB2.2.1
 refine condC (fun q=>?_) (fun q=>?_)
 ·have ed:((A.drop 5).drop (j+3)).take m=[]:=hB2.2.2.2.2 (by simpa using q)
  have hnil:Bs E2 none 0 0 (((A.drop 5).drop (j+3)).take m):=by rw [ed];exact Bs.nil E2
  refine ⟨mr_,rfl,combL ?_ ?_⟩
  ·refine ⟨hlen,hc.2,hc.1,req_intro (by omega) fun cap' tot' g1 g2=>?_⟩
   skip
   rw [htk]
   exact Lp_re [some 0,some 1,some 2,some 3,some 4,some 5,some 8] (ih none 0 0 cap' tot' E2 k2 hnil g1 g2) (wkG mr_)
  ·refine ⟨hlen,hc.2,hc.1,req_intro (by omega) fun cap' tot' g1 g2=>?_⟩
   refine alike ?_
   rw [htk]
   exact Lp_re [some 0,some 1,some 2,some 3,some 4,some 5,some 8] (ih none 0 0 cap' tot' E2 k2 hnil g1 g2) (wkG mr_)
 ·obtain ⟨t1,t2,t3⟩:=hB2.src
  refine ⟨_,t1,t2,t3,Nat.le_refl _,Nat.le_refl _,Nat.le_refl _,req_intro (by omega) fun cap1 tot1 c1 c2=>⟨mr_,rfl,?_⟩⟩
  rw [Nat.zero_add] at c1
  have hw:[]++List.take (m*1) (vB (((A.drop 5).drop (j+3)).take m))=vB (((A.drop 5).drop (j+3)).take m):=by rw [List.nil_append,List.take_of_length_le (by simp;omega)]
  rw [Nat.zero_add]
  refine combL ?_ ?_
  ·intro base E3 k3 w3
   refine ⟨hlen,hc.2,hc.1,req_intro (by omega) fun cap' tot' g1 g2=>?_⟩
   skip
   rw [htk]
   exact Lp_re [some 0,some 1,some 2,some 3,some 4,some 5,some 10] (ih _ _ _ cap' tot' E3 (mt_ k2 k3) (Bs.win w3 hw hB2l c1 hB2.2.2.2.1) g1 g2) (wkG mr_)
  ·intro base E3 k3 w3
   refine ⟨hlen,hc.2,hc.1,req_intro (by omega) fun cap' tot' g1 g2=>?_⟩
   refine alike ?_
   rw [htk]
   exact Lp_re [some 0,some 1,some 2,some 3,some 4,some 5,some 10] (ih _ _ _ cap' tot' E3 (mt_ k2 k3) (Bs.win w3 hw hB2l c1 hB2.2.2.2.1) g1 g2) (wkG mr_)
theorem cn29 {cap:Nat} (hk:KK (.tup [.loc 3 0,I 0]) ((bo29 s b l c h a g k n cap tot vs).set 1 ⟨91,.lst [.loc 3 0],1,true⟩) E):Pn KF 8 Tryz.f56 [1,1,1,1,1,0,1,0] 0 KK ⟨fr29,bo29 s b l c h a g k n cap tot vs,E⟩:=by
 refine sm_ (?_:KK (SV.tup [SV.loc 3 0,I (0:Int)]) [⟨24,Row.lst [I s,L b l c],2,true⟩,⟨91,Row.lst [SV.loc 3 0],1,true⟩,⟨29,Row.lst [I (0:Int)],1,true⟩,⟨95,Row.lst [I s,L b l c,I (↑a:Int),I (↑h:Int),I g,SV.slc 6 0 n cap,I (↑k:Int)],7,true⟩,⟨91,Row.lst [SV.loc 3 0],1,true⟩,⟨91,Row.lst [SV.loc 3 0],1,true⟩,⟨22,Row.vals vs,tot,true⟩] E)
 exact hk
theorem rt29 {cap:Nat} (hk:KK (.tup [.raw (.pointer none),I 12]) ((bo29 s b l c h a g k n cap tot vs).set 2 ⟨29,.lst [I 12],1,true⟩) E):PnR KF 8 Tryz.f56 [1,1,1,1,1,0,1,0] 0 KK ⟨fr29,(bo29 s b l c h a g k n cap tot vs).set 2 ⟨29,.lst [I 12],1,true⟩,E⟩:=by
 refine sm_ (?_:KK (SV.tup [SV.raw (Value.pointer none),I (12:Int)]) [⟨24,Row.lst [I s,L b l c],2,true⟩,⟨91,Row.lst [SV.raw (Value.pointer none)],1,true⟩,⟨29,Row.lst [I (12:Int)],1,true⟩,⟨95,Row.lst [I s,L b l c,I (↑a:Int),I (↑h:Int),I g,SV.slc 6 0 n cap,I (↑k:Int)],7,true⟩,⟨91,Row.lst [SV.loc 3 0],1,true⟩,⟨91,Row.lst [SV.loc 3 0],1,true⟩,⟨22,Row.vals vs,tot,true⟩] E)
 exact hk
structure I60 (E0 E:Mem) (h:Nat) (A:List Int) (j n cap tot:Nat) (rs:List (List Value)) (yss:List (List Int)):Prop where
 le:Mem.le E0 E
 hj:j<=h-5
 inv:fromF yss j (A.drop 5)=parseF (A.drop 5)
 rws:SLr RB E rs yss
 num:yss.length=n
 nj:n<=j
 room:n<=cap/\cap*1<=tot
theorem step60 {bx0:List Box} {E00:Mem} {cap:Nat} {rs:List (List Value)} (hrc:CxOK (GY rc)) (hrx:RcX KF 8 Tryz.f56 [1,1,1,1,1,0,1,0] 0 KK ⟨fr29,bx0,E00⟩ rc) (hu:Bs E ub h uc A) (hh:16<=h/\h<=8192) (herr:∀ (bx:List Box) (E':Mem),Mem.le E0 E'->parseF (A.drop 5)=none->KK (.tup [.raw (.pointer none),I 12]) bx E') (hok:∀ (j n cap tot:Nat) (rs:List (List Value)) (yss:List (List Int)) (E':Mem),Mem.le E0 E'->parseF (A.drop 5)=some (yss,j)->SLr RB E' rs yss->yss.length=n->n<=cap->KK (.tup [.loc 3 0,I 0]) ((bo29 s b l c h a g (5+j) n cap tot rs.flatten).set 1 ⟨91,.lst [.loc 3 0],1,true⟩) E') (hI:I60 E0 E h A j n cap tot rs yss)
  (ih:∀ (bd:Option Addr) (ld cd cap' tot':Nat) (ds:List Int) (E':Mem),Mem.le E0 E'->Mem.le E E'->j+lenF (A.drop 5) j+11<=h-5->Bs E' bd ld cd ds->n+1<=cap'->cap'*1<=tot'->fromF (yss++[ds]) (j+lenF (A.drop 5) j+11) (A.drop 5)=parseF (A.drop 5)->Lp (GY rc) 8 Tryz.f99 [1,1,0] 6 (fun _ bx E=>Cn KF 8 Tryz.f56 [1,1,1,1,1,0,1,0] 0 KK ⟨fr29,bx,E⟩) (s60 s b l c h a g ub uc rc (5+j+lenF (A.drop 5) j+11) (n+1) cap' tot' (rs.flatten++[Value.slice bd ld cd]) E')):
  Rnd (GY rc) 8 Tryz.f99 [1,1,0] 6 (fun _ bx E=>Cn KF 8 Tryz.f56 [1,1,1,1,1,0,1,0] 0 KK ⟨fr29,bx,E⟩) (s60 s b l c h a g ub uc rc (5+j) n cap tot rs.flatten E):=by
 obtain ⟨hE0,hj,hinv,h4,h5,h6,h7⟩:=hI
 have hAl:=hu.2.1
 have hrl:(A.drop 5).length=h-5:=by rw [List.length_drop];omega
 have quit:∀ (m:Nat) (E1:Mem),Mem.le E0 E1->parseF (A.drop 5)=none->Ct (GY rc) 8 Tryz.f99 [1,1,0,0,1,0,1,1,1,0,1,0] 6 (fun _ bx E=>Cn KF 8 Tryz.f56 [1,1,1,1,1,0,1,0] 0 KK ⟨fr29,bx,E⟩) (s60x s b l c h a g ub uc rc (5+j) m (5+j+m+11) n cap tot rs.flatten E1):=fun m E1 k1 q=>
  Ct_quit okKF hrc hrx (e60 (CnR_intro (rt29 (herr _ E1 k1 q))).out)
 refine rJ60 hu hh hj (fun q=>Cn_intro (cn29 (hok j n cap tot rs yss E hE0 (by rw [← hinv,fromF_end (by rw [hrl];exact q)]) h4 h5 h7.1))) fun m E1 k1 g1 g2 hm=>?_
 have hrb:∀ z∈A.drop 5,0<=z/\z<=255:=fun z hz'=>hu.2.2.2.1 z (List.drop_subset _ _ hz')
 have hlf:=(lenF_bd hrb j).1
 have k01:Mem.le E0 E1:=mt_ hE0 k1
 rcases hm with ⟨m1,m2,rfl⟩|⟨m1,rfl⟩
 ·refine Ct_intro hrc (p60 (hu.mono k1) hh (by omega) hlf (fun bad E2 k2=>quit _ E2 (mt_ k01 k2) ?_) (fun ok1 ok2 E2 k2=>Ct_intro hrc (q60 (h4.mono RB_ok (mt_ k1 k2)) rfl h5 h7 (by omega) (hu.mono (mt_ k1 k2)) hh ok1 fun bd ld cd cap' tot' E3 k3 hB g3 g4=>?_)))
  ·rw [← hinv]
   rcases bad with bad|bad
   ·exact fromF_bad2 (by omega) g2 m1 (by omega) (by omega)
   ·by_cases q:h-5<j+lenF (A.drop 5) j+11
    ·exact fromF_bad2 (by omega) g2 m1 (by omega) (by omega)
    ·exact fromF_bad3 (by omega) g2 m1 (by omega) bad
  ·have:=fromF_next (ys:=yss) (k:=j) (r:=A.drop 5) (by omega) g2 m1 (by omega) ok2
   rw [hinv] at this
   exact ih bd ld cd cap' tot' _ E3 (mt_ k01 (mt_ k2 k3)) (mt_ k1 (mt_ k2 k3)) (by omega) hB g3 g4 this.symm
 ·refine Ct_intro hrc (p60 (hu.mono k1) hh (by omega) (by omega) (fun bad E2 k2=>quit _ E2 (mt_ k01 k2) ?_) (fun ok1 ok2 E2 k2=>by omega))
  rw [← hinv]
  exact fromF_bad1 (by omega) g2 (m1.imp_right (fun z=>by omega))
theorem lp60 {bx0:List Box} {E00:Mem} (hrc:CxOK (GY rc)) (hrx:RcX KF 8 Tryz.f56 [1,1,1,1,1,0,1,0] 0 KK ⟨fr29,bx0,E00⟩ rc) (hu:Bs E0 ub h uc A) (hh:16<=h/\h<=8192) (herr:∀ (bx:List Box) (E':Mem),Mem.le E0 E'->parseF (A.drop 5)=none->KK (.tup [.raw (.pointer none),I 12]) bx E') (hok:∀ (j n cap tot:Nat) (rs:List (List Value)) (yss:List (List Int)) (E':Mem),Mem.le E0 E'->parseF (A.drop 5)=some (yss,j)->SLr RB E' rs yss->yss.length=n->n<=cap->KK (.tup [.loc 3 0,I 0]) ((bo29 s b l c h a g (5+j) n cap tot rs.flatten).set 1 ⟨91,.lst [.loc 3 0],1,true⟩) E') {cap:Nat} {rs:List (List Value)} (hI:I60 E0 E h A j n cap tot rs yss):
  Lp (GY rc) 8 Tryz.f99 [1,1,0] 6 (fun _ bx E=>Cn KF 8 Tryz.f56 [1,1,1,1,1,0,1,0] 0 KK ⟨fr29,bx,E⟩) (s60 s b l c h a g ub uc rc (5+j) n cap tot rs.flatten E):=
 Lp_ind hrc (fun x:{x:Mem×Nat×Nat×Nat×Nat×List (List Value)×List (List Int)//I60 E0 x.1 h A x.2.1 x.2.2.1 x.2.2.2.1 x.2.2.2.2.1 x.2.2.2.2.2.1 x.2.2.2.2.2.2}=>s60 s b l c h a g ub uc rc (5+x.1.2.1) x.1.2.2.1 x.1.2.2.2.1 x.1.2.2.2.2.1 x.1.2.2.2.2.2.1.flatten x.1.1) (fun x=>h-5-x.1.2.1)
  (fun x ih=>step60 hrc hrx (hu.mono x.2.le) hh herr hok x.2 fun bd ld cd cap' tot' ds E' k0 k1 hr hB g3 g4 hf=>by
   have key:=ih ⟨(E',x.1.2.1+lenF (A.drop 5) x.1.2.1+11,x.1.2.2.1+1,cap',tot',x.1.2.2.2.2.2.1++[[Value.slice bd ld cd]],x.1.2.2.2.2.2.2++[ds]),⟨k0,hr,hf,(x.2.rws.mono RB_ok k1).snoc ⟨bd,ld,cd,rfl,hB⟩,by rw [List.length_append,x.2.num];rfl,by have:=x.2.nj;show x.1.2.2.1+1<=x.1.2.1+lenF (A.drop 5) x.1.2.1+11;omega,g3,g4⟩⟩ (by show h-5-(_+_+11)<h-5-_;omega)
   have e1:(x.1.2.2.2.2.2.1++[[Value.slice bd ld cd]]).flatten=x.1.2.2.2.2.2.1.flatten++[Value.slice bd ld cd]:=by simp
   have e2:5+(x.1.2.1+lenF (A.drop 5) x.1.2.1+11)=5+x.1.2.1+lenF (A.drop 5) x.1.2.1+11:=by omega
   have key2:Lp (GY rc) 8 Tryz.f99 [1,1,0] 6 (fun _ bx E=>Cn KF 8 Tryz.f56 [1,1,1,1,1,0,1,0] 0 KK ⟨fr29,bx,E⟩) (s60 s b l c h a g ub uc rc (5+(x.1.2.1+lenF (A.drop 5) x.1.2.1+11)) (x.1.2.2.1+1) cap' tot' (x.1.2.2.2.2.2.1++[[Value.slice bd ld cd]]).flatten E'):=key
   rw [e1,e2] at key2
   exact key2) ⟨(E,j,n,cap,tot,rs,yss),hI⟩
def pubS (K:KT):KT:=fun s bx E=>K s bx E\/∃ (b:Nat) (y:Box) (cs:List Value),bx[b]? =some y/\y.row.val=some cs/\∀ (base:Option Addr) (E':Mem),Mem.le E E'->WinE E' base cs->K (s.subst b base) ((bx.set b { y with own:=false }).map (Box.subst b base)) E'
theorem CallSem.pubS {P:Program} {f:FuncId} {args:List SV} {bx:List Box} {K:KT} (h:CallSem P f args bx E (CustodyOwn.pubS K)):CallSem P f args bx E K:=by
 refine fun w0 mu ρ w vs hR hv=>?_
 refine (h w0 mu ρ w vs hR hv).mono fun e w' hp=>?_
 obtain ⟨v,s,bx',E',ρ',rfl,hpre,hs,hR',hK⟩:=hp
 rcases hK with hK|⟨b,y,cs,hy,hcs,hK⟩
 ·exact ⟨v,s,bx',E',ρ',rfl,hpre,hs,hR',hK⟩
 ·obtain ⟨base,E2,hρ,hle,hw,hR2⟩:=hR'.pub hy hcs
  exact ⟨v,_,_,E2,ρ',rfl,hpre,subst_den hρ s hs,hR2,hK base E2 hle hw⟩
theorem b29 (hz:Bs E b l c zs)
  (herr:∀ (e:Int) (bx:List Box) (E':Mem),Mem.le E E'->(openF s zs).2=e->e≠0->KK (.tup [.raw (.pointer none),I e]) bx E')
  (hokn:∀ (a:Nat) (g:Int) (h:Nat) (E':Mem),Mem.le E E'->areaF s l=h->openF s zs=(([],a,g,5),0)->KK (.tup [.loc 3 0,I 0]) ((bn29 s b l c h a g).set 1 ⟨91,.lst [.loc 3 0],1,true⟩) E')
  (hok:∀ (a:Nat) (g:Int) (h j n cap tot:Nat) (rs:List (List Value)) (yss:List (List Int)) (E':Mem),Mem.le E E'->areaF s l=h->openF s zs=((yss,a,g,5+j),0)->SLr RB E' rs yss->yss.length=n->n<=cap->KK (.tup [.loc 3 0,I 0]) ((bo29 s b l c h a g (5+j) n cap tot rs.flatten).set 1 ⟨91,.lst [.loc 3 0],1,true⟩) E'):
  EntB KF 8 Tryz.f56 [.agg [I s,L b l c]] [] E KK:=by
 refine sm_ (?_:Mem.le E E/\bif !decide (validF s l) then KK (SV.tup [SV.raw (Value.pointer none),I 1]) [⟨24,.lst [I s,L b l c],2,true⟩,⟨91,.lst [SV.raw (Value.pointer none)],1,true⟩,⟨29,.lst [I 1],1,true⟩] E else (s=(0:Int)->False)/\((2:Int)=(0:Int)->False)/\bif bif false then true else Int.tmod (WI (Int.tdiv (NI l) s)) (2:Int) !=(0:Int) then KK (SV.tup [SV.raw (Value.pointer none),I 1]) [⟨24,.lst [I s,L b l c],2,true⟩,⟨91,.lst [SV.raw (Value.pointer none)],1,true⟩,⟨29,.lst [I 1],1,true⟩] E else bif bif false then true else decide ((NI l)<32) then KK (SV.tup [SV.raw (Value.pointer none),I 1]) [⟨24,.lst [I s,L b l c],2,true⟩,⟨91,.lst [SV.raw (Value.pointer none)],1,true⟩,⟨29,.lst [I 1],1,true⟩] E else ((2:Int)=(0:Int)->False)/\Lp KF 8 Tryz.f56 [1,1,1,0,1,0] 0 KK { fr:=some (SV.agg [I s,L b l c])::oc 0 0::oc 1 0::oc 2 0::oc 4 0::oI 0::none::none::none::some (SV.agg [I s,L b l c])::oB (decide (validF s l))::oB (!decide (validF s l))::oB false::oc 0 1::oL b l c::oI (NI l)::oc 0 0::oI s::oI (WI (Int.tdiv (NI l) s))::oI (Int.tmod (WI (Int.tdiv (NI l) s)) 2)::oB (Int.tmod (WI (Int.tdiv (NI l) s)) (2:Int) !=(0:Int))::oB (bif false then true else Int.tmod (WI (Int.tdiv (NI l) s)) (2:Int) !=(0:Int))::oB false::oc 0 1::oL b l c::oI (NI l)::oB (decide ((NI l)<32))::oB (bif false then true else decide ((NI l)<32))::some (SV.agg [I s,L b l c])::oc 0 1::oL b l c::oI (NI l)::oI (WI (Int.tdiv (NI l) 2))::some (SV.agg [I s,L b l c,I 0,I (WI (Int.tdiv (NI l) 2)),I (-1),L none 0 0,I 5])::oc 3 0::no32 (no32 (no2 (none::[]))),bx:=[(⟨24,.lst [I s,L b l c],2,true⟩:Box),⟨91,.lst [SV.raw (Value.pointer none)],1,true⟩,⟨29,.lst [I 0],1,true⟩,⟨95,.lst [I s,L b l c,I 0,I (WI (Int.tdiv (NI l) 2)),I (-1),L none 0 0,I 5],7,true⟩,⟨91,.lst [SV.loc 3 0],1,true⟩],E:=E:St })
 delta WI NI no2 no32
 have hl:=hz.2.1
 subst hl
 have arg:areaF s zs.length=0->∀ bx,KK (.tup [.raw (.pointer none),I 1]) bx E:=fun q bx=>herr 1 bx E mr_ (by rw [openF_arg q]) (by decide)
 refine ⟨mr_,condC (fun g=>arg ?_ _) (fun g=>?_)⟩
 ·have g:¬ validF s zs.length:=by simpa using g
  exact if_neg (fun q=>g q.1)
 have g:validF s zs.length:=by simpa using g
 have gv:=g
 unfold validF at gv
 obtain ⟨v1,v2,v3,v4,v5⟩:=gv
 have hd1:(zs.length:Int) / s<=zs.length:=Int.ediv_le_self _ (by omega)
 have hd0:0<=(zs.length:Int) / s:=Int.ediv_nonneg (by omega) (by omega)
 have e1:IntKind.wrap .i64 (Int.tdiv (zs.length:Int) s)=(zs.length:Int) / s:=by rw [Int.tdiv_eq_ediv_of_nonneg (by omega),wrap_i64 (by omega)]
 have e2:IntKind.wrap .i64 (Int.tdiv (zs.length:Int) 2)=((zs.length / 2:Nat):Int):=by rw [Int.tdiv_eq_ediv_of_nonneg (by omega),wrap_i64 (by omega)];omega
 rw [e1,e2,Int.tmod_eq_emod_of_nonneg hd0]
 refine ⟨by omega,by decide,condC (fun q=>arg ?_ _) (fun q=>condC (fun r=>arg ?_ _) (fun r=>⟨by decide,?_⟩))⟩
 ·have q:¬ (zs.length:Int) / s % 2=0:=by simpa using q
  exact if_neg (fun z=>q z.2.1)
 ·have r:(zs.length:Int)<32:=by simpa using r
  exact if_neg (fun z=>by have:=z.2.2;omega)
 have q:(zs.length:Int) / s % 2=0:=by simpa using q
 have r:¬ (zs.length:Int)<32:=by simpa using r
 have hA:areaF s zs.length≠0:=by rw [show areaF s zs.length=zs.length / 2 from if_pos ⟨g,q,by omega⟩];omega
 obtain ⟨a1',a2,a3,a4,a5,a6⟩:=areaF_ok hA
 rw [← a1']
 have hh:2*areaF s zs.length=zs.length/\16<=areaF s zs.length/\zs.length<=16384:=⟨a5,by omega,a6⟩
 have key:=lp29 (s:=s) (KK:=KK) hz hh
  (fun u g' E1 k1 r1=>herr 4 _ E1 k1 (by
   obtain ⟨u2,g2,hu⟩:∃ u2 g2,usedF (areaF s zs.length) zs=(u2,g2):=⟨_,_,rfl⟩
   rw [openF_none hA hu (by rw [hu] at r1;exact r1)]) (by decide))
  (fun a g' E1 k1 r1=>RfQ okKF okKG (by kernel_rfl) (by kernel_rfl) Tryz.func99 ⟨by kernel_rfl,by kernel_rfl⟩ (gf:=99) (gfn:=Tryz.f99) (first:=[]) (caps:=[.loc 5 0]) (m:=8) (fun rc hrc hrx=>?_) rfl rfl)
 ·rw [Nat.zero_mul] at key
  exact Lp_re [some 0,some 1,some 2,some 3,some 4] (key) (wkG mr_)
 have ha:=used_ok r1
 have eA:recsB (areaF s zs.length) a zs=((zs.drop a).take (areaF s zs.length)).drop 5:=by
  unfold recsB
  rw [List.drop_take,List.drop_drop]
 have hn0:(parseF (((zs.drop a).take (areaF s zs.length)).drop 5)=none->openF s zs=(([],0,0,0),12)):=fun q=>openF_sum hA r1 (by rw [eA];exact q)
 have hn1:∀ ys n,(parseF (((zs.drop a).take (areaF s zs.length)).drop 5)=some (ys,n)->openF s zs=((ys,a,g',5+n),0)):=fun ys n q=>openF_ok hA r1 (by rw [eA];exact q)
 refine ent60 (hz.mono k1) hh ha fun ub uc E2 k2 hu=>?_
 have k02:Mem.le E E2:=mt_ k1 k2
 have key2:=lp60 (s:=s) (b:=b) (l:=zs.length) (c:=c) (a:=a) (g:=g') (E0:=E2) hrc hrx hu ⟨by omega,by omega⟩ (fun bx E' k q=>herr 12 bx E' (mt_ k02 k) (by rw [hn0 q]) (by decide)) (fun j n cap tot rs yss E' k q h1 h2 h3=>hok a g' _ j n cap tot rs yss E' (mt_ k02 k) rfl (hn1 _ _ q) h1 h2 h3)
  (E:=E2) (j:=0) (n:=0) (cap:=0) (tot:=0) (rs:=[]) (yss:=[]) ⟨mr_,Nat.zero_le _,fromF_0 _,SLr.nil,rfl,Nat.le_refl _,Nat.le_refl _,Nat.le_refl _⟩
 exact Lp_re [some 0,some 1,some 2,some 3,some 4,some 5,none] key2 ⟨⟨Nat.le_refl 6,by first|(simp;done)|(simp [St.pub];done),fun j h=>(by have e:j=0\/j=1\/j=2\/j=3\/j=4\/j=5:=(by omega);rcases e with rfl|rfl|rfl|rfl|rfl|rfl<;>rfl)⟩,rfl,(by repeat' first|exact True.intro|refine And.intro (Or.inl rfl) ?_|refine And.intro (Or.inr ⟨rfl,rfl⟩) ?_),(by repeat' first|exact True.intro|exact rfl|exact Or.inl rfl|exact Or.inr ⟨rfl,rfl⟩|fail|refine And.intro ?_ ?_),(show List.Nodup [0,1,2,3,4,5] from by decide),mr_⟩
noncomputable def tabB29:CallT:=fun f args bx E K=>match f with
 | 56=>d1 args fun x0=>dC x0 fun l1=>d2 l1 fun y0 y1=>dI y0 fun s=>dS y1 fun b l c=>∃ zs:List Int,Bs E b l c zs/\
   (∀ (e:Int) (E':Mem),Mem.le E E'->Hyp ((openF s zs).2=e)->(e=0->False)->K (.tup [.raw (.pointer none),I e]) bx E')/\
   (∀ (yss:List (List Int)) (a:Nat) (g:Int) (h e:Nat) (lb:Option Addr) (ln lc:Nat) (E':Mem),Mem.le E E'->Hyp (areaF s l=h)->Hyp (openF s zs=((yss,a,g,e),0))->BL E' lb ln lc yss->K (.tup [.loc bx.length 0,I 0]) (bx++[⟨95,.lst [I s,L b l c,I (a:Nat),I (h:Nat),I g,L lb ln lc,I (e:Nat)],7,true⟩]) E')
 | _=>False
theorem tabB29_ok:∀ f args bx E K,tabB29 f args bx E K->CallSem Tryz.prog f args bx E K:=by
 intro f args bx E K hh
 unfold tabB29 at hh
 split at hh
 case h_2=>exact hh.elim
 obtain ⟨x0,rfl,h1⟩:=d1_elim hh
 obtain ⟨l1,hl1,h2⟩:=dC_elim h1
 obtain ⟨y0,y1,rfl,h3⟩:=d2_elim h2
 obtain ⟨s,rfl,h4⟩:=dI_elim h3
 obtain ⟨b,l,c,rfl,h5⟩:=dS_elim h4
 obtain ⟨zs,hz,kerr,kok⟩:=h5
 refine CallSem.vcongr (args':=[.agg [I s,L b l c]]) (vs:=[.agg #[.int .i64 s,.slice b l c]]) (valL_cons (asCells_val hl1) rfl) rfl ?_
 refine frame0 (K':=fun s' bx' E'=>K (s'.ren [] bx.length) (bx++bx'.map (Box.ren [] bx.length)) E') (vs:=[.agg #[.int .i64 s,.slice b l c]]) rfl (CallSem.clo (CallSem.pubS (EntB.sem okKF Tryz.func56 ⟨by kernel_rfl,by kernel_rfl⟩ (b29 hz ?_ ?_ ?_)))) (fun _ _ _ q=>q)
 ·intro e bx1 E1 k1 r1 ne
  refine .inl (cloK_intro [] (s':=.tup [.raw (.pointer none),I e]) (bx':=[]) (E':=E1) ?_ ?_)
  ·have:=kerr e E1 k1 r1 (fun q=>ne q)
   simpa [SV.ren,SV.renL] using this
  ·exact (wkG mr_)
 ·intro a g h E1 k1 r1 r2
  refine .inl (cloK_intro [some 3] (s':=.tup [.loc 0 0,I 0]) (bx':=[⟨95,.lst [I s,L b l c,I (a:Nat),I (h:Nat),I g,L none 0 0,I 5],7,true⟩ ]) (E':=E1) ?_ (wkG mr_))
  have:=kok [] a g h 5 none 0 0 E1 k1 r1 r2 SL.nil
  simpa [SV.ren,SV.renL,Box.ren,Row.ren,renF] using this
 ·intro a g h j n cap tot rs yss E1 k1 r1 r2 R1 n1 c1
  refine .inr ⟨6,⟨22,.vals rs.flatten,tot,true⟩,rs.flatten,rfl,rfl,fun base E2 k2 w2=>?_⟩
  refine cloK_intro [some 3] (s':=.tup [.loc 0 0,I 0]) (bx':=[⟨95,.lst [I s,L b l c,I (a:Nat),I (h:Nat),I g,L (base.map fun x=>x.add 0) n cap,I ((5+j:Nat):Int)],7,true⟩]) (E':=E2) ?_ (wkG mr_)
  have:=kok yss a g h (5+j) _ n cap E2 (mt_ k1 k2) r1 r2 (SL.win RB_ok w2 rfl (R1.mono RB_ok k2) n1 c1)
  simpa [SV.ren,SV.renL,Box.ren,Row.ren,renF] using this
theorem CallSem.wr3 {P:Program} {f:FuncId} {bx:List Box} {iw ij ir:Nat} {cs:List Value} {cap:Nat} {args args':List SV} {K:KT} (hw:bx[iw]? =some ⟨111,.lst [.slc ir 0 n cap],1,true⟩) (hj:bx[ij]? =some ⟨95,.lst (cs.map .raw),7,true⟩) (hb:bx[ir]? =some ⟨24,.vals vs,tot,true⟩) (hne:iw≠ij/\iw≠ir/\ij≠ir) (ha:args=SV.renL [iw,ij,ir] bx.length args')
  (h:CallSem P f args' [⟨111,.lst [.slc 2 0 n cap],1,true⟩,⟨95,.lst (cs.map .raw),7,true⟩,⟨24,.vals vs,tot,true⟩] E (cloK 3 fun s bx' E'=>∃ k n' cap' vs' tot',s=I k/\bx'=[⟨111,.lst [.slc 3 0 n' cap'],1,true⟩,⟨95,.lst (cs.map .raw),7,true⟩,⟨24,.lst [],0,false⟩,⟨24,.vals vs',tot',true⟩]/\K (I k) ((bx.set iw ⟨111,.lst [.slc bx.length 0 n' cap'],1,true⟩).set ir ⟨24,.lst [],0,false⟩++[⟨24,.vals vs',tot',true⟩]) E')):
  CallSem P f args bx E K:=by
 obtain ⟨h1,h2,h3⟩:=hne
 have rawr:∀ (l:List Value) (σ:List Nat) (m:Nat),SV.renL σ m (l.map .raw)=l.map .raw:=fun l σ m=>renL_of_val σ m (l.map .raw) (vs:=l) (by induction l with |nil=>rfl|cons x l ih=>simp [SV.valL,SV.val,ih])
 refine frame (σ:=[iw,ij,ir]) ⟨by simp [h1,h2,h3],rfl,fun i y hy=>?_⟩ ha h.clo ?_
 ·match i,hy with
  | 0,hy=>
   simp only [List.getElem?_cons_zero,Option.some.injEq] at hy;subst hy
   exact ⟨rfl,iw,rfl,hw⟩
  | 1,hy=>
   simp only [List.getElem?_cons_succ,List.getElem?_cons_zero,Option.some.injEq] at hy;subst hy
   refine ⟨rfl,ij,rfl,?_⟩
   rw [hj];simp [Box.ren,Row.ren,rawr]
  | 2,hy=>
   simp only [List.getElem?_cons_succ,List.getElem?_cons_zero,Option.some.injEq] at hy;subst hy
   exact ⟨rfl,ir,rfl,hb⟩
 ·rintro s bxs' E' ⟨k,n',cap',vs',tot',rfl,rfl,hK⟩
  have e2:∀ y,(bx.set iw y).set ij ⟨95,.lst (cs.map .raw),7,true⟩=bx.set iw y:=fun y=>by
   apply List.ext_getElem?
   intro i
   rw [List.getElem?_set]
   split
   ·rename_i h';subst h'
    rw [List.getElem?_set_ne h1,hj]
    have hlt:ij<bx.length:=(List.getElem?_eq_some_iff.1 hj).1
    simp only [List.length_set,hlt,if_true]
   ·rfl
  simpa [merge,setAll,SV.ren,renF,Box.ren,Row.ren,SV.renL,rawr,e2] using hK
noncomputable def tabI:CallT:=fun f args bx E K=>match f with
  | 56=>tabB29 56 args bx E K
  | 71=>tabW 71 args bx E K
  | 102=>d2 args fun x0 x1=>dS x0 fun b l c=>match x1 with
    | .clo 88 [] []=>∃ zs:List Int,(Bs E b l c zs/\l<=100000)/\∀ r:Int,Hyp (decide (r>=0)=(!(zs.all (fun x=>decide (x=255)))))->K (I r) bx E
    | _=>False
  | 70=>d3 args fun x0 x1 x2=>dS x2 fun kb kn kc=>match x0 with
    | .loc iw 0=>match x1 with
      | .loc ij 0=>match bx[iw]? with
        | some ⟨111,.lst [.slc ir 0 1 cap],1,true⟩=>match bx[ir]? with
          | some ⟨e1,r,tot,true⟩=>match r.val with
            | some vs=>∃ (s g:Int) (b lb:Option Addr) (l c a ln lc e:Nat) (zs:List Int) (rs:List FRow) (keep:List (List Int)),((iw≠ij/\iw≠ir/\ij≠ir)/\bx[ij]? =some ⟨95,.lst [I s,L b l c,I (a:Nat),I (areaF s zs.length:Nat),I g,L lb ln lc,I (e:Nat)],7,true⟩/\e1=24/\vs=rs.flatMap rowV/\FLr E rs [(s,zs)]/\(∀ z∈zs,0<=z/\z<=255)/\(1<=cap/\cap*2<=tot)/\areaF s zs.length≠0/\usedF (areaF s zs.length) zs=((a:Int),g)/\BL E kb kn kc keep/\kn<=1000/\5+needF keep<=areaF s zs.length)/\
               ∀ (n' cap' tot':Nat) (rs':List FRow) (E':Mem),Mem.le E E'->FLr E' rs' (rewL s zs (areaF s zs.length) a g keep)->Hyp ((rewL s zs (areaF s zs.length) a g keep).length=n')->n'<=cap'/\cap'*2<=tot'->K (I (areaF s zs.length-a+5+needF keep:Nat)) ((bx.set iw ⟨111,.lst [.slc bx.length 0 n' cap'],1,true⟩).set ir ⟨24,.lst [],0,false⟩++[⟨24,.vals (rs'.flatMap rowV),tot',true⟩]) E'
            | none=>False
          | _=>False
        | _=>False
      | _=>False
    | _=>False
  | _=>False
theorem tabI_ok:∀ f args bx E K,tabI f args bx E K->CallSem Tryz.prog f args bx E K:=by
 intro f args bx E K h
 unfold tabI at h
 split at h
 ·exact tabB29_ok _ _ _ _ _ h
 ·exact tabW_ok _ _ _ _ _ h
 ·obtain ⟨x0,x1,rfl,h1⟩:=d2_elim h
  obtain ⟨b,l,c,rfl,h2⟩:=dS_elim h1
  clear h h1
  split at h2
  case h_2=>exact h2.elim
  obtain ⟨zs,⟨hz,hl⟩,hK⟩:=h2
  refine frame (σ:=[]) (args':=[L b l c,.clo 88 [] []]) ⟨List.nodup_nil,rfl,fun i b h=>by simp at h⟩ (by simp [SV.renL,SV.ren]) (EntB.sem okKE Tryz.func102 ⟨by kernel_rfl,by kernel_rfl⟩ (b63 (KK:=fun s bx' E'=>∃ r,s=I r/\bx'=[]/\K (I r) bx E') hz hl fun r hr=>⟨r,rfl,rfl,hK r hr⟩)) ?_
  rintro s bxs' E' ⟨r,rfl,rfl,hK⟩
  simpa [merge,setAll,SV.ren] using hK
 ·obtain ⟨x0,x1,x2,rfl,h1⟩:=d3_elim h
  obtain ⟨kb,kn,kc,rfl,h3⟩:=dS_elim h1
  clear h h1
  split at h3
  case h_2=>exact h3.elim
  rename_i iw
  split at h3
  case h_2=>exact h3.elim
  rename_i ij
  split at h3
  case h_2=>exact h3.elim
  rename_i ir cap hw
  split at h3
  case h_2=>exact h3.elim
  rename_i e1 r tot hb
  split at h3
  case h_2=>exact h3.elim
  rename_i vs hr
  obtain ⟨s,g,b,lb,l,c,a,ln,lc,e,zs,rs,keep,⟨hne,hj,rfl,rfl,R,hzb,hc,hA,hu,hk,hkn,hroom⟩,hK⟩:=h3
  refine CallSem.asV hb hr ?_
  have hlt:ir<bx.length:=(List.getElem?_eq_some_iff.1 hb).1
  have hb2:(bx.set ir ⟨24,.vals (rs.flatMap rowV),tot,true⟩)[ir]? =some ⟨24,.vals (rs.flatMap rowV),tot,true⟩:=by rw [List.getElem?_set_self hlt]
  have hw2:(bx.set ir ⟨24,.vals (rs.flatMap rowV),tot,true⟩)[iw]? =some ⟨111,.lst [.slc ir 0 1 cap],1,true⟩:=by rw [List.getElem?_set_ne (Ne.symm hne.2.1)];exact hw
  have hj2:(bx.set ir ⟨24,.vals (rs.flatMap rowV),tot,true⟩)[ij]? =some ⟨95,.lst (([.int .i64 s,.slice b l c,.int .i64 (a:Nat),.int .i64 (areaF s zs.length:Nat),.int .i64 g,.slice lb ln lc,.int .i64 (e:Nat)]:List Value).map .raw),7,true⟩:=by rw [List.getElem?_set_ne (Ne.symm hne.2.2)];exact hj
  refine CallSem.wr3 (args':=[.loc 0 0,.loc 1 0,L kb kn kc]) hw2 hj2 hb2 hne (by simp [SV.renL,SV.ren,renF]) (EntB.sem okKD Tryz.func70 ⟨by kernel_rfl,by kernel_rfl⟩ (b33 (b:=b) (lb:=lb) (l:=l) (c:=c) (ln:=ln) (lc:=lc) (e:=e) R hzb hc hA hu hk hkn hroom fun n' cap' tot' rs' E' h1 h2 h3 h4=>?_))
  refine cloK_intro [some 0,some 1,some 2,some 7] ⟨_,n',cap',_,tot',rfl,rfl,?_⟩ (wkG mr_ (h6:=(by repeat' first|exact True.intro|exact rfl|exact Or.inl rfl|exact (by decide:2<8)|refine And.intro ?_ ?_)))
  have:=hK n' cap' tot' rs' E' h1 h2 h3 h4
  rw [List.length_set,List.set_comm _ _ (Ne.symm hne.2.1),List.set_set]
  exact this
 ·exact h.elim
noncomputable def KI:Cx:={ P:=Tryz.prog,inl:=fun f=>List.contains [68,69,86,87,89] f,tab:=fun _ _ _ _=>False,isB:=fun f=>f==56||f==70||f==71||f==102,tabB:=tabI,opt:={ unroll:=0,carry:=[8,22],cuts:=[7] },muts:=(fun o=>match o with | .call { callee:=.value (.func 68),.. }=>true| .call { callee:=.value (.func 87),.. }=>true| .call { callee:=.value (.func 86),.. }=>true| .call { callee:=.value (.func 89),.. }=>true|o=>mutsD o) }
theorem okKI:CxOK KI:=CxOK.four (fun _ _ _ _ h=>h.elim) (by kernel_rfl) (okInl (by kernel_rfl)) tabI_ok
noncomputable def KJ:Cx:={ P:=Tryz.prog,inl:=fun f=>List.contains [68,69,86,87,89] f,tab:=fun _ _ _ _=>False,isB:=fun f=>f==56||f==70||f==71||f==102,tabB:=tabI,opt:={ unroll:=0,carry:=[8,22],cuts:=[13] },muts:=(fun o=>match o with | .call { callee:=.value (.func 68),.. }=>true| .call { callee:=.value (.func 87),.. }=>true| .call { callee:=.value (.func 86),.. }=>true| .call { callee:=.value (.func 89),.. }=>true|o=>mutsD o) }
theorem okKJ:CxOK KJ:=CxOK.four (fun _ _ _ _ h=>h.elim) (by kernel_rfl) (okInl (by kernel_rfl)) tabI_ok
theorem readF_nil (h:(openF s zs).2≠0):(openF s zs).1.1=[]:=by
 by_cases h1:areaF s zs.length=0
 ·rw [openF_arg h1]
 obtain ⟨u,g,hu⟩:∃ u g,usedF (areaF s zs.length) zs=(u,g):=⟨_,_,rfl⟩
 by_cases h2:u<0
 ·rw [openF_none h1 hu h2]
 obtain ⟨a,rfl⟩:∃ a:Nat,u=a:=⟨u.toNat,by omega⟩
 cases h3:parseF (recsB (areaF s zs.length) a zs) with
 | none=>rw [openF_sum h1 hu h3]
 | some q=>rw [openF_ok h1 hu h3] at h;exact absurd rfl h
theorem clean_eq:((((zs.drop a).take h).drop e).all (fun x=>decide (x=255)))=cleanF h a e zs:=by
 unfold cleanF
 rw [List.drop_take,List.drop_drop]
theorem open_facts (ro:openF s zs=((yss,a,g,e),0)):areaF s zs.length≠0/\usedF (areaF s zs.length) zs=((a:Int),g)/\(a=0\/a=areaF s zs.length)/\needF yss+5=e/\e<=areaF s zs.length/\11*yss.length<=needF yss/\2*areaF s zs.length=zs.length/\16<=areaF s zs.length/\zs.length<=16384/\validF s zs.length:=by
 obtain ⟨ls,a',n,g',hA,hu,hp,ho⟩:=openF_inv (s:=s) (zs:=zs) (by rw [ro])
 rw [ro] at ho
 simp only [Prod.mk.injEq,and_true] at ho
 obtain ⟨rfl,rfl,rfl,rfl⟩:=ho
 obtain ⟨a1',hv,a3,a4,a5,a6⟩:=areaF_ok hA
 have hn:=parseF_len hp
 have ha:=used_ok hu
 rw [recs_len (by omega)] at hn
 have hnd:=parseF_need hp
 have:=needF_ge yss
 exact ⟨hA,hu,ha,by omega,by omega,this,a5,by omega,a6,hv⟩
theorem clean_intro (hz:Bs E b l c zs) (hah:a+h<=l) (hl:l<=16384) (he:e<=h) {Q:Mem->Int->Prop} (k:∀ (E':Mem) (r:Int),Mem.le E E'->decide (r>=0)=(!(cleanF h a e zs))->Q E' r):
  req (l<=c) (req (0<=IntKind.wrap .i64 ((a:Int)+(h:Int))/\IntKind.wrap .i64 ((a:Int)+(h:Int))<=(c:Int)) (req (0<=IntKind.wrap .i64 ((a:Int)+(h:Int))/\IntKind.wrap .i64 ((a:Int)+(h:Int))<=((toN (some (IntKind.wrap .i64 ((a:Int)+(h:Int)))) c:Nat):Int)) (req (0<=(a:Int)/\(a:Int)<=((toN (some (IntKind.wrap .i64 ((a:Int)+(h:Int)))) l:Nat):Int)) (∀ (b':Option Addr) (E':Mem),Mem.le E E'->
   (∀ cs:List Value,E (.slice b l c) cs->E' (.slice b' (toN (some (IntKind.wrap .i64 ((a:Int)+(h:Int)))) l-toN (some (a:Int)) 0) (toN (some (IntKind.wrap .i64 ((a:Int)+(h:Int)))) c-toN (some (a:Int)) 0)) (List.take ((toN (some (IntKind.wrap .i64 ((a:Int)+(h:Int)))) l-toN (some (a:Int)) 0)*1) (List.drop (toN (some (a:Int)) 0*1) cs)))->b'.isNone=b.isNone->
    req (toN (some (IntKind.wrap .i64 ((a:Int)+(h:Int)))) l-toN (some (a:Int)) 0<=toN (some (IntKind.wrap .i64 ((a:Int)+(h:Int)))) c-toN (some (a:Int)) 0) (req (0<=(e:Int)/\(e:Int)<=((toN none (toN (some (IntKind.wrap .i64 ((a:Int)+(h:Int)))) l-toN (some (a:Int)) 0):Nat):Int)) (∀ (b2:Option Addr) (E2:Mem),Mem.le E' E2->
     (∀ cs:List Value,E' (.slice b' (toN (some (IntKind.wrap .i64 ((a:Int)+(h:Int)))) l-toN (some (a:Int)) 0) (toN (some (IntKind.wrap .i64 ((a:Int)+(h:Int)))) c-toN (some (a:Int)) 0)) cs->E2 (.slice b2 (toN none (toN (some (IntKind.wrap .i64 ((a:Int)+(h:Int)))) l-toN (some (a:Int)) 0)-toN (some (e:Int)) 0) (toN none (toN (some (IntKind.wrap .i64 ((a:Int)+(h:Int)))) c-toN (some (a:Int)) 0)-toN (some (e:Int)) 0)) (List.take ((toN none (toN (some (IntKind.wrap .i64 ((a:Int)+(h:Int)))) l-toN (some (a:Int)) 0)-toN (some (e:Int)) 0)*1) (List.drop (toN (some (e:Int)) 0*1) cs)))->b2.isNone=b'.isNone->
      ∃ zs':List Int,(Bs E2 b2 (toN none (toN (some (IntKind.wrap .i64 ((a:Int)+(h:Int)))) l-toN (some (a:Int)) 0)-toN (some (e:Int)) 0) (toN none (toN (some (IntKind.wrap .i64 ((a:Int)+(h:Int)))) c-toN (some (a:Int)) 0)-toN (some (e:Int)) 0) zs'/\toN none (toN (some (IntKind.wrap .i64 ((a:Int)+(h:Int)))) l-toN (some (a:Int)) 0)-toN (some (e:Int)) 0<=100000)/\
       ∀ r:Int,Hyp (decide (r>=0)=(!(zs'.all (fun x=>decide (x=255)))))->Q E2 r)))))):=by
 have hzl:=hz.2.1
 have e1:IntKind.wrap .i64 ((a:Int)+(h:Int))=((a+h:Nat):Int):=by rw [wrap_i64 (by omega)];omega
 rw [e1]
 refine slice_introM hz (lo:=a) (hi:=a+h) rfl rfl (by omega) (by omega) (fun b' E' q hB hl=>?_) Bs.subM
 rw [show a+h-a=h by omega] at hB hl
 rw [hl] at hB ⊢
 refine slice_introE hB (lo:=e) rfl he fun b2 E2 k2 hB2 hl2=>⟨_,⟨hB2,by omega⟩,fun r hr=>k E2 r (mt_ q k2) ?_⟩
 rw [← clean_eq];exact hr
theorem j15 (h0:Bs E b2 l3 c4 zs) (h:∀ (b':Option Addr) (l' c':Nat) (yss:List (List Int)) (e:Int) (E':Mem),Mem.le E E'->Hyp (readF a1 zs=(yss,e))->BL E' b' l' c' yss->K (.tup [L b' l' c',I e]) E'):
  Ent KI 8 Tryz.f37 [.agg [I a1,L b2 l3 c4]] E K:=by
 refine sm_ (?_:∃ (zs:List Int),Bs E b2 l3 c4 zs/\(∀ (e:Int) (E':Mem),Mem.le E E'->Hyp ((openF a1 zs).snd=e)->(e=(0:Int)->False)->Mem.le E E'/\bif e !=(0:Int) then Mem.le E E'/\K (SV.tup [L none 0 0,I e]) E' else False)/\∀ (yss:List (List Int)) (a:Nat) (g:Int) (h e:Nat) (lb:Option Addr) (ln lc:Nat) (E':Mem),Mem.le E E'->Hyp (areaF a1 l3=h)->Hyp (openF a1 zs=((yss,a,g,e),(0:Int)))->BL E' lb ln lc yss->Mem.le E E'/\Mem.le E E'/\K (SV.tup [L lb ln lc,I (0:Int)]) E')
 refine ⟨zs,h0,fun e E1 k1 r1 ne=>⟨k1,condC (fun _=>⟨k1,h none 0 0 [] e E1 k1 ?_ SL.nil⟩) (fun q=>absurd (show e=0 by simpa using q) ne)⟩,fun yss a g hh e lb ln lc E1 k1 rA ro B1=>⟨k1,k1,h lb ln lc yss 0 E1 k1 ?_ B1⟩⟩
 ·have r1:(openF a1 zs).2=e:=r1
  show readF a1 zs=_
  unfold readF
  rw [r1,readF_nil (fun q=>ne (by rw [← r1,q]))]
 ·have ro:openF a1 zs=((yss,a,g,e),0):=ro
  show readF a1 zs=_
  unfold readF
  rw [ro]
def z17 (s g:Int) (b lb:Option Addr) (l c a h ln lc e:Nat) (d:Option Addr) (dl dc:Nat) (rb:Option Addr) (rl rc x:Nat) (E:Mem):St:=⟨[none,oL d dl dc]++nn 4++[oc 0 0,none,oc 2 0,oI (x:Nat)]++nn 62,[⟨95,.lst [I s,L b l c,I (a:Nat),I (h:Nat),I g,L lb ln lc,I (e:Nat)],7,true⟩,⟨24,.lst [I s,L rb rl rc],2,true⟩,⟨111,.lst [.slc 1 0 1 1],1,true⟩],E⟩
def z19 (s g:Int) (b lb:Option Addr) (l c a h ln lc e:Nat) (kb:Option Addr) (kn kc:Nat) (rb:Option Addr) (rl rc:Nat) (E:Mem):St:=⟨[none,oL kb kn kc]++nn 4++[oc 0 0]++nn 4++[oc 2 0]++nn 43,[⟨95,.lst [I s,L b l c,I (a:Nat),I (h:Nat),I g,L lb ln lc,I (e:Nat)],7,true⟩,⟨24,.lst [I s,L rb rl rc],2,true⟩,⟨111,.lst [.slc 1 0 1 1],1,true⟩],E⟩
theorem y17 {d:Option Addr} {dl dc:Nat} {rb:Option Addr} {rl rc:Nat} {ds:List Int} (hz:Bs E b zs.length c zs) (hr:Bs E rb rl rc zs) (ro:openF s zs=((yss,a,g,e),0)) (hB:BL E lb ln lc yss) (hd:Bs E d dl dc ds) (hroom:e+dl+11<=areaF s zs.length) (hx:x=a+e) (hdl:dl<=60000)
  (hg:cleanF (areaF s zs.length) a e zs=false->¬ g=4294967295) (hE:Mem.le E0 E)
  (ex:∀ (ms:List (Int×List Int)),appendF s zs ds=(ms,0)->∀ (b':Option Addr) (l' c':Nat) (E':Mem),Mem.le E0 E'->FL E' b' l' c' ms->K (.tup [L b' l' c',I 0]) E'):Pc KI 8 Tryz.f47 [1,1,1,1,1] 0 (pubK E0 K) (z17 s g b lb zs.length c a (areaF s zs.length) ln lc e d dl dc rb rl rc x E):=by
 refine sm_ (?_:Sx.Alike al2 (req (List.length zs<=c) (req ((0:Int)<=WI ((NI a)+(NI (areaF s (List.length zs))))/\WI ((NI a)+(NI (areaF s (List.length zs))))<=(NI c)) (req ((0:Int)<=WI ((NI a)+(NI (areaF s (List.length zs))))/\WI ((NI a)+(NI (areaF s (List.length zs))))<=(NI (toN (some (WI ((NI a)+(NI (areaF s (List.length zs)))))) c))) (req (0<=(NI a)/\(NI a)<=(NI (toN (some (WI ((NI a)+(NI (areaF s (List.length zs)))))) (List.length zs)))) (∀ (base':Option Addr) (E':Mem),Mem.le E E'->(∀ (cs:List Value),E (VS b (List.length zs) c) cs->E' (VS base' (toN (some (WI ((NI a)+(NI (areaF s (List.length zs)))))) (List.length zs)-toN (some (NI a)) 0) (toN (some (WI ((NI a)+(NI (areaF s (List.length zs)))))) c-toN (some (NI a)) 0)) (List.take ((toN (some (WI ((NI a)+(NI (areaF s (List.length zs)))))) (List.length zs)-toN (some (NI a)) 0)*1) (List.drop (toN (some (NI a)) 0*1) cs)))->Option.isNone base'=Option.isNone b->req (toN (some (WI ((NI a)+(NI (areaF s (List.length zs)))))) (List.length zs)-toN (some (NI a)) 0<=toN (some (WI ((NI a)+(NI (areaF s (List.length zs)))))) c-toN (some (NI a)) 0) (req (0<=(NI e)/\(NI e)<=(NI (toN none (toN (some (WI ((NI a)+(NI (areaF s (List.length zs)))))) (List.length zs)-toN (some (NI a)) 0)))) (∀ (base'_1:Option Addr) (E'_1:Mem),Mem.le E' E'_1->(∀ (cs:List Value),E' (VS base' (toN (some (WI ((NI a)+(NI (areaF s (List.length zs)))))) (List.length zs)-toN (some (NI a)) 0) (toN (some (WI ((NI a)+(NI (areaF s (List.length zs)))))) c-toN (some (NI a)) 0)) cs->E'_1 (VS base'_1 (toN none (toN (some (WI ((NI a)+(NI (areaF s (List.length zs)))))) (List.length zs)-toN (some (NI a)) 0)-toN (some (NI e)) 0) (toN none (toN (some (WI ((NI a)+(NI (areaF s (List.length zs)))))) c-toN (some (NI a)) 0)-toN (some (NI e)) 0)) (List.take ((toN none (toN (some (WI ((NI a)+(NI (areaF s (List.length zs)))))) (List.length zs)-toN (some (NI a)) 0)-toN (some (NI e)) 0)*1) (List.drop (toN (some (NI e)) 0*1) cs)))->Option.isNone base'_1=Option.isNone base'->∃ (zs_1:List Int),(Bs E'_1 base'_1 (toN none (toN (some (WI ((NI a)+(NI (areaF s (List.length zs)))))) (List.length zs)-toN (some (NI a)) 0)-toN (some (NI e)) 0) (toN none (toN (some (WI ((NI a)+(NI (areaF s (List.length zs)))))) c-toN (some (NI a)) 0)-toN (some (NI e)) 0) zs_1/\toN none (toN (some (WI ((NI a)+(NI (areaF s (List.length zs)))))) (List.length zs)-toN (some (NI a)) 0)-toN (some (NI e)) 0<=100000)/\∀ (r:Int),Hyp (decide (r>=(0:Int))= !List.all zs_1 fun (x:Int)=>decide (x=(255:Int)))->bif !!decide (r>=(0:Int)) then ∃ (s_1:Int),∃ (g_1:Int),∃ (b_1:Option Addr),∃ (lb_1:Option Addr),∃ (l:Nat),∃ (c_1:Nat),∃ (a_8:Nat),∃ (ln_1:Nat),∃ (lc_1:Nat),∃ (e_1:Nat),∃ (zs_2:List Int),∃ (rs:List FRow),∃ (keep:List (List Int)),(((2=0->False)/\(2=1->False)/\(0=1->False))/\some (⟨95,.lst [I s,L b (List.length zs) c,I (NI a),I (NI (areaF s (List.length zs))),I g,L lb ln lc,I (NI e)],7,true⟩:Box)=some (⟨95,.lst [I s_1,L b_1 l c_1,I (NI a_8),I (NI (areaF s_1 (List.length zs_2))),I g_1,L lb_1 ln_1 lc_1,I (NI e_1)],7,true⟩:Box)/\24=24/\[Value.int IntKind.i64 s,VS rb rl rc]=List.flatMap rowV rs/\FLr E'_1 rs [(s_1,zs_2)]/\(∀ (z:Int),List.Mem z zs_2->(0:Int)<=z/\z<=(255:Int))/\(1<=1/\2<=2)/\(areaF s_1 (List.length zs_2)=0->False)/\usedF (areaF s_1 (List.length zs_2)) zs_2=((NI a_8),g_1)/\BL E'_1 lb ln lc keep/\ln<=1000/\5+needF keep<=areaF s_1 (List.length zs_2))/\∀ (n' cap' tot':Nat) (rs':List FRow) (E':Mem),Mem.le E'_1 E'->FLr E' rs' (rewL s_1 zs_2 (areaF s_1 (List.length zs_2)) a_8 g_1 keep)->Hyp (List.length (rewL s_1 zs_2 (areaF s_1 (List.length zs_2)) a_8 g_1 keep)=n')->n'<=cap'/\cap'*2<=tot'->∃ (rs:List FRow),∃ (ms:List (Int×List Int)),∃ (ds:List Int),((2=3->False)/\24=24/\List.flatMap rowV rs'=List.flatMap rowV rs/\FLr E' rs ms/\List.length ms=n'/\(n'<=cap'/\cap'*2<=tot')/\(1<=n'/\n'<=(100000000000:Nat))/\Bs E' d dl dc ds/\validF (lastM ms).fst (List.length (lastM ms).snd)/\0<=(NI (areaF s_1 (List.length zs_2)-a_8+(5:Nat)+needF keep))/\Int.toNat (NI (areaF s_1 (List.length zs_2)-a_8+(5:Nat)+needF keep))+dl+(11:Nat)<=List.length (lastM ms).snd)/\∀ (n' cap' tot':Nat) (rs':List FRow) (E'_2:Mem),Mem.le E' E'_2->FLr E'_2 rs' (writeL ms (Int.toNat (NI (areaF s_1 (List.length zs_2)-a_8+5+needF keep))) ds)->Hyp (List.length (writeL ms (Int.toNat (NI (areaF s_1 (List.length zs_2)-a_8+(5:Nat)+needF keep))) ds)=n')->n'<=cap'/\cap'*2<=tot'->∀ (base:Option Addr) (E':Mem),Mem.le E'_2 E'->WinE E' base (List.flatMap rowV rs')->Mem.le E0 E'/\K (SV.tup [L (Option.map (fun (x:Addr)=>Addr.add x 0) base) n' cap',I 0]) E' else ∃ (rs:List FRow),∃ (ms:List (Int×List Int)),∃ (ds:List Int),((2=1->False)/\24=24/\[Value.int IntKind.i64 s,VS rb rl rc]=List.flatMap rowV rs/\FLr E'_1 rs ms/\List.length ms=1/\(1<=1/\2<=2)/\(1<=1/\1<=100000000000)/\Bs E'_1 d dl dc ds/\validF (lastM ms).fst (List.length (lastM ms).snd)/\0<=(NI x)/\Int.toNat (NI x)+dl+11<=List.length (lastM ms).snd)/\∀ (n' cap' tot':Nat) (rs':List FRow) (E':Mem),Mem.le E'_1 E'->FLr E' rs' (writeL ms (Int.toNat (NI x)) ds)->Hyp (List.length (writeL ms (Int.toNat (NI x)) ds)=n')->n'<=cap'/\cap'*2<=tot'->∀ (base:Option Addr) (E'_2:Mem),Mem.le E' E'_2->WinE E'_2 base (List.flatMap rowV rs')->Mem.le E0 E'_2/\K (SV.tup [L (Option.map (fun (x:Addr)=>Addr.add x 0) base) n' cap',I 0]) E'_2))))))))
 delta WI NI VS
 obtain ⟨hA,hu,ha,hn5,heh,hcnt,h2h,h16,hl16,hv⟩:=open_facts ro
 have hdd:=hd.2.1
 have hBl:=hB.len
 have eqA:=appendF_eq ds ro
 refine alike (clean_intro hz (by omega) (by omega) heh fun E1 r k1 hr1=>?_)
 rw [hr1]
 cases hcl:cleanF (areaF s zs.length) a e zs with
 | false=>
  refine condC (fun _=>?_) (fun z=>by cases z)
  have q2:=hg hcl
  obtain ⟨w1,w2,w3⟩:=rewL_ok (g:=g) (keep:=yss) hA ha (by omega)
  refine ⟨s,g,b,lb,_,c,a,ln,lc,e,zs,[(s,rb,rl,rc)],yss,⟨⟨by decide,by decide,by decide⟩,rfl,rfl,rfl,(FLr.nil E1).snoc (r:=(s,rb,rl,rc)) (m:=(s,zs)) rfl (hr.mono k1),hz.2.2.2.1,⟨by omega,by omega⟩,hA,hu,hB.mono RB_ok k1,by omega,by omega⟩,fun n1 cap1 tot1 rs1 E2 k2 R2 n2 c2=>?_⟩
  have n2:(rewL s zs (areaF s zs.length) a g yss).length=n1:=n2
  have ek:areaF s zs.length-a+5+needF yss=areaF s zs.length-a+e:=by omega
  refine ⟨rs1,_,ds,⟨by decide,rfl,rfl,R2,n2,c2,⟨by omega,by omega⟩,hd.mono (mt_ k1 k2),by rw [w1,w2];exact hv,by omega,by rw [Int.toNat_natCast,w2];omega⟩,fun n3 cap3 tot3 rs3 E3 k3 R3 n3' c3 base E4 k4 w4=>?_⟩
  rw [Int.toNat_natCast,ek] at R3 n3'
  have kE:Mem.le E0 E4:=mt_ hE (mt_ k1 (mt_ k2 (mt_ k3 k4)))
  exact ⟨kE,ex _ (by rw [eqA,if_neg (by rw [hcl];rintro (z|z);omega;exact q2 z.2),if_neg (by rw [hcl];simp)]) _ _ _ E4 kE (FL.win w4 rfl (R3.mono k4) n3' c3.1)⟩
 | true=>
  refine condC (fun z=>by cases z) (fun _=>?_)
  refine ⟨[(s,rb,rl,rc)],[(s,zs)],ds,⟨by decide,rfl,rfl,(FLr.nil E1).snoc (r:=(s,rb,rl,rc)) (m:=(s,zs)) rfl (hr.mono k1),rfl,⟨by omega,by omega⟩,⟨by omega,by omega⟩,hd.mono k1,hv,by omega,by rw [Int.toNat_natCast];show _<=zs.length;omega⟩,fun n3 cap3 tot3 rs3 E3 k3 R3 n3' c3 base E4 k4 w4=>?_⟩
  rw [Int.toNat_natCast,hx] at R3 n3'
  have kE:Mem.le E0 E4:=mt_ hE (mt_ k1 (mt_ k3 k4))
  exact ⟨kE,ex _ (by rw [eqA,if_neg (by rw [hcl];rintro (z|z);omega;exact absurd z.1 (by simp)),if_pos hcl]) _ _ _ E4 kE (FL.win w4 rfl (R3.mono k4) n3' c3.1)⟩
theorem y19 {rb:Option Addr} {rl rc:Nat} {keep:List (List Int)} (hr:Bs E rb rl rc zs) (ro:openF s zs=((yss,a,g,e),0)) (hk:BL E kb kn kc keep) (hkn:kn<=1000) (hroom:5+needF keep<=areaF s zs.length) (hg:¬ g=4294967295) (hE:Mem.le E0 E)
  (ex:∀ (ms:List (Int×List Int)),compactF s zs keep=(ms,0)->∀ (b':Option Addr) (l' c':Nat) (E':Mem),Mem.le E0 E'->FL E' b' l' c' ms->K (.tup [L b' l' c',I 0]) E'):Pc KJ 8 Tryz.f48 [1,1,1,1,1,1,1] 0 (pubK E0 K) (z19 s g b lb zs.length c a (areaF s zs.length) ln lc e kb kn kc rb rl rc E):=by
 refine sm_ (?_:∃ (s_1:Int),∃ (g_1:Int),∃ (b_1:Option Addr),∃ (lb_1:Option Addr),∃ (l:Nat),∃ (c_1:Nat),∃ (a_1:Nat),∃ (ln_1:Nat),∃ (lc_1:Nat),∃ (e_1:Nat),∃ (zs_1:List Int),∃ (rs:List FRow),∃ (keep:List (List Int)),(((2=0->False)/\(2=1->False)/\(0=1->False))/\some (⟨95,.lst [I s,L b (List.length zs) c,I (NI a),I (NI (areaF s (List.length zs))),I g,L lb ln lc,I (NI e)],7,true⟩:Box)=some (⟨95,.lst [I s_1,L b_1 l c_1,I (NI a_1),I (NI (areaF s_1 (List.length zs_1))),I g_1,L lb_1 ln_1 lc_1,I (NI e_1)],7,true⟩:Box)/\24=24/\[Value.int IntKind.i64 s,VS rb rl rc]=List.flatMap rowV rs/\FLr E rs [(s_1,zs_1)]/\(∀ (z:Int),List.Mem z zs_1->(0:Int)<=z/\z<=(255:Int))/\(1<=1/\2<=2)/\(areaF s_1 (List.length zs_1)=0->False)/\usedF (areaF s_1 (List.length zs_1)) zs_1=((NI a_1),g_1)/\BL E kb kn kc keep/\kn<=1000/\5+needF keep<=areaF s_1 (List.length zs_1))/\∀ (n' cap' tot':Nat) (rs':List FRow) (E':Mem),Mem.le E E'->FLr E' rs' (rewL s_1 zs_1 (areaF s_1 (List.length zs_1)) a_1 g_1 keep)->Hyp (List.length (rewL s_1 zs_1 (areaF s_1 (List.length zs_1)) a_1 g_1 keep)=n')->n'<=cap'/\cap'*2<=tot'->∀ (base:Option Addr) (E'_1:Mem),Mem.le E' E'_1->WinE E'_1 base (List.flatMap rowV rs')->Mem.le E0 E'_1/\K (SV.tup [L (Option.map (fun (x:Addr)=>Addr.add x 0) base) n' cap',I 0]) E'_1)
 delta NI VS
 obtain ⟨hA,hu,ha,hn5,heh,hcnt,h2h,h16,hl16,hv⟩:=open_facts ro
 refine ⟨s,g,b,lb,_,c,a,ln,lc,e,zs,[(s,rb,rl,rc)],keep,⟨⟨by decide,by decide,by decide⟩,rfl,rfl,rfl,(FLr.nil E).snoc (r:=(s,rb,rl,rc)) (m:=(s,zs)) rfl hr,hr.2.2.2.1,⟨by omega,by omega⟩,hA,hu,hk,hkn,hroom⟩,fun n1 cap1 tot1 rs1 E2 k2 R2 n2 c2 base E4 k4 w4=>?_⟩
 have kE:Mem.le E0 E4:=mt_ hE (mt_ k2 k4)
 exact ⟨kE,ex _ (by rw [compactF_eq keep ro,if_neg (by rintro (z|z);omega;exact hg z)]) _ _ _ E4 kE (FL.win w4 rfl (R2.mono k4) n2 c2.1)⟩
theorem j17 {b5:Option Addr} {l6:Nat} {c7:Nat} {ds:List Int} (h0:Bs E b2 l3 c4 zs) (h1:Bs E b5 l6 c7 ds) (h2:l6<=60000) (h:∀ (b':Option Addr) (l' c':Nat) (ms:List (Int×List Int)) (e:Int) (E':Mem),Mem.le E E'->Hyp (appendF a1 zs ds=(ms,e))->FL E' b' l' c' ms->K (.tup [L b' l' c',I e]) E'):
  Ent KI 8 Tryz.f47 [.agg [I a1,L b2 l3 c4],L b5 l6 c7] E K:=by
 refine sm_ (?_:∃ (zs:List Int),Bs E b2 l3 c4 zs/\(∀ (e:Int) (E':Mem),Mem.le E E'->Hyp ((openF a1 zs).snd=e)->(e=(0:Int)->False)->Mem.le E E'/\bif e !=(0:Int) then Mem.le E E'/\K (SV.tup [L none 0 0,I e]) E' else False)/\∀ (yss:List (List Int)) (a:Nat) (g:Int) (h e:Nat) (lb:Option Addr) (ln lc:Nat) (E':Mem),Mem.le E E'->Hyp (areaF a1 l3=h)->Hyp (openF a1 zs=((yss,a,g,e),(0:Int)))->BL E' lb ln lc yss->Mem.le E E'/\bif decide (WI (WI ((NI e)+(NI l6))+(11:Int))>(NI h)) then Mem.le E E'/\K (SV.tup [L none 0 0,I 10]) E' else Sx.Alike al2 (req (l3<=c4) (req ((0:Int)<=WI ((NI a)+(NI h))/\WI ((NI a)+(NI h))<=(NI c4)) (req ((0:Int)<=WI ((NI a)+(NI h))/\WI ((NI a)+(NI h))<=(NI (toN (some (WI ((NI a)+(NI h)))) c4))) (req (0<=(NI a)/\(NI a)<=(NI (toN (some (WI ((NI a)+(NI h)))) l3))) (∀ (base':Option Addr) (E'_1:Mem),Mem.le E' E'_1->(∀ (cs:List Value),E' (VS b2 l3 c4) cs->E'_1 (VS base' (toN (some (WI ((NI a)+(NI h)))) l3-toN (some (NI a)) 0) (toN (some (WI ((NI a)+(NI h)))) c4-toN (some (NI a)) 0)) (List.take ((toN (some (WI ((NI a)+(NI h)))) l3-toN (some (NI a)) 0)*1) (List.drop (toN (some (NI a)) 0*1) cs)))->Option.isNone base'=Option.isNone b2->req (toN (some (WI ((NI a)+(NI h)))) l3-toN (some (NI a)) 0<=toN (some (WI ((NI a)+(NI h)))) c4-toN (some (NI a)) 0) (req (0<=(NI e)/\(NI e)<=(NI (toN none (toN (some (WI ((NI a)+(NI h)))) l3-toN (some (NI a)) 0)))) (∀ (base'_1:Option Addr) (E':Mem),Mem.le E'_1 E'->(∀ (cs:List Value),E'_1 (VS base' (toN (some (WI ((NI a)+(NI h)))) l3-toN (some (NI a)) 0) (toN (some (WI ((NI a)+(NI h)))) c4-toN (some (NI a)) 0)) cs->E' (VS base'_1 (toN none (toN (some (WI ((NI a)+(NI h)))) l3-toN (some (NI a)) 0)-toN (some (NI e)) 0) (toN none (toN (some (WI ((NI a)+(NI h)))) c4-toN (some (NI a)) 0)-toN (some (NI e)) 0)) (List.take ((toN none (toN (some (WI ((NI a)+(NI h)))) l3-toN (some (NI a)) 0)-toN (some (NI e)) 0)*1) (List.drop (toN (some (NI e)) 0*1) cs)))->Option.isNone base'_1=Option.isNone base'->∃ (zs:List Int),(Bs E' base'_1 (toN none (toN (some (WI ((NI a)+(NI h)))) l3-toN (some (NI a)) 0)-toN (some (NI e)) 0) (toN none (toN (some (WI ((NI a)+(NI h)))) c4-toN (some (NI a)) 0)-toN (some (NI e)) 0) zs/\toN none (toN (some (WI ((NI a)+(NI h)))) l3-toN (some (NI a)) 0)-toN (some (NI e)) 0<=100000)/\∀ (r:Int),Hyp (decide (r>=(0:Int))= !List.all zs fun (x:Int)=>decide (x=(255:Int)))->bif !!decide (r>=(0:Int)) then bif bif false then true else bif true then g==(4294967295:Int) else false then Mem.le E E'/\K (SV.tup [L none 0 0,I 10]) E' else Sx.Alike al2 (bif Option.isNone b2 then Mem.le E' E'/\Mem.le E' E'/\Ct KI 8 Tryz.f47 [1,1,1,1,1] 0 (pubK E K) { fr:=some (SV.agg [I a1,L b2 l3 c4])::oL b5 l6 c7::oc 0 0::none::oL none 0 0::oI 0::oc 1 0::oI 0::oc 4 0::oI (WI ((NI a)+(NI e)))::some (SV.tup [SV.loc 1 0,I 0])::some (SV.agg [I a1,L b2 l3 c4])::some (SV.tup [SV.loc 1 0,I 0])::oc 1 0::oI 0::oI 0::oB false::none::oc 1 0::oc 1 0::oc 1 6::oI (NI e)::oL b5 l6 c7::oI (NI l6)::oI (WI ((NI e)+(NI l6)))::oI (WI (WI ((NI e)+(NI l6))+(11:Int)))::oc 1 0::oc 1 0::oc 1 3::oI (NI h)::oB (decide (WI (WI ((NI e)+(NI l6))+(11:Int))>(NI h)))::oB false::oc 1 0::oB (!decide (r>=(0:Int)))::oB (!!decide (r>=(0:Int)))::oB true::oc 1 0::oc 1 0::oc 1 4::oI g::oB (g==(4294967295:Int))::oB (bif true then g==(4294967295:Int) else false)::oB (bif false then true else bif true then g==(4294967295:Int) else false)::some (SV.agg [I a1,L b2 l3 c4])::oc 4 0::oc 1 0::oc 1 0::oc 1 2::oI (NI a)::oc 1 0::oc 1 0::oc 1 6::oI (NI e)::oI (WI ((NI a)+(NI e)))::no16 (no2 []),bx:=[(⟨24,.lst [I a1,L b2 l3 c4],2,true⟩:Box),⟨95,.lst [I a1,L b2 l3 c4,I (NI a),I (NI h),I g,L lb ln lc,I (NI e)],7,true⟩,⟨24,.lst [I a1,L b2 l3 c4],2,true⟩,⟨24,.lst [I a1,L none 0 0],2,true⟩,⟨111,.lst [SV.slc 3 0 1 1],1,true⟩],E:=E':St } else ∃ (cs:List Value),(cs=[]\/E' (VS b2 l3 c4) cs)/\l3*1<=List.length cs/\(∀ (x:Value),List.Mem x cs->Value.oneCell' x=true)/\0<=0/\0<=0/\0<=0/\req ((0+l3)*1<=140737488355328) (∀ (cap' tot':Nat),0+l3<=cap'->cap'*1<=tot'->Mem.le E' E'/\Mem.le E' E'/\Ct KI 8 Tryz.f47 [1,1,1,1,1] 0 (pubK E K) { fr:=some (SV.agg [I a1,L b2 l3 c4])::oL b5 l6 c7::oc 0 0::none::oL none 0 0::oI 0::oc 1 0::oI 0::oc 6 0::oI (WI ((NI a)+(NI e)))::some (SV.tup [SV.loc 1 0,I 0])::some (SV.agg [I a1,L b2 l3 c4])::some (SV.tup [SV.loc 1 0,I 0])::oc 1 0::oI 0::oI 0::oB false::none::oc 1 0::oc 1 0::oc 1 6::oI (NI e)::oL b5 l6 c7::oI (NI l6)::oI (WI ((NI e)+(NI l6)))::oI (WI (WI ((NI e)+(NI l6))+(11:Int)))::oc 1 0::oc 1 0::oc 1 3::oI (NI h)::oB (decide (WI (WI ((NI e)+(NI l6))+(11:Int))>(NI h)))::oB false::oc 1 0::oB (!decide (r>=(0:Int)))::oB (!!decide (r>=(0:Int)))::oB true::oc 1 0::oc 1 0::oc 1 4::oI g::oB (g==(4294967295:Int))::oB (bif true then g==(4294967295:Int) else false)::oB (bif false then true else bif true then g==(4294967295:Int) else false)::some (SV.agg [I a1,L b2 l3 c4])::oc 6 0::oc 1 0::oc 1 0::oc 1 2::oI (NI a)::oc 1 0::oc 1 0::oc 1 6::oI (NI e)::oI (WI ((NI a)+(NI e)))::no16 (no2 []),bx:=[(⟨24,.lst [I a1,L b2 l3 c4],2,true⟩:Box),⟨95,.lst [I a1,L b2 l3 c4,I (NI a),I (NI h),I g,L lb ln lc,I (NI e)],7,true⟩,⟨24,.lst [I a1,L b2 l3 c4],2,true⟩,⟨5,.lst [],0,false⟩,⟨5,.vals ([]++List.take (l3*(1:Nat)) cs),tot',true⟩,⟨24,.lst [I a1,SV.slc 4 0 ((0:Nat)+l3) cap'],2,true⟩,⟨111,.lst [SV.slc 5 0 1 1],1,true⟩],E:=E':St })) else Sx.Alike al2 (bif Option.isNone b2 then Mem.le E' E'/\Mem.le E' E'/\Ct KI 8 Tryz.f47 [1,1,1,1,1] 0 (pubK E K) { fr:=some (SV.agg [I a1,L b2 l3 c4])::oL b5 l6 c7::oc 0 0::none::oL none 0 0::oI 0::oc 1 0::oI 0::oc 4 0::oI (WI ((NI a)+(NI e)))::some (SV.tup [SV.loc 1 0,I 0])::some (SV.agg [I a1,L b2 l3 c4])::some (SV.tup [SV.loc 1 0,I 0])::oc 1 0::oI 0::oI 0::oB false::none::oc 1 0::oc 1 0::oc 1 6::oI (NI e)::oL b5 l6 c7::oI (NI l6)::oI (WI ((NI e)+(NI l6)))::oI (WI (WI ((NI e)+(NI l6))+(11:Int)))::oc 1 0::oc 1 0::oc 1 3::oI (NI h)::oB (decide (WI (WI ((NI e)+(NI l6))+(11:Int))>(NI h)))::oB false::oc 1 0::oB (!decide (r>=(0:Int)))::oB (!!decide (r>=(0:Int)))::oB false::oU::oU::oU::oU::oU::oB false::oB false::some (SV.agg [I a1,L b2 l3 c4])::oc 4 0::oc 1 0::oc 1 0::oc 1 2::oI (NI a)::oc 1 0::oc 1 0::oc 1 6::oI (NI e)::oI (WI ((NI a)+(NI e)))::no16 (no2 []),bx:=[(⟨24,.lst [I a1,L b2 l3 c4],2,true⟩:Box),⟨95,.lst [I a1,L b2 l3 c4,I (NI a),I (NI h),I g,L lb ln lc,I (NI e)],7,true⟩,⟨24,.lst [I a1,L b2 l3 c4],2,true⟩,⟨24,.lst [I a1,L none 0 0],2,true⟩,⟨111,.lst [SV.slc 3 0 1 1],1,true⟩],E:=E':St } else ∃ (cs:List Value),(cs=[]\/E' (VS b2 l3 c4) cs)/\l3*1<=List.length cs/\(∀ (x:Value),List.Mem x cs->Value.oneCell' x=true)/\0<=0/\0<=0/\0<=0/\req ((0+l3)*1<=140737488355328) (∀ (cap' tot':Nat),0+l3<=cap'->cap'*1<=tot'->Mem.le E' E'/\Mem.le E' E'/\Ct KI 8 Tryz.f47 [1,1,1,1,1] 0 (pubK E K) { fr:=some (SV.agg [I a1,L b2 l3 c4])::oL b5 l6 c7::oc 0 0::none::oL none 0 0::oI 0::oc 1 0::oI 0::oc 6 0::oI (WI ((NI a)+(NI e)))::some (SV.tup [SV.loc 1 0,I 0])::some (SV.agg [I a1,L b2 l3 c4])::some (SV.tup [SV.loc 1 0,I 0])::oc 1 0::oI 0::oI 0::oB false::none::oc 1 0::oc 1 0::oc 1 6::oI (NI e)::oL b5 l6 c7::oI (NI l6)::oI (WI ((NI e)+(NI l6)))::oI (WI (WI ((NI e)+(NI l6))+(11:Int)))::oc 1 0::oc 1 0::oc 1 3::oI (NI h)::oB (decide (WI (WI ((NI e)+(NI l6))+(11:Int))>(NI h)))::oB false::oc 1 0::oB (!decide (r>=(0:Int)))::oB (!!decide (r>=(0:Int)))::oB false::oU::oU::oU::oU::oU::oB false::oB false::some (SV.agg [I a1,L b2 l3 c4])::oc 6 0::oc 1 0::oc 1 0::oc 1 2::oI (NI a)::oc 1 0::oc 1 0::oc 1 6::oI (NI e)::oI (WI ((NI a)+(NI e)))::no16 (no2 []),bx:=[(⟨24,.lst [I a1,L b2 l3 c4],2,true⟩:Box),⟨95,.lst [I a1,L b2 l3 c4,I (NI a),I (NI h),I g,L lb ln lc,I (NI e)],7,true⟩,⟨24,.lst [I a1,L b2 l3 c4],2,true⟩,⟨5,.lst [],0,false⟩,⟨5,.vals ([]++List.take (l3*1) cs),tot',true⟩,⟨24,.lst [I a1,SV.slc 4 0 (0+l3) cap'],2,true⟩,⟨111,.lst [SV.slc 5 0 1 1],1,true⟩],E:=E':St }))))))))))
 delta WI NI VS no2 no16
 have hl:=h0.2.1
 subst hl
 have hdl:=h1.2.1
 have ex:∀ {ms:List (Int×List Int)} {e:Int},appendF a1 zs ds=(ms,e)->∀ (b':Option Addr) (l' c':Nat) (E':Mem),Mem.le E E'->FL E' b' l' c' ms->K (.tup [L b' l' c',I e]) E':=fun he b' l' c' E' hE hF=>h b' l' c' _ _ E' hE he hF
 refine ⟨zs,h0,fun e E1 k1 r1 ne=>⟨k1,condC (fun _=>⟨k1,ex ?_ none 0 0 E1 k1 (FL.nil _)⟩) (fun q=>absurd (show e=0 by simpa using q) ne)⟩,fun yss a g hh e lb ln lc E1 k1 rA ro B1=>⟨k1,condC (fun q=>⟨k1,ex ?_ none 0 0 E1 k1 (FL.nil _)⟩) (fun q=>alike ?_)⟩⟩
 ·have r1:(openF a1 zs).2=e:=r1
  unfold appendF
  rw [if_pos (by rw [r1];exact ne),r1]
 all_goals
  have rA:areaF a1 zs.length=hh:=rA
  subst rA
  have ro:openF a1 zs=((yss,a,g,e),0):=ro
  obtain ⟨hA,hu,ha,hn5,heh,hcnt,h2h,h16,hl16,hv⟩:=open_facts ro
  have eqA:=appendF_eq ds ro
  have e1:IntKind.wrap .i64 (IntKind.wrap .i64 ((e:Int)+((l6:Nat):Int))+11)=((e+l6+11:Nat):Int):=by rw [wrap_i64 (x:=(e:Int)+((l6:Nat):Int)) (by omega),wrap_i64 (by omega)];omega
  rw [e1] at q
 ·rw [eqA,if_pos (.inl (by simp at q;omega))]
 have q:e+l6+11<=areaF a1 zs.length:=by simp at q;omega
 have e2:IntKind.wrap .i64 ((a:Int)+(e:Int))=((a+e:Nat):Int):=by rw [wrap_i64 (by omega)];omega
 have h16l:1<=zs.length:=by omega
 refine clean_intro (h0.mono k1) (by omega) (by omega) heh fun E2 r k2 hr1=>?_
 rw [hr1,e2]
 have hzE:=h0.mono (mt_ k1 k2)
 cases hcl:cleanF (areaF a1 zs.length) a e zs with
 | false=>
  refine condC (fun _=>condC (fun q2=>⟨mt_ k1 k2,ex (by rw [eqA,if_pos (.inr ⟨hcl,by simpa using q2⟩)]) none 0 0 E2 (mt_ k1 k2) (FL.nil _)⟩) (fun q2=>?_)) (fun z=>by cases z)
  have q2:¬ g=4294967295:=by simpa using q2
  refine alike (condC (fun z=>absurd (hzE.2.2.2.2 (by simpa using z)) (by intro z2;rw [z2] at h16l;simp at h16l)) (fun _=>?_))
  obtain ⟨t1,t2,t3⟩:=hzE.src
  refine ⟨_,t1,t2,t3,Nat.le_refl _,Nat.le_refl _,Nat.le_refl _,req_intro (by omega) fun cap1 tot1 c1 c2=>⟨mr_,mr_,?_⟩⟩
  refine Ct_pub 4 _ _ rfl rfl fun base E3 k3 w3=>?_
  have hB3:Bs E3 (base.map fun x=>x.add 0) (0+zs.length) cap1 zs:=Bs.win w3 (by rw [List.nil_append,List.take_of_length_le (by simp)]) (by omega) (by omega) hzE.2.2.2.1
  have key:=Ct_intro okKI (y17 (x:=a+e) (hzE.mono k3) hB3 ro (B1.mono RB_ok (mt_ k2 k3)) (h1.mono (mt_ k1 (mt_ k2 k3))) q rfl h2 (fun _=>q2) (mt_ k1 (mt_ k2 k3)) (fun ms he=>ex he))
  exact Ct_re [some 1,some 5,some 6] (key) (wkG mr_)
 | true=>
  refine condC (fun z=>by cases z) (fun _=>?_)
  refine alike (condC (fun z=>absurd (hzE.2.2.2.2 (by simpa using z)) (by intro z2;rw [z2] at h16l;simp at h16l)) (fun _=>?_))
  obtain ⟨t1,t2,t3⟩:=hzE.src
  refine ⟨_,t1,t2,t3,Nat.le_refl _,Nat.le_refl _,Nat.le_refl _,req_intro (by omega) fun cap1 tot1 c1 c2=>⟨mr_,mr_,?_⟩⟩
  refine Ct_pub 4 _ _ rfl rfl fun base E3 k3 w3=>?_
  have hB3:Bs E3 (base.map fun x=>x.add 0) (0+zs.length) cap1 zs:=Bs.win w3 (by rw [List.nil_append,List.take_of_length_le (by simp)]) (by omega) (by omega) hzE.2.2.2.1
  have key:=Ct_intro okKI (y17 (x:=a+e) (hzE.mono k3) hB3 ro (B1.mono RB_ok (mt_ k2 k3)) (h1.mono (mt_ k1 (mt_ k2 k3))) q rfl h2 (fun z=>by rw [hcl] at z;cases z) (mt_ k1 (mt_ k2 k3)) (fun ms he=>ex he))
  exact Ct_re [some 1,some 5,some 6] (key) (wkG mr_)
def l19 (s g:Int) (b lb:Option Addr) (l c a h ln lc e:Nat) (kb:Option Addr) (kn kc:Nat) (x i:Nat) (E:Mem):St:=⟨[none,oL kb kn kc,oc 0 0,none,none,none,oc 1 0,none,oI (x:Nat)]++nn 11++[oL kb kn kc,oI (kn:Nat),oI (i:Nat)]++nn 32,[⟨24,.lst [I s,L b l c],2,true⟩,⟨95,.lst [I s,L b l c,I (a:Nat),I (h:Nat),I g,L lb ln lc,I (e:Nat)],7,true⟩],E⟩
theorem y19r {keep:List (List Int)} (hz:Bs E b zs.length c zs) (ro:openF s zs=((yss,a,g,e),0)) (hk:BL E kb kn kc keep) (hkl:∀ d∈keep,d.length<=60000) (hkn:kn<=1000) (hi:i<=kn) (hE:Mem.le E0 E)
  (ex:∀ (ms:List (Int×List Int)) (e:Int),compactF s zs keep=(ms,e)->∀ (b':Option Addr) (l' c':Nat) (E':Mem),Mem.le E0 E'->FL E' b' l' c' ms->K (.tup [L b' l' c',I e]) E')
  (ih:i<kn->Lp KJ 8 Tryz.f48 [1,1,1,1,0,1,0] 0 (pubK E0 K) (l19 s g b lb zs.length c a (areaF s zs.length) ln lc e kb kn kc (5+needF (keep.take (i+1))) (i+1) E)):Rnd KJ 8 Tryz.f48 [1,1,1,1,0,1,0] 0 (pubK E0 K) (l19 s g b lb zs.length c a (areaF s zs.length) ln lc e kb kn kc (5+needF (keep.take i)) i E):=by
 refine sm_ (?_:bif decide ((NI i)<(NI kn)) then req (0<=(NI i)/\(NI i)<(NI kn)) (nE E kb kn kc/\∃ (base:Option Addr),∃ (len:Nat),∃ (cap:Nat),LoadE KJ.P E 22 (VS kb kn kc) (Int.toNat (NI i)*1) (L base len cap)/\Lp KJ 8 Tryz.f48 [1,1,1,1,0,1,0] 0 (pubK E0 K) { fr:=none::oL kb kn kc::oc 0 0::none::none::none::oc 1 0::none::oI (WI ((NI (5+needF (List.take i keep)))+WI ((NI len)+11)))::no8 (no2 (none::(oL kb kn kc::oI (NI kn)::oI (WI ((NI i)+1))::no32 []))),bx:=[(⟨24,.lst [I s,L b (List.length zs) c],2,true⟩:Box),⟨95,.lst [I s,L b (List.length zs) c,I (NI a),I (NI (areaF s (List.length zs))),I g,L lb ln lc,I (NI e)],7,true⟩],E:=E:St }) else bif decide ((NI (5+needF (List.take i keep)))>(NI (areaF s (List.length zs)))) then Mem.le E0 E/\K (SV.tup [L none 0 0,I 10]) E else bif bif false then true else g==(4294967295:Int) then Mem.le E0 E/\K (SV.tup [L none 0 0,I 10]) E else Sx.Alike al2 (bif Option.isNone b then Mem.le E E/\Mem.le E E/\Ct KJ 8 Tryz.f48 [1,1,1,1,1,1,1] 0 (pubK E0 K) { fr:=none::oL kb kn kc::oc 0 0::none::none::none::oc 1 0::none::oI (NI (5+needF (List.take i keep)))::none::none::oc 4 0::no8 (oL kb kn kc::oI (NI kn)::oI (NI i)::oB (decide ((NI i)<(NI kn)))::no8 (oI (NI (5+needF (List.take i keep)))::oc 1 0::oc 1 0::oc 1 3::oI (NI (areaF s (List.length zs)))::oB (decide ((NI (5+needF (List.take i keep)))>(NI (areaF s (List.length zs)))))::oB false::oc 1 0::oc 1 0::oc 1 4::oI g::oB (g==(4294967295:Int))::oB (bif false then true else g==(4294967295:Int))::some (SV.agg [I s,L b (List.length zs) c])::oc 4 0::no8 [])),bx:=[(⟨24,.lst [I s,L b (List.length zs) c],2,true⟩:Box),⟨95,.lst [I s,L b (List.length zs) c,I (NI a),I (NI (areaF s (List.length zs))),I g,L lb ln lc,I (NI e)],7,true⟩,⟨24,.lst [I s,L b (List.length zs) c],2,true⟩,⟨24,.lst [I s,L none 0 0],2,true⟩,⟨111,.lst [SV.slc 3 0 1 1],1,true⟩],E:=E:St } else ∃ (cs:List Value),(cs=[]\/E (VS b (List.length zs) c) cs)/\List.length zs*1<=List.length cs/\(∀ (x:Value),List.Mem x cs->Value.oneCell' x=true)/\0<=0/\0<=0/\0<=0/\req ((0+List.length zs)*1<=140737488355328) (∀ (cap' tot':Nat),0+List.length zs<=cap'->cap'*1<=tot'->Mem.le E E/\Mem.le E E/\Ct KJ 8 Tryz.f48 [1,1,1,1,1,1,1] 0 (pubK E0 K) { fr:=none::oL kb kn kc::oc 0 0::none::none::none::oc 1 0::none::oI (NI (5+needF (List.take i keep)))::none::none::oc 6 0::no8 (oL kb kn kc::oI (NI kn)::oI (NI i)::oB (decide ((NI i)<(NI kn)))::no8 (oI (NI (5+needF (List.take i keep)))::oc 1 0::oc 1 0::oc 1 3::oI (NI (areaF s (List.length zs)))::oB (decide ((NI (5+needF (List.take i keep)))>(NI (areaF s (List.length zs)))))::oB false::oc 1 0::oc 1 0::oc 1 4::oI g::oB (g==(4294967295:Int))::oB (bif false then true else g==(4294967295:Int))::some (SV.agg [I s,L b (List.length zs) c])::oc 6 0::no8 [])),bx:=[(⟨24,.lst [I s,L b (List.length zs) c],2,true⟩:Box),⟨95,.lst [I s,L b (List.length zs) c,I (NI a),I (NI (areaF s (List.length zs))),I g,L lb ln lc,I (NI e)],7,true⟩,⟨24,.lst [I s,L b (List.length zs) c],2,true⟩,⟨5,.lst [],0,false⟩,⟨5,.vals ([]++List.take (List.length zs*1) cs),tot',true⟩,⟨24,.lst [I s,SV.slc 4 0 (0+List.length zs) cap'],2,true⟩,⟨111,.lst [SV.slc 5 0 1 1],1,true⟩],E:=E:St })))
 delta WI NI VS no2 no8 no32
 obtain ⟨hA,hu,ha,hn5,heh,hcnt,h2h,h16,hl16,hv⟩:=open_facts ro
 have eqC:=compactF_eq keep ro
 have h16l:1<=zs.length:=by omega
 have hzE:=hz
 have q3:=needF_bd (dss:=keep.take i) (m:=60000) (fun d h=>hkl d (List.mem_of_mem_take h))
 have q4:(keep.take i).length*(60000+11)<=1000*60011:=Nat.mul_le_mul (by rw [List.length_take];omega) (Nat.le_refl _)
 refine condC (fun g1=>?_) (fun g1=>?_)
 ·have g1:i<kn:=by simpa using g1
  obtain ⟨d,ed⟩:=hk.get g1
  obtain ⟨p1,b1,l1,c1,p2,p3⟩:=hk.load ed
  have hd:=p3.2.1
  have hd2:=hkl d (List.mem_of_getElem? ed)
  have hnt:=needF_take ed
  refine req_intro (by omega) ⟨p1,b1,l1,c1,p2,?_⟩
  have ek:IntKind.wrap .i64 (((5+needF (keep.take i):Nat):Int)+IntKind.wrap .i64 (((l1:Nat):Int)+11))=((5+needF (keep.take (i+1)):Nat):Int):=by rw [wrap_i64 (x:=((l1:Nat):Int)+11) (by omega),wrap_i64 (by omega)];omega
  rw [ek,wrap_i64 (x:=(i:Int)+1) (by omega),show (i:Int)+1=((i+1:Nat):Int) by simp]
  exact Lp_re [some 0,some 1] (ih g1) (wkG mr_)
 ·have g1:i=kn:=by simp at g1;omega
  subst g1
  have et:keep.take i=keep:=List.take_of_length_le (by rw [hk.len];omega)
  rw [et]
  refine condC (fun q=>⟨hE,ex [] 10 (by rw [eqC,if_pos (.inl (by simp at q;omega))]) none 0 0 E hE (FL.nil _)⟩) (fun q=>condC (fun q2=>⟨hE,ex [] 10 (by rw [eqC,if_pos (.inr (by simpa using q2))]) none 0 0 E hE (FL.nil _)⟩) (fun q2=>?_))
  have q:5+needF keep<=areaF s zs.length:=by simp at q;omega
  have q2:¬ g=4294967295:=by simpa using q2
  refine alike (condC (fun z=>absurd (hzE.2.2.2.2 (by simpa using z)) (by intro z2;rw [z2] at h16l;simp at h16l)) (fun _=>?_))
  obtain ⟨t1,t2,t3⟩:=hzE.src
  refine ⟨_,t1,t2,t3,Nat.le_refl _,Nat.le_refl _,Nat.le_refl _,req_intro (by omega) fun cap1 tot1 c1 c2=>⟨mr_,mr_,?_⟩⟩
  refine Ct_pub 4 _ _ rfl rfl fun base E3 k3 w3=>?_
  have hB3:Bs E3 (base.map fun x=>x.add 0) (0+zs.length) cap1 zs:=Bs.win w3 (by rw [List.nil_append,List.take_of_length_le (by simp)]) (by omega) (by omega) hzE.2.2.2.1
  have key:=Ct_intro okKJ (y19 (b:=b) (lb:=lb) (c:=c) (ln:=ln) (lc:=lc) hB3 ro (hk.mono RB_ok k3) hkn q q2 (mt_ hE k3) (fun ms he=>ex ms 0 he))
  exact Ct_re [some 1,some 5,some 6] (key) (wkG mr_)
theorem y19l {s g:Int} {b lb:Option Addr} {c a ln lc e:Nat} {kb:Option Addr} {kn kc:Nat} {E0:Mem} {zs:List Int} {yss keep:List (List Int)} (hz:Bs E b zs.length c zs) (ro:openF s zs=((yss,a,g,e),0)) (hk:BL E kb kn kc keep) (hkl:∀ d∈keep,d.length<=60000) (hkn:kn<=1000) (hE:Mem.le E0 E)
  (ex:∀ (ms:List (Int×List Int)) (e:Int),compactF s zs keep=(ms,e)->∀ (b':Option Addr) (l' c':Nat) (E':Mem),Mem.le E0 E'->FL E' b' l' c' ms->K (.tup [L b' l' c',I e]) E'):
  ∀ {r i:Nat},i+r=kn->Lp KJ 8 Tryz.f48 [1,1,1,1,0,1,0] 0 (pubK E0 K) (l19 s g b lb zs.length c a (areaF s zs.length) ln lc e kb kn kc (5+needF (keep.take i)) i E)
 | 0,i,hr=>Lp_ind (ι:=Unit) okKJ (fun _=>l19 s g b lb zs.length c a (areaF s zs.length) ln lc e kb kn kc (5+needF (keep.take i)) i E) (fun _=>0) (fun _ _=>y19r hz ro hk hkl hkn (by omega) hE ex (fun g=>by omega)) ()
 | r+1,i,hr=>Lp_ind (ι:=Unit) okKJ (fun _=>l19 s g b lb zs.length c a (areaF s zs.length) ln lc e kb kn kc (5+needF (keep.take i)) i E) (fun _=>0) (fun _ _=>y19r hz ro hk hkl hkn (by omega) hE ex (fun g=>y19l hz ro hk hkl hkn hE ex (r:=r) (by omega))) ()
theorem j19 {b5:Option Addr} {l6:Nat} {c7:Nat} {keep:List (List Int)} (h0:Bs E b2 l3 c4 zs) (h1:BL E b5 l6 c7 keep) (h2:(∀ d∈keep,d.length<=60000)) (h3:l6<=1000) (h:∀ (b':Option Addr) (l' c':Nat) (ms:List (Int×List Int)) (e:Int) (E':Mem),Mem.le E E'->Hyp (compactF a1 zs keep=(ms,e))->FL E' b' l' c' ms->K (.tup [L b' l' c',I e]) E'):
  Ent KJ 8 Tryz.f48 [.agg [I a1,L b2 l3 c4],L b5 l6 c7] E K:=by
 refine sm_ (?_:∃ (zs:List Int),Bs E b2 l3 c4 zs/\(∀ (e:Int) (E':Mem),Mem.le E E'->Hyp ((openF a1 zs).snd=e)->(e=(0:Int)->False)->Mem.le E E'/\bif e !=(0:Int) then Mem.le E E'/\K (SV.tup [L none 0 0,I e]) E' else Lp KJ 8 Tryz.f48 [1,1,1,1,0,1,0] 0 (pubK E K) { fr:=some (SV.agg [I a1,L b2 l3 c4])::oL b5 l6 c7::oc 0 0::none::oL none 0 0::oI 0::some (SV.raw (Value.pointer none))::oI e::oI 5::none::none::none::some (SV.tup [SV.raw (Value.pointer none),I e])::some (SV.agg [I a1,L b2 l3 c4])::some (SV.tup [SV.raw (Value.pointer none),I e])::some (SV.raw (Value.pointer none))::oI e::oI e::oB (e !=(0:Int))::none::oL b5 l6 c7::oI (NI l6)::oI 0::no32 [],bx:=[(⟨24,.lst [I a1,L b2 l3 c4],2,true⟩:Box)],E:=E':St })/\∀ (yss:List (List Int)) (a:Nat) (g:Int) (h e:Nat) (lb:Option Addr) (ln lc:Nat) (E':Mem),Mem.le E E'->Hyp (areaF a1 l3=h)->Hyp (openF a1 zs=((yss,a,g,e),(0:Int)))->BL E' lb ln lc yss->Mem.le E E'/\Lp KJ 8 Tryz.f48 [1,1,1,1,0,1,0] 0 (pubK E K) { fr:=some (SV.agg [I a1,L b2 l3 c4])::oL b5 l6 c7::oc 0 0::none::oL none 0 0::oI 0::oc 1 0::oI 0::oI 5::none::none::none::some (SV.tup [SV.loc 1 0,I 0])::some (SV.agg [I a1,L b2 l3 c4])::some (SV.tup [SV.loc 1 0,I 0])::oc 1 0::oI 0::oI 0::oB false::none::oL b5 l6 c7::oI (NI l6)::oI 0::no32 [],bx:=[(⟨24,.lst [I a1,L b2 l3 c4],2,true⟩:Box),⟨95,.lst [I a1,L b2 l3 c4,I (NI a),I (NI h),I g,L lb ln lc,I (NI e)],7,true⟩],E:=E':St })
 delta NI no32
 have hl:=h0.2.1
 subst hl
 have ex:∀ {ms:List (Int×List Int)} {e:Int},compactF a1 zs keep=(ms,e)->∀ (b':Option Addr) (l' c':Nat) (E':Mem),Mem.le E E'->FL E' b' l' c' ms->K (.tup [L b' l' c',I e]) E':=fun he b' l' c' E' hE hF=>h b' l' c' _ _ E' hE he hF
 refine ⟨zs,h0,fun e E1 k1 r1 ne=>⟨k1,condC (fun _=>⟨k1,ex ?_ none 0 0 E1 k1 (FL.nil _)⟩) (fun q=>absurd (show e=0 by simpa using q) ne)⟩,fun yss a g hh e lb ln lc E1 k1 rA ro B1=>⟨k1,?_⟩⟩
 ·have r1:(openF a1 zs).2=e:=r1
  unfold compactF
  rw [if_pos (by rw [r1];exact ne),r1]
 have rA:areaF a1 zs.length=hh:=rA
 subst rA
 have ro:openF a1 zs=((yss,a,g,e),0):=ro
 have key:=y19l (lb:=lb) (ln:=ln) (lc:=lc) (h0.mono k1) ro (h1.mono RB_ok k1) h2 h3 k1 (fun ms e he=>ex he) (r:=l6) (i:=0) (by omega)
 exact Lp_re [some 0,some 1] (key) (wkG mr_)
theorem n26 {a2:Int} (herr:∀ bx:List Box,(newF a1 a2).2≠0->KK (.tup [.agg [I 0,L none 0 0],I 1]) bx E)
  (hok:∀ (n tot:Nat) (zs:List Int),newF a1 a2=((a1,List.replicate n 255),0)->n<=16384->n<=zs.length->zs.take n=List.replicate n 255->KK (.tup [.agg [I a1,.slc 2 0 n n],I 0]) [⟨24,.lst [I a1,.slc 2 0 n n],2,true⟩,⟨5,.lst [.raw (.int .u8 255)],1,true⟩,⟨5,.vals (vB zs),tot,true⟩] E):EntB F8 8 Tryz.f55 [I a1,I a2] [] E KK:=by
 refine sm_ (?_:bif decide (a1<(1:Int)) then KK (SV.tup [SV.agg [I 0,L none 0 0],I 1]) [⟨24,.lst [I 0,L none 0 0],2,true⟩] E else bif bif false then true else decide (a1>(1024:Int)) then KK (SV.tup [SV.agg [I 0,L none 0 0],I 1]) [⟨24,.lst [I 0,L none 0 0],2,true⟩] E else bif bif false then true else decide (a2<(1:Int)) then KK (SV.tup [SV.agg [I 0,L none 0 0],I 1]) [⟨24,.lst [I 0,L none 0 0],2,true⟩] E else (a1=(0:Int)->False)/\bif bif false then true else decide (a2>WI (Int.tdiv 16384 a1)) then KK (SV.tup [SV.agg [I 0,L none 0 0],I 1]) [⟨24,.lst [I 0,L none 0 0],2,true⟩] E else 80=80/\∃ (n:Nat),[SV.slc 1 0 1 1,I (WI (a1*a2))]=[SV.slc 1 0 1 1,I (NI n)]/\[(⟨24,.lst [I 0,L none 0 0],2,true⟩:Box),⟨5,.lst [SV.raw (U8 255)],1,true⟩]=[(⟨24,.lst [I 0,L none 0 0],2,true⟩:Box),⟨5,.lst [SV.raw (U8 255)],1,true⟩]/\(1<=n/\n<=16384)/\∀ (tot:Nat) (zs:List Int),n<=List.length zs->List.take n zs=List.replicate n (255:Int)->KK (SV.tup [SV.agg [I a1,SV.slc 2 0 n n],I 0]) [⟨24,.lst [I a1,SV.slc 2 0 n n],2,true⟩,⟨5,.lst [SV.raw (U8 255)],1,true⟩,⟨5,.vals (vB zs),tot,true⟩] E)
 delta WI NI U8
 have bad:(a1<1\/a1>1024\/a2<1\/a2>16384 / a1)->(newF a1 a2).2≠0:=fun hb=>by unfold newF;rw [if_pos hb];decide
 refine condC (fun g=>herr _ (bad (.inl (by simpa using g)))) (fun g1=>?_)
 refine condC (fun g=>herr _ (bad (.inr (.inl (by simpa using g))))) (fun g2=>?_)
 refine condC (fun g=>herr _ (bad (.inr (.inr (.inl (by simpa using g)))))) (fun g3=>?_)
 have g1:1<=a1:=by simpa using g1
 have g2:a1<=1024:=by simpa using g2
 have g3:1<=a2:=by simpa using g3
 have hdv:Int.tdiv 16384 a1=16384 / a1:=Int.tdiv_eq_ediv_of_nonneg (by omega)
 have hd1:16384 / a1<=16384:=Int.ediv_le_self _ (by omega)
 have hd0:0<=16384 / a1:=Int.ediv_nonneg (by omega) (by omega)
 rw [hdv,wrap_i64 (x:=16384 / a1) (by omega)]
 refine ⟨by omega,condC (fun g=>herr _ (bad (.inr (.inr (.inr (by simpa using g)))))) (fun g4=>?_)⟩
 have g4:a2<=16384 / a1:=by simpa using g4
 have h8:a1*a2<=16384:=by
  have:=Int.mul_le_mul_of_nonneg_right g4 (show 0<=a1 by omega)
  have h2:=Int.ediv_mul_le 16384 (show a1≠0 by omega)
  rw [Int.mul_comm a1 a2];omega
 have h9:1<=a1*a2:=by
  have:=Int.mul_le_mul_of_nonneg_right g1 (show 0<=a2 by omega)
  omega
 obtain ⟨n,hn⟩:∃ n:Nat,a1*a2=n:=⟨(a1*a2).toNat,by omega⟩
 have eN:newF a1 a2=((a1,List.replicate n 255),0):=by unfold newF;rw [if_neg (by omega),hn,Int.toNat_natCast]
 rw [hn] at h8 h9
 rw [hn,wrap_i64 (x:=(n:Int)) (by omega)]
 exact ⟨rfl,n,rfl,rfl,⟨by omega,by omega⟩,fun tot zs hz ht=>hok n tot zs eN (by omega) hz ht⟩
noncomputable def tabN:CallT:=fun f args bx E K=>match f with
 | 55=>d2 args fun x0 x1=>dI x0 fun a=>dI x1 fun b=>((Hyp ((newF a b).2≠0)->K (.tup [.agg [I 0,L none 0 0],I 1]) bx E)/\∀ (n cap tot:Nat) (zs:List Int),Hyp (newF a b=((a,List.replicate n 255),0))->n<=16384/\n<=zs.length/\zs.take n=List.replicate n 255/\n<=cap->K (.tup [.agg [I a,.slc bx.length 0 n cap],I 0]) (bx++[⟨5,.vals (vB zs),tot,true⟩]) E)
 | _=>False
theorem tabN_ok:∀ f args bx E K,tabN f args bx E K->CallSem Tryz.prog f args bx E K:=by
 intro f args bx E K h
 unfold tabN at h
 split at h
 ·obtain ⟨x0,x1,rfl,h1⟩:=d2_elim h
  obtain ⟨a,rfl,h2⟩:=dI_elim h1
  obtain ⟨c,rfl,h3⟩:=dI_elim h2
  obtain ⟨kerr,kok⟩:=h3
  refine frame0 (K':=fun s' bx' E'=>K (s'.ren [] bx.length) (bx++bx'.map (Box.ren [] bx.length)) E') (vs:=[.int .i64 a,.int .i64 c]) rfl (CallSem.clo (EntB.sem okF8 Tryz.func55 ⟨by kernel_rfl,by kernel_rfl⟩ (n26 ?_ ?_))) (fun _ _ _ q=>q)
  ·intro bx1 ne
   refine cloK_intro [] (s':=.tup [.agg [I 0,L none 0 0],I 1]) (bx':=[]) (E':=E) ?_ (wkG mr_)
   have:=kerr ne
   simpa [SV.ren,SV.renL] using this
  ·intro n tot zs r1 h16 hz ht
   refine cloK_intro [some 2] (s':=.tup [.agg [I a,.slc 0 0 n n],I 0]) (bx':=[⟨5,.vals (vB zs),tot,true⟩]) (E':=E) ?_ (wkG mr_)
   have:=kok n n tot zs r1 ⟨h16,hz,ht,Nat.le_refl _⟩
   simpa [SV.ren,SV.renL,Box.ren,Row.ren,renF] using this
 ·exact h.elim
noncomputable def KL:Cx:={ P:=Tryz.prog,inl:=fun f=>List.contains [] f,tab:=fun _ _ _ _=>False,isB:=fun f=>f==55,tabB:=tabN,opt:={ unroll:=0,carry:=[] },muts:=mutsD }
theorem okKL:CxOK KL:=CxOK.four (fun _ _ _ _ h=>h.elim) (by kernel_rfl) (okInl (by kernel_rfl)) tabN_ok
theorem newF_facts {a b:Int} (h:newF a b=((a,List.replicate n 255),0)):1<=a/\a<=1024/\1<=b/\(n:Int)=a*b/\n<=16384:=by
 unfold newF at h
 split at h
 ·have:=(Prod.mk.inj h).2;omega
 ·rename_i q
  have hl:=congrArg (fun x=>x.1.2.length) h
  simp only [List.length_replicate] at hl
  have h4:b<=16384 / a:=by omega
  have h9:1*b<=a*b:=Int.mul_le_mul_of_nonneg_right (by omega) (by omega)
  have h8:a*b<=16384:=by
   have:=Int.mul_le_mul_of_nonneg_right h4 (show 0<=a by omega)
   have h2:=Int.ediv_mul_le 16384 (show a≠0 by omega)
   rw [Int.mul_comm a b];omega
  exact ⟨by omega,by omega,by omega,by omega,by omega⟩
theorem area_new {a b:Int} (h1:1<=a/\a<=1024) (h2:1<=b) (h3:(n:Int)=a*b) (h4:n<=16384):validF a n/\(n:Int) / a=b/\(areaF a n=if b % 2=0/\32<=n then n / 2 else 0):=by
 have hd:(n:Int) / a=b:=by rw [h3,Int.mul_ediv_cancel_left _ (by omega)]
 have hm:(n:Int) % a=0:=by rw [h3];exact Int.mul_emod_right a b
 have h9:a*1<=a*b:=Int.mul_le_mul_of_nonneg_left h2 (by omega)
 have hv:validF a n:=⟨by omega,by omega,by omega,by omega,hm⟩
 refine ⟨hv,hd,?_⟩
 unfold areaF
 rw [hd]
 by_cases q:b % 2=0/\32<=n
 ·rw [if_pos ⟨hv,q.1,q.2⟩,if_pos q]
 ·rw [if_neg (fun z=>q ⟨z.2.1,z.2.2⟩),if_neg q]
theorem fmt_win {base:Option Addr} {cs:List Value} {cap:Nat} (hW:WinE E base cs) (hcs:cs=vB ([90,0,0,0,0]++zs.drop 5)) (hz:n<=zs.length) (ht:zs.take n=List.replicate n 255) (hn:32<=n) (hc:n<=cap):Bs E (base.map fun x=>x.add 0) n cap ([90,0,0,0,0]++(List.replicate n 255).drop 5):=by
 subst hcs
 have e:([90,0,0,0,0]++zs.drop 5).take n=[90,0,0,0,0]++(List.replicate n 255).drop 5:=by
  rw [List.take_append,List.take_of_length_le (by simp;omega),← ht,List.drop_take];rfl
 have h1:=hW.2 0 n n cap (by simp only [List.length_map,List.length_append,List.length_drop,List.length_cons,List.length_nil];omega)
 rw [List.drop_zero,← List.map_take,e] at h1
 refine ⟨.inr h1,by simp only [List.length_append,List.length_drop,List.length_replicate,List.length_cons,List.length_nil];omega,hc,fun z hz=>?_,fun e2=>?_⟩
 ·rcases List.mem_append.1 hz with q|q
  ·simp only [List.mem_cons,List.not_mem_nil,or_false] at q
   omega
  ·have:=List.eq_of_mem_replicate (List.drop_subset _ _ q);omega
 ·cases base with
  | none=>have:=hW.1 rfl;simp at this
  | some a=>cases e2
theorem formatF_bad {a b:Int} (h:(newF a b).2≠0\/areaF a (newF a b).1.2.length=0):formatF a b=((0,[]),1):=by unfold formatF;rw [if_pos h]
theorem formatF_ok {a b:Int} (h:newF a b=((a,List.replicate n 255),0)) (hA:areaF a n≠0):formatF a b=((a,[90,0,0,0,0]++(List.replicate n 255).drop 5),0):=by
 unfold formatF
 rw [h,if_neg (by simp only [List.length_replicate];rintro (q|q);exact q rfl;exact hA q)]
theorem j11 {a2:Int} (h:∀ (s':Int) (b':Option Addr) (l' c':Nat) (ys:List Int) (e:Int) (E':Mem),Mem.le E E'->Hyp (formatF a1 a2=((s',ys),e))->Bs E' b' l' c' ys->K (.tup [.agg [I s',L b' l' c'],I e]) E'):
    Ent KL 8 Tryz.f35 [I a1,I a2] E K:=by
  refine sm_ (?_:(Hyp ((newF a1 a2).snd≠(0:Int))->Mem.le E E/\Mem.le E E/\K (SV.tup [SV.agg [I 0,L none 0 0],I 1]) E)/\∀ (n cap tot:Nat) (zs:List Int),Hyp (newF a1 a2=((a1,List.replicate n 255),(0:Int)))->n<=16384/\n<=List.length zs/\List.take n zs=List.replicate n (255:Int)/\n<=cap->Mem.le E E/\((2:Int)=(0:Int)->False)/\bif bif false then true else Int.tmod a2 (2:Int) !=(0:Int) then Mem.le E E/\K (SV.tup [SV.agg [I 0,L none 0 0],I 1]) E else bif bif false then true else decide ((NI n)<32) then Mem.le E E/\K (SV.tup [SV.agg [I 0,L none 0 0],I 1]) E else 0+n*1<=List.length (vB zs)/\∀ (base:Option Addr) (E':Mem),Mem.le E E'->WinE E' base (layV (vB zs) 0 (List.take (min 5 n*1) [U8 90,U8 0,U8 0,U8 0,U8 0]))->Mem.le E E'/\K (SV.tup [SV.agg [I a1,L (Option.map (fun (x:Addr)=>Addr.add x 0) base) n cap],I 0]) E')
  delta NI U8
  have ex:∀ {s':Int} {ys:List Int} {e:Int},formatF a1 a2=((s',ys),e)->∀ (b':Option Addr) (l' c':Nat) (E':Mem),Mem.le E E'->Bs E' b' l' c' ys->K (.tup [.agg [I s',L b' l' c'],I e]) E':=fun he b' l' c' E' hE hB=>h _ b' l' c' _ _ E' hE he hB
  refine ⟨fun ne=>⟨mr_,mr_,ex (formatF_bad (.inl ne)) none 0 0 E mr_ (Bs.nil _)⟩,fun n cap tot zs rN hh=>⟨mr_,?_⟩⟩
  obtain ⟨h16,hz,ht,hcap⟩:=hh
  have rN:newF a1 a2=((a1,List.replicate n 255),0):=rN
  obtain ⟨f1,f2,f3,f4,f5⟩:=newF_facts rN
  obtain ⟨hv,hdv,hA⟩:=area_new ⟨f1,f2⟩ f3 f4 f5
  have bad:¬ (a2 % 2=0/\32<=n)->Mem.le E E/\K (.tup [.agg [I 0,L none 0 0],I 1]) E:=fun q=>⟨mr_,ex (formatF_bad (.inr (by rw [rN];simp only [List.length_replicate];rw [hA,if_neg q]))) none 0 0 E mr_ (Bs.nil _)⟩
  rw [Int.tmod_eq_emod_of_nonneg (by omega)]
  refine ⟨by decide,condC (fun q=>bad (fun z=>?_)) (fun q=>condC (fun r=>bad (fun z=>?_)) (fun r=>?_))⟩
  · have q:¬ a2 % 2=0:=by simpa using q
    exact q z.1
  · have r:(n:Int)<32:=by simpa using r
    omega
  have q:a2 % 2=0:=by simpa using q
  have r : 32 ≤ n := by have r:¬ (n:Int)<32:=by simpa using r
                        omega
  refine ⟨by simp;omega,fun base E' k w=>⟨k,ex (formatF_ok rN (by rw [hA,if_pos ⟨q,r⟩];omega)) _ n cap E' k (fmt_win w ?_ hz ht r hcap)⟩⟩
  rw [show min 5 n*1=5 by omega]
  unfold layV
  simp [List.map_drop]
theorem eq2 {α β:Type} {p:α×β} {a:α} {b:β} (h:p=(a,b)):p.1=a/\p.2=b:=by subst h;exact ⟨rfl,rfl⟩
end Go.Proofs.YtdaakdbkmjgloaaGreat.CustodyOwn
