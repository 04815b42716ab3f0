/- Walks and plain laws. Conditions: none. -/
import Derived.Test.YtdaakdbkmjgloaaGreatDg3
namespace Go.Proofs.YtdaakdbkmjgloaaGreat.CustodyOwn
open Go Go.Sx
set_option maxRecDepth 100000
set_option maxHeartbeats 4000000
set_option linter.all false
variable {E:Mem} {K:SV->Mem->Prop}
variable {k c n i m e l c4 l3 lo h a j tot dc dl st kc kn p o:Nat} {r ds xs zs:List Int} {ys dss yss:List (List Int)} {b d b2 b' kb:Option Addr} {E0 E:Mem} {a1 s g u:Int} {ms:List (Int×List Int)} {rs:List FRow} {KK:KT} {bx:List Box} {vs:List Value} {f:FuncId} {P:Program} {args:List SV}
def RB:RowR (List Int):=fun E x r=>∃ (b:Option Addr) (l c:Nat),r=[.slice b l c]/\Bs E b l c x
theorem RB_ok:RowOK 1 RB:=⟨fun he h=>let ⟨b,l,c,h1,h2⟩:=h;⟨b,l,c,h1,h2.mono he⟩,fun h=>by obtain ⟨b,l,c,rfl,_⟩:=h;rfl,fun h v hv=>by
 obtain ⟨b,l,c,rfl,_⟩:=h
 simp only [List.mem_cons,List.not_mem_nil,or_false] at hv;subst hv;rfl,by decide⟩
abbrev BL (E:Mem) (b:Option Addr) (n c:Nat) (dss:List (List Int)):Prop:=SL RB E b n c dss
def areaF (s:Int) (l:Nat):Nat:=if validF s l/\((l:Int) / s) % 2=0/\32<=l then l / 2 else 0
def genF (zs:List Int) (p:Nat):Int:=numF ((zs.drop (p+1)).take 4)
def usedF (h:Nat) (zs:List Int):Int×Int:=
 let a:Int×Int:=if zs.getD 0 0=90 then (0,genF zs 0) else (-1, -1)
 if zs.getD h 0=90/\genF zs h>a.2 then ((h:Int),genF zs h) else a
def parseN:Nat->List Int->Option (List (List Int)×Nat)
 | 0,_=>some ([],0)
 | f+1,r=>
  if r=[]\/r.getD 0 0=255 then some ([],0)
  else if r.getD 0 0≠90\/r.length<3 then none
  else if r.length<(numF ((r.drop 1).take 2)).toNat+11 then none
  else if bodyF ((r.drop 3).take (numF ((r.drop 1).take 2)).toNat)≠(r.drop 1).take ((numF ((r.drop 1).take 2)).toNat+10) then none
  else (parseN f (r.drop ((numF ((r.drop 1).take 2)).toNat+11))).map fun q=>((r.drop 3).take (numF ((r.drop 1).take 2)).toNat::q.1,(numF ((r.drop 1).take 2)).toNat+11+q.2)
def parseF (r:List Int):Option (List (List Int)×Nat):=parseN r.length r
theorem parseN_fuel:∀ (f g:Nat) (r:List Int),r.length<=f->r.length<=g->parseN f r=parseN g r
 | 0,0,r,_,_=>rfl
 | 0,g+1,r,h,_=>by
  have :r=[]:=List.length_eq_zero_iff.1 (by omega)
  subst this
  simp [parseN]
 | f+1,0,r,_,h=>by
  have :r=[]:=List.length_eq_zero_iff.1 (by omega)
  subst this
  simp [parseN]
 | f+1,g+1,r,h1,h2=>by
  unfold parseN
  rw [parseN_fuel f g _ (by rw [List.length_drop];omega) (by rw [List.length_drop];omega)]
theorem parseF_step (r:List Int):parseF r=if r=[]\/r.getD 0 0=255 then some ([],0)
  else if r.getD 0 0≠90\/r.length<3 then none
  else if r.length<(numF ((r.drop 1).take 2)).toNat+11 then none
  else if bodyF ((r.drop 3).take (numF ((r.drop 1).take 2)).toNat)≠(r.drop 1).take ((numF ((r.drop 1).take 2)).toNat+10) then none
  else (parseF (r.drop ((numF ((r.drop 1).take 2)).toNat+11))).map fun q=>((r.drop 3).take (numF ((r.drop 1).take 2)).toNat::q.1,(numF ((r.drop 1).take 2)).toNat+11+q.2):=by
 unfold parseF
 rw [parseN_fuel r.length (r.length+1) r (Nat.le_refl _) (Nat.le_succ _),parseN]
 rw [parseN_fuel r.length (r.drop ((numF ((r.drop 1).take 2)).toNat+11)).length _ (by rw [List.length_drop];omega) (Nat.le_refl _)]
def fromF (ys:List (List Int)) (k:Nat) (r:List Int):Option (List (List Int)×Nat):=(parseF (r.drop k)).map fun q=>(ys++q.1,k+q.2)
theorem fromF_0 (r:List Int):fromF [] 0 r=parseF r:=by
 unfold fromF
 rw [List.drop_zero]
 cases parseF r<;>simp
theorem getD_drop' (r:List Int) (k:Nat):(r.drop k).getD 0 0=r.getD k 0:=by
 rw [List.getD_eq_getElem?_getD,List.getD_eq_getElem?_getD,List.getElem?_drop,Nat.add_zero]
theorem fromF_end (h:r.length<=k\/r.getD k 0=255):fromF ys k r=some (ys,k):=by
 unfold fromF
 rw [parseF_step,if_pos (by rw [getD_drop'];exact h.imp_left List.drop_eq_nil_of_le)]
 simp
theorem drop_ne (h:k<r.length) (g:r.getD k 0≠255):¬ (r.drop k=[]\/(r.drop k).getD 0 0=255):=by
 rw [getD_drop']
 rintro (q|q)
 ·rw [List.drop_eq_nil_iff] at q;omega
 ·exact g q
theorem fromF_bad1 (h:k<r.length) (g:r.getD k 0≠255) (b:r.getD k 0≠90\/r.length<k+3):fromF ys k r=none:=by
 unfold fromF
 rw [parseF_step,if_neg (drop_ne h g),if_pos (by rw [getD_drop',List.length_drop];exact b.imp_right (fun q=>by omega))]
 rfl
def lenF (r:List Int) (k:Nat):Nat:=(numF ((r.drop (k+1)).take 2)).toNat
theorem lenF_drop (r:List Int) (k:Nat):(numF (((r.drop k).drop 1).take 2)).toNat=lenF r k:=by rw [List.drop_drop];rfl
theorem fromF_bad2 (h:k<r.length) (g:r.getD k 0≠255) (m:r.getD k 0=90) (l:k+3<=r.length) (b:r.length<k+lenF r k+11):fromF ys k r=none:=by
 unfold fromF
 rw [parseF_step,if_neg (drop_ne h g),if_neg (by rw [getD_drop',List.length_drop,m];omega),lenF_drop,if_pos (by rw [List.length_drop];omega)]
 rfl
theorem fromF_bad3 (h:k<r.length) (g:r.getD k 0≠255) (m:r.getD k 0=90) (l:k+lenF r k+11<=r.length)
  (b:bodyF ((r.drop (k+3)).take (lenF r k))≠(r.drop (k+1)).take (lenF r k+10)):fromF ys k r=none:=by
 unfold fromF
 rw [parseF_step,if_neg (drop_ne h g),if_neg (by rw [getD_drop',List.length_drop,m];omega),lenF_drop,if_neg (by rw [List.length_drop];omega),if_pos (by rw [List.drop_drop,List.drop_drop];exact b)]
 rfl
theorem fromF_next (h:k<r.length) (g:r.getD k 0≠255) (m:r.getD k 0=90) (l:k+lenF r k+11<=r.length)
  (b:bodyF ((r.drop (k+3)).take (lenF r k))=(r.drop (k+1)).take (lenF r k+10)):fromF ys k r=fromF (ys++[(r.drop (k+3)).take (lenF r k)]) (k+lenF r k+11) r:=by
 unfold fromF
 rw [parseF_step (r.drop k),if_neg (drop_ne h g),if_neg (by rw [getD_drop',List.length_drop,m];omega),lenF_drop,if_neg (by rw [List.length_drop];omega),if_neg (by rw [List.drop_drop,List.drop_drop];exact fun q=>q b)]
 rw [List.drop_drop,List.drop_drop,show k+(lenF r k+11)=k+lenF r k+11 by omega]
 cases parseF (r.drop (k+lenF r k+11)) with
 | none=>rfl
 | some q=>simp;omega
def recsB (h at':Nat) (zs:List Int):List Int:=(zs.drop (at'+5)).take (h-5)
def openF (s:Int) (zs:List Int):(List (List Int)×Nat×Int×Nat)×Int:=
 if areaF s zs.length=0 then (([],0,0,0),1)
 else if (usedF (areaF s zs.length) zs).1<0 then (([],0,0,0),4)
 else match parseF (recsB (areaF s zs.length) (usedF (areaF s zs.length) zs).1.toNat zs) with
  | none=>(([],0,0,0),12)
  | some (l,n)=>((l,(usedF (areaF s zs.length) zs).1.toNat,(usedF (areaF s zs.length) zs).2,5+n),0)
def readF (s:Int) (zs:List Int):List (List Int)×Int:=((openF s zs).1.1,(openF s zs).2)
def cleanF (h at' e:Nat) (zs:List Int):Bool:=((zs.drop (at'+e)).take (h-e)).all (fun x=>decide (x=255))
def chgF (l ms:List (Int×List Int)):List (Int×List Int):=l++ms.drop 1
def lastM (l:List (Int×List Int)):Int×List Int:=l.getLastD (0,[])
def progL (l:List (Int×List Int)) (a:Nat) (ds:List Int):List (Int×List Int):=chgF l (progF (lastM l).1 (lastM l).2 a ds).1
def erasL (l:List (Int×List Int)) (k:Nat):List (Int×List Int):=chgF l (erasF (lastM l).1 (lastM l).2 k).1
def writeL (l:List (Int×List Int)) (a:Nat) (ds:List Int):List (Int×List Int):=progL (progL l (a+1) (bodyF ds)) a [90]
def erasesL (k:Nat):Nat->List (Int×List Int)->List (Int×List Int)
 | 0,l=>l
 | n+1,l=>erasL (erasesL k n l) (k+n)
def needF (keep:List (List Int)):Nat:=keep.foldl (fun n d=>n+d.length+11) 0
def writesL (k:Nat) (l:List (Int×List Int)) (keep:List (List Int)):List (Int×List Int)×Nat:=keep.foldl (fun q d=>(writeL q.1 q.2 d,q.2+d.length+11)) (l,k)
def rewL (s:Int) (zs:List Int) (h at':Nat) (g:Int) (keep:List (List Int)):List (Int×List Int):=
 progL (progL (writesL (h-at'+5) (erasesL ((h-at') / s.toNat) (h / s.toNat) [(s,zs)]) keep).1 (h-at'+1) (storF (g+1) 4)) (h-at') [90]
def appendF (s:Int) (zs:List Int) (ds:List Int):List (Int×List Int)×Int:=
 if (openF s zs).2≠0 then ([],(openF s zs).2)
 else match (openF s zs).1 with
  | (old,at',g,e)=>
   if e+ds.length+11>areaF s zs.length\/cleanF (areaF s zs.length) at' e zs=false/\g=4294967295 then ([],10)
   else if cleanF (areaF s zs.length) at' e zs then (writeL [(s,zs)] (at'+e) ds,0)
   else (writeL (rewL s zs (areaF s zs.length) at' g old) (areaF s zs.length-at'+e) ds,0)
def compactF (s:Int) (zs:List Int) (keep:List (List Int)):List (Int×List Int)×Int:=
 if (openF s zs).2≠0 then ([],(openF s zs).2)
 else match (openF s zs).1 with
  | (_,at',g,_)=>
   if 5+needF keep>areaF s zs.length\/g=4294967295 then ([],10)
   else (rewL s zs (areaF s zs.length) at' g keep,0)
def formatF (s n:Int):(Int×List Int)×Int:=
 if (newF s n).2≠0\/areaF s (newF s n).1.2.length=0 then ((0,[]),1) else ((s,[90,0,0,0,0]++(newF s n).1.2.drop 5),0)
theorem BL.load (h:BL E b n c dss) (hx:dss[i]? =some ds):
  (∃ cs,E (.slice b n c) cs/\(cs=[]->False))/\∃ (b':Option Addr) (l' c':Nat),LoadE Tryz.prog E 22 (.slice b n c) (i*1) (L b' l' c')/\Bs E b' l' c' ds:=by
 have hi:i<n:=by rw [← h.len];exact (List.getElem?_eq_some_iff.1 hx).1
 refine ⟨h.ne RB_ok hi,?_⟩
 obtain ⟨r,v,⟨b',l',c',rfl,h2⟩,hv,h3⟩:=h.loadC RB_ok (P:=Tryz.prog) (T:=22) rfl rfl hx (j:=0) (by decide)
 simp only [List.getElem?_cons_zero,Option.some.injEq] at hv
 subst hv
 exact ⟨b',l',c',h3,h2⟩
theorem BL.get (h:BL E b n c dss) (hi:i<n):∃ ds,dss[i]? =some ds:=⟨_,List.getElem?_eq_getElem (by rw [h.len];exact hi)⟩
theorem needF_take {d:List Int} (h:dss[i]? =some d):needF (dss.take (i+1))=needF (dss.take i)+d.length+11:=by
 unfold needF;rw [take_get' h];simp
theorem needF_bd (h:∀ d∈dss,d.length<=m):needF dss<=dss.length*(m+11):=by
 have key:∀ (dss:List (List Int)) (n:Nat),(∀ d∈dss,d.length<=m)->dss.foldl (fun n d=>n+d.length+11) n<=n+dss.length*(m+11):=by
  intro dss
  induction dss with
  | nil=>intro n _;simp
  | cons d dss ih=>
   intro n hd
   have h1:=hd d (by simp)
   have h2:=ih (n+d.length+11) (fun d' h'=>hd d' (List.mem_cons_of_mem _ h'))
   simp only [List.foldl_cons,List.length_cons,Nat.add_mul,Nat.one_mul] at h2 ⊢
   omega
 have:=key dss 0 h
 unfold needF;omega
noncomputable def K1:Cx:={ P:=Tryz.prog,inl:=fun f=>List.contains [] f,tab:=fun _ _ _ _=>False,isB:=fun _=>false,tabB:=fun _ _ _ _ _=>False,opt:={ unroll:=0,carry:=[5] },muts:=mutsD }
theorem okK1:CxOK K1:=CxOK.four (fun _ _ _ _ h=>h.elim) (by kernel_rfl) (okInl (by kernel_rfl)) (fun _ _ _ _ _ h=>h.elim)
def sh38 (b:Option Addr) (l:Nat) (c:Nat) (d:Option Addr) (m:Nat) (e:Nat) (xs:List Int) (ys:List Int) (i:Nat) (E:Mem):St:=⟨[oL b l c,oL d m e,none,none,none,oI (i:Nat)]++nn 20,[],E⟩
theorem rnd38 {ys:List Int} (hx:Bs E b l c xs) (hy:Bs E d m e ys) (hl:l<=200000/\l=m) (hi:i<=l/\xs.take i=ys.take i) (hE:Mem.le E0 E) (h:K (B (decide (xs=ys))) E)
  (ih:(i<l/\xs.take (i+1)=ys.take (i+1))->Lp K1 8 Tryz.f64 [1,1,0,1,0] 0 (pubK E0 K) (sh38 b l c d m e xs ys (i+1) E)):Rnd K1 8 Tryz.f64 [1,1,0,1,0] 0 (pubK E0 K) (sh38 b l c d m e xs ys i E):=by
 refine sm_ (?_:bif decide ((NI i)<(NI l)) then req (0<=(NI i)/\(NI i)<(NI l)) (nE E b l c/\∃ (n:Int),LoadE K1.P E 5 (VS b l c) (Int.toNat (NI i)*1) (SV.raw (U8 n))/\req (0<=(NI i)/\(NI i)<(NI m)) (nE E d m e/\∃ (n_1:Int),LoadE K1.P E 5 (VS d m e) (Int.toNat (NI i)*1) (SV.raw (U8 n_1))/\bif n !=n_1 then Mem.le E0 E/\K (B false) E else Lp K1 8 Tryz.f64 [1,1,0,1,0] 0 (pubK E0 K) { fr:=some (L b l c)::oL d m e::none::none::none::oI (WI ((NI i)+1))::no16 (no4 []),bx:=[],E:=E:St })) else Mem.le E0 E/\K (B true) E)
 delta WI NI U8 VS no4 no16
 have hn:=hx.2.1
 have hm:=hy.2.1
 refine condC (fun g=>?_) (fun g=>?_)
 ·have g:i<l:=by simpa using g
  obtain ⟨e1,b1,b2⟩:=Bs.get hx g
  obtain ⟨e2,b3,b4⟩:=Bs.get hy (i:=i) (by omega)
  refine req_intro (by omega) ⟨Bs.ne hx g,xs.getD i 0,Bs.load hx rfl g,req_intro (by omega) ⟨Bs.ne hy (i:=i) (by omega),ys.getD i 0,Bs.load hy rfl (i:=i) (by omega),condC (fun q=>?_) (fun q=>?_)⟩⟩
  ·have q:xs.getD i 0≠ys.getD i 0:=by simpa using q
   rw [decide_eq_false (fun e=>q (by rw [e]))] at h
   exact ⟨hE,h⟩
  ·have q:xs.getD i 0=ys.getD i 0:=by simpa using q
   rw [wrap_i64 (x:=(i:Int)+1) (by omega),show (i:Int)+1=((i+1:Nat):Int) by simp]
   exact Lp_re [] (ih ⟨g,by rw [take_get' e1,take_get' e2,hi.2,q]⟩) (wkG mr_)
 ·have g:i=l:=by simp at g;omega
  subst g
  have hp:=hi.2
  rw [List.take_of_length_le (by omega),List.take_of_length_le (by omega)] at hp
  rw [decide_eq_true hp] at h
  exact ⟨hE,h⟩
theorem lp38 {ys:List Int} (hx:Bs E b l c xs) (hy:Bs E d m e ys) (hl:l<=200000/\l=m) (hi:i<=l/\xs.take i=ys.take i) (hE:Mem.le E0 E) (h:K (B (decide (xs=ys))) E):Lp K1 8 Tryz.f64 [1,1,0,1,0] 0 (pubK E0 K) (sh38 b l c d m e xs ys i E):=
 Lp_ind okK1 (fun q0:{i:Nat//i<=l/\xs.take i=ys.take i}=>sh38 b l c d m e xs ys q0.1 E) (fun q0=>l-q0.1) (fun q0 ih=>rnd38 hx hy hl q0.2 hE h fun g=>ih ⟨q0.1+1,⟨by have:=g.1;omega,g.2⟩⟩ (by show l-(_+1)<l-_;have:=q0.2;omega)) ⟨i,hi⟩
theorem j38 {b1:Option Addr} {l2:Nat} {c3:Nat} {b4:Option Addr} {l5:Nat} {c6:Nat} {ys:List Int} (h0:Bs E b1 l2 c3 xs) (h1:Bs E b4 l5 c6 ys) (h2:l2<=200000) (h:K (B (decide (xs=ys))) E):
  Ent K1 8 Tryz.f64 [L b1 l2 c3,L b4 l5 c6] E K:=by
 refine sm_ (?_:bif (NI l2) !=(NI l5) then Mem.le E E/\K (B false) E else Lp K1 8 Tryz.f64 [1,1,0,1,0] 0 (pubK E K) { fr:=some (L b1 l2 c3)::oL b4 l5 c6::none::none::none::oI 0::oL b1 l2 c3::oI (NI l2)::oL b4 l5 c6::oI (NI l5)::oB ((NI l2) !=(NI l5))::no8 (no4 (no2 (none::[]))),bx:=[],E:=E:St })
 delta NI no2 no4 no8
 refine condC (fun g=>?_) (fun g=>?_)
 ·have g:¬ l2=l5:=by simp at g;omega
  rw [decide_eq_false (fun e=>g (by rw [← h0.2.1,← h1.2.1,e]))] at h
  exact ⟨mr_,h⟩
 ·have g:l2=l5:=by simp at g;omega
  exact Lp_re [] (lp38 (i:=0) h0 h1 ⟨h2,g⟩ ⟨Nat.zero_le _,rfl⟩ mr_ h) (wkG mr_)
noncomputable def tab41:FuncId->List SV->Mem->(SV->Mem->Prop)->Prop:=fun f args E K=>match f with
 | 62=>d1 args fun x0=>dC x0 fun l1=>d2 l1 fun x0_0 x0_1=>dI x0_0 fun a1=>dS x0_1 fun b2 l3 c4=>(K (B (decide (validF a1 l3))) E)
 | _=>False
theorem tab41_ok:TabOK Tryz.prog tab41:=by
 intro f args E K h
 unfold tab41 at h
 split at h
 ·replace h:=d1_elim h
  obtain ⟨x0,rfl,h⟩:=h
  replace h:=dC_elim h
  obtain ⟨l1,hl1,h⟩:=h
  replace h:=d2_elim h
  obtain ⟨x0_0,x0_1,rfl,h⟩:=h
  replace h:=dI_elim h
  obtain ⟨a1,rfl,h⟩:=h
  replace h:=dS_elim h
  obtain ⟨b2,l3,c4,rfl,h⟩:=h
  exact TabSem.congr (valL_cons (asCells_val hl1) rfl) (Ent.sem okF5 Tryz.func62 ⟨by kernel_rfl,by kernel_rfl⟩ rfl (s19 h))
 ·exact h.elim
noncomputable def K2:Cx:={ P:=Tryz.prog,inl:=fun f=>List.contains [] f,tab:=tab41,isB:=fun _=>false,tabB:=fun _ _ _ _ _=>False,opt:={ unroll:=0,carry:=[] },muts:=mutsD }
theorem okK2:CxOK K2:=CxOK.four tab41_ok (by kernel_rfl) (okInl (by kernel_rfl)) (fun _ _ _ _ _ h=>h.elim)
theorem j28 (h:K (I (areaF a1 l3:Nat)) E):
  Ent K2 8 Tryz.f41 [.agg [I a1,L b2 l3 c4]] E K:=by
 refine sm_ (?_:Mem.le E E/\bif !decide (validF a1 l3) then Mem.le E E/\K (I 0) E else ((2:Int)=(0:Int)->False)/\(a1=(0:Int)->False)/\((2:Int)=(0:Int)->False)/\bif Int.tmod (WI (Int.tdiv (NI l3) a1)) (2:Int) !=(0:Int) then Mem.le E E/\K (I 0) E else bif bif false then true else decide (WI (Int.tdiv (NI l3) 2)<(16:Int)) then Mem.le E E/\K (I 0) E else Mem.le E E/\K (I (WI (Int.tdiv (NI l3) 2))) E)
 delta WI NI
 refine ⟨mr_,condC (fun g=>⟨mr_,?_⟩) (fun g=>?_)⟩
 ·have g:¬ validF a1 l3:=by simpa using g
  rw [show areaF a1 l3=0 from if_neg (fun q=>g q.1)] at h;exact h
 have g:validF a1 l3:=by simpa using g
 have gv:=g
 unfold validF at gv
 obtain ⟨v1,v2,v3,v4,v5⟩:=gv
 have hd1:(l3:Int) / a1<=l3:=Int.ediv_le_self _ (by omega)
 have hd0:0<=(l3:Int) / a1:=Int.ediv_nonneg (by omega) (by omega)
 have e1:IntKind.wrap .i64 (Int.tdiv (l3:Int) a1)=(l3:Int) / a1:=by rw [Int.tdiv_eq_ediv_of_nonneg (by omega),wrap_i64 (by omega)]
 have e2:IntKind.wrap .i64 (Int.tdiv (l3:Int) 2)=((l3 / 2:Nat):Int):=by rw [Int.tdiv_eq_ediv_of_nonneg (by omega),wrap_i64 (by omega)];omega
 rw [e1,e2,Int.tmod_eq_emod_of_nonneg hd0]
 refine ⟨by decide,by omega,by decide,condC (fun q=>⟨mr_,?_⟩) (fun q=>condC (fun r=>⟨mr_,?_⟩) (fun r=>⟨mr_,?_⟩))⟩
 ·have q:¬ (l3:Int) / a1 % 2=0:=by simpa using q
  rw [show areaF a1 l3=0 from if_neg (fun z=>q z.2.1)] at h;exact h
 ·have r:((l3 / 2:Nat):Int)<16:=by simpa using r
  rw [show areaF a1 l3=0 from if_neg (fun z=>by have:=z.2.2;omega)] at h;exact h
 ·have q:(l3:Int) / a1 % 2=0:=by simpa using q
  have r:¬ ((l3 / 2:Nat):Int)<16:=by simpa using r
  rw [show areaF a1 l3=l3 / 2 from if_pos ⟨g,q,by omega⟩] at h;exact h
noncomputable def K3:Cx:={ P:=Tryz.prog,inl:=fun f=>List.contains [] f,tab:=fun _ _ _ _=>False,isB:=fun _=>false,tabB:=fun _ _ _ _ _=>False,opt:={ unroll:=0,carry:=[3,4] },muts:=mutsD }
theorem okK3:CxOK K3:=CxOK.four (fun _ _ _ _ h=>h.elim) (by kernel_rfl) (okInl (by kernel_rfl)) (fun _ _ _ _ _ h=>h.elim)
def sh25 (b:Option Addr) (l:Nat) (c:Nat) (dss:List (List Int)) (i:Nat) (E:Mem):St:=⟨[oL b l c,none,none,oI (needF (dss.take i):Nat),oI (i:Nat)]++nn 15,[],E⟩
theorem rnd25 (hx:BL E b l c dss) (hd:∀ d∈dss,d.length<=100000) (hl:l<=1000) (hi:i<=l) (hE:Mem.le E0 E) (h:K (I (needF dss:Nat)) E)
  (ih:(i<l)->Lp K3 8 Tryz.f52 [1,1,0,1,0] 0 (pubK E0 K) (sh25 b l c dss (i+1) E)):Rnd K3 8 Tryz.f52 [1,1,0,1,0] 0 (pubK E0 K) (sh25 b l c dss i E):=by
 refine sm_ (?_:bif decide ((NI i)<(NI l)) then req (0<=(NI i)/\(NI i)<(NI l)) (nE E b l c/\∃ (base:Option Addr),∃ (len:Nat),∃ (cap:Nat),LoadE K3.P E 22 (VS b l c) (Int.toNat (NI i)*1) (L base len cap)/\Lp K3 8 Tryz.f52 [1,1,0,1,0] 0 (pubK E0 K) { fr:=some (L b l c)::none::none::oI (WI (WI ((NI (needF (List.take i dss)))+(NI len))+(11:Int)))::oI (WI ((NI i)+1))::no8 (no4 (no2 (none::[]))),bx:=[],E:=E:St }) else Mem.le E0 E/\K (I (NI (needF (List.take i dss)))) E)
 delta WI NI VS no2 no4 no8
 have hn:=hx.len
 refine condC (fun g=>?_) (fun g=>?_)
 ·have g:i<l:=by simpa using g
  obtain ⟨ds,e1⟩:=hx.get g
  obtain ⟨p1,b',l',c',p2,p3⟩:=hx.load e1
  have q1:=hd ds (List.mem_of_getElem? e1)
  have q2:=p3.2.1
  have q3:=needF_bd (dss:=dss.take i) (m:=100000) (fun d h=>hd d (List.mem_of_mem_take h))
  have q4:(dss.take i).length*(100000+11)<=1000*100011:=Nat.mul_le_mul (by rw [List.length_take];omega) (Nat.le_refl _)
  refine req_intro (by omega) ⟨p1,b',l',c',p2,?_⟩
  rw [wrap_i64 (x:=((needF (dss.take i):Nat):Int)+(l':Nat)) (by omega),wrap_i64 (x:=((needF (dss.take i):Nat):Int)+(l':Nat)+11) (by omega),wrap_i64 (x:=(i:Int)+1) (by omega),show (i:Int)+1=((i+1:Nat):Int) by simp,show ((needF (dss.take i):Nat):Int)+(l':Nat)+11=((needF (dss.take (i+1)):Nat):Int) by rw [needF_take e1];omega]
  exact Lp_re [] (ih g) (wkG mr_)
 ·have g:i=l:=by simp at g;omega
  subst g
  rw [List.take_of_length_le (by omega)]
  exact ⟨hE,h⟩
theorem lp25 (hx:BL E b l c dss) (hd:∀ d∈dss,d.length<=100000) (hl:l<=1000) (hi:i<=l) (hE:Mem.le E0 E) (h:K (I (needF dss:Nat)) E):Lp K3 8 Tryz.f52 [1,1,0,1,0] 0 (pubK E0 K) (sh25 b l c dss i E):=
 Lp_ind okK3 (fun q0:{i:Nat//i<=l}=>sh25 b l c dss q0.1 E) (fun q0=>l-q0.1) (fun q0 ih=>rnd25 hx hd hl q0.2 hE h fun g=>ih ⟨q0.1+1,by have:=q0.2;omega⟩ (by show l-(_+1)<l-_;have:=q0.2;omega)) ⟨i,hi⟩
theorem j25 {b1:Option Addr} {l2:Nat} {c3:Nat} (h0:BL E b1 l2 c3 dss) (h1:(∀ d∈dss,d.length<=100000)) (h2:l2<=1000) (h:K (I (needF dss:Nat)) E):
  Ent K3 8 Tryz.f52 [L b1 l2 c3] E K:=by
 refine sm_ (?_:Lp K3 8 Tryz.f52 [1,1,0,1,0] 0 (pubK E K) { fr:=some (L b1 l2 c3)::none::oI 0::oI 0::oI 0::no8 (no4 (no2 (none::[]))),bx:=[],E:=E:St })
 delta no2 no4 no8
 exact Lp_re [] (lp25 (i:=0) h0 h1 h2 (Nat.zero_le _) mr_ h) (wkG mr_)
theorem Bs.sub {E':Mem} {hi:Nat} (h:Bs E b l c zs)
  (hF:∀ cs,E (.slice b l c) cs->E' (.slice b' (hi-lo) (c-lo)) (List.take ((hi-lo)*1) (List.drop (lo*1) cs))) (hN:b'.isNone=b.isNone) (h1:lo<=hi) (h2:hi<=l):Bs E' b' (hi-lo) (c-lo) ((zs.drop lo).take (hi-lo)):=by
 have hlen:=h.2.1
 refine ⟨?_,by rw [List.length_take,List.length_drop,hlen];omega,by have:=h.2.2.1;omega,fun z hz=>h.2.2.2.1 z (List.drop_subset _ _ (List.take_subset _ _ hz)),fun e=>?_⟩
 ·rcases h.1 with q|q
  ·exact .inl (by rw [q];simp)
  ·refine .inr ?_
   have:=hF _ q
   rw [Nat.mul_one,Nat.mul_one,← List.map_drop,← List.map_take] at this
   exact this
 ·have :zs=[]:=h.2.2.2.2 (by cases b with |none=>rfl|some x=>rw [e] at hN;cases hN)
  rw [this];simp
theorem areaF_ok (h:areaF s l≠0):areaF s l=l / 2/\validF s l/\((l:Int) / s) % 2=0/\32<=l/\2*areaF s l=l/\l<=16384:=by
 unfold areaF at h ⊢
 split
 ·rename_i g
  refine ⟨rfl,g.1,g.2.1,g.2.2,?_,g.1.2.2.2.1⟩
  obtain ⟨⟨v1,v2,v3,v4,v5⟩,g2,g3⟩:=g
  have e:=Int.mul_ediv_add_emod (l:Int) s
  rw [v5] at e
  obtain ⟨k,hk⟩:∃ k:Int,(l:Int) / s=2*k:=⟨(l:Int) / s / 2,by omega⟩
  rw [hk,Int.mul_left_comm] at e
  omega
 ·rename_i g;rw [if_neg g] at h;exact absurd rfl h
noncomputable def tab24:FuncId->List SV->Mem->(SV->Mem->Prop)->Prop:=fun f args E K=>match f with
 | 41=>d1 args fun x0=>dC x0 fun l1=>d2 l1 fun x0_0 x0_1=>dI x0_0 fun a1=>dS x0_1 fun b2 l3 c4=>(K (I (areaF a1 l3:Nat)) E)
 | 63=>d1 args fun x0=>dS x0 fun b1 l2 c3=>∃ (zs:List Int),Bs E b1 l2 c3 zs/\l2<=4/\(K (I (numF zs)) E)
 | _=>False
theorem tab24_ok:TabOK Tryz.prog tab24:=by
 intro f args E K h
 unfold tab24 at h
 split at h
 ·replace h:=d1_elim h
  obtain ⟨x0,rfl,h⟩:=h
  replace h:=dC_elim h
  obtain ⟨l1,hl1,h⟩:=h
  replace h:=d2_elim h
  obtain ⟨x0_0,x0_1,rfl,h⟩:=h
  replace h:=dI_elim h
  obtain ⟨a1,rfl,h⟩:=h
  replace h:=dS_elim h
  obtain ⟨b2,l3,c4,rfl,h⟩:=h
  exact TabSem.congr (valL_cons (asCells_val hl1) rfl) (Ent.sem okK2 Tryz.func41 ⟨by kernel_rfl,by kernel_rfl⟩ rfl (j28 h))
 ·replace h:=d1_elim h
  obtain ⟨x0,rfl,h⟩:=h
  replace h:=dS_elim h
  obtain ⟨b1,l2,c3,rfl,h⟩:=h
  obtain ⟨zs,g0,g1,h⟩:=h
  exact TabSem.congr (valL_cons rfl rfl) (Ent.sem okJ2 Tryz.func63 ⟨by kernel_rfl,by kernel_rfl⟩ rfl (s39 g0 g1 h))
 ·exact h.elim
theorem slice_intro {hi:Nat} (h:Bs E b l c zs) {X Y:Int} (eX:X=(lo:Nat)) (eY:Y=(hi:Nat)) (h1:lo<=hi) (h2:hi<=l) {Q:Option Addr->Mem->Prop}
  (k:∀ (b':Option Addr) (E':Mem),Mem.le E E'->Bs E' b' (toN (some Y) l-toN (some X) 0) (toN none c-toN (some X) 0) ((zs.drop lo).take (hi-lo))->toN (some Y) l-toN (some X) 0=hi-lo->Q b' E'):
  req (l<=c) (req (0<=Y/\Y<=((toN none c:Nat):Int)) (req (0<=X/\X<=((toN (some Y) l:Nat):Int)) (∀ (b':Option Addr) (E':Mem),Mem.le E E'->
   (∀ cs:List Value,E (.slice b l c) cs->E' (.slice b' (toN (some Y) l-toN (some X) 0) (toN none c-toN (some X) 0)) (List.take ((toN (some Y) l-toN (some X) 0)*1) (List.drop (toN (some X) 0*1) cs)))->b'.isNone=b.isNone->Q b' E'))):=by
 subst eX;subst eY
 have e1:toN (some ((lo:Nat):Int)) 0=lo:=Int.toNat_natCast lo
 have e2:toN (some ((hi:Nat):Int)) l=hi:=Int.toNat_natCast hi
 have e3:toN none c=c:=rfl
 have h3:=h.2.2.1
 rw [e1,e2,e3] at k ⊢
 exact req_intro h3 (req_intro (by omega) (req_intro (by omega) fun b' E' q1 q2 q3=>k b' E' q1 (Bs.sub h q2 q3 h1 h2) rfl))
theorem slice_introE (h:Bs E b l c zs) {X:Int} (eX:X=(lo:Nat)) (h1:lo<=l) {Q:Option Addr->Mem->Prop}
  (k:∀ (b':Option Addr) (E':Mem),Mem.le E E'->Bs E' b' (toN none l-toN (some X) 0) (toN none c-toN (some X) 0) (zs.drop lo)->toN none l-toN (some X) 0=l-lo->Q b' E'):
  req (l<=c) (req (0<=X/\X<=((toN none l:Nat):Int)) (∀ (b':Option Addr) (E':Mem),Mem.le E E'->
   (∀ cs:List Value,E (.slice b l c) cs->E' (.slice b' (toN none l-toN (some X) 0) (toN none c-toN (some X) 0)) (List.take ((toN none l-toN (some X) 0)*1) (List.drop (toN (some X) 0*1) cs)))->b'.isNone=b.isNone->Q b' E')):=by
 subst eX
 have e1:toN (some ((lo:Nat):Int)) 0=lo:=Int.toNat_natCast lo
 have e2:toN none l=l:=rfl
 have e3:toN none c=c:=rfl
 have h3:=h.2.2.1
 have hz:=h.2.1
 rw [e1,e2,e3] at k ⊢
 refine req_intro h3 (req_intro (by omega) fun b' E' q1 q2 q3=>k b' E' q1 ?_ rfl)
 have:=Bs.sub h q2 q3 h1 (Nat.le_refl _)
 rw [List.take_of_length_le (by rw [List.length_drop];omega)] at this
 exact this
def stepU (h:Nat) (zs:List Int) (i:Nat) (a:Int×Int):Int×Int:=if zs.getD (i*h) 0=90/\genF zs (i*h)>a.2 then (((i*h:Nat):Int),genF zs (i*h)) else a
theorem genF_bd (hz:∀ z∈zs,0<=z/\z<=255) (p:Nat):0<=genF zs p/\genF zs p<4294967296:=by
 have hz':∀ z∈(zs.drop (p+1)).take 4,0<=z/\z<=255:=fun z h=>hz z (List.drop_subset _ _ (List.take_subset _ _ h))
 have:=numF_small (zs:=(zs.drop (p+1)).take 4) hz' rfl (by rw [List.length_take];omega) 4
 rw [List.take_of_length_le (by rw [List.length_take];omega)] at this
 exact this
theorem usedF_step (hz:∀ z∈zs,0<=z/\z<=255):usedF h zs=stepU h zs 1 (stepU h zs 0 (-1, -1)):=by
 have h0:=genF_bd hz 0
 have e:stepU h zs 0 (-1, -1)=if zs.getD 0 0=90 then (0,genF zs 0) else (-1, -1):=by
  unfold stepU
  rw [Nat.zero_mul]
  by_cases g:zs.getD 0 0=90
  ·rw [if_pos g,if_pos ⟨g,by show genF zs 0> -1;omega⟩];rfl
  ·rw [if_neg g,if_neg (fun q=>g q.1)]
 rw [e]
 unfold usedF stepU
 rw [Nat.one_mul]
noncomputable def K5:Cx:={ P:=Tryz.prog,inl:=fun f=>List.contains [] f,tab:=tab24,isB:=fun _=>false,tabB:=fun _ _ _ _ _=>False,opt:={ unroll:=0,carry:=[5,6,7] },muts:=mutsD }
theorem okK5:CxOK K5:=CxOK.four tab24_ok (by kernel_rfl) (okInl (by kernel_rfl)) (fun _ _ _ _ _ h=>h.elim)
def sh24 (s:Int) (b:Option Addr) (l c h:Nat) (u g:Int) (i:Nat) (E:Mem):St:=⟨[none,oc 0 0,none,none,oI (h:Nat),oI u,oI g,oI (i:Nat)]++nn 38,[⟨24,.lst [I s,L b l c],2,true⟩],E⟩
theorem rnd24 (hz:Bs E b l c zs) (hh:2*h=l/\16<=h/\l<=16384) (hi:i<2) (hE:Mem.le E0 E)
  (ih:∀ (u' g':Int) (E':Mem),Mem.le E0 E'->Mem.le E E'->stepU h zs i (u,g)=(u',g')->Lp K5 8 Tryz.f42 [1,1,1,1,0,1,0] 0 (pubK E0 K) (sh24 s b l c h u' g' (i+1) E')):Rnd K5 8 Tryz.f42 [1,1,1,1,0,1,0] 0 (pubK E0 K) (sh24 s b l c h u g i E):=by
 refine sm_ (?_:bif decide ((NI i)<2) then req (l<=c) (req ((0:Int)<=WI (WI ((NI i)*(NI h))+(5:Int))/\WI (WI ((NI i)*(NI h))+(5:Int))<=(NI (toN none c))) (req ((0:Int)<=WI (WI ((NI i)*(NI h))+(1:Int))/\WI (WI ((NI i)*(NI h))+(1:Int))<=(NI (toN (some (WI (WI ((NI i)*(NI h))+(5:Int)))) l))) (∀ (base':Option Addr) (E':Mem),Mem.le E E'->(∀ (cs:List Value),E (VS b l c) cs->E' (VS base' (toN (some (WI (WI ((NI i)*(NI h))+(5:Int)))) l-toN (some (WI (WI ((NI i)*(NI h))+(1:Int)))) 0) (toN none c-toN (some (WI (WI ((NI i)*(NI h))+(1:Int)))) 0)) (List.take ((toN (some (WI (WI ((NI i)*(NI h))+(5:Int)))) l-toN (some (WI (WI ((NI i)*(NI h))+(1:Int)))) 0)*1) (List.drop (toN (some (WI (WI ((NI i)*(NI h))+(1:Int)))) 0*1) cs)))->Option.isNone base'=Option.isNone b->∃ (zs:List Int),Bs E' base' (toN (some (WI (WI ((NI i)*(NI h))+(5:Int)))) l-toN (some (WI (WI ((NI i)*(NI h))+(1:Int)))) 0) (toN none c-toN (some (WI (WI ((NI i)*(NI h))+(1:Int)))) 0) zs/\toN (some (WI (WI ((NI i)*(NI h))+(5:Int)))) l-toN (some (WI (WI ((NI i)*(NI h))+(1:Int)))) 0<=4/\Mem.le E' E'/\req ((0:Int)<=WI ((NI i)*(NI h))/\WI ((NI i)*(NI h))<(NI l)) (nE E' b l c/\∃ (n:Int),LoadE K5.P E' 5 (VS b l c) (Int.toNat (WI ((NI i)*(NI h)))*1) (SV.raw (U8 n))/\bif n==(90:Int) then bif bif true then decide (numF zs>g) else false then Lp K5 8 Tryz.f42 [1,1,1,1,0,1,0] 0 (pubK E0 K) { fr:=none::oc 0 0::none::none::oI (NI h)::oI (WI ((NI i)*(NI h)))::oI (numF zs)::oI (WI ((NI i)+1))::no32 (no4 (no2 [])),bx:=[(⟨24,.lst [I s,L b l c],2,true⟩:Box)],E:=E':St } else Lp K5 8 Tryz.f42 [1,1,1,1,0,1,0] 0 (pubK E0 K) { fr:=none::oc 0 0::none::none::oI (NI h)::oI u::oI g::oI (WI ((NI i)+1))::no32 (no4 (no2 [])),bx:=[(⟨24,.lst [I s,L b l c],2,true⟩:Box)],E:=E':St } else Lp K5 8 Tryz.f42 [1,1,1,1,0,1,0] 0 (pubK E0 K) { fr:=none::oc 0 0::none::none::oI (NI h)::oI u::oI g::oI (WI ((NI i)+1))::no32 (no4 (no2 [])),bx:=[(⟨24,.lst [I s,L b l c],2,true⟩:Box)],E:=E':St })))) else Mem.le E0 E/\K (SV.tup [I u,I g]) E)
 delta WI NI U8 VS no2 no4 no32
 obtain ⟨q1,q2,q3⟩:=hh
 have hp1:i*h<=h:=by have:=Nat.mul_le_mul_right h (show i<=1 by omega);omega
 obtain ⟨p,hp⟩:∃ p,i*h=p:=⟨_,rfl⟩
 rw [hp] at hp1
 have e0:IntKind.wrap .i64 ((i:Int)*(h:Int))=((p:Nat):Int):=by rw [← Int.natCast_mul,hp,wrap_i64 (by omega)]
 have e1:IntKind.wrap .i64 (((p:Nat):Int)+1)=((p+1:Nat):Int):=by rw [wrap_i64 (by omega)];omega
 have e5:IntKind.wrap .i64 (((p:Nat):Int)+5)=((p+5:Nat):Int):=by rw [wrap_i64 (by omega)];omega
 unfold stepU at ih
 rw [hp] at ih
 rw [e0,e1,e5,wrap_i64 (x:=(i:Int)+1) (by omega),show (i:Int)+1=((i+1:Nat):Int) by simp]
 refine condC (fun _=>?_) (fun g=>by simp at g;omega)
 refine slice_intro hz (lo:=p+1) (hi:=p+5) rfl rfl (by omega) (by omega) fun b' E' q hB hl=>?_
 rw [show p+5-(p+1)=4 by omega] at hB hl
 refine ⟨_,hB,by omega,mr_,req_intro (by omega) ⟨(hz.mono q).ne (i:=p) (by omega),zs.getD p 0,(hz.mono q).load rfl (i:=p) (by omega),condC (fun m=>condC (fun m2=>?_) (fun m2=>?_)) (fun m=>?_)⟩⟩
 ·have m:zs.getD p 0=90:=by simpa only [beq_iff_eq] using m
  have m2:genF zs p>g:=of_decide_eq_true m2
  exact Lp_re [some 0] (ih _ _ E' (mt_ hE q) q (if_pos ⟨m,m2⟩)) (wkG mr_)
 ·have m2:¬ genF zs p>g:=of_decide_eq_false m2
  exact Lp_re [some 0] (ih _ _ E' (mt_ hE q) q (if_neg (fun z=>m2 z.2))) (wkG mr_)
 ·have m:¬ zs.getD p 0=90:=by simpa only [beq_eq_false_iff_ne] using m
  exact Lp_re [some 0] (ih _ _ E' (mt_ hE q) q (if_neg (fun z=>m z.1))) (wkG mr_)
theorem rnd24e (hE:Mem.le E0 E) (k:K (.tup [I u,I g]) E):Rnd K5 8 Tryz.f42 [1,1,1,1,0,1,0] 0 (pubK E0 K) (sh24 s b l c h u g 2 E):=by
 refine sm_ (?_:Mem.le E0 E/\K (SV.tup [I u,I g]) E)
 exact ⟨hE,k⟩
theorem lp24e (hE:Mem.le E0 E) (k:K (.tup [I u,I g]) E):Lp K5 8 Tryz.f42 [1,1,1,1,0,1,0] 0 (pubK E0 K) (sh24 s b l c h u g 2 E):=
 Lp_ind (ι:=Unit) okK5 (fun _=>sh24 s b l c h u g 2 E) (fun _=>0) (fun _ _=>rnd24e hE k) ()
theorem lp24 (hz:Bs E b l c zs) (hh:2*h=l/\16<=h/\l<=16384) (hE:Mem.le E0 E) (hi:i<2)
  (k:∀ (u' g':Int) (E':Mem),Mem.le E0 E'->Mem.le E E'->stepU h zs i (u,g)=(u',g')->Lp K5 8 Tryz.f42 [1,1,1,1,0,1,0] 0 (pubK E0 K) (sh24 s b l c h u' g' (i+1) E')):Lp K5 8 Tryz.f42 [1,1,1,1,0,1,0] 0 (pubK E0 K) (sh24 s b l c h u g i E):=
 Lp_ind (ι:=Unit) okK5 (fun _=>sh24 s b l c h u g i E) (fun _=>0) (fun _ _=>rnd24 hz hh hi hE k) ()
theorem j24 (h0:Bs E b2 l3 c4 zs) (h1:areaF a1 l3≠0) (h:∀ (u g:Int) (E':Mem),Mem.le E E'->Hyp (usedF (areaF a1 l3) zs=(u,g))->K (.tup [I u,I g]) E'):
  Ent K5 8 Tryz.f42 [.agg [I a1,L b2 l3 c4]] E K:=by
 refine sm_ (?_:Mem.le E E/\Lp K5 8 Tryz.f42 [1,1,1,1,0,1,0] 0 (pubK E K) { fr:=some (SV.agg [I a1,L b2 l3 c4])::oc 0 0::oI 0::oI 0::oI (NI (areaF a1 l3))::oI (-1)::oI (-1)::oI 0::none::some (SV.agg [I a1,L b2 l3 c4])::oI (NI (areaF a1 l3))::no32 (no2 (none::[])),bx:=[(⟨24,.lst [I a1,L b2 l3 c4],2,true⟩:Box)],E:=E:St })
 delta NI no2 no32
 obtain ⟨a1',a2,a3,a4,a5,a6⟩:=areaF_ok h1
 refine ⟨mr_,?_⟩
 have hh:2*areaF a1 l3=l3/\16<=areaF a1 l3/\l3<=16384:=⟨a5,by omega,a6⟩
 have key:=lp24 (s:=a1) (u:= -1) (g:= -1) h0 hh (Mem.le_refl E) (i:=0) (by decide) fun u1 g1 E1 k1 _ r1=>lp24 (h0.mono k1) hh k1 (i:=1) (by decide) fun u2 g2 E2 k2 _ r2=>lp24e k2 (h u2 g2 E2 k2 (by show usedF _ _=_;rw [usedF_step h0.2.2.2.1,r1,r2]))
 exact Lp_re [some 0] (key) (wkG mr_)
def recR (h at':Nat) (zs:List Int):(List (List Int)×Int)×Int:=match parseF (recsB h at' zs) with
 | none=>(([],0),12)
 | some (l,n)=>((l,((at'+5+n:Nat):Int)),0)
theorem recs_len (hl:a+h<=zs.length):(recsB h a zs).length=h-5:=by unfold recsB;rw [List.length_take,List.length_drop];omega
theorem recs_get (hj:j<h-5):(recsB h a zs).getD j 0=zs.getD (a+5+j) 0:=by
 unfold recsB
 rw [List.getD_eq_getElem?_getD,List.getD_eq_getElem?_getD,List.getElem?_take,if_pos hj,List.getElem?_drop]
theorem recs_part (hj:j+n<=h-5):((recsB h a zs).drop j).take n=(zs.drop (a+5+j)).take n:=by
 unfold recsB
 rw [List.drop_take,List.take_take,List.drop_drop,Nat.min_eq_left (by omega)]
theorem usedF_at:(usedF h zs).1= -1\/(usedF h zs).1=0\/(usedF h zs).1=(h:Int):=by
 unfold usedF
 by_cases g:zs.getD 0 0=90
 ·simp only [g,if_true]
  split
  ·exact .inr (.inr rfl)
  ·exact .inr (.inl rfl)
 ·simp only [g,if_false]
  split
  ·exact .inr (.inr rfl)
  ·exact .inl rfl
theorem lenF_bd (hz:∀ z∈r,0<=z/\z<=255) (k:Nat):lenF r k<65536/\numF ((r.drop (k+1)).take 2)=(lenF r k:Nat):=by
 have hz':∀ z∈(r.drop (k+1)).take 2,0<=z/\z<=255:=fun z h=>hz z (List.drop_subset _ _ (List.take_subset _ _ h))
 obtain ⟨h1,h2⟩:=numF_bd hz'
 have hk:((r.drop (k+1)).take 2).length<=2:=by rw [List.length_take];omega
 have h3:∀ k:Nat,k<=2->(256:Int) ^ k<=65536:=by decide
 have h4:=h3 _ hk
 unfold lenF
 omega
noncomputable def tab30:FuncId->List SV->Mem->(SV->Mem->Prop)->Prop:=fun f args E K=>match f with
 | 42=>d1 args fun x0=>dC x0 fun l1=>d2 l1 fun x0_0 x0_1=>dI x0_0 fun a1=>dS x0_1 fun b2 l3 c4=>∃ (zs:List Int),Bs E b2 l3 c4 zs/\areaF a1 l3≠0/\(∀ (u g:Int) (E':Mem),Mem.le E E'->Hyp (usedF (areaF a1 l3) zs=(u,g))->K (.tup [I u,I g]) E')
 | 41=>d1 args fun x0=>dC x0 fun l1=>d2 l1 fun x0_0 x0_1=>dI x0_0 fun a1=>dS x0_1 fun b2 l3 c4=>(K (I (areaF a1 l3:Nat)) E)
 | 63=>d1 args fun x0=>dS x0 fun b1 l2 c3=>∃ (zs:List Int),Bs E b1 l2 c3 zs/\l2<=4/\(K (I (numF zs)) E)
 | 65=>d1 args fun x0=>dS x0 fun b1 l2 c3=>∃ (zs:List Int),Bs E b1 l2 c3 zs/\l2<=70000/\(∀ (b':Option Addr) (l' c':Nat) (ys:List Int) (E':Mem),Mem.le E E'->Hyp (ys=hidB zs)->Bs E' b' l' c' ys->K (L b' l' c') E')
 | 64=>d2 args fun x0 x1=>dS x0 fun b1 l2 c3=>dS x1 fun b4 l5 c6=>∃ (xs:List Int) (ys:List Int),Bs E b1 l2 c3 xs/\Bs E b4 l5 c6 ys/\l2<=200000/\(K (B (decide (xs=ys))) E)
 | _=>False
theorem tab30_ok:TabOK Tryz.prog tab30:=by
 intro f args E K h
 unfold tab30 at h
 split at h
 ·replace h:=d1_elim h
  obtain ⟨x0,rfl,h⟩:=h
  replace h:=dC_elim h
  obtain ⟨l1,hl1,h⟩:=h
  replace h:=d2_elim h
  obtain ⟨x0_0,x0_1,rfl,h⟩:=h
  replace h:=dI_elim h
  obtain ⟨a1,rfl,h⟩:=h
  replace h:=dS_elim h
  obtain ⟨b2,l3,c4,rfl,h⟩:=h
  obtain ⟨zs,g0,g1,h⟩:=h
  exact TabSem.congr (valL_cons (asCells_val hl1) rfl) (Ent.sem okK5 Tryz.func42 ⟨by kernel_rfl,by kernel_rfl⟩ rfl (j24 g0 g1 h))
 ·replace h:=d1_elim h
  obtain ⟨x0,rfl,h⟩:=h
  replace h:=dC_elim h
  obtain ⟨l1,hl1,h⟩:=h
  replace h:=d2_elim h
  obtain ⟨x0_0,x0_1,rfl,h⟩:=h
  replace h:=dI_elim h
  obtain ⟨a1,rfl,h⟩:=h
  replace h:=dS_elim h
  obtain ⟨b2,l3,c4,rfl,h⟩:=h
  exact TabSem.congr (valL_cons (asCells_val hl1) rfl) (Ent.sem okK2 Tryz.func41 ⟨by kernel_rfl,by kernel_rfl⟩ rfl (j28 h))
 ·replace h:=d1_elim h
  obtain ⟨x0,rfl,h⟩:=h
  replace h:=dS_elim h
  obtain ⟨b1,l2,c3,rfl,h⟩:=h
  obtain ⟨zs,g0,g1,h⟩:=h
  exact TabSem.congr (valL_cons rfl rfl) (Ent.sem okJ2 Tryz.func63 ⟨by kernel_rfl,by kernel_rfl⟩ rfl (s39 g0 g1 h))
 ·replace h:=d1_elim h
  obtain ⟨x0,rfl,h⟩:=h
  replace h:=dS_elim h
  obtain ⟨b1,l2,c3,rfl,h⟩:=h
  obtain ⟨zs,g0,g1,h⟩:=h
  exact TabSem.congr (valL_cons rfl rfl) (Ent.sem okJ8 Tryz.func65 ⟨by kernel_rfl,by kernel_rfl⟩ rfl (j45 g0 g1 h))
 ·replace h:=d2_elim h
  obtain ⟨x0,x1,rfl,h⟩:=h
  replace h:=dS_elim h
  obtain ⟨b1,l2,c3,rfl,h⟩:=h
  replace h:=dS_elim h
  obtain ⟨b4,l5,c6,rfl,h⟩:=h
  obtain ⟨xs,ys,g0,g1,g2,h⟩:=h
  exact TabSem.congr (valL_cons rfl (valL_cons rfl rfl)) (Ent.sem okK1 Tryz.func64 ⟨by kernel_rfl,by kernel_rfl⟩ rfl (j38 g0 g1 g2 h))
 ·exact h.elim
noncomputable def K6:Cx:={ P:=Tryz.prog,inl:=fun f=>List.contains [] f,tab:=tab30,isB:=fun _=>false,tabB:=fun _ _ _ _ _=>False,opt:={ unroll:=0,carry:=[8,9],cuts:=[15] },muts:=(fun o=>match o with | .call { callee:=.value (.func 65),.. }=>true|o=>mutsD o) }
theorem okK6:CxOK K6:=CxOK.four tab30_ok (by kernel_rfl) (okInl (by kernel_rfl)) (fun _ _ _ _ _ h=>h.elim)
def sh30 (s:Int) (b:Option Addr) (l c e k n cap tot:Nat) (vs:List Value) (E:Mem):St:=⟨[none,oc 0 0]++nn 5++[oI (e:Nat),os 1 0 n cap,oI (k:Nat)]++nn 84,[⟨24,.lst [I s,L b l c],2,true⟩,⟨22,.vals vs,tot,true⟩],E⟩
def sh30d (s:Int) (b:Option Addr) (l c e k n cap tot:Nat) (vs:List Value) (m:Nat) (bd:Option Addr) (ld cd:Nat) (E:Mem):St:=⟨[none,oc 0 0]++nn 5++[oI (e:Nat),os 1 0 n cap,oI (k:Nat),oI (m:Nat),oL bd ld cd]++nn 82,[⟨24,.lst [I s,L b l c],2,true⟩,⟨22,.vals vs,tot,true⟩],E⟩
theorem rnd30 {cap:Nat} {rs:List (List Value)} (hz:Bs E b l c zs) (hh:2*h=l/\16<=h/\l<=16384) (ha:a=0\/a=h) (hj:j<=h-5) (hinv:fromF yss j (recsB h a zs)=parseF (recsB h a zs)) (hE:Mem.le E0 E) (hr:SLr RB E rs yss) (hn:yss.length=n) (hc:n<=cap/\cap*1<=tot)
    (hK:∀ (b':Option Addr) (l' c':Nat) (yss:List (List Int)) (kk e:Int) (E':Mem),Mem.le E0 E'->recR h a zs=((yss,kk),e)->BL E' b' l' c' yss->K (.tup [L b' l' c',I kk,I e]) E')
    (hC:∀ (bd:Option Addr) (ld cd:Nat) (ds:List Int) (E':Mem),Mem.le E E'->Bs E' bd ld cd ds->lenF (recsB h a zs) j<65536->j+lenF (recsB h a zs) j+11<=h-5->fromF (yss++[ds]) (j+lenF (recsB h a zs) j+11) (recsB h a zs)=parseF (recsB h a zs)->Ct K6 8 Tryz.f43 [1,1,1,1,1,0,0,0,1,0,1,1,1,1,1,1] 0 (pubK E0 K) (sh30d s b l c (a+h) (a+5+j) n cap tot rs.flatten (lenF (recsB h a zs) j) bd ld cd E')):
    Rnd K6 8 Tryz.f43 [1,1,1,1,1,0,0] 0 (pubK E0 K) (sh30 s b l c (a+h) (a+5+j) n cap tot rs.flatten E):=by
  refine sm_ (?_:bif decide ((NI (a+5+j))<(NI (a+h))) then req (0<=(NI (a+5+j))/\(NI (a+5+j))<(NI l)) (nE E b l c/\∃ (n_1:Int),LoadE K6.P E 5 (VS b l c) (Int.toNat (NI (a+5+j))*1) (SV.raw (U8 n_1))/\bif bif true then n_1 !=(255:Int) else false then req (0<=(NI (a+5+j))/\(NI (a+5+j))<(NI l)) (nE E b l c/\∃ (n_2:Int),LoadE K6.P E 5 (VS b l c) (Int.toNat (NI (a+5+j))*1) (SV.raw (U8 n_2))/\bif n_2 !=(90:Int) then Mem.le E0 E/\K (SV.tup [L none 0 0,I 0,I 12]) E else bif bif false then true else decide (WI ((NI (a+5+j))+(3:Int))>(NI (a+h))) then Mem.le E0 E/\K (SV.tup [L none 0 0,I 0,I 12]) E else req (l<=c) (req ((0:Int)<=WI ((NI (a+5+j))+(3:Int))/\WI ((NI (a+5+j))+(3:Int))<=(NI (toN none c))) (req ((0:Int)<=WI ((NI (a+5+j))+(1:Int))/\WI ((NI (a+5+j))+(1:Int))<=(NI (toN (some (WI ((NI (a+5+j))+(3:Int)))) l))) (∀ (base':Option Addr) (E':Mem),Mem.le E E'->(∀ (cs:List Value),E (VS b l c) cs->E' (VS base' (toN (some (WI ((NI (a+5+j))+(3:Int)))) l-toN (some (WI ((NI (a+5+j))+(1:Int)))) 0) (toN none c-toN (some (WI ((NI (a+5+j))+(1:Int)))) 0)) (List.take ((toN (some (WI ((NI (a+5+j))+(3:Int)))) l-toN (some (WI ((NI (a+5+j))+(1:Int)))) 0)*1) (List.drop (toN (some (WI ((NI (a+5+j))+(1:Int)))) 0*1) cs)))->Option.isNone base'=Option.isNone b->∃ (zs:List Int),Bs E' base' (toN (some (WI ((NI (a+5+j))+(3:Int)))) l-toN (some (WI ((NI (a+5+j))+(1:Int)))) 0) (toN none c-toN (some (WI ((NI (a+5+j))+(1:Int)))) 0) zs/\toN (some (WI ((NI (a+5+j))+(3:Int)))) l-toN (some (WI ((NI (a+5+j))+(1:Int)))) 0<=4/\Mem.le E' E'/\bif decide (WI (WI ((NI (a+5+j))+numF zs)+(11:Int))>(NI (a+h))) then Mem.le E0 E'/\K (SV.tup [L none 0 0,I 0,I 12]) E' else req (l<=c) (req ((0:Int)<=WI (WI ((NI (a+5+j))+(3:Int))+numF zs)/\WI (WI ((NI (a+5+j))+(3:Int))+numF zs)<=(NI (toN none c))) (req ((0:Int)<=WI ((NI (a+5+j))+(3:Int))/\WI ((NI (a+5+j))+(3:Int))<=(NI (toN (some (WI (WI ((NI (a+5+j))+(3:Int))+numF zs))) l))) (∀ (base'_1:Option Addr) (E'_1:Mem),Mem.le E' E'_1->(∀ (cs:List Value),E' (VS b l c) cs->E'_1 (VS base'_1 (toN (some (WI (WI ((NI (a+5+j))+(3:Int))+numF zs))) l-toN (some (WI ((NI (a+5+j))+(3:Int)))) 0) (toN none c-toN (some (WI ((NI (a+5+j))+(3:Int)))) 0)) (List.take ((toN (some (WI (WI ((NI (a+5+j))+(3:Int))+numF zs))) l-toN (some (WI ((NI (a+5+j))+(3:Int)))) 0)*1) (List.drop (toN (some (WI ((NI (a+5+j))+(3:Int)))) 0*1) cs)))->Option.isNone base'_1=Option.isNone b->∃ (cs:List Value),(cs=[]\/E'_1 (VS base'_1 (toN (some (WI (WI ((NI (a+5+j))+(3:Int))+numF zs))) l-toN (some (WI ((NI (a+5+j))+(3:Int)))) 0) (toN none c-toN (some (WI ((NI (a+5+j))+(3:Int)))) 0)) cs)/\(toN (some (WI (WI ((NI (a+5+j))+(3:Int))+numF zs))) l-toN (some (WI ((NI (a+5+j))+(3:Int)))) 0)*1<=List.length cs/\(∀ (x:Value),List.Mem x cs->Value.oneCell' x=true)/\req ((toN (some (WI (WI ((NI (a+5+j))+(3:Int))+numF zs))) l-toN (some (WI ((NI (a+5+j))+(3:Int)))) 0)*1<=140737488355328) (∀ (cap' tot':Nat),toN (some (WI (WI ((NI (a+5+j))+(3:Int))+numF zs))) l-toN (some (WI ((NI (a+5+j))+(3:Int)))) 0<=cap'->cap'*1<=tot'->(∀ (base:Option Addr) (E':Mem),Mem.le E'_1 E'->WinE E' base (List.take ((toN (some (WI (WI ((NI (a+(5:Nat)+j))+(3:Int))+numF zs))) l-toN (some (WI ((NI (a+5+j))+(3:Int)))) 0)*1) cs)->∃ (zs_1:List Int),Bs E' (Option.map (fun (x:Addr)=>Addr.add x 0) base) (toN (some (WI (WI ((NI (a+(5:Nat)+j))+(3:Int))+numF zs))) l-toN (some (WI ((NI (a+5+j))+(3:Int)))) 0) cap' zs_1/\toN (some (WI (WI ((NI (a+(5:Nat)+j))+(3:Int))+numF zs))) l-toN (some (WI ((NI (a+(5:Nat)+j))+(3:Int)))) 0<=70000/\∀ (b':Option Addr) (l' c':Nat) (ys:List Int) (E'_2:Mem),Mem.le E' E'_2->Hyp (ys=hidB zs_1)->Bs E'_2 b' l' c' ys->req (l<=c) (req ((0:Int)<=WI (WI ((NI (a+(5:Nat)+j))+numF zs)+(11:Int))/\WI (WI ((NI (a+(5:Nat)+j))+numF zs)+(11:Int))<=(NI (toN none c))) (req ((0:Int)<=WI ((NI (a+(5:Nat)+j))+(1:Int))/\WI ((NI (a+(5:Nat)+j))+(1:Int))<=(NI (toN (some (WI (WI ((NI (a+(5:Nat)+j))+numF zs)+(11:Int)))) l))) (∀ (base'_2:Option Addr) (E':Mem),Mem.le E'_2 E'->(∀ (cs:List Value),E'_2 (VS b l c) cs->E' (VS base'_2 (toN (some (WI (WI ((NI (a+(5:Nat)+j))+numF zs)+(11:Int)))) l-toN (some (WI ((NI (a+(5:Nat)+j))+(1:Int)))) 0) (toN none c-toN (some (WI ((NI (a+(5:Nat)+j))+(1:Int)))) 0)) (List.take ((toN (some (WI (WI ((NI (a+(5:Nat)+j))+numF zs)+(11:Int)))) l-toN (some (WI ((NI (a+(5:Nat)+j))+(1:Int)))) 0)*(1:Nat)) (List.drop (toN (some (WI ((NI (a+(5:Nat)+j))+(1:Int)))) (0:Nat)*(1:Nat)) cs)))->Option.isNone base'_2=Option.isNone b->∃ (xs:List Int),∃ (ys:List Int),Bs E' b' l' c' xs/\Bs E' base'_2 (toN (some (WI (WI ((NI (a+(5:Nat)+j))+numF zs)+(11:Int)))) l-toN (some (WI ((NI (a+(5:Nat)+j))+(1:Int)))) 0) (toN none c-toN (some (WI ((NI (a+(5:Nat)+j))+(1:Int)))) 0) ys/\l'<=(200000:Nat)/\Mem.le E' E'/\bif !decide (xs=ys) then Mem.le E0 E'/\K (SV.tup [L none 0 0,I 0,I 12]) E' else Ct K6 8 Tryz.f43 [(1:Nat),(1:Nat),(1:Nat),(1:Nat),(1:Nat),(0:Nat),(0:Nat),(0:Nat),(1:Nat),(0:Nat),(1:Nat),(1:Nat),(1:Nat),(1:Nat),(1:Nat),(1:Nat)] (0:Nat) (pubK E0 K) { fr:=none::oc 0 0::none::none::none::none::none::oI (NI (a+h))::os 1 0 n cap::oI (NI (a+(5:Nat)+j))::oI (numF zs)::os 2 0 (toN (some (WI (WI ((NI (a+(5:Nat)+j))+(3:Int))+numF zs))) l-toN (some (WI ((NI (a+(5:Nat)+j))+(3:Int)))) 0) cap'::no8 (no2 (none::(oI (NI (a+(5:Nat)+j))::oI (NI (a+h))::oB (decide ((NI (a+(5:Nat)+j))<(NI (a+h))))::oB true::oc 0 1::oL b l c::oI (NI (a+(5:Nat)+j))::some (SV.rp (VS b l c) (Int.toNat (NI (a+(5:Nat)+j))*(1:Nat)))::some (SV.raw (U8 n_1))::oB (n_1 !=(255:Int))::oB (bif true then n_1 !=(255:Int) else false)::oc 0 1::oL b l c::oI (NI (a+(5:Nat)+j))::some (SV.rp (VS b l c) (Int.toNat (NI (a+(5:Nat)+j))*(1:Nat)))::some (SV.raw (U8 n_2))::oB (n_2 !=(90:Int))::oB false::oI (NI (a+(5:Nat)+j))::oI (WI ((NI (a+(5:Nat)+j))+(3:Int)))::oI (NI (a+h))::oB (decide (WI ((NI (a+(5:Nat)+j))+(3:Int))>(NI (a+h))))::oB (bif false then true else decide (WI ((NI (a+(5:Nat)+j))+(3:Int))>(NI (a+h))))::oc 0 1::oL b l c::oI (NI (a+(5:Nat)+j))::oI (WI ((NI (a+(5:Nat)+j))+(1:Int)))::oI (NI (a+(5:Nat)+j))::oI (WI ((NI (a+(5:Nat)+j))+(3:Int)))::oL base' (toN (some (WI ((NI (a+(5:Nat)+j))+(3:Int)))) l-toN (some (WI ((NI (a+(5:Nat)+j))+(1:Int)))) 0) (toN none c-toN (some (WI ((NI (a+(5:Nat)+j))+(1:Int)))) 0)::oI (numF zs)::oI (NI (a+(5:Nat)+j))::oI (numF zs)::oI (WI ((NI (a+(5:Nat)+j))+numF zs))::oI (WI (WI ((NI (a+(5:Nat)+j))+numF zs)+(11:Int)))::oI (NI (a+h))::oB (decide (WI (WI ((NI (a+(5:Nat)+j))+numF zs)+(11:Int))>(NI (a+h))))::oL none 0 0::oc 0 1::oL b l c::oI (NI (a+(5:Nat)+j))::oI (WI ((NI (a+(5:Nat)+j))+(3:Int)))::oI (NI (a+(5:Nat)+j))::oI (WI ((NI (a+(5:Nat)+j))+(3:Int)))::oI (numF zs)::oI (WI (WI ((NI (a+(5:Nat)+j))+(3:Int))+numF zs))::oL base'_1 (toN (some (WI (WI ((NI (a+(5:Nat)+j))+(3:Int))+numF zs))) l-toN (some (WI ((NI (a+(5:Nat)+j))+(3:Int)))) 0) (toN none c-toN (some (WI ((NI (a+(5:Nat)+j))+(3:Int)))) 0)::os 2 0 (toN (some (WI (WI ((NI (a+(5:Nat)+j))+(3:Int))+numF zs))) l-toN (some (WI ((NI (a+(5:Nat)+j))+(3:Int)))) 0) cap'::os 2 0 (toN (some (WI (WI ((NI (a+(5:Nat)+j))+(3:Int))+numF zs))) l-toN (some (WI ((NI (a+(5:Nat)+j))+(3:Int)))) 0) cap'::oL b' l' c'::oc 0 1::oL b l c::oI (NI (a+(5:Nat)+j))::oI (WI ((NI (a+(5:Nat)+j))+(1:Int)))::oI (NI (a+(5:Nat)+j))::oI (numF zs)::oI (WI ((NI (a+(5:Nat)+j))+numF zs))::oI (WI (WI ((NI (a+(5:Nat)+j))+numF zs)+(11:Int)))::oL base'_2 (toN (some (WI (WI ((NI (a+(5:Nat)+j))+numF zs)+(11:Int)))) l-toN (some (WI ((NI (a+(5:Nat)+j))+(1:Int)))) 0) (toN none c-toN (some (WI ((NI (a+(5:Nat)+j))+(1:Int)))) 0)::oB (decide (xs=ys))::oB (!decide (xs=ys))::no8 (no2 [])))),bx:=[(⟨(24:Nat),Row.lst [I s,L b l c],(2:Nat),true⟩:Box),⟨(22:Nat),Row.vals (List.flatten rs),tot,true⟩,⟨(5:Nat),Row.vals (List.take ((toN (some (WI (WI ((NI (a+(5:Nat)+j))+(3:Int))+numF zs))) l-toN (some (WI ((NI (a+(5:Nat)+j))+(3:Int)))) 0)*(1:Nat)) cs),tot',false⟩],E:=E':St }))))/\req (l<=c) (req ((0:Int)<=WI (WI ((NI (a+5+j))+numF zs)+(11:Int))/\WI (WI ((NI (a+5+j))+numF zs)+(11:Int))<=(NI (toN none c))) (req ((0:Int)<=WI ((NI (a+5+j))+(1:Int))/\WI ((NI (a+5+j))+(1:Int))<=(NI (toN (some (WI (WI ((NI (a+(5:Nat)+j))+numF zs)+(11:Int)))) l))) (∀ (base'_2:Option Addr) (E':Mem),Mem.le E'_1 E'->(∀ (cs:List Value),E'_1 (VS b l c) cs->E' (VS base'_2 (toN (some (WI (WI ((NI (a+(5:Nat)+j))+numF zs)+(11:Int)))) l-toN (some (WI ((NI (a+(5:Nat)+j))+(1:Int)))) 0) (toN none c-toN (some (WI ((NI (a+(5:Nat)+j))+(1:Int)))) 0)) (List.take ((toN (some (WI (WI ((NI (a+(5:Nat)+j))+numF zs)+(11:Int)))) l-toN (some (WI ((NI (a+(5:Nat)+j))+(1:Int)))) 0)*1) (List.drop (toN (some (WI ((NI (a+(5:Nat)+j))+(1:Int)))) 0*1) cs)))->Option.isNone base'_2=Option.isNone b->∀ (base:Option Addr) (E'_2:Mem),Mem.le E' E'_2->WinE E'_2 base (List.take ((toN (some (WI (WI ((NI (a+(5:Nat)+j))+(3:Int))+numF zs))) l-toN (some (WI ((NI (a+(5:Nat)+j))+(3:Int)))) 0)*1) cs)->∃ (zs_1:List Int),Bs E'_2 (Option.map (fun (x:Addr)=>Addr.add x 0) base) (toN (some (WI (WI ((NI (a+(5:Nat)+j))+(3:Int))+numF zs))) l-toN (some (WI ((NI (a+(5:Nat)+j))+(3:Int)))) 0) cap' zs_1/\toN (some (WI (WI ((NI (a+(5:Nat)+j))+(3:Int))+numF zs))) l-toN (some (WI ((NI (a+(5:Nat)+j))+(3:Int)))) (0:Nat)<=(70000:Nat)/\∀ (b':Option Addr) (l' c':Nat) (ys:List Int) (E':Mem),Mem.le E'_2 E'->Hyp (ys=hidB zs_1)->Bs E' b' l' c' ys->∃ (xs:List Int),∃ (ys:List Int),Bs E' b' l' c' xs/\Bs E' base'_2 (toN (some (WI (WI ((NI (a+(5:Nat)+j))+numF zs)+(11:Int)))) l-toN (some (WI ((NI (a+(5:Nat)+j))+(1:Int)))) 0) (toN none c-toN (some (WI ((NI (a+(5:Nat)+j))+(1:Int)))) 0) ys/\l'<=(200000:Nat)/\Mem.le E' E'/\bif !decide (xs=ys) then Mem.le E0 E'/\K (SV.tup [L none 0 0,I 0,I 12]) E' else Ct K6 8 Tryz.f43 [(1:Nat),(1:Nat),(1:Nat),(1:Nat),(1:Nat),(0:Nat),(0:Nat),(0:Nat),(1:Nat),(0:Nat),(1:Nat),(1:Nat),(1:Nat),(1:Nat),(1:Nat),(1:Nat)] (0:Nat) (pubK E0 K) { fr:=none::oc 0 0::none::none::none::none::none::oI (NI (a+h))::os 1 0 n cap::oI (NI (a+(5:Nat)+j))::oI (numF zs)::os 2 0 (toN (some (WI (WI ((NI (a+(5:Nat)+j))+(3:Int))+numF zs))) l-toN (some (WI ((NI (a+(5:Nat)+j))+(3:Int)))) 0) cap'::no8 (no2 (none::(oI (NI (a+(5:Nat)+j))::oI (NI (a+h))::oB (decide ((NI (a+(5:Nat)+j))<(NI (a+h))))::oB true::oc 0 1::oL b l c::oI (NI (a+(5:Nat)+j))::some (SV.rp (VS b l c) (Int.toNat (NI (a+(5:Nat)+j))*(1:Nat)))::some (SV.raw (U8 n_1))::oB (n_1 !=(255:Int))::oB (bif true then n_1 !=(255:Int) else false)::oc 0 1::oL b l c::oI (NI (a+(5:Nat)+j))::some (SV.rp (VS b l c) (Int.toNat (NI (a+(5:Nat)+j))*(1:Nat)))::some (SV.raw (U8 n_2))::oB (n_2 !=(90:Int))::oB false::oI (NI (a+(5:Nat)+j))::oI (WI ((NI (a+(5:Nat)+j))+(3:Int)))::oI (NI (a+h))::oB (decide (WI ((NI (a+(5:Nat)+j))+(3:Int))>(NI (a+h))))::oB (bif false then true else decide (WI ((NI (a+(5:Nat)+j))+(3:Int))>(NI (a+h))))::oc 0 1::oL b l c::oI (NI (a+(5:Nat)+j))::oI (WI ((NI (a+(5:Nat)+j))+(1:Int)))::oI (NI (a+(5:Nat)+j))::oI (WI ((NI (a+(5:Nat)+j))+(3:Int)))::oL base' (toN (some (WI ((NI (a+(5:Nat)+j))+(3:Int)))) l-toN (some (WI ((NI (a+(5:Nat)+j))+(1:Int)))) 0) (toN none c-toN (some (WI ((NI (a+(5:Nat)+j))+(1:Int)))) 0)::oI (numF zs)::oI (NI (a+(5:Nat)+j))::oI (numF zs)::oI (WI ((NI (a+(5:Nat)+j))+numF zs))::oI (WI (WI ((NI (a+(5:Nat)+j))+numF zs)+(11:Int)))::oI (NI (a+h))::oB (decide (WI (WI ((NI (a+(5:Nat)+j))+numF zs)+(11:Int))>(NI (a+h))))::oL none 0 0::oc 0 1::oL b l c::oI (NI (a+(5:Nat)+j))::oI (WI ((NI (a+(5:Nat)+j))+(3:Int)))::oI (NI (a+(5:Nat)+j))::oI (WI ((NI (a+(5:Nat)+j))+(3:Int)))::oI (numF zs)::oI (WI (WI ((NI (a+(5:Nat)+j))+(3:Int))+numF zs))::oL base'_1 (toN (some (WI (WI ((NI (a+(5:Nat)+j))+(3:Int))+numF zs))) l-toN (some (WI ((NI (a+(5:Nat)+j))+(3:Int)))) 0) (toN none c-toN (some (WI ((NI (a+(5:Nat)+j))+(3:Int)))) 0)::os 2 0 (toN (some (WI (WI ((NI (a+(5:Nat)+j))+(3:Int))+numF zs))) l-toN (some (WI ((NI (a+(5:Nat)+j))+(3:Int)))) 0) cap'::os 2 0 (toN (some (WI (WI ((NI (a+(5:Nat)+j))+(3:Int))+numF zs))) l-toN (some (WI ((NI (a+(5:Nat)+j))+(3:Int)))) 0) cap'::oL b' l' c'::oc 0 1::oL b l c::oI (NI (a+(5:Nat)+j))::oI (WI ((NI (a+(5:Nat)+j))+(1:Int)))::oI (NI (a+(5:Nat)+j))::oI (numF zs)::oI (WI ((NI (a+(5:Nat)+j))+numF zs))::oI (WI (WI ((NI (a+(5:Nat)+j))+numF zs)+(11:Int)))::oL base'_2 (toN (some (WI (WI ((NI (a+(5:Nat)+j))+numF zs)+(11:Int)))) l-toN (some (WI ((NI (a+(5:Nat)+j))+(1:Int)))) 0) (toN none c-toN (some (WI ((NI (a+(5:Nat)+j))+(1:Int)))) 0)::oB (decide (xs=ys))::oB (!decide (xs=ys))::no8 (no2 [])))),bx:=[(⟨(24:Nat),Row.lst [I s,L b l c],(2:Nat),true⟩:Box),⟨(22:Nat),Row.vals (List.flatten rs),tot,true⟩,⟨(5:Nat),Row.vals (List.take ((toN (some (WI (WI ((NI (a+(5:Nat)+j))+(3:Int))+numF zs))) l-toN (some (WI ((NI (a+(5:Nat)+j))+(3:Int)))) 0)*(1:Nat)) cs),tot',false⟩],E:=E':St }))))))))))) else ∀ (base:Option Addr) (E':Mem),Mem.le E E'->WinE E' base (List.flatten rs)->Mem.le E0 E'/\K (SV.tup [L (Option.map (fun (x:Addr)=>Addr.add x 0) base) n cap,I (NI (a+5+j)),I 0]) E') else ∀ (base:Option Addr) (E':Mem),Mem.le E E'->WinE E' base (List.flatten rs)->Mem.le E0 E'/\K (SV.tup [L (Option.map (fun (x:Addr)=>Addr.add x 0) base) n cap,I (NI (a+5+j)),I 0]) E')
  delta WI NI U8 VS no2 no8
  obtain ⟨q1,q2,q3⟩:=hh
  have hzl:=hz.2.1
  have hal:a+h<=l:=by omega
  have hzb:=hz.2.2.2.1
  have hrl:(recsB h a zs).length=h-5:=recs_len (by omega)
  have hrb:∀ z∈recsB h a zs,0<=z/\z<=255:=fun z hz'=>hzb z (List.drop_subset _ _ (List.take_subset _ _ hz'))
  obtain ⟨hm1,hm2⟩:=lenF_bd hrb j
  have hget:∀ i,i<h-5->(recsB h a zs).getD i 0=zs.getD (a+5+i) 0:=fun i hi=>recs_get hi
  have hpart:∀ i n,i+n<=h-5->((recsB h a zs).drop i).take n=(zs.drop (a+5+i)).take n:=fun i n hi=>recs_part hi
  generalize er:recsB h a zs=r at *
  generalize em:lenF r j=m at *
  have bad:fromF yss j r=none->∀ E',Mem.le E0 E'->Mem.le E0 E'/\K (.tup [L none 0 0,I 0,I 12]) E':=fun q E' hE'=>⟨hE',hK none 0 0 [] 0 12 E' hE' (by unfold recR;rw [er,← hinv,q]) SL.nil⟩
  have e1:IntKind.wrap .i64 (((a+5+j:Nat):Int)+1)=((a+5+j+1:Nat):Int):=by rw [wrap_i64 (by omega)];omega
  have e3:IntKind.wrap .i64 (((a+5+j:Nat):Int)+3)=((a+5+j+3:Nat):Int):=by rw [wrap_i64 (by omega)];omega
  have e4:IntKind.wrap .i64 (IntKind.wrap .i64 (((a+5+j:Nat):Int)+((m:Nat):Int))+11)=((a+5+j+m+11:Nat):Int):=by rw [wrap_i64 (x:=((a+5+j:Nat):Int)+((m:Nat):Int)) (by omega),wrap_i64 (by omega)];omega
  have e5:IntKind.wrap .i64 (((a+5+j+3:Nat):Int)+((m:Nat):Int))=((a+5+j+3+m:Nat):Int):=by rw [wrap_i64 (by omega)];omega
  have done:(h-5<=j\/r.getD j 0=255)->recR h a zs=((yss,((a+5+j:Nat):Int)),0):=fun q=>by
    unfold recR
    rw [er,← hinv,fromF_end (by rw [hrl];exact q)]
  rw [e1,e3]
  refine condC (fun g=>?_) (fun g=>?_)
  case refine_2=>
    have g:¬ a+5+j<a+h:=by have:=g;simp at this;omega
    have fin:=done (.inl (by omega))
    intro base E' q w
    exact ⟨mt_ hE q,hK _ n cap yss _ 0 E' (mt_ hE q) fin (SL.win RB_ok w rfl (hr.mono RB_ok q) hn hc.1)⟩
  have g : j < h - 5 := by have :a+5+j<a+h:=by have:=g;simp at this;omega
                           omega
  refine req_intro (by omega) ⟨hz.ne (i:=a+5+j) (by omega),zs.getD (a+5+j) 0,hz.load rfl (i:=a+5+j) (by omega),condC (fun g2=>?_) (fun g2=>?_)⟩
  case refine_2=>
    have g2 : zs.getD (a + 5 + j) 0 = 255 := by have g2:(zs.getD (a+5+j) 0 !=255)=false:=g2
                                                simpa only [bne_eq_false_iff_eq] using g2
    have fin:=done (.inr (by rw [hget j g];exact g2))
    intro base E' q w
    exact ⟨mt_ hE q,hK _ n cap yss _ 0 E' (mt_ hE q) fin (SL.win RB_ok w rfl (hr.mono RB_ok q) hn hc.1)⟩
  have g2 : r.getD j 0 ≠ 255 := by have g2:(zs.getD (a+5+j) 0 !=255)=true:=g2
                                   rw [hget j g];simpa only [bne_iff_ne] using g2
  refine req_intro (by omega) ⟨hz.ne (i:=a+5+j) (by omega),zs.getD (a+5+j) 0,hz.load rfl (i:=a+5+j) (by omega),condC (fun g3=>?_) (fun g3=>condC (fun g4=>?_) (fun g4=>?_))⟩
  · exact bad (fromF_bad1 (by omega) g2 (.inl (by rw [hget j g];simpa only [bne_iff_ne] using g3))) E hE
  · have g4:a+5+j+3>a+h:=by have:=g4;simp at this;omega
    exact bad (fromF_bad1 (by omega) g2 (.inr (by omega))) E hE
  have g3:r.getD j 0=90:=by rw [hget j g];simpa only [bne_eq_false_iff_eq] using g3
  have g4:¬ a+5+j+3>a+h:=by have:=g4;simp at this;omega
  refine slice_intro hz (lo:=a+5+j+1) (hi:=a+5+j+3) rfl rfl (by omega) (by omega) fun b1 E1 k1 hB1 hl1=>?_
  rw [show a+5+j+3-(a+5+j+1)=2 by omega] at hB1 hl1
  refine ⟨_,hB1,by omega,mr_,?_⟩
  rw [show (zs.drop (a+5+j+1)).take 2=(r.drop (j+1)).take 2 from (hpart (j+1) 2 (by omega)).symm,hm2,e4,e5]
  refine condC (fun g5=>?_) (fun g5=>?_)
  · have g5:a+5+j+m+11>a+h:=by have:=g5;simp at this;omega
    exact bad (fromF_bad2 (by omega) g2 g3 (by omega) (by omega)) E1 (mt_ hE k1)
  have g5:¬ a+5+j+m+11>a+h:=by have:=g5;simp at this;omega
  refine slice_intro (hz.mono k1) (lo:=a+5+j+3) (hi:=a+5+j+3+m) rfl rfl (by omega) (by omega) fun b2 E2 k2 hB2 hl2=>?_
  rw [show a+5+j+3+m-(a+5+j+3)=m by omega] at hB2 hl2
  have ed:(zs.drop (a+5+j+3)).take m=(r.drop (j+3)).take m:=(hpart (j+3) m (by omega)).symm
  rw [ed] at hB2
  rw [hl2] at hB2 ⊢
  obtain ⟨t1,t2,t3⟩:=hB2.src
  have hB2l:=hB2.2.1
  have k02:Mem.le E E2:=mt_ k1 k2
  have last:∀ (bd:Option Addr) (cd:Nat) (E':Mem),Mem.le E E'->bodyF ((r.drop (j+3)).take m)=(r.drop (j+1)).take (m+10)->Bs E' bd m cd ((r.drop (j+3)).take m)->Ct K6 8 Tryz.f43 [1,1,1,1,1,0,0,0,1,0,1,1,1,1,1,1] 0 (pubK E0 K) (sh30d s b l c (a+h) (a+5+j) n cap tot rs.flatten m bd m cd E'):=fun bd cd E' k w hd=>hC bd m cd _ E' k hd hm1 (by omega) (by rw [← hinv];exact (by have:=fromF_next (ys:=yss) (k:=j) (r:=r) (by omega) g2 g3 (by rw [em];omega) (by rw [em];exact w);rw [em] at this;exact this.symm))
  have ld0:List.take (m*1) (vB ((r.drop (j+3)).take m))=vB ((r.drop (j+3)).take m):=List.take_of_length_le (by simp;omega)
  refine ⟨_,t1,t2,t3,req_intro (by omega) (fun cap1 tot1 c1 c2=>?_)⟩
  rw [ld0]
  have hby:∀ z∈(r.drop (j+3)).take m,0<=z/\z<=255:=hB2.2.2.2.1
  refine ⟨fun base E3 k3 w3=>⟨_,Bs.win w3 rfl hB2l c1 hby,by omega,fun b4 l4 c4 ys E4 k4 r4 hB4=>?_⟩,slice_intro (hz.mono k02) (lo:=a+5+j+1) (hi:=a+5+j+m+11) rfl rfl (by omega) (by omega) fun b5 E5 k5 hB5 hl5 base E3 k3 w3=>⟨_,Bs.win w3 rfl hB2l c1 hby,by omega,fun b4 l4 c4 ys E4 k4 r4 hB4=>?_⟩⟩
  · have r4:ys=hidB _:=r4
    rw [hidB_eq] at r4
    subst r4
    refine slice_intro (hz.mono (mt_ k02 (mt_ k3 k4))) (lo:=a+5+j+1) (hi:=a+5+j+m+11) rfl rfl (by omega) (by omega) fun b5 E5 k5 hB5 hl5=>?_
    have k05:Mem.le E E5:=mt_ k02 (mt_ k3 (mt_ k4 k5))
    rw [show a+5+j+m+11-(a+5+j+1)=m+10 by omega,show (zs.drop (a+5+j+1)).take (m+10)=(r.drop (j+1)).take (m+10) from (hpart (j+1) (m+10) (by omega)).symm] at hB5
    refine ⟨_,_,hB4.mono k5,hB5,by rw [← hB4.2.1,bodyF_len];omega,mr_,condC (fun g6=>?_) (fun g6=>?_)⟩
    · exact bad (fromF_bad3 (by omega) g2 g3 (by rw [em];omega) (by rw [em];simpa using g6)) E5 (mt_ hE k05)
    · have g6:bodyF ((r.drop (j+3)).take m)=(r.drop (j+1)).take (m+10):=by simpa using g6
      refine Ct_pub 2 _ _ rfl rfl fun base2 E6 k6 w6=>?_
      exact Ct_re [some 0,some 1] (last _ cap1 E6 (mt_ k05 k6) g6 (Bs.win w6 rfl hB2l c1 hby)) (wkG mr_)
  · have r4:ys=hidB _:=r4
    rw [hidB_eq] at r4
    subst r4
    have k04:Mem.le E E4:=mt_ k02 (mt_ k5 (mt_ k3 k4))
    rw [show a+5+j+m+11-(a+5+j+1)=m+10 by omega,show (zs.drop (a+5+j+1)).take (m+10)=(r.drop (j+1)).take (m+10) from (hpart (j+1) (m+10) (by omega)).symm] at hB5
    refine ⟨_,_,hB4,hB5.mono (mt_ k3 k4),by rw [← hB4.2.1,bodyF_len];omega,mr_,condC (fun g6=>?_) (fun g6=>?_)⟩
    · exact bad (fromF_bad3 (by omega) g2 g3 (by rw [em];omega) (by rw [em];simpa using g6)) E4 (mt_ hE k04)
    · have g6:bodyF ((r.drop (j+3)).take m)=(r.drop (j+1)).take (m+10):=by simpa using g6
      refine Ct_pub 2 _ _ rfl rfl fun base2 E6 k6 w6=>?_
      exact Ct_re [some 0,some 1] (last _ cap1 E6 (mt_ k04 k6) g6 (Bs.win w6 rfl hB2l c1 hby)) (wkG mr_)
theorem pc30 {cap:Nat} {rs:List (List Value)} {bd:Option Addr} {ld cd:Nat} (hb:a<=100000/\j<=100000/\m<65536/\n<=100000) (hr:rs.flatten.length=n) (hc:n<=cap/\cap*1<=tot)
  (ih:∀ cap tot:Nat,n+1<=cap->cap*1<=tot->Lp K6 8 Tryz.f43 [1,1,1,1,1,0,0] 0 (pubK E0 K) (sh30 s b l c (a+h) (a+5+(j+m+11)) (n+1) cap tot (rs++[[Value.slice bd ld cd]]).flatten E)):Pc K6 8 Tryz.f43 [1,1,1,1,1,0,0,0,1,0,1,1,1,1,1,1] 0 (pubK E0 K) (sh30d s b l c (a+h) (a+5+j) n cap tot rs.flatten m bd ld cd E):=by
 refine sm_ (?_:n*1<=List.length (Row.cells (Row.vals (List.flatten rs)))/\cap*1<=tot/\n<=cap/\req ((n+1)*24<=140737488355328) (∀ (cap' tot':Nat),n+1<=cap'->cap'*1<=tot'->Lp K6 8 Tryz.f43 [1,1,1,1,1,0,0] 0 (pubK E0 K) { fr:=none::oc 0 0::none::none::none::none::none::oI (NI (a+h))::os 3 0 (n+1) cap'::oI (WI (WI ((NI (a+5+j))+(NI m))+(11:Int)))::no32 (no32 (no16 (no4 []))),bx:=[(⟨24,.lst [I s,L b l c],2,true⟩:Box),⟨22,.lst [],0,false⟩,⟨22,.lst [L bd ld cd],1,true⟩,⟨22,.vals (List.take (n*1) (List.flatten rs)++[VS bd ld cd]),tot',true⟩],E:=E:St }))
 delta WI NI VS no4 no16 no32
 have hk:IntKind.wrap .i64 (IntKind.wrap .i64 (((a+5+j:Nat):Int)+((m:Nat):Int))+11)=((a+5+(j+m+11):Nat):Int):=by rw [wrap_i64 (x:=((a+5+j:Nat):Int)+((m:Nat):Int)) (by omega),wrap_i64 (by omega)];omega
 rw [hk]
 refine ⟨by show _<=(List.map SV.raw _).length;rw [List.length_map,hr];omega,hc.2,hc.1,req_intro (by omega) fun cap' tot' h1 h2=>?_⟩
 have e:List.take (n*1) rs.flatten++[Value.slice bd ld cd]=(rs++[[Value.slice bd ld cd]]).flatten:=by rw [List.take_of_length_le (by omega),List.flatten_append];rfl
 rw [e]
 exact Lp_re [some 0,some 3] (ih cap' tot' h1 h2) (wkG mr_)
structure I30 (E0 E:Mem) (h a:Nat) (zs:List Int) (j n cap tot:Nat) (rs:List (List Value)) (yss:List (List Int)):Prop where
 le:Mem.le E0 E
 hj:j<=h-5
 inv:fromF yss j (recsB h a zs)=parseF (recsB h a zs)
 rws:SLr RB E rs yss
 num:yss.length=n
 nj:n<=j
 room:n<=cap/\cap*1<=tot
theorem step30 (hz:Bs E0 b l c zs) (hh:2*h=l/\16<=h/\l<=16384) (ha:a=0\/a=h)
  (hK:∀ (b':Option Addr) (l' c':Nat) (yss:List (List Int)) (kk e:Int) (E':Mem),Mem.le E0 E'->recR h a zs=((yss,kk),e)->BL E' b' l' c' yss->K (.tup [L b' l' c',I kk,I e]) E') {cap:Nat} {rs:List (List Value)} (hI:I30 E0 E h a zs j n cap tot rs yss)
  (ih:∀ (E':Mem) (j' cap' tot':Nat) (rs':List (List Value)) (yss':List (List Int)),j<j'->I30 E0 E' h a zs j' (n+1) cap' tot' rs' yss'->Lp K6 8 Tryz.f43 [1,1,1,1,1,0,0] 0 (pubK E0 K) (sh30 s b l c (a+h) (a+5+j') (n+1) cap' tot' rs'.flatten E')):
  Rnd K6 8 Tryz.f43 [1,1,1,1,1,0,0] 0 (pubK E0 K) (sh30 s b l c (a+h) (a+5+j) n cap tot rs.flatten E):=by
 obtain ⟨h1,h2,h3,h4,h5,h6,h7⟩:=hI
 refine rnd30 (hz.mono h1) hh ha h2 h3 h1 h4 h5 h7 hK fun bd ld cd ds E' k1 hB hm hle hf=>Ct_intro okK6 (pc30 ⟨by omega,by omega,hm,by omega⟩ (by rw [h4.flat RB_ok,h5];omega) h7 fun cap' tot' g1 g2=>?_)
 exact ih _ _ _ _ _ _ (by omega) ⟨mt_ h1 k1,hle,hf,(h4.mono RB_ok k1).snoc ⟨bd,ld,cd,rfl,hB⟩,by simp [h5],by omega,g1,g2⟩
theorem lp30 (hz:Bs E0 b l c zs) (hh:2*h=l/\16<=h/\l<=16384) (ha:a=0\/a=h)
  (hK:∀ (b':Option Addr) (l' c':Nat) (yss:List (List Int)) (kk e:Int) (E':Mem),Mem.le E0 E'->recR h a zs=((yss,kk),e)->BL E' b' l' c' yss->K (.tup [L b' l' c',I kk,I e]) E') {cap:Nat} {rs:List (List Value)} (hI:I30 E0 E h a zs j n cap tot rs yss):
  Lp K6 8 Tryz.f43 [1,1,1,1,1,0,0] 0 (pubK E0 K) (sh30 s b l c (a+h) (a+5+j) n cap tot rs.flatten E):=
 Lp_ind okK6 (fun x:{x:Mem×Nat×Nat×Nat×Nat×List (List Value)×List (List Int)//I30 E0 x.1 h a zs x.2.1 x.2.2.1 x.2.2.2.1 x.2.2.2.2.1 x.2.2.2.2.2.1 x.2.2.2.2.2.2}=>sh30 s b l c (a+h) (a+5+x.1.2.1) x.1.2.2.1 x.1.2.2.2.1 x.1.2.2.2.2.1 x.1.2.2.2.2.2.1.flatten x.1.1) (fun x=>h-5-x.1.2.1)
  (fun x ih=>step30 hz hh ha hK x.2 fun E' j' cap' tot' rs' yss' g hI'=>ih ⟨(E',j',_,cap',tot',rs',yss'),hI'⟩ (by show h-5-j'<h-5-x.1.2.1;have:=hI'.hj;omega)) ⟨(E,j,n,cap,tot,rs,yss),hI⟩
theorem j30 (h0:Bs E b2 l3 c4 zs) (h1:areaF a1 l3≠0) (h2:0<=(usedF (areaF a1 l3) zs).1) (h:∀ (b':Option Addr) (l' c':Nat) (yss:List (List Int)) (kk e:Int) (E':Mem),Mem.le E E'->Hyp (recR (areaF a1 l3) (usedF (areaF a1 l3) zs).1.toNat zs=((yss,kk),e))->BL E' b' l' c' yss->K (.tup [L b' l' c',I kk,I e]) E'):
  Ent K6 8 Tryz.f43 [.agg [I a1,L b2 l3 c4]] E K:=by
 refine sm_ (?_:∃ (zs:List Int),Bs E b2 l3 c4 zs/\(areaF a1 l3=0->False)/\∀ (u g:Int) (E':Mem),Mem.le E E'->Hyp (usedF (areaF a1 l3) zs=(u,g))->Mem.le E E'/\Mem.le E' E'/\Lp K6 8 Tryz.f43 [1,1,1,1,1,0,0] 0 (pubK E K) { fr:=some (SV.agg [I a1,L b2 l3 c4])::oc 0 0::none::none::none::oI u::oI g::oI (WI (u+(NI (areaF a1 l3))))::oL none 0 0::oI (WI (u+(5:Int)))::none::none::some (SV.tup [I u,I g])::some (SV.agg [I a1,L b2 l3 c4])::some (SV.tup [I u,I g])::oI u::oI g::oI u::some (SV.agg [I a1,L b2 l3 c4])::oI (NI (areaF a1 l3))::oI (WI (u+(NI (areaF a1 l3))))::oI u::oI (WI (u+(5:Int)))::no32 (no32 (no4 (no2 (none::[])))),bx:=[(⟨24,.lst [I a1,L b2 l3 c4],2,true⟩:Box)],E:=E':St })
 delta WI NI no2 no4 no32
 obtain ⟨a1',a2,a3,a4,a5,a6⟩:=areaF_ok h1
 refine ⟨zs,h0,h1,fun u g E1 k1 r1=>⟨k1,mr_,?_⟩⟩
 have r1:usedF (areaF a1 l3) zs=(u,g):=r1
 rw [r1] at h h2
 have hh:2*areaF a1 l3=l3/\16<=areaF a1 l3/\l3<=16384:=⟨a5,by omega,a6⟩
 obtain ⟨a,rfl⟩:∃ a:Nat,u=a:=⟨u.toNat,by have :0<=u:=h2;omega⟩
 have ha:a=0\/a=areaF a1 l3:=by
  have:=usedF_at (zs:=zs) (h:=areaF a1 l3)
  rw [r1] at this
  have :(a:Int)= -1\/(a:Int)=0\/(a:Int)=(areaF a1 l3:Nat):=this
  omega
 have e1:IntKind.wrap .i64 ((a:Int)+((areaF a1 l3:Nat):Int))=((a+areaF a1 l3:Nat):Int):=by rw [wrap_i64 (by omega)];omega
 have e2:IntKind.wrap .i64 ((a:Int)+5)=((a+5+0:Nat):Int):=by rw [wrap_i64 (by omega)];omega
 rw [e1,e2]
 have hK:∀ (b':Option Addr) (l' c':Nat) (yss:List (List Int)) (kk e:Int) (E':Mem),Mem.le E E'->recR (areaF a1 l3) a zs=((yss,kk),e)->BL E' b' l' c' yss->K (.tup [L b' l' c',I kk,I e]) E':=fun b' l' c' yss kk e E' q r w=>h b' l' c' yss kk e E' q (by show recR _ (Int.toNat (a:Int)) _=_;rw [Int.toNat_natCast];exact r) w
 exact Lp_re [some 0,none] (lp30 h0 hh ha hK (yss:=[]) (rs:=[]) (n:=0) (cap:=0) (tot:=0) (j:=0) ⟨k1,Nat.zero_le _,by rw [fromF_0],SLr.nil,rfl,by omega,Nat.le_refl _,Nat.le_refl _⟩) (wkG mr_)
theorem openF_arg (h:areaF s zs.length=0):openF s zs=(([],0,0,0),1):=by unfold openF;rw [if_pos h]
theorem openF_none (h:areaF s zs.length≠0) (hu:usedF (areaF s zs.length) zs=(u,g)) (h2:u<0):openF s zs=(([],0,0,0),4):=by
 unfold openF;rw [if_neg h,hu,if_pos h2]
theorem openF_sum (h:areaF s zs.length≠0) (hu:usedF (areaF s zs.length) zs=((a:Int),g)) (h2:parseF (recsB (areaF s zs.length) a zs)=none):openF s zs=(([],0,0,0),12):=by
 unfold openF;rw [if_neg h,hu,if_neg (by simp)];simp only [Int.toNat_natCast];rw [h2]
theorem openF_ok {l:List (List Int)} (h:areaF s zs.length≠0) (hu:usedF (areaF s zs.length) zs=((a:Int),g)) (h2:parseF (recsB (areaF s zs.length) a zs)=some (l,n)):openF s zs=((l,a,g,5+n),0):=by
 unfold openF;rw [if_neg h,hu,if_neg (by simp)];simp only [Int.toNat_natCast];rw [h2]
theorem openF_inv (h:(openF s zs).2=0):∃ (l:List (List Int)) (a n:Nat) (g:Int),areaF s zs.length≠0/\usedF (areaF s zs.length) zs=((a:Int),g)/\parseF (recsB (areaF s zs.length) a zs)=some (l,n)/\openF s zs=((l,a,g,5+n),0):=by
 by_cases h1:areaF s zs.length=0
 ·rw [openF_arg h1] at h;cases h
 obtain ⟨u,g,hu⟩:∃ u g,usedF (areaF s zs.length) zs=(u,g):=⟨_,_,rfl⟩
 by_cases h2:u<0
 ·rw [openF_none h1 hu h2] at h;cases h
 obtain ⟨a,rfl⟩:∃ a:Nat,u=a:=⟨u.toNat,by omega⟩
 cases h3:parseF (recsB (areaF s zs.length) a zs) with
 | none=>rw [openF_sum h1 hu h3] at h;cases h
 | some q=>exact ⟨q.1,a,q.2,g,h1,hu,h3,openF_ok h1 hu h3⟩
theorem parseN_len:∀ (f:Nat) (r:List Int) (l:List (List Int)) (n:Nat),parseN f r=some (l,n)->n<=r.length
 | 0,r,l,n,h=>by simp [parseN] at h;omega
 | f+1,r,l,n,h=>by
  unfold parseN at h
  split at h
  ·simp at h;omega
  split at h
  ·cases h
  split at h
  ·cases h
  split at h
  ·cases h
  cases hp:parseN f (r.drop ((numF ((r.drop 1).take 2)).toNat+11)) with
  | none=>rw [hp] at h;cases h
  | some q=>
   rw [hp] at h
   simp only [Option.map_some,Option.some.injEq,Prod.mk.injEq] at h
   have:=parseN_len f _ q.1 q.2 hp
   rw [List.length_drop] at this
   omega
theorem parseF_len {l:List (List Int)} (h:parseF r=some (l,n)):n<=r.length:=parseN_len _ _ _ _ h
theorem used_ok (r:usedF h zs=((a:Int),g)):a=0\/a=h:=by
 have:=usedF_at (zs:=zs) (h:=h)
 rw [r] at this
 have :(a:Int)= -1\/(a:Int)=0\/(a:Int)=(h:Nat):=this
 omega
theorem cleanF_true (hl:a+h<=zs.length) (q:∀ j,a+e<=j->j<a+h->zs.getD j 0=255):cleanF h a e zs=true:=by
 unfold cleanF
 rw [List.all_eq_true]
 intro x hx
 obtain ⟨i,hi,rfl⟩:=List.mem_iff_getElem.1 hx
 rw [List.length_take,List.length_drop] at hi
 have:=q (a+e+i) (by omega) (by omega)
 rw [List.getD_eq_getElem?_getD,List.getElem?_eq_getElem (by omega)] at this
 simpa using this
theorem cleanF_false (hl:a+h<=zs.length) (h1:a+e<=j) (h2:j<a+h) (q:zs.getD j 0≠255):cleanF h a e zs=false:=by
 unfold cleanF
 rw [← Bool.not_eq_true,List.all_eq_true]
 intro hx
 have hi:j-(a+e)<((zs.drop (a+e)).take (h-e)).length:=by rw [List.length_take,List.length_drop];omega
 have:=hx _ (List.getElem_mem hi)
 rw [List.getElem_take,List.getElem_drop] at this
 have e2:a+e+(j-(a+e))=j:=by omega
 simp only [e2,decide_eq_true_eq] at this
 exact q (by rw [List.getD_eq_getElem?_getD,List.getElem?_eq_getElem (by omega)];exact this)
noncomputable def tab16:FuncId->List SV->Mem->(SV->Mem->Prop)->Prop:=fun f args E K=>match f with
 | 42=>d1 args fun x0=>dC x0 fun l1=>d2 l1 fun x0_0 x0_1=>dI x0_0 fun a1=>dS x0_1 fun b2 l3 c4=>∃ (zs:List Int),Bs E b2 l3 c4 zs/\areaF a1 l3≠0/\(∀ (u g:Int) (E':Mem),Mem.le E E'->Hyp (usedF (areaF a1 l3) zs=(u,g))->K (.tup [I u,I g]) E')
 | 41=>d1 args fun x0=>dC x0 fun l1=>d2 l1 fun x0_0 x0_1=>dI x0_0 fun a1=>dS x0_1 fun b2 l3 c4=>(K (I (areaF a1 l3:Nat)) E)
 | 43=>d1 args fun x0=>dC x0 fun l1=>d2 l1 fun x0_0 x0_1=>dI x0_0 fun a1=>dS x0_1 fun b2 l3 c4=>∃ (zs:List Int),Bs E b2 l3 c4 zs/\areaF a1 l3≠0/\0<=(usedF (areaF a1 l3) zs).1/\(∀ (b':Option Addr) (l' c':Nat) (yss:List (List Int)) (kk e:Int) (E':Mem),Mem.le E E'->Hyp (recR (areaF a1 l3) (usedF (areaF a1 l3) zs).1.toNat zs=((yss,kk),e))->BL E' b' l' c' yss->K (.tup [L b' l' c',I kk,I e]) E')
 | _=>False
theorem tab16_ok:TabOK Tryz.prog tab16:=by
 intro f args E K h
 unfold tab16 at h
 split at h
 ·replace h:=d1_elim h
  obtain ⟨x0,rfl,h⟩:=h
  replace h:=dC_elim h
  obtain ⟨l1,hl1,h⟩:=h
  replace h:=d2_elim h
  obtain ⟨x0_0,x0_1,rfl,h⟩:=h
  replace h:=dI_elim h
  obtain ⟨a1,rfl,h⟩:=h
  replace h:=dS_elim h
  obtain ⟨b2,l3,c4,rfl,h⟩:=h
  obtain ⟨zs,g0,g1,h⟩:=h
  exact TabSem.congr (valL_cons (asCells_val hl1) rfl) (Ent.sem okK5 Tryz.func42 ⟨by kernel_rfl,by kernel_rfl⟩ rfl (j24 g0 g1 h))
 ·replace h:=d1_elim h
  obtain ⟨x0,rfl,h⟩:=h
  replace h:=dC_elim h
  obtain ⟨l1,hl1,h⟩:=h
  replace h:=d2_elim h
  obtain ⟨x0_0,x0_1,rfl,h⟩:=h
  replace h:=dI_elim h
  obtain ⟨a1,rfl,h⟩:=h
  replace h:=dS_elim h
  obtain ⟨b2,l3,c4,rfl,h⟩:=h
  exact TabSem.congr (valL_cons (asCells_val hl1) rfl) (Ent.sem okK2 Tryz.func41 ⟨by kernel_rfl,by kernel_rfl⟩ rfl (j28 h))
 ·replace h:=d1_elim h
  obtain ⟨x0,rfl,h⟩:=h
  replace h:=dC_elim h
  obtain ⟨l1,hl1,h⟩:=h
  replace h:=d2_elim h
  obtain ⟨x0_0,x0_1,rfl,h⟩:=h
  replace h:=dI_elim h
  obtain ⟨a1,rfl,h⟩:=h
  replace h:=dS_elim h
  obtain ⟨b2,l3,c4,rfl,h⟩:=h
  obtain ⟨zs,g0,g1,g2,h⟩:=h
  exact TabSem.congr (valL_cons (asCells_val hl1) rfl) (Ent.sem okK6 Tryz.func43 ⟨by kernel_rfl,by kernel_rfl⟩ rfl (j30 g0 g1 g2 h))
 ·exact h.elim
noncomputable def K7:Cx:={ P:=Tryz.prog,inl:=fun f=>List.contains [] f,tab:=tab16,isB:=fun _=>false,tabB:=fun _ _ _ _ _=>False,opt:={ unroll:=0,carry:=[] },muts:=mutsD }
theorem okK7:CxOK K7:=CxOK.four tab16_ok (by kernel_rfl) (okInl (by kernel_rfl)) (fun _ _ _ _ _ h=>h.elim)
theorem j16 (h0:Bs E b2 l3 c4 zs) (h:∀ (b':Option Addr) (l' c':Nat) (yss:List (List Int)) (e:Int) (E':Mem),Mem.le E E'->Hyp (readF a1 zs=(yss,e))->BL E' b' l' c' yss->K (.tup [L b' l' c',I e]) E'):
  Ent K7 8 Tryz.f18 [.agg [I a1,L b2 l3 c4]] E K:=by
 refine sm_ (?_:Mem.le E E/\bif (↑(areaF a1 l3):Int)==(0:Int) then Mem.le E E/\K (SV.tup [L none 0 0,I (1:Int)]) E else ∃ (zs:List Int),Bs E b2 l3 c4 zs/\(areaF a1 l3=0->False)/\∀ (u g:Int) (E':Mem),Mem.le E E'->Hyp (usedF (areaF a1 l3) zs=(u,g))->Mem.le E E'/\bif decide (u<(0:Int)) then Mem.le E E'/\K (SV.tup [L none 0 0,I (4:Int)]) E' else ∃ (zs:List Int),Bs E' b2 l3 c4 zs/\(areaF a1 l3=0->False)/\(0:Int)<=(usedF (areaF a1 l3) zs).fst/\∀ (b':Option Addr) (l' c':Nat) (yss:List (List Int)) (kk e:Int) (E'_1:Mem),Mem.le E' E'_1->Hyp (recR (areaF a1 l3) (Int.toNat (usedF (areaF a1 l3) zs).fst) zs=((yss,kk),e))->BL E'_1 b' l' c' yss->Mem.le E' E'_1/\Mem.le E E'_1/\K (SV.tup [L b' l' c',I e]) E'_1)
 have hl:=h0.2.1
 subst hl
 refine ⟨mr_,condC (fun g=>⟨mr_,?_⟩) (fun g=>?_)⟩
 ·have g:areaF a1 zs.length=0:=by simpa using g
  exact h none 0 0 [] 1 E mr_ (show readF _ _=_ by unfold readF;rw [openF_arg g]) SL.nil
 have g:areaF a1 zs.length≠0:=by simpa using g
 refine ⟨zs,h0,g,fun u gg E1 k1 r1=>⟨k1,condC (fun q=>⟨k1,?_⟩) (fun q=>?_)⟩⟩
 ·exact h none 0 0 [] 4 E1 k1 (show readF _ _=_ by unfold readF;rw [openF_none g r1 (by simpa using q)]) SL.nil
 have q:0<=u:=by simpa using q
 obtain ⟨a,rfl⟩:∃ a:Nat,u=a:=⟨u.toNat,by omega⟩
 have r1:usedF (areaF a1 zs.length) zs=((a:Int),gg):=r1
 refine ⟨zs,h0.mono k1,g,by rw [r1];exact q,fun b' l' c' yss kk e E2 k2 r2 w=>⟨k2,mt_ k1 k2,h b' l' c' yss e E2 (mt_ k1 k2) ?_ w⟩⟩
 have r2:recR (areaF a1 zs.length) (Int.toNat (usedF (areaF a1 zs.length) zs).1) zs=((yss,kk),e):=r2
 rw [r1,Int.toNat_natCast] at r2
 show readF a1 zs=(yss,e)
 unfold recR at r2
 unfold readF
 cases hp:parseF (recsB (areaF a1 zs.length) a zs) with
 | none=>rw [hp] at r2;rw [openF_sum g r1 hp];cases r2;rfl
 | some x=>rw [hp] at r2;rw [openF_ok g r1 hp];cases r2;rfl
noncomputable def K8:Cx:={ P:=Tryz.prog,inl:=fun f=>List.contains [] f,tab:=tab16,isB:=fun _=>false,tabB:=fun _ _ _ _ _=>False,opt:={ unroll:=0,carry:=[8] },muts:=mutsD }
theorem okK8:CxOK K8:=CxOK.four tab16_ok (by kernel_rfl) (okInl (by kernel_rfl)) (fun _ _ _ _ _ h=>h.elim)
def sh35 (s:Int) (b:Option Addr) (l:Nat) (c:Nat) (a:Nat) (i:Nat) (E:Mem):St:=⟨[none,oc 0 0,none,oI (a:Nat)]++nn 4++[oI (i:Nat)]++nn 26,[⟨24,.lst [I s,L b l c],2,true⟩],E⟩
theorem rnd35 (hz:Bs E b l c zs) (hh:areaF s l≠0/\areaF s l=h/\2*h=l/\l<=16384) (ha:(a=0\/a=h)/\e<=h) (hi:a+e<=i/\i<=a+h/\(∀ j,a+e<=j->j<i->zs.getD j 0=255)) (hE:Mem.le E0 E) (k:K (B (cleanF h a e zs)) E)
  (ih:(i<a+h/\zs.getD i 0=255)->Lp K8 8 Tryz.f49 [1,1,1,0,1,0] 0 (pubK E0 K) (sh35 s b l c a (i+1) E)):Rnd K8 8 Tryz.f49 [1,1,1,0,1,0] 0 (pubK E0 K) (sh35 s b l c a i E):=by
 refine sm_ (?_:Mem.le E E/\bif decide ((NI i)<WI ((NI a)+(NI (areaF s l)))) then req (0<=(NI i)/\(NI i)<(NI l)) (nE E b l c/\∃ (n:Int),LoadE K8.P E 5 (VS b l c) (Int.toNat (NI i)*1) (SV.raw (U8 n))/\bif n !=(255:Int) then Mem.le E0 E/\K (B false) E else Lp K8 8 Tryz.f49 [1,1,1,0,1,0] 0 (pubK E0 K) { fr:=none::oc 0 0::none::oI (NI a)::none::none::none::none::oI (WI ((NI i)+1))::no16 (no8 (no2 [])),bx:=[(⟨24,.lst [I s,L b l c],2,true⟩:Box)],E:=E:St }) else Mem.le E0 E/\K (B true) E)
 delta WI NI U8 VS no2 no8 no16
 have hn:=hz.2.1
 obtain ⟨z1,z2,z3,z4⟩:=hh
 obtain ⟨i1,i2,i3⟩:=hi
 have hah:a+h<=l:=by omega
 rw [z2,wrap_i64 (x:=(a:Int)+(h:Nat)) (by omega)]
 refine ⟨mr_,condC (fun g=>?_) (fun g=>?_)⟩
 ·have g:i<a+h:=by simp at g;omega
  refine req_intro (by omega) ⟨hz.ne (i:=i) (by omega),zs.getD i 0,hz.load rfl (i:=i) (by omega),condC (fun q=>?_) (fun q=>?_)⟩
  ·have q:zs.getD i 0≠255:=by simpa only [bne_iff_ne] using q
   rw [cleanF_false (by omega) i1 g q] at k
   exact ⟨hE,k⟩
  ·have q:zs.getD i 0=255:=by simpa only [bne_eq_false_iff_eq] using q
   rw [wrap_i64 (x:=(i:Int)+1) (by omega),show (i:Int)+1=((i+1:Nat):Int) by simp]
   exact Lp_re [some 0] (ih ⟨g,q⟩) (wkG mr_)
 ·have g:¬ i<a+h:=by simp at g;omega
  rw [cleanF_true (by omega) (fun j h1 h2=>i3 j h1 (by omega))] at k
  exact ⟨hE,k⟩
theorem lp35 (hz:Bs E b l c zs) (hh:areaF s l≠0/\areaF s l=h/\2*h=l/\l<=16384) (ha:(a=0\/a=h)/\e<=h) (hi:a+e<=i/\i<=a+h/\(∀ j,a+e<=j->j<i->zs.getD j 0=255)) (hE:Mem.le E0 E) (k:K (B (cleanF h a e zs)) E):Lp K8 8 Tryz.f49 [1,1,1,0,1,0] 0 (pubK E0 K) (sh35 s b l c a i E):=
 Lp_ind okK8 (fun q0:{i:Nat//a+e<=i/\i<=a+h/\(∀ j,a+e<=j->j<i->zs.getD j 0=255)}=>sh35 s b l c a q0.1 E) (fun q0=>(a+h)-q0.1) (fun q0 ih=>rnd35 hz hh ha q0.2 hE k fun g=>ih ⟨q0.1+1,by have q:=q0.2;refine ⟨by omega,by omega,fun j h1 h2=>?_⟩;by_cases hj:j=q0.1;exact hj ▸ g.2;exact q.2.2 j h1 (by omega)⟩ (by show (a+h)-(_+1)<(a+h)-_;have:=q0.2;omega)) ⟨i,hi⟩
theorem j35 (h0:Bs E b2 l3 c4 zs) (h1:(openF a1 zs).2=0) (h:∀ E':Mem,Mem.le E E'->K (B (cleanF (areaF a1 l3) (openF a1 zs).1.2.1 (openF a1 zs).1.2.2.2 zs)) E'):
  Ent K8 8 Tryz.f49 [.agg [I a1,L b2 l3 c4]] E K:=by
 refine sm_ (?_:∃ (zs:List Int),Bs E b2 l3 c4 zs/\(areaF a1 l3=0->False)/\∀ (u g:Int) (E':Mem),Mem.le E E'->Hyp (usedF (areaF a1 l3) zs=(u,g))->Mem.le E E'/\∃ (zs:List Int),Bs E' b2 l3 c4 zs/\(areaF a1 l3=0->False)/\(0:Int)<=(usedF (areaF a1 l3) zs).fst/\∀ (b':Option Addr) (l' c':Nat) (yss:List (List Int)) (kk e:Int) (E'_1:Mem),Mem.le E' E'_1->Hyp (recR (areaF a1 l3) (Int.toNat (usedF (areaF a1 l3) zs).fst) zs=((yss,kk),e))->BL E'_1 b' l' c' yss->Mem.le E' E'_1/\Lp K8 8 Tryz.f49 [1,1,1,0,1,0] 0 (pubK E K) { fr:=[some (SV.agg [I a1,L b2 l3 c4]),oc 0 0,none,oI u,oI g,oL b' l' c',oI kk,oI e,oI kk,some (SV.tup [I u,I g]),some (SV.agg [I a1,L b2 l3 c4]),some (SV.tup [I u,I g]),oI u,oI g,some (SV.tup [L b' l' c',I kk,I e]),some (SV.agg [I a1,L b2 l3 c4]),some (SV.tup [L b' l' c',I kk,I e]),oL b' l' c',oI kk,oI e,oI kk,none,none,none,none,none,none,none,none,none,none,none,none,none,none],bx:=[(⟨24,Row.lst [I a1,L b2 l3 c4],2,true⟩:Box)],E:=E'_1:St })
 have hl:=h0.2.1
 subst hl
 obtain ⟨ls,a,n,gg,g,r1,hp,ho⟩:=openF_inv h1
 obtain ⟨a1',a2,a3,a4,a5,a6⟩:=areaF_ok g
 have ha:=used_ok r1
 have hn:=parseF_len hp
 rw [recs_len (by omega)] at hn
 rw [ho] at h
 refine ⟨zs,h0,g,fun u g2 E1 k1 r2=>⟨k1,?_⟩⟩
 have r2:usedF (areaF a1 zs.length) zs=(u,g2):=r2
 rw [r1] at r2
 obtain ⟨rfl,rfl⟩:=Prod.mk.inj r2
 refine ⟨zs,h0.mono k1,g,by rw [r1];exact Int.natCast_nonneg a,fun b' l' c' yss kk e E2 k2 r3 w=>⟨k2,?_⟩⟩
 have r3:recR (areaF a1 zs.length) (Int.toNat (usedF (areaF a1 zs.length) zs).1) zs=((yss,kk),e):=r3
 rw [r1,Int.toNat_natCast] at r3
 unfold recR at r3
 rw [hp] at r3
 obtain ⟨r4,rfl⟩:=Prod.mk.inj r3
 obtain ⟨rfl,rfl⟩:=Prod.mk.inj r4
 exact Lp_re [some 0] (lp35 (h:=areaF a1 zs.length) (e:=5+n) (i:=a+5+n) (h0.mono (mt_ k1 k2)) ⟨g,rfl,a5,by omega⟩ ⟨ha,by omega⟩ ⟨by omega,by omega,fun j h1 h2=>by omega⟩ (mt_ k1 k2) (h E2 (mt_ k1 k2))) (wkG mr_)
theorem progF_mk {a:Int} (h1:validF s zs.length) (h2:0<=a) (h3:a+ds.length<=zs.length):progF s zs a ds=(mems s (gP ds) a.toNat zs (ds.length+1),0):=by
 unfold progF
 rw [if_neg (by simp only [not_or,Decidable.not_not];exact ⟨h1,by omega⟩),if_neg (by omega)]
theorem erasF_mk {k:Int} (h1:validF s zs.length) (h2:0<=k) (h3:k<(zs.length:Int) / s):erasF s zs k=(mems s gE (k*s).toNat zs (s.toNat+1),0):=by
 unfold erasF
 rw [if_neg (by simp only [not_or,Decidable.not_not];exact ⟨h1,by omega⟩)]
theorem mems_get {g:Nat->Int->Int} (h:i<n):(mems s g a zs n)[i]? =some (s,stp g a zs i):=by
 simp [mems,List.getElem?_range h]
theorem FL.cap (h:FL E b n c ms):n<=c:=by
 obtain ⟨rs,h1,h2,h3,_⟩:=h;exact h3
theorem rows_one (rs:List FRow):∀ x:Value,List.Mem x (rs.flatMap rowV)->x.oneCell'=true:=fun x hx=>by
 obtain ⟨r,_,h⟩:=List.mem_flatMap.1 hx
 simp only [rowV,List.mem_cons,List.not_mem_nil,or_false] at h
 rcases h with rfl|rfl<;>rfl
theorem FL.src (h:FL E b n c ms):
  ∃ rs:List FRow,FLr E rs ms/\(rs.flatMap rowV=[]\/E (.slice b n c) (rs.flatMap rowV))/\n*2<=(rs.flatMap rowV).length/\(∀ x:Value,List.Mem x (rs.flatMap rowV)->x.oneCell'=true)/\rs.length=n:=by
 obtain ⟨rs,h1,h2,h3,h4,h5⟩:=h
 have hl:rs.length=n:=by rw [h1.1,h2]
 refine ⟨rs,h1,?_,by rw [rows_len,hl];exact Nat.le_refl _,rows_one rs,hl⟩
 rcases h4 with rfl|h4
 ·exact .inl (by rw [List.length_eq_zero_iff.1 hl];rfl)
 ·exact .inr h4
theorem rows_drop (rs:List FRow):(rs.flatMap rowV).drop 2=(rs.drop 1).flatMap rowV:=by
 cases rs with
 | nil=>rfl
 | cons r rs=>rfl
theorem FL.tail {E':Mem} (h:FL E b n c ms) (he:Mem.le E E')
  (hF:∀ cs,E (.slice b n c) cs->E' (.slice b' (n-1) (c-1)) (List.take ((n-1)*2) (List.drop 2 cs))) (hN:b'.isNone=b.isNone) (hn:1<=n):FL E' b' (n-1) (c-1) (ms.drop 1):=by
 obtain ⟨rs,h1,h2,h3,h4,h5⟩:=h
 have hl:rs.length=n:=by rw [h1.1,h2]
 refine ⟨rs.drop 1,⟨by simp [h1.1],fun i r m g1 g2=>?_⟩,by simp [h2],by omega,.inr ?_,fun e=>?_⟩
 ·rw [List.getElem?_drop] at g1 g2
  exact ⟨(h1.2 _ r m g1 g2).1,((h1.2 _ r m g1 g2).2).mono he⟩
 ·have:=hF _ (h4.resolve_left (by omega))
  rw [rows_drop,List.take_of_length_le (by rw [rows_len];simp;omega)] at this
  exact this
 ·have:=h5 (by cases b with |none=>rfl|some x=>rw [e] at hN;cases hN)
  omega
theorem FLr.app {rt:List FRow} {ns:List (Int×List Int)} (h:FLr E rs ms) (k:FLr E rt ns):FLr E (rs++rt) (ms++ns):=by
 refine ⟨by simp [h.1,k.1],fun i r m g1 g2=>?_⟩
 have hl:=h.1
 by_cases hi:i<rs.length
 ·rw [List.getElem?_append_left hi] at g1
  rw [List.getElem?_append_left (by omega)] at g2
  exact h.2 i r m g1 g2
 ·rw [List.getElem?_append_right (by omega)] at g1
  rw [List.getElem?_append_right (by omega),← hl] at g2
  exact k.2 _ r m g1 g2
theorem last_load {N:Nat} (R:FLr E rs ms) (hn:ms.length=N) (h1:1<=N) (hb:N<=1000000000000):
  (0<=IntKind.wrap .i64 ((N:Int)-1)/\IntKind.wrap .i64 ((N:Int)-1)<(N:Int))/\∃ (b':Option Addr) (l' c':Nat),LoadV Tryz.prog 24 (rs.flatMap rowV) (0+Int.toNat (IntKind.wrap .i64 ((N:Int)-1))*2) (.agg [I (lastM ms).1,L b' l' c'])/\Bs E b' l' c' (lastM ms).2:=by
 rw [wrap_i64 (x:=(N:Int)-1) (by omega)]
 have hrl:rs.length=N:=by rw [R.1,hn]
 obtain ⟨r,er⟩:∃ r,rs[N-1]? =some r:=⟨_,List.getElem?_eq_getElem (by omega)⟩
 obtain ⟨m,em⟩:∃ m,ms[N-1]? =some m:=⟨_,List.getElem?_eq_getElem (by omega)⟩
 have e:lastM ms=m:=by
  unfold lastM
  rw [List.getLastD_eq_getLast?,List.getLast?_eq_getElem?,hn,em];rfl
 obtain ⟨q1,q2⟩:=R.2 _ r m er em
 refine ⟨by omega,r.2.1,r.2.2.1,r.2.2.2,?_,by rw [e];exact q2⟩
 rw [e,← q1,show 0+Int.toNat ((N:Int)-1)*2=(N-1)*2 by omega]
 exact loadW_row er
theorem chgF_len (ms ms2:List (Int×List Int)):(chgF ms ms2).length=ms.length+(ms2.length-1):=by simp [chgF]
theorem tail_app {l' c' N cap:Nat} {ms2:List (Int×List Int)} (F:FL E b' l' c' ms2) (hl:1<=l') (R:FLr E rs ms) (hn:ms.length=N) (hc:N<=cap/\cap*2<=tot) (hb:N+l'<=1000000000000)
  {Q:Option Addr->Mem->List Value->Nat->Nat->Prop}
  (k:∀ (base':Option Addr) (E':Mem) (cs:List Value) (cap' tot':Nat) (rs':List FRow),List.take (N*2) (rs.flatMap rowV)++List.take ((toN none l'-1)*2) cs=rs'.flatMap rowV->Mem.le E E'->FLr E' rs' (chgF ms ms2)->(chgF ms ms2).length=N+(toN none l'-1)->N+(toN none l'-1)<=cap'->cap'*2<=tot'->Q base' E' cs cap' tot'):
  req (l'<=c') (req (0<=(1:Int)/\(1:Int)<=((toN none l':Nat):Int)) (∀ (base':Option Addr) (E':Mem),Mem.le E E'->(∀ cs:List Value,E (.slice b' l' c') cs->E' (.slice base' (toN none l'-1) (toN none c'-1)) (List.take ((toN none l'-1)*2) (List.drop 2 cs)))->base'.isNone=b'.isNone->
   ∃ cs:List Value,(cs=[]\/E' (.slice base' (toN none l'-1) (toN none c'-1)) cs)/\(toN none l'-1)*2<=List.length cs/\(∀ x:Value,List.Mem x cs->x.oneCell'=true)/\N*2<=List.length (Row.cells (Row.vals (rs.flatMap rowV)))/\cap*2<=tot/\N<=cap/\
    req ((N+(toN none l'-1))*32<=140737488355328) (∀ cap' tot':Nat,N+(toN none l'-1)<=cap'->cap'*2<=tot'->Q base' E' cs cap' tot'))):=by
 have hcap:=F.cap
 have e0:toN none l'=l':=rfl
 refine req_intro hcap (req_intro (by rw [e0];omega) fun base' E' q1 q2 q3=>?_)
 have T:=FL.tail F q1 q2 q3 hl
 obtain ⟨rt,u1,u2,u3,u4,u5⟩:=T.src
 have hrl:rs.length=N:=by rw [R.1,hn]
 refine ⟨_,u2,u3,u4,?_,hc.2,hc.1,req_intro (by rw [e0];omega) fun cap' tot' g1 g2=>k base' E' _ cap' tot' (rs++rt) ?_ q1 ((R.mono q1).app u1) ?_ g1 g2⟩
 ·show _<=(List.map SV.raw _).length
  rw [List.length_map,rows_len,hrl];exact Nat.le_refl _
 ·rw [List.take_of_length_le (by rw [rows_len,hrl];exact Nat.le_refl _),List.take_of_length_le (by rw [rows_len,u5];exact Nat.le_refl _),List.flatMap_append]
 ·rw [chgF_len,hn,F.len];rfl
noncomputable def tab37:FuncId->List SV->Mem->(SV->Mem->Prop)->Prop:=fun f args E K=>match f with
 | 96=>d3 args fun x0 x1 x2=>dC x0 fun l1=>d2 l1 fun x0_0 x0_1=>dI x0_0 fun a1=>dS x0_1 fun b2 l3 c4=>dI x1 fun a5=>dS x2 fun b6 l7 c8=>∃ (zs:List Int) (ds:List Int),Bs E b2 l3 c4 zs/\Bs E b6 l7 c8 ds/\(∀ (b':Option Addr) (l' c':Nat) (ms:List (Int×List Int)) (e:Int) (E':Mem),Mem.le E E'->Hyp (progF a1 zs a5 ds=(ms,e))->FL E' b' l' c' ms->K (.tup [L b' l' c',I e]) E')
 | 65=>d1 args fun x0=>dS x0 fun b1 l2 c3=>∃ (zs:List Int),Bs E b1 l2 c3 zs/\l2<=70000/\(∀ (b':Option Addr) (l' c':Nat) (ys:List Int) (E':Mem),Mem.le E E'->Hyp (ys=hidB zs)->Bs E' b' l' c' ys->K (L b' l' c') E')
 | _=>False
theorem tab37_ok:TabOK Tryz.prog tab37:=by
 intro f args E K h
 unfold tab37 at h
 split at h
 ·replace h:=d3_elim h
  obtain ⟨x0,x1,x2,rfl,h⟩:=h
  replace h:=dC_elim h
  obtain ⟨l1,hl1,h⟩:=h
  replace h:=d2_elim h
  obtain ⟨x0_0,x0_1,rfl,h⟩:=h
  replace h:=dI_elim h
  obtain ⟨a1,rfl,h⟩:=h
  replace h:=dS_elim h
  obtain ⟨b2,l3,c4,rfl,h⟩:=h
  replace h:=dI_elim h
  obtain ⟨a5,rfl,h⟩:=h
  replace h:=dS_elim h
  obtain ⟨b6,l7,c8,rfl,h⟩:=h
  obtain ⟨zs,ds,g0,g1,h⟩:=h
  exact TabSem.congr (valL_cons (asCells_val hl1) (valL_cons rfl (valL_cons rfl rfl))) (Ent.sem okFC Tryz.func96 ⟨by kernel_rfl,by kernel_rfl⟩ rfl (s15 g0 g1 h))
 ·replace h:=d1_elim h
  obtain ⟨x0,rfl,h⟩:=h
  replace h:=dS_elim h
  obtain ⟨b1,l2,c3,rfl,h⟩:=h
  obtain ⟨zs,g0,g1,h⟩:=h
  exact TabSem.congr (valL_cons rfl rfl) (Ent.sem okJ8 Tryz.func65 ⟨by kernel_rfl,by kernel_rfl⟩ rfl (j45 g0 g1 h))
 ·exact h.elim
noncomputable def K9:Cx:={ P:=Tryz.prog,inl:=fun f=>List.contains [73] f,tab:=tab37,isB:=fun _=>false,tabB:=fun _ _ _ _ _=>False,opt:={ unroll:=0,carry:=[] },muts:=mutsD }
theorem okK9:CxOK K9:=CxOK.four tab37_ok (by kernel_rfl) (okInl (by kernel_rfl)) (fun _ _ _ _ _ h=>h.elim)
theorem mems_last {g:Nat->Int->Int} {l:List (Int×List Int)} (h:1<=n):lastM (chgF l (mems s g a zs (n+1)))=(s,stp g a zs n):=by
 unfold lastM chgF
 rw [mems_succ,List.drop_append_of_le_length (by rw [mems_len];exact h),← List.append_assoc,List.getLastD_concat]
theorem progL_ok {l:List (Int×List Int)} (hv:validF (lastM l).1 (lastM l).2.length) (ha:a+ds.length<=(lastM l).2.length) (hd:1<=ds.length):
  lastM (progL l a ds)=((lastM l).1,stp (gP ds) a (lastM l).2 ds.length)/\(progL l a ds).length=l.length+ds.length:=by
 unfold progL
 rw [progF_mk hv (by omega) (by omega)]
 simp only [Int.toNat_natCast]
 exact ⟨mems_last hd,by rw [chgF_len,mems_len];omega⟩
theorem b37 {cap:Nat} (R:FLr E rs ms) (hn:ms.length=n) (hc:n<=cap/\cap*2<=tot) (hb:1<=n/\n<=100000000000) (hd:Bs E d dl dc ds)
  (hv:validF (lastM ms).1 (lastM ms).2.length) (ha:a+dl+11<=(lastM ms).2.length)
  (h:∀ (n' cap' tot':Nat) (rs':List FRow) (E':Mem),Mem.le E E'->FLr E' rs' (writeL ms a ds)->(writeL ms a ds).length=n'->n'<=cap'/\cap'*2<=tot'->KK (.slc 3 0 n' cap') [⟨24,.lst [],0,false⟩,⟨24,.lst [],0,false⟩,⟨5,.lst [.raw (.int .u8 90)],1,false⟩,⟨24,.vals (rs'.flatMap rowV),tot',true⟩] E'):
  EntB K9 8 Tryz.f51 [.slc 0 0 n cap,I (a:Nat),L d dl dc] [⟨24,.vals (rs.flatMap rowV),tot,true⟩] E KK:=by
 refine sm_ (?_:∃ (zs:List Int),Bs E d dl dc zs/\dl<=70000/\∀ (b':Option Addr) (l' c':Nat) (ys:List Int) (E':Mem),Mem.le E E'->Hyp (ys=hidB zs)->Bs E' b' l' c' ys->Mem.le E E'/\req ((0:Int)<=WI ((NI n)-1)/\WI ((NI n)-1)<(NI n)) (∃ (n_1:Int),∃ (base:Option Addr),∃ (len:Nat),∃ (cap_1:Nat),LoadV K9.P 24 (List.flatMap rowV rs) (0+Int.toNat (WI ((NI n)-1))*2) (SV.agg [I n_1,L base len cap_1])/\∃ (zs:List Int),∃ (ds:List Int),Bs E' base len cap_1 zs/\Bs E' b' l' c' ds/\∀ (b':Option Addr) (l' c':Nat) (ms:List (Int×List Int)) (e:Int) (E'_1:Mem),Mem.le E' E'_1->Hyp (progF n_1 zs (WI ((NI a)+1)) ds=(ms,e))->FL E'_1 b' l' c' ms->Mem.le E' E'_1/\bif (NI l')==0 then req ((0:Int)<=WI ((NI n)-1)/\WI ((NI n)-1)<(NI n)) (∃ (n_2:Int),∃ (base:Option Addr),∃ (len:Nat),∃ (cap_2:Nat),LoadV K9.P 24 (List.flatMap rowV rs) (0+Int.toNat (WI ((NI n)-1))*2) (SV.agg [I n_2,L base len cap_2])/\∀ (base_1:Option Addr) (E':Mem),Mem.le E'_1 E'->WinE E' base_1 [U8 90]->∃ (zs:List Int),∃ (ds:List Int),Bs E' base len cap_2 zs/\Bs E' (Option.map (fun (x:Addr)=>Addr.add x 0) base_1) 1 1 ds/\∀ (b':Option Addr) (l' c':Nat) (ms:List (Int×List Int)) (e:Int) (E'_2:Mem),Mem.le E' E'_2->Hyp (progF n_2 zs (NI a) ds=(ms,e))->FL E'_2 b' l' c' ms->bif (NI l')==0 then KK (SV.slc 0 0 n cap) [⟨24,.vals (List.flatMap rowV rs),tot,true⟩,⟨5,.lst [SV.raw (U8 90)],1,false⟩] E'_2 else req (l'<=c') (req ((0:Int)<=(1:Int)/\1<=(NI (toN none l'))) (∀ (base':Option Addr) (E':Mem),Mem.le E'_2 E'->(∀ (cs:List Value),E'_2 (VS b' l' c') cs->E' (VS base' (toN none l'-1) (toN none c'-1)) (List.take ((toN none l'-1)*2) (List.drop 2 cs)))->Option.isNone base'=Option.isNone b'->∃ (cs:List Value),(cs=[]\/E' (VS base' (toN none l'-1) (toN none c'-1)) cs)/\(toN none l'-1)*2<=List.length cs/\(∀ (x:Value),List.Mem x cs->Value.oneCell' x=true)/\n*2<=List.length (Row.cells (Row.vals (List.flatMap rowV rs)))/\cap*(2:Nat)<=tot/\n<=cap/\req ((n+(toN none l'-(1:Nat)))*(32:Nat)<=(140737488355328:Nat)) (∀ (cap' tot':Nat),n+(toN none l'-(1:Nat))<=cap'->cap'*(2:Nat)<=tot'->KK (SV.slc 2 0 (n+(toN none l'-(1:Nat))) cap') [⟨(24:Nat),Row.lst [],(0:Nat),false⟩,⟨(5:Nat),Row.lst [SV.raw (U8 90)],(1:Nat),false⟩,⟨(24:Nat),Row.vals (List.take (n*(2:Nat)) (List.flatMap rowV rs)++List.take ((toN none l'-(1:Nat))*(2:Nat)) cs),tot',true⟩] E')))) else req (l'<=c') (req ((0:Int)<=(1:Int)/\1<=(NI (toN none l'))) (∀ (base':Option Addr) (E':Mem),Mem.le E'_1 E'->(∀ (cs:List Value),E'_1 (VS b' l' c') cs->E' (VS base' (toN none l'-1) (toN none c'-1)) (List.take ((toN none l'-1)*2) (List.drop 2 cs)))->Option.isNone base'=Option.isNone b'->∃ (cs:List Value),(cs=[]\/E' (VS base' (toN none l'-1) (toN none c'-1)) cs)/\(toN none l'-1)*2<=List.length cs/\(∀ (x:Value),List.Mem x cs->Value.oneCell' x=true)/\n*2<=List.length (Row.cells (Row.vals (List.flatMap rowV rs)))/\cap*2<=tot/\n<=cap/\req ((n+(toN none l'-1))*32<=140737488355328) (∀ (cap' tot':Nat),n+(toN none l'-1)<=cap'->cap'*2<=tot'->req ((0:Int)<=WI ((NI (n+(toN none l'-1)))-(1:Int))/\WI ((NI (n+(toN none l'-1)))-(1:Int))<(NI (n+(toN none l'-1)))) (∃ (n_2:Int),∃ (base:Option Addr),∃ (len:Nat),∃ (cap:Nat),LoadV K9.P 24 (List.take (n*2) (List.flatMap rowV rs)++List.take ((toN none l'-1)*2) cs) (0+Int.toNat (WI ((NI (n+(toN none l'-(1:Nat))))-(1:Int)))*2) (SV.agg [I n_2,L base len cap])/\∀ (base_1:Option Addr) (E'_2:Mem),Mem.le E' E'_2->WinE E'_2 base_1 [U8 90]->∃ (zs:List Int),∃ (ds:List Int),Bs E'_2 base len cap zs/\Bs E'_2 (Option.map (fun (x:Addr)=>Addr.add x 0) base_1) 1 1 ds/\∀ (b':Option Addr) (l'_1 c':Nat) (ms:List (Int×List Int)) (e:Int) (E':Mem),Mem.le E'_2 E'->Hyp (progF n_2 zs (NI a) ds=(ms,e))->FL E' b' l'_1 c' ms->bif (NI l'_1)==0 then KK (SV.slc 1 0 (n+(toN none l'-(1:Nat))) cap') [⟨(24:Nat),Row.lst [],(0:Nat),false⟩,⟨(24:Nat),Row.vals (List.take (n*(2:Nat)) (List.flatMap rowV rs)++List.take ((toN none l'-(1:Nat))*(2:Nat)) cs),tot',true⟩,⟨(5:Nat),Row.lst [SV.raw (U8 90)],(1:Nat),false⟩] E' else req (l'_1<=c') (req ((0:Int)<=(1:Int)/\1<=(NI (toN none l'_1))) (∀ (base':Option Addr) (E'_3:Mem),Mem.le E' E'_3->(∀ (cs:List Value),E' (VS b' l'_1 c') cs->E'_3 (VS base' (toN none l'_1-(1:Nat)) (toN none c'-(1:Nat))) (List.take ((toN none l'_1-(1:Nat))*(2:Nat)) (List.drop 2 cs)))->Option.isNone base'=Option.isNone b'->∃ (cs_1:List Value),(cs_1=[]\/E'_3 (VS base' (toN none l'_1-(1:Nat)) (toN none c'-(1:Nat))) cs_1)/\(toN none l'_1-(1:Nat))*(2:Nat)<=List.length cs_1/\(∀ (x:Value),List.Mem x cs_1->Value.oneCell' x=true)/\(n+(toN none l'-(1:Nat)))*(2:Nat)<=List.length (Row.cells (Row.vals (List.take (n*(2:Nat)) (List.flatMap rowV rs)++List.take ((toN none l'-(1:Nat))*(2:Nat)) cs)))/\cap'*(2:Nat)<=tot'/\n+(toN none l'-(1:Nat))<=cap'/\req ((n+(toN none l'-(1:Nat))+(toN none l'_1-(1:Nat)))*(32:Nat)<=(140737488355328:Nat)) (∀ (cap' tot':Nat),n+(toN none l'-(1:Nat))+(toN none l'_1-(1:Nat))<=cap'->cap'*(2:Nat)<=tot'->KK (SV.slc 3 0 (n+(toN none l'-(1:Nat))+(toN none l'_1-(1:Nat))) cap') [⟨(24:Nat),Row.lst [],(0:Nat),false⟩,⟨(24:Nat),Row.lst [],(0:Nat),false⟩,⟨(5:Nat),Row.lst [SV.raw (U8 90)],(1:Nat),false⟩,⟨(24:Nat),Row.vals (List.take ((n+(toN none l'-(1:Nat)))*(2:Nat)) (List.take (n*(2:Nat)) (List.flatMap rowV rs)++List.take ((toN none l'-(1:Nat))*(2:Nat)) cs)++List.take ((toN none l'_1-(1:Nat))*(2:Nat)) cs_1),tot',true⟩] E'_3)))))))))
 delta WI NI U8 VS
 have hdl:=hd.2.1
 have hvl:(lastM ms).2.length<=16384:=hv.2.2.2.1
 refine ⟨ds,hd,by omega,fun b1 l1 c1 ys E1 k1 r1 B1=>⟨k1,?_⟩⟩
 have r1:ys=hidB ds:=r1
 rw [hidB_eq] at r1
 subst r1
 obtain ⟨n1,b2,l2,c2,ld,lb⟩:=last_load (R.mono k1) hn hb.1 (by omega)
 refine req_intro n1 ⟨_,b2,l2,c2,ld,_,_,lb,B1,fun b3 l3 c3 m3 e3 E2 k2 r2 F2=>⟨k2,?_⟩⟩
 have r2:progF (lastM ms).1 (lastM ms).2 (IntKind.wrap .i64 ((a:Int)+1)) (bodyF ds)=(m3,e3):=r2
 rw [wrap_i64 (x:=(a:Int)+1) (by omega),show (a:Int)+1=((a+1:Nat):Int) by simp] at r2
 have hl3:m3.length=dl+11:=by
  rw [progF_mk hv (by omega) (by rw [bodyF_len];omega)] at r2
  rw [← (Prod.mk.inj r2).1,mems_len,bodyF_len,hdl]
 have hl3':=F2.len
 have ht3:toN none l3=l3:=rfl
 refine condC (fun g=>by simp at g;omega) (fun g=>?_)
 refine tail_app F2 (by omega) (R.mono (mt_ k1 k2)) hn hc (by omega) fun base' E3 cs cap3 tot3 rs3 ec k3 R3 n3 g1 g2=>?_
 have ep:chgF ms m3=progL ms (a+1) (bodyF ds):=by unfold progL;rw [r2]
 rw [ep] at R3 n3
 obtain ⟨pl,pn⟩:=progL_ok (l:=ms) (a:=a+1) (ds:=bodyF ds) hv (by rw [bodyF_len];omega) (by rw [bodyF_len];omega)
 have hv2:validF (lastM (progL ms (a+1) (bodyF ds))).1 (lastM (progL ms (a+1) (bodyF ds))).2.length:=by rw [pl];simp only [stp_len];exact hv
 have hz2:(lastM (progL ms (a+1) (bodyF ds))).2.length=(lastM ms).2.length:=by rw [pl];simp only [stp_len]
 rw [ec]
 obtain ⟨n4,b4,l4,c4,ld4,lb4⟩:=last_load R3 n3 (by omega) (by omega)
 refine req_intro n4 ⟨_,b4,l4,c4,ld4,fun base5 E5 k5 w5=>⟨_,[90],lb4.mono k5,Bs.win (zs:=[90]) w5 rfl rfl (Nat.le_refl _) (by decide),fun b6 l6 c6 m6 e6 E6 k6 r6 F6=>?_⟩⟩
 have r6:progF (lastM (progL ms (a+1) (bodyF ds))).1 (lastM (progL ms (a+1) (bodyF ds))).2 (a:Int) [90]=(m6,e6):=r6
 have hl6:m6.length=2:=by
  rw [progF_mk hv2 (by omega) (by simp only [List.length_singleton];omega)] at r6
  rw [← (Prod.mk.inj r6).1,mems_len];rfl
 have hl6':=F6.len
 refine condC (fun g=>by simp at g;omega) (fun g=>?_)
 refine tail_app F6 (by omega) (R3.mono (mt_ k5 k6)) n3 ⟨g1,g2⟩ (by omega) fun base7 E7 cs7 cap7 tot7 rs7 ec7 k7 R7 n7 g3 g4=>?_
 rw [ec7]
 have ep7:chgF (progL ms (a+1) (bodyF ds)) m6=writeL ms a ds:=by
  show _=progL (progL ms (a+1) (bodyF ds)) a [90]
  rw [show progL (progL ms (a+1) (bodyF ds)) a [90]=chgF (progL ms (a+1) (bodyF ds)) (progF (lastM (progL ms (a+1) (bodyF ds))).1 (lastM (progL ms (a+1) (bodyF ds))).2 (a:Int) [90]).1 from rfl,r6]
 rw [ep7] at R7 n7
 exact h _ cap7 tot7 rs7 E7 (mt_ k1 (mt_ k2 (mt_ k3 (mt_ k5 (mt_ k6 k7))))) R7 n7 ⟨g3,g4⟩
theorem b37c {cap:Nat} (R:FLr E rs ms) (hn:ms.length=n) (hc:n<=cap/\cap*2<=tot) (hb:1<=n/\n<=100000000000) (hd:Bs E d dl dc ds)
  (hv:validF (lastM ms).1 (lastM ms).2.length) (ha:a+dl+11<=(lastM ms).2.length)
  (h:∀ (n' cap' tot':Nat) (rs':List FRow) (E':Mem),Mem.le E E'->FLr E' rs' (writeL ms a ds)->(writeL ms a ds).length=n'->n'<=cap'/\cap'*2<=tot'->KK (.slc 1 0 n' cap') [⟨24,.lst [],0,false⟩,⟨24,.vals (rs'.flatMap rowV),tot',true⟩] E'):
  EntB K9 8 Tryz.f51 [.slc 0 0 n cap,I (a:Nat),L d dl dc] [⟨24,.vals (rs.flatMap rowV),tot,true⟩] E (cloK 1 KK):=
 b37 R hn hc hb hd hv ha fun n' cap' tot' rs' E' h1 h2 h3 h4=>cloK_intro [some 0,some 3] (h n' cap' tot' rs' E' h1 h2 h3 h4) (wkG mr_ (h6:=(by repeat' first|exact True.intro|exact rfl|exact Or.inl rfl|exact (by decide:0<4)|refine And.intro ?_ ?_)))
theorem Rel.vals {w0:World} {mu:Fm} {ρ:Env} {w:World} (h:Rel w0 mu bx E ρ w) {b:Nat} {e:TypeId} {r:Row} {own:Bool} (hb:bx[b]? =some ⟨e,r,tot,own⟩) (hv:r.val=some vs):
  Rel w0 mu (bx.set b ⟨e,.vals vs,tot,own⟩) E ρ w:=by
 have hd:SV.denL ρ r.cells=some vs:=Row.val_den hv ρ
 have hd2:SV.denL ρ (Row.cells (.vals vs))=some vs:=Row.val_den (r:=.vals vs) rfl ρ
 have hemp:(Row.cells (.vals vs)).isEmpty=r.cells.isEmpty:=by
  have h1:=denL_length hd
  have h2:=denL_length hd2
  cases h3:Row.cells (.vals vs)<;>cases h4:r.cells<;>simp_all
 have look:∀ (i:Nat) (y:Box),(bx.set b ⟨e,.vals vs,tot,own⟩)[i]? =some y->(i=b/\y=⟨e,.vals vs,tot,own⟩)\/bx[i]? =some y:=by
  intro i y hy
  rw [List.getElem?_set] at hy
  split at hy
  ·rename_i q
   split at hy
   ·exact .inl ⟨q.symm,(Option.some.inj hy).symm⟩
   ·cases hy
  ·exact .inr hy
 refine ⟨h.keep,by rw [List.length_set];exact h.len,fun i y oa hy ho=>?_,fun i y a hy ho ha=>?_,h.hold,fun i y a hy hl ha=>?_,h.src⟩
 ·rcases look i y hy with ⟨rfl,rfl⟩|q
  ·have old:=h.box i _ oa hb ho
   unfold BoxAt at old ⊢
   split at old
   ·obtain ⟨o1,o2⟩:=old
    refine ⟨?_,o2⟩
    have o1:r.cells=[]:=o1
    rw [o1] at hemp
    have:=List.isEmpty_iff.1 (hemp.trans rfl)
    exact this
   ·obtain ⟨o1,vs',o2,o3⟩:=old
    have o2:SV.denL ρ r.cells=some vs':=o2
    rw [hd] at o2
    cases o2
    exact ⟨o1,vs,hd2,o3⟩
  ·exact h.box i y oa q ho
 ·have main:(∃ y0,bx[i]? =some y0/\y0.own=true):=by
   rcases look i y hy with ⟨rfl,rfl⟩|q
   ·exact ⟨_,hb,ho⟩
   ·exact ⟨_,q,ho⟩
  obtain ⟨y0,q,ho0⟩:=main
  obtain ⟨s1,s2,s3⟩:=h.sep i y0 a q ho0 ha
  refine ⟨s1,fun j b' a' hj hb' hl' ha'=>?_,s3⟩
  rcases look j b' hb' with ⟨rfl,rfl⟩|q2
  ·refine s2 j _ a' hj hb ?_ ha'
   unfold Box.live Box.cells at hl' ⊢
   simp only at hl' ⊢
   rw [hemp] at hl'
   exact hl'
  ·exact s2 j b' a' hj q2 hl' ha'
 ·rcases look i y hy with ⟨rfl,rfl⟩|q
  ·refine h.bsrc i _ a hb ?_ ha
   unfold Box.live Box.cells at hl ⊢
   simp only at hl ⊢
   rw [hemp] at hl
   exact hl
  ·exact h.bsrc i y a q hl ha
theorem CallSem.vcongr {args':List SV} {K:KT} (h1:SV.valL args=some vs) (h2:SV.valL args'=some vs) (h:CallSem P f args' bx E K):CallSem P f args bx E K:=by
 intro w0 mu ρ w ws hR hd
 have e:=SV.denL_of_val ρ args h1
 rw [hd] at e
 cases e
 exact h w0 mu ρ w _ hR (SV.denL_of_val ρ args' h2)
theorem CallSem.asV {b:Nat} {e:TypeId} {r:Row} {own:Bool} {K:KT} (hb:bx[b]? =some ⟨e,r,tot,own⟩) (hv:r.val=some vs)
  (h:CallSem P f args (bx.set b ⟨e,.vals vs,tot,own⟩) E K):CallSem P f args bx E K:=fun w0 mu ρ w ws hR hd=>h w0 mu ρ w ws (Rel.vals hR hb hv) hd
noncomputable def tabB37:CallT:=fun f args bx E K=>match f with
  | 51=>d3 args fun x0 x1 x2=>dI x1 fun a=>dS x2 fun d dl dc=>match x0 with
    | .slc b 0 n cap=>match bx[b]? with
      | some ⟨e,r,tot,true⟩=>match r.val with
       | some vs=>∃ (rs:List FRow) (ms:List (Int×List Int)) (ds:List Int),(e=24/\vs=rs.flatMap rowV/\FLr E rs ms/\ms.length=n/\(n<=cap/\cap*2<=tot)/\(1<=n/\n<=100000000000)/\Bs E d dl dc ds/\validF (lastM ms).1 (lastM ms).2.length/\0<=a/\a.toNat+dl+11<=(lastM ms).2.length)/\
          ∀ (n' cap' tot':Nat) (rs':List FRow) (E':Mem),Mem.le E E'->FLr E' rs' (writeL ms a.toNat ds)->Hyp ((writeL ms a.toNat ds).length=n')->n'<=cap'/\cap'*2<=tot'->K (.slc bx.length 0 n' cap') (bx.set b ⟨24,.lst [],0,false⟩++[⟨24,.vals (rs'.flatMap rowV),tot',true⟩]) E'
       | none=>False
      | _=>False
    | _=>False
  | _=>False
theorem tabB37_ok:∀ f args bx E K,tabB37 f args bx E K->CallSem Tryz.prog f args bx E K:=by
 intro f args bx E K h
 unfold tabB37 at h
 split at h
 case h_2=>exact h.elim
 obtain ⟨x0,x1,x2,rfl,h1⟩:=d3_elim h
 obtain ⟨a,rfl,h2⟩:=dI_elim h1
 obtain ⟨d,dl,dc,rfl,h3⟩:=dS_elim h2
 clear h h1 h2
 split at h3
 case h_2=>exact h3.elim
 rename_i b n cap
 split at h3
 case h_2=>exact h3.elim
 rename_i e r tot hb
 split at h3
 case h_2=>exact h3.elim
 rename_i vs hr
 obtain ⟨rs,ms,ds,⟨rfl,rfl,R,hn,hc,hbd,hd,hv,h0,ha⟩,h⟩:=h3
 refine CallSem.asV hb hr ?_
 have hb2:(bx.set b ⟨24,.vals (rs.flatMap rowV),tot,true⟩)[b]? =some ⟨24,.vals (rs.flatMap rowV),tot,true⟩:=by
  rw [List.getElem?_set_self (List.getElem?_eq_some_iff.1 hb).1]
 obtain ⟨a,rfl⟩:∃ k:Nat,a=k:=⟨a.toNat,by omega⟩
 rw [Int.toNat_natCast] at ha h
 refine CallSem.own1 (rest:=[I (a:Nat),L d dl dc]) (restv:=[.int .i64 (a:Nat),.slice d dl dc]) hb2 rfl (EntB.sem okK9 Tryz.func51 ⟨by kernel_rfl,by kernel_rfl⟩ (b37c R hn hc hbd hd hv ha ?_))
 intro n' cap' tot' rs' E' h1 h2 h3 h4
 exact ⟨n',cap',_,tot',rfl,rfl,by rw [List.length_set,List.set_set];exact h n' cap' tot' rs' E' h1 h2 h3 h4⟩
theorem areaF_div (h:areaF s l≠0):∃ st q:Nat,s=(st:Int)/\areaF s l=st*q/\1<=st/\st<=1024/\l=2*(st*q):=by
 obtain ⟨e1,⟨v1,v2,v3,v4,v5⟩,e3,e4,e5,e6⟩:=areaF_ok h
 obtain ⟨st,rfl⟩:∃ st:Nat,s=st:=⟨s.toNat,by omega⟩
 have e:=Int.mul_ediv_add_emod (l:Int) st
 rw [v5] at e
 have hq0:0<=(l:Int) / st:=Int.ediv_nonneg (by omega) (by omega)
 obtain ⟨k,hk⟩:∃ k:Nat,(l:Int) / st=2*k:=⟨((l:Int) / st / 2).toNat,by omega⟩
 rw [hk,Int.mul_left_comm] at e
 have e':(2:Int)*((st*k:Nat):Int)=l:=by rw [Int.natCast_mul];omega
 exact ⟨st,k,rfl,by omega,by omega,by omega,by omega⟩
theorem erasL_ok {l:List (Int×List Int)} {z:List Int} (hl:lastM l=((st:Int),z)) (hv:validF st z.length) (hk:(k+1)*st<=z.length):
  lastM (erasL l k)=((st:Int),stp gE (k*st) z st)/\(erasL l k).length=l.length+st/\(erasF st z k).1.length=st+1:=by
 have h1:1<=st:=by have:=hv.1;omega
 have e:erasF (st:Int) z (k:Int)=(mems st gE (k*st) z (st+1),0):=by
  rw [erasF_mk hv (by omega) (by
   rw [Int.lt_iff_add_one_le,Int.le_ediv_iff_mul_le (by omega)]
   have :(((k+1)*st:Nat):Int)<=z.length:=by omega
   rw [Int.natCast_mul] at this
   simpa using this),← Int.natCast_mul,Int.toNat_natCast,Int.toNat_natCast]
 unfold erasL
 rw [hl]
 simp only [e]
 exact ⟨mems_last h1,by rw [chgF_len,mems_len];omega,mems_len _ _ _ _ _⟩
theorem erasesL_ok {st p:Nat} {z:List Int}:∀ {m:Nat},validF st z.length->(p+m)*st<=z.length->∃ z',lastM (erasesL p m [((st:Int),z)])=((st:Int),z')/\z'.length=z.length/\(erasesL p m [((st:Int),z)]).length=1+m*st
 | 0,_,_=>⟨z,rfl,rfl,by simp [erasesL]⟩
 | m+1,hv,hm=>by
  obtain ⟨z',h1,h2,h3⟩:=erasesL_ok (st:=st) (p:=p) (z:=z) (m:=m) hv (by rw [← Nat.add_assoc,Nat.add_mul] at hm;omega)
  obtain ⟨g1,g2,g3⟩:=erasL_ok (k:=p+m) h1 (by rw [h2];exact hv) (by rw [h2];exact hm)
  exact ⟨_,g1,by rw [stp_len,h2],by show (erasL _ _).length=_;rw [g2,h3,Nat.add_mul];omega⟩
theorem writeL_ok {l:List (Int×List Int)} (hv:validF (lastM l).1 (lastM l).2.length) (ha:a+ds.length+11<=(lastM l).2.length):
  (lastM (writeL l a ds)).1=(lastM l).1/\(lastM (writeL l a ds)).2.length=(lastM l).2.length/\(writeL l a ds).length=l.length+ds.length+11:=by
 obtain ⟨pl,pn⟩:=progL_ok (l:=l) (a:=a+1) (ds:=bodyF ds) hv (by rw [bodyF_len];omega) (by rw [bodyF_len];omega)
 obtain ⟨ql,qn⟩:=progL_ok (l:=progL l (a+1) (bodyF ds)) (a:=a) (ds:=[90]) (by rw [pl];simp only [stp_len];exact hv) (by rw [pl];simp only [stp_len,List.length_singleton];omega) (by decide)
 unfold writeL
 refine ⟨by rw [ql,pl],by rw [ql,pl];simp only [stp_len],by rw [qn,pn,bodyF_len];simp;omega⟩
theorem writesL_succ {l:List (Int×List Int)} {keep:List (List Int)} {d:List Int} (h:keep[i]? =some d):
  writesL k l (keep.take (i+1))=(writeL (writesL k l (keep.take i)).1 (writesL k l (keep.take i)).2 d,(writesL k l (keep.take i)).2+d.length+11):=by
 unfold writesL
 rw [take_get' h,List.foldl_append];rfl
theorem needF_ge (keep:List (List Int)):11*keep.length<=needF keep:=by
 have key:∀ (ds:List (List Int)) (n:Nat),n+11*ds.length<=ds.foldl (fun n d=>n+d.length+11) n:=by
  intro ds
  induction ds with
  | nil=>intro n;simp
  | cons d ds ih=>intro n;have:=ih (n+d.length+11);simp only [List.foldl_cons,List.length_cons];omega
 have:=key keep 0
 unfold needF;omega
theorem needF_mono {keep:List (List Int)}:needF (keep.take i)<=needF keep:=by
 have key:∀ (ds:List (List Int)) (n:Nat),n<=ds.foldl (fun n d=>n+d.length+11) n:=by
  intro ds
  induction ds with
  | nil=>intro n;exact Nat.le_refl _
  | cons d ds ih=>intro n;have:=ih (n+d.length+11);simp only [List.foldl_cons];omega
 have e:needF keep=(keep.drop i).foldl (fun n d=>n+d.length+11) (needF (keep.take i)):=by
  unfold needF;rw [← List.foldl_append,List.take_append_drop]
 rw [e];exact key _ _
noncomputable def tabB36:CallT:=fun f args bx E K=>match f with
 | 51=>tabB37 51 args bx E K
 | 74=>tabBr 74 args bx E K
 | _=>False
theorem tabB36_ok:∀ f args bx E K,tabB36 f args bx E K->CallSem Tryz.prog f args bx E K:=by
 intro f args bx E K h
 unfold tabB36 at h
 split at h
 ·exact tabB37_ok _ _ _ _ _ h
 ·exact tabBr_ok _ _ _ _ _ h
 ·exact h.elim
noncomputable def tab36:FuncId->List SV->Mem->(SV->Mem->Prop)->Prop:=fun f args E K=>match f with
 | 42=>d1 args fun x0=>dC x0 fun l1=>d2 l1 fun x0_0 x0_1=>dI x0_0 fun a1=>dS x0_1 fun b2 l3 c4=>∃ (zs:List Int),Bs E b2 l3 c4 zs/\areaF a1 l3≠0/\(∀ (u g:Int) (E':Mem),Mem.le E E'->Hyp (usedF (areaF a1 l3) zs=(u,g))->K (.tup [I u,I g]) E')
 | 41=>d1 args fun x0=>dC x0 fun l1=>d2 l1 fun x0_0 x0_1=>dI x0_0 fun a1=>dS x0_1 fun b2 l3 c4=>(K (I (areaF a1 l3:Nat)) E)
 | 72=>d2 args fun x0 x1=>dC x0 fun l1=>d2 l1 fun x0_0 x0_1=>dI x0_0 fun a1=>dS x0_1 fun b2 l3 c4=>dI x1 fun a5=>∃ (zs:List Int),Bs E b2 l3 c4 zs/\(∀ (b':Option Addr) (l' c':Nat) (ms:List (Int×List Int)) (e:Int) (E':Mem),Mem.le E E'->Hyp (erasF a1 zs a5=(ms,e))->FL E' b' l' c' ms->K (.tup [L b' l' c',I e]) E')
 | 96=>d3 args fun x0 x1 x2=>dC x0 fun l1=>d2 l1 fun x0_0 x0_1=>dI x0_0 fun a1=>dS x0_1 fun b2 l3 c4=>dI x1 fun a5=>dS x2 fun b6 l7 c8=>∃ (zs:List Int) (ds:List Int),Bs E b2 l3 c4 zs/\Bs E b6 l7 c8 ds/\(∀ (b':Option Addr) (l' c':Nat) (ms:List (Int×List Int)) (e:Int) (E':Mem),Mem.le E E'->Hyp (progF a1 zs a5 ds=(ms,e))->FL E' b' l' c' ms->K (.tup [L b' l' c',I e]) E')
 | _=>False
theorem tab36_ok:TabOK Tryz.prog tab36:=by
 intro f args E K h
 unfold tab36 at h
 split at h
 ·replace h:=d1_elim h
  obtain ⟨x0,rfl,h⟩:=h
  replace h:=dC_elim h
  obtain ⟨l1,hl1,h⟩:=h
  replace h:=d2_elim h
  obtain ⟨x0_0,x0_1,rfl,h⟩:=h
  replace h:=dI_elim h
  obtain ⟨a1,rfl,h⟩:=h
  replace h:=dS_elim h
  obtain ⟨b2,l3,c4,rfl,h⟩:=h
  obtain ⟨zs,g0,g1,h⟩:=h
  exact TabSem.congr (valL_cons (asCells_val hl1) rfl) (Ent.sem okK5 Tryz.func42 ⟨by kernel_rfl,by kernel_rfl⟩ rfl (j24 g0 g1 h))
 ·replace h:=d1_elim h
  obtain ⟨x0,rfl,h⟩:=h
  replace h:=dC_elim h
  obtain ⟨l1,hl1,h⟩:=h
  replace h:=d2_elim h
  obtain ⟨x0_0,x0_1,rfl,h⟩:=h
  replace h:=dI_elim h
  obtain ⟨a1,rfl,h⟩:=h
  replace h:=dS_elim h
  obtain ⟨b2,l3,c4,rfl,h⟩:=h
  exact TabSem.congr (valL_cons (asCells_val hl1) rfl) (Ent.sem okK2 Tryz.func41 ⟨by kernel_rfl,by kernel_rfl⟩ rfl (j28 h))
 ·replace h:=d2_elim h
  obtain ⟨x0,x1,rfl,h⟩:=h
  replace h:=dC_elim h
  obtain ⟨l1,hl1,h⟩:=h
  replace h:=d2_elim h
  obtain ⟨x0_0,x0_1,rfl,h⟩:=h
  replace h:=dI_elim h
  obtain ⟨a1,rfl,h⟩:=h
  replace h:=dS_elim h
  obtain ⟨b2,l3,c4,rfl,h⟩:=h
  replace h:=dI_elim h
  obtain ⟨a5,rfl,h⟩:=h
  obtain ⟨zs,g0,h⟩:=h
  exact TabSem.congr (valL_cons (asCells_val hl1) (valL_cons rfl rfl)) (Ent.sem okFD Tryz.func72 ⟨by kernel_rfl,by kernel_rfl⟩ rfl (s17 g0 h))
 ·replace h:=d3_elim h
  obtain ⟨x0,x1,x2,rfl,h⟩:=h
  replace h:=dC_elim h
  obtain ⟨l1,hl1,h⟩:=h
  replace h:=d2_elim h
  obtain ⟨x0_0,x0_1,rfl,h⟩:=h
  replace h:=dI_elim h
  obtain ⟨a1,rfl,h⟩:=h
  replace h:=dS_elim h
  obtain ⟨b2,l3,c4,rfl,h⟩:=h
  replace h:=dI_elim h
  obtain ⟨a5,rfl,h⟩:=h
  replace h:=dS_elim h
  obtain ⟨b6,l7,c8,rfl,h⟩:=h
  obtain ⟨zs,ds,g0,g1,h⟩:=h
  exact TabSem.congr (valL_cons (asCells_val hl1) (valL_cons rfl (valL_cons rfl rfl))) (Ent.sem okFC Tryz.func96 ⟨by kernel_rfl,by kernel_rfl⟩ rfl (s15 g0 g1 h))
 ·exact h.elim
noncomputable def KA:Cx:={ P:=Tryz.prog,inl:=fun f=>List.contains [73] f,tab:=tab36,isB:=fun f=>f==51||f==74,tabB:=tabB36,opt:={ unroll:=0,carry:=[9,10,13,14],cuts:=[17] },muts:=mutsD }
theorem okKA:CxOK KA:=CxOK.four tab36_ok (by kernel_rfl) (okInl (by kernel_rfl)) tabB36_ok
theorem div_lem {x:Nat} (h1:1<=st) (hx:st*x<=100000):IntKind.wrap .i64 (Int.tdiv ((st*x:Nat):Int) (st:Int))=(x:Int):=by
 have h2:1*x<=st*x:=Nat.mul_le_mul_right x h1
 rw [Int.tdiv_eq_ediv_of_nonneg (by omega),Int.natCast_mul,Int.mul_ediv_cancel_left _ (by omega),wrap_i64 (by omega)]
def sh36e (s:Int) (b:Option Addr) (l c:Nat) (kb:Option Addr) (kn kc:Nat) (g:Int) (h o i n cap tot:Nat) (rs:List FRow) (E:Mem):St:=⟨[none,oL kb kn kc,oc 0 0,none,none,none,oI g,oI (h:Nat),oI (o:Nat),os 1 0 n cap,oI (i:Nat)]++nn 83,[⟨24,.lst [I s,L b l c],2,true⟩,⟨24,.vals (rs.flatMap rowV),tot,true⟩],E⟩
def sh36w (s:Int) (b:Option Addr) (l c:Nat) (kb:Option Addr) (kn kc:Nat) (g:Int) (o i k n cap tot:Nat) (rs:List FRow) (E:Mem):St:=⟨[none,oL kb kn kc,oc 0 0,none,none,none,oI g,none,oI (o:Nat),os 1 0 n cap,none,none,none,oI (k:Nat),oI (i:Nat)]++nn 79,[⟨24,.lst [I s,L b l c],2,true⟩,⟨24,.vals (rs.flatMap rowV),tot,true⟩],E⟩
theorem rnd36e {q:Nat} {cap:Nat} (hst:1<=st/\zs.length=2*(st*q)/\p<=q/\m<=q) (hv:validF st zs.length)
  (R:FLr E rs (erasesL p m [((st:Int),zs)])) (hn:(erasesL p m [((st:Int),zs)]).length=n) (hc:n<=cap/\cap*2<=tot)
  (ih:∀ (n' cap' tot':Nat) (rs':List FRow) (E':Mem),m<q->Mem.le E E'->FLr E' rs' (erasesL p (m+1) [((st:Int),zs)])->(erasesL p (m+1) [((st:Int),zs)]).length=n'->n'<=cap'/\cap'*2<=tot'->Lp KA 8 Tryz.f50 [1,1,1,1,1,0,1,0] 0 KK (sh36e st b l c kb kn kc g (st*q) (st*p) (p+(m+1)) n' cap' tot' rs' E'))
  (hend:m=q->Lp KA 8 Tryz.f50 [1,1,1,1,1,1,1,0,1,0] 0 KK (sh36w st b l c kb kn kc g (st*p) 0 (st*p+5) n cap tot rs E)):
  Rnd KA 8 Tryz.f50 [1,1,1,1,1,0,1,0] 0 KK (sh36e st b l c kb kn kc g (st*q) (st*p) (p+m) n cap tot rs E):=by
 refine sm_ (?_:((NI st)=(0:Int)->False)/\bif decide ((NI (p+m))<WI (Int.tdiv (WI ((NI (st*p))+(NI (st*q)))) (NI st))) then req ((0:Int)<=WI ((NI n)-1)/\WI ((NI n)-1)<(NI n)) (∃ (n_1:Int),∃ (base:Option Addr),∃ (len:Nat),∃ (cap_1:Nat),LoadV KA.P 24 (List.flatMap rowV rs) (0+Int.toNat (WI ((NI n)-1))*2) (SV.agg [I n_1,L base len cap_1])/\∃ (zs:List Int),Bs E base len cap_1 zs/\∀ (b':Option Addr) (l' c':Nat) (ms:List (Int×List Int)) (e:Int) (E':Mem),Mem.le E E'->Hyp (erasF n_1 zs (NI (p+m))=(ms,e))->FL E' b' l' c' ms->Mem.le E E'/\bif decide ((NI l')>0) then req (l'<=c') (req ((0:Int)<=(1:Int)/\1<=(NI (toN none l'))) (∀ (base':Option Addr) (E'_1:Mem),Mem.le E' E'_1->(∀ (cs:List Value),E' (VS b' l' c') cs->E'_1 (VS base' (toN none l'-1) (toN none c'-1)) (List.take ((toN none l'-1)*2) (List.drop 2 cs)))->Option.isNone base'=Option.isNone b'->∃ (cs:List Value),(cs=[]\/E'_1 (VS base' (toN none l'-1) (toN none c'-1)) cs)/\(toN none l'-1)*2<=List.length cs/\(∀ (x:Value),List.Mem x cs->Value.oneCell' x=true)/\n*2<=List.length (Row.cells (Row.vals (List.flatMap rowV rs)))/\cap*2<=tot/\n<=cap/\req ((n+(toN none l'-1))*32<=140737488355328) (∀ (cap' tot':Nat),n+(toN none l'-1)<=cap'->cap'*2<=tot'->Lp KA 8 Tryz.f50 [1,1,1,1,1,0,1,0] 0 KK { fr:=none::oL kb kn kc::oc 0 0::none::none::none::oI g::oI (NI (st*q))::oI (NI (st*p))::os 2 0 (n+(toN none l'-1)) cap'::oI (WI ((NI (p+m))+(1:Int)))::no32 (no32 (no16 (no2 (none::[])))),bx:=[(⟨24,.lst [I (NI st),L b l c],2,true⟩:Box),⟨24,.lst [],0,false⟩,⟨24,.vals (List.take (n*2) (List.flatMap rowV rs)++List.take ((toN none l'-1)*2) cs),tot',true⟩],E:=E'_1:St }))) else Lp KA 8 Tryz.f50 [1,1,1,1,1,0,1,0] 0 KK { fr:=none::oL kb kn kc::oc 0 0::none::none::none::oI g::oI (NI (st*q))::oI (NI (st*p))::os 1 0 n cap::oI (WI ((NI (p+m))+(1:Int)))::no32 (no32 (no16 (no2 (none::[])))),bx:=[(⟨24,.lst [I (NI st),L b l c],2,true⟩:Box),⟨24,.vals (List.flatMap rowV rs),tot,true⟩],E:=E':St }) else Lp KA 8 Tryz.f50 [1,1,1,1,1,1,1,0,1,0] 0 KK { fr:=none::oL kb kn kc::oc 0 0::none::none::none::oI g::oI (NI (st*q))::oI (NI (st*p))::os 1 0 n cap::oI (NI (p+m))::none::none::oI (WI ((NI (st*p))+(5:Int)))::oI 0::no16 (oI (NI (p+m))::oI (NI (st*p))::oI (NI (st*q))::oI (WI ((NI (st*p))+(NI (st*q))))::oc 0 0::oI (NI st)::oI (WI (Int.tdiv (WI ((NI (st*p))+(NI (st*q)))) (NI st)))::oB (decide ((NI (p+m))<WI (Int.tdiv (WI ((NI (st*p))+(NI (st*q)))) (NI st))))::no16 (no4 (oI (NI (st*p))::oI (WI ((NI (st*p))+(5:Int)))::no32 (none::[])))),bx:=[(⟨24,.lst [I (NI st),L b l c],2,true⟩:Box),⟨24,.vals (List.flatMap rowV rs),tot,true⟩],E:=E:St })
 delta WI NI VS no2 no4 no16 no32
 obtain ⟨h1,hz,hpq,hmq⟩:=hst
 have hz16:zs.length<=16384:=hv.2.2.2.1
 have hpq2:st*p<=st*q:=Nat.mul_le_mul_left st hpq
 have hmq2:st*m<=st*q:=Nat.mul_le_mul_left st hmq
 have hq1:1*q<=st*q:=Nat.mul_le_mul_right q h1
 have hpm:(p+m)*st=st*p+st*m:=by rw [Nat.mul_comm,Nat.mul_add]
 obtain ⟨z',hlast,hz',hlen⟩:=erasesL_ok (p:=p) (m:=m) hv (by rw [hpm];omega)
 rw [hn,Nat.mul_comm m st] at hlen
 have e:IntKind.wrap .i64 (Int.tdiv (IntKind.wrap .i64 (((st*p:Nat):Int)+((st*q:Nat):Int))) (st:Int))=((p+q:Nat):Int):=by
  rw [wrap_i64 (x:=((st*p:Nat):Int)+((st*q:Nat):Int)) (by omega),show ((st*p:Nat):Int)+((st*q:Nat):Int)=((st*(p+q):Nat):Int) by rw [Nat.mul_add];omega]
  exact div_lem h1 (by rw [Nat.mul_add];omega)
 have ei:IntKind.wrap .i64 (((p+m:Nat):Int)+1)=((p+(m+1):Nat):Int):=by rw [wrap_i64 (by omega)];omega
 have eo:IntKind.wrap .i64 (((st*p:Nat):Int)+5)=((st*p+5:Nat):Int):=by rw [wrap_i64 (by omega)];omega
 rw [e,ei,eo]
 refine ⟨by omega,condC (fun g=>?_) (fun g=>?_)⟩
 ·have g:m<q:=by simp at g;omega
  obtain ⟨n1,b2,l2,c2,ld,lb⟩:=last_load R hn (by omega) (by omega)
  rw [hlast] at ld lb
  have hm1:st*(m+1)<=st*q:=Nat.mul_le_mul_left st g
  obtain ⟨ee1,ee2,ee3⟩:=erasL_ok (k:=p+m) hlast (by rw [hz'];exact hv) (by rw [Nat.mul_comm,Nat.add_assoc,Nat.mul_add,hz'];omega)
  refine req_intro n1 ⟨_,b2,l2,c2,ld,_,lb,fun b3 l3 c3 m3 e3 E2 k2 r2 F2=>⟨k2,?_⟩⟩
  have r2:erasF (st:Int) z' ((p+m:Nat):Int)=(m3,e3):=r2
  have hl3:=F2.len
  rw [r2] at ee3
  have ee3:m3.length=st+1:=ee3
  have ht3:toN none l3=l3:=rfl
  refine condC (fun g2=>?_) (fun g2=>by simp at g2;omega)
  have hs1:st<=1024:=by have:=hv.2.1;omega
  refine tail_app F2 (by omega) (R.mono k2) hn hc (by omega) fun base' E3 cs cap3 tot3 rs3 ec k3 R3 n3 g3 g4=>?_
  rw [ec]
  have ep:chgF (erasesL p m [((st:Int),zs)]) m3=erasesL p (m+1) [((st:Int),zs)]:=by
   show _=erasL (erasesL p m [((st:Int),zs)]) (p+m)
   unfold erasL
   rw [hlast]
   show _=chgF _ (erasF (st:Int) z' ((p+m:Nat):Int)).1
   rw [r2]
  rw [ep] at R3 n3
  exact Lp_re [some 0,some 2] (ih _ cap3 tot3 rs3 E3 g (mt_ k2 k3) R3 n3 ⟨g3,g4⟩) (wkG mr_)
 ·have g:m=q:=by simp at g;omega
  exact Lp_re [some 0,some 1] (hend g) (wkG mr_)
theorem rnd36w {cap len:Nat} {keep:List (List Int)} (hk:BL E kb kn kc keep) (R:FLr E rs ms) (hn:ms.length=n) (hc:n<=cap/\cap*2<=tot) (hb:1<=n/\n<=100000000) (hv:validF (lastM ms).1 len/\(lastM ms).2.length=len) (hi:i<=kn/\kn<=100000) (hroom:k+(needF keep-needF (keep.take i))<=len)
  (ih:∀ (d:List Int) (n' cap' tot':Nat) (rs':List FRow) (E':Mem),keep[i]? =some d->Mem.le E E'->FLr E' rs' (writeL ms k d)->(writeL ms k d).length=n'->n'<=cap'/\cap'*2<=tot'->Lp KA 8 Tryz.f50 [1,1,1,1,1,1,1,0,1,0] 0 KK (sh36w s b l c kb kn kc g o (i+1) (k+d.length+11) n' cap' tot' rs' E'))
  (hend:i=kn->Ct KA 8 Tryz.f50 [1,1,1,1,1,1,1,1] 0 KK (sh36w s b l c kb kn kc g o i k n cap tot rs E)):Rnd KA 8 Tryz.f50 [1,1,1,1,1,1,1,0,1,0] 0 KK (sh36w s b l c kb kn kc g o i k n cap tot rs E):=by
 refine sm_ (?_:bif decide ((NI i)<(NI kn)) then req (0<=(NI i)/\(NI i)<(NI kn)) (nE E kb kn kc/\∃ (base:Option Addr),∃ (len:Nat),∃ (cap_1:Nat),LoadE KA.P E 22 (VS kb kn kc) (Int.toNat (NI i)*1) (L base len cap_1)/\∃ (rs_1:List FRow),∃ (ms:List (Int×List Int)),∃ (ds:List Int),(24=24/\List.flatMap rowV rs=List.flatMap rowV rs_1/\FLr E rs_1 ms/\List.length ms=n/\(n<=cap/\cap*2<=tot)/\(1<=n/\n<=100000000000)/\Bs E base len cap_1 ds/\validF (lastM ms).fst (List.length (lastM ms).snd)/\0<=(NI k)/\Int.toNat (NI k)+len+11<=List.length (lastM ms).snd)/\∀ (n' cap' tot':Nat) (rs':List FRow) (E':Mem),Mem.le E E'->FLr E' rs' (writeL ms (Int.toNat (NI k)) ds)->Hyp (List.length (writeL ms (Int.toNat (NI k)) ds)=n')->n'<=cap'/\cap'*2<=tot'->req (0<=(NI i)/\(NI i)<(NI kn)) (nE E' kb kn kc/\∃ (base:Option Addr),∃ (len:Nat),∃ (cap:Nat),LoadE KA.P E' 22 (VS kb kn kc) (Int.toNat (NI i)*1) (L base len cap)/\Lp KA 8 Tryz.f50 [1,1,1,1,1,1,1,0,1,0] 0 KK { fr:=none::oL kb kn kc::oc 0 0::none::none::none::oI g::none::oI (NI o)::os 2 0 n' cap'::none::none::none::oI (WI (WI ((NI k)+(NI len))+(11:Int)))::oI (WI ((NI i)+1))::no32 (no32 (no8 (no4 (no2 (none::[]))))),bx:=[(⟨24,.lst [I s,L b l c],2,true⟩:Box),⟨24,.lst [],0,false⟩,⟨24,.vals (List.flatMap rowV rs'),tot',true⟩],E:=E':St })) else Ct KA 8 Tryz.f50 [1,1,1,1,1,1,1,1] 0 KK { fr:=none::oL kb kn kc::oc 0 0::none::none::none::oI g::none::oI (NI o)::os 1 0 n cap::none::none::none::oI (NI k)::oI (NI i)::no32 (no8 (no4 (no2 (oI (NI i)::oL kb kn kc::oI (NI kn)::oB (decide ((NI i)<(NI kn)))::no16 (no8 (no4 (none::[]))))))),bx:=[(⟨24,.lst [I s,L b l c],2,true⟩:Box),⟨24,.vals (List.flatMap rowV rs),tot,true⟩],E:=E:St })
 delta WI NI VS no2 no4 no8 no16 no32
 obtain ⟨hv1,hv2⟩:=hv
 have hlen:len<=16384:=hv1.2.2.2.1
 refine condC (fun g=>?_) (fun g=>?_)
 ·have g:i<kn:=by simpa using g
  obtain ⟨d,ed⟩:=hk.get g
  obtain ⟨p1,b1,l1,c1,p2,p3⟩:=hk.load ed
  have hd:=p3.2.1
  have hnt:=needF_take ed
  have hnm:=needF_mono (keep:=keep) (i:=i+1)
  have hkn:=hk.len
  refine req_intro (by omega) ⟨p1,b1,l1,c1,p2,rs,ms,d,⟨rfl,rfl,R,hn,hc,by omega,p3,by rw [hv2];exact hv1,by omega,by rw [Int.toNat_natCast];omega⟩,fun n' cap' tot' rs' E1 k1 R1 n1 c1'=>?_⟩
  rw [Int.toNat_natCast] at R1 n1
  obtain ⟨q1,b2,l2,c2,q2,q3⟩:=BL.load (hk.mono RB_ok k1) ed
  have hd2:=q3.2.1
  refine req_intro (by omega) ⟨q1,b2,l2,c2,q2,?_⟩
  have ek:IntKind.wrap .i64 (IntKind.wrap .i64 ((k:Int)+((l2:Nat):Int))+11)=((k+d.length+11:Nat):Int):=by rw [wrap_i64 (x:=(k:Int)+((l2:Nat):Int)) (by omega),wrap_i64 (by omega)];omega
  rw [ek,wrap_i64 (x:=(i:Int)+1) (by omega),show (i:Int)+1=((i+1:Nat):Int) by simp]
  exact Lp_re [some 0,some 2] (ih d n' cap' tot' rs' E1 ed k1 R1 n1 c1') (wkG mr_)
 ·have g:i=kn:=by simp at g;omega
  exact Ct_re [some 0,some 1] (hend g) (wkG mr_)
theorem pc36 {cap:Nat} (R:FLr E rs ms) (hn:ms.length=n) (hc:n<=cap/\cap*2<=tot) (hb:1<=n/\n<=100000000) (hv:validF (lastM ms).1 (lastM ms).2.length) (ho:o+5<=(lastM ms).2.length) (hg:0<=g/\g<4294967296)
  (h:∀ (n' cap' tot':Nat) (rs':List FRow) (E':Mem),Mem.le E E'->FLr E' rs' (progL (progL ms (o+1) (storF (g+1) 4)) o [90])->(progL (progL ms (o+1) (storF (g+1) 4)) o [90]).length=n'->n'<=cap'/\cap'*2<=tot'->
   KK (.slc 5 0 n' cap') [⟨24,.lst [I s,L b l c],2,true⟩,⟨24,.lst [],0,false⟩,⟨5,.vals (vB (storF (g+1) 4)),4,false⟩,⟨24,.lst [],0,false⟩,⟨5,.lst [.raw (.int .u8 90)],1,false⟩,⟨24,.vals (rs'.flatMap rowV),tot',true⟩] E'):Pc KA 8 Tryz.f50 [1,1,1,1,1,1,1,1] 0 KK (sh36w s b l c kb kn kc g o i k n cap tot rs E):=by
 refine sm_ (?_:IntKind.u64=IntKind.u64/\(((0:Int)<=IntKind.wrap IntKind.u64 (WI (g+(1:Int)))/\IntKind.wrap IntKind.u64 (WI (g+(1:Int)))<(18446744073709551616:Int))/\(0:Int)<=(4:Int)/\(4:Int)<=(8:Int))/\Mem.le E E/\req ((0:Int)<=WI ((NI n)-1)/\WI ((NI n)-1)<(NI n)) (∃ (n_1:Int),∃ (base:Option Addr),∃ (len:Nat),∃ (cap_1:Nat),LoadV KA.P 24 (List.flatMap rowV rs) (0+Int.toNat (WI ((NI n)-1))*2) (SV.agg [I n_1,L base len cap_1])/\∀ (base_1:Option Addr) (E':Mem),Mem.le E E'->WinE E' base_1 [U8 (IntKind.wrap IntKind.u64 (WI (g+(1:Int))) / (16777216:Int) % (256:Int)),U8 (IntKind.wrap IntKind.u64 (WI (g+(1:Int))) / (65536:Int) % (256:Int)),U8 (IntKind.wrap IntKind.u64 (WI (g+(1:Int))) / (256:Int) % (256:Int)),U8 (IntKind.wrap IntKind.u64 (WI (g+(1:Int))) / (1:Int) % (256:Int))]->∃ (zs:List Int),∃ (ds:List Int),Bs E' base len cap_1 zs/\Bs E' (Option.map (fun (x:Addr)=>Addr.add x 0) base_1) 4 4 ds/\∀ (b':Option Addr) (l' c':Nat) (ms:List (Int×List Int)) (e:Int) (E'_1:Mem),Mem.le E' E'_1->Hyp (progF n_1 zs (WI ((NI o)+1)) ds=(ms,e))->FL E'_1 b' l' c' ms->bif (NI l')==0 then req ((0:Int)<=WI ((NI n)-1)/\WI ((NI n)-1)<(NI n)) (∃ (n_2:Int),∃ (base:Option Addr),∃ (len:Nat),∃ (cap_2:Nat),LoadV KA.P 24 (List.flatMap rowV rs) (0+Int.toNat (WI ((NI n)-1))*2) (SV.agg [I n_2,L base len cap_2])/\∀ (base_2:Option Addr) (E':Mem),Mem.le E'_1 E'->WinE E' base_2 [U8 90]->∃ (zs:List Int),∃ (ds:List Int),Bs E' base len cap_2 zs/\Bs E' (Option.map (fun (x:Addr)=>Addr.add x 0) base_2) 1 1 ds/\∀ (b':Option Addr) (l' c':Nat) (ms:List (Int×List Int)) (e:Int) (E'_2:Mem),Mem.le E' E'_2->Hyp (progF n_2 zs (NI o) ds=(ms,e))->FL E'_2 b' l' c' ms->bif (NI l')==0 then KK (SV.slc 1 0 n cap) [⟨24,.lst [I s,L b l c],2,true⟩,⟨24,.vals (List.flatMap rowV rs),tot,true⟩,⟨5,.vals [U8 (IntKind.wrap IntKind.u64 (WI (g+(1:Int))) / (16777216:Int) % (256:Int)),U8 (IntKind.wrap IntKind.u64 (WI (g+(1:Int))) / (65536:Int) % (256:Int)),U8 (IntKind.wrap IntKind.u64 (WI (g+(1:Int))) / (256:Int) % (256:Int)),U8 (IntKind.wrap IntKind.u64 (WI (g+(1:Int))) / (1:Int) % (256:Int))],4,false⟩,⟨5,.lst [SV.raw (U8 90)],1,false⟩] E'_2 else req (l'<=c') (req ((0:Int)<=(1:Int)/\1<=(NI (toN none l'))) (∀ (base':Option Addr) (E':Mem),Mem.le E'_2 E'->(∀ (cs:List Value),E'_2 (VS b' l' c') cs->E' (VS base' (toN none l'-1) (toN none c'-1)) (List.take ((toN none l'-1)*2) (List.drop 2 cs)))->Option.isNone base'=Option.isNone b'->∃ (cs:List Value),(cs=[]\/E' (VS base' (toN none l'-1) (toN none c'-1)) cs)/\(toN none l'-1)*2<=List.length cs/\(∀ (x:Value),List.Mem x cs->Value.oneCell' x=true)/\n*2<=List.length (Row.cells (Row.vals (List.flatMap rowV rs)))/\cap*2<=tot/\n<=cap/\req ((n+(toN none l'-(1:Nat)))*(32:Nat)<=(140737488355328:Nat)) (∀ (cap' tot':Nat),n+(toN none l'-(1:Nat))<=cap'->cap'*(2:Nat)<=tot'->KK (SV.slc 4 0 (n+(toN none l'-(1:Nat))) cap') [⟨(24:Nat),Row.lst [I s,L b l c],(2:Nat),true⟩,⟨(24:Nat),Row.lst [],(0:Nat),false⟩,⟨(5:Nat),Row.vals [U8 (IntKind.wrap IntKind.u64 (WI (g+(1:Int))) / (16777216:Int) % (256:Int)),U8 (IntKind.wrap IntKind.u64 (WI (g+(1:Int))) / (65536:Int) % (256:Int)),U8 (IntKind.wrap IntKind.u64 (WI (g+(1:Int))) / (256:Int) % (256:Int)),U8 (IntKind.wrap IntKind.u64 (WI (g+(1:Int))) / (1:Int) % (256:Int))],(4:Nat),false⟩,⟨(5:Nat),Row.lst [SV.raw (U8 90)],(1:Nat),false⟩,⟨(24:Nat),Row.vals (List.take (n*(2:Nat)) (List.flatMap rowV rs)++List.take ((toN none l'-(1:Nat))*(2:Nat)) cs),tot',true⟩] E')))) else req (l'<=c') (req ((0:Int)<=(1:Int)/\1<=(NI (toN none l'))) (∀ (base':Option Addr) (E':Mem),Mem.le E'_1 E'->(∀ (cs:List Value),E'_1 (VS b' l' c') cs->E' (VS base' (toN none l'-1) (toN none c'-1)) (List.take ((toN none l'-1)*2) (List.drop 2 cs)))->Option.isNone base'=Option.isNone b'->∃ (cs:List Value),(cs=[]\/E' (VS base' (toN none l'-1) (toN none c'-1)) cs)/\(toN none l'-1)*2<=List.length cs/\(∀ (x:Value),List.Mem x cs->Value.oneCell' x=true)/\n*2<=List.length (Row.cells (Row.vals (List.flatMap rowV rs)))/\cap*2<=tot/\n<=cap/\req ((n+(toN none l'-1))*32<=140737488355328) (∀ (cap' tot':Nat),n+(toN none l'-1)<=cap'->cap'*2<=tot'->req ((0:Int)<=WI ((NI (n+(toN none l'-1)))-(1:Int))/\WI ((NI (n+(toN none l'-1)))-(1:Int))<(NI (n+(toN none l'-1)))) (∃ (n_2:Int),∃ (base:Option Addr),∃ (len:Nat),∃ (cap:Nat),LoadV KA.P 24 (List.take (n*2) (List.flatMap rowV rs)++List.take ((toN none l'-1)*2) cs) (0+Int.toNat (WI ((NI (n+(toN none l'-(1:Nat))))-(1:Int)))*2) (SV.agg [I n_2,L base len cap])/\∀ (base_2:Option Addr) (E'_2:Mem),Mem.le E' E'_2->WinE E'_2 base_2 [U8 90]->∃ (zs:List Int),∃ (ds:List Int),Bs E'_2 base len cap zs/\Bs E'_2 (Option.map (fun (x:Addr)=>Addr.add x 0) base_2) 1 1 ds/\∀ (b':Option Addr) (l'_1 c':Nat) (ms:List (Int×List Int)) (e:Int) (E':Mem),Mem.le E'_2 E'->Hyp (progF n_2 zs (NI o) ds=(ms,e))->FL E' b' l'_1 c' ms->bif (NI l'_1)==0 then KK (SV.slc 3 0 (n+(toN none l'-(1:Nat))) cap') [⟨(24:Nat),Row.lst [I s,L b l c],(2:Nat),true⟩,⟨(24:Nat),Row.lst [],(0:Nat),false⟩,⟨(5:Nat),Row.vals [U8 (IntKind.wrap IntKind.u64 (WI (g+(1:Int))) / (16777216:Int) % (256:Int)),U8 (IntKind.wrap IntKind.u64 (WI (g+(1:Int))) / (65536:Int) % (256:Int)),U8 (IntKind.wrap IntKind.u64 (WI (g+(1:Int))) / (256:Int) % (256:Int)),U8 (IntKind.wrap IntKind.u64 (WI (g+(1:Int))) / (1:Int) % (256:Int))],(4:Nat),false⟩,⟨(24:Nat),Row.vals (List.take (n*(2:Nat)) (List.flatMap rowV rs)++List.take ((toN none l'-(1:Nat))*(2:Nat)) cs),tot',true⟩,⟨(5:Nat),Row.lst [SV.raw (U8 90)],(1:Nat),false⟩] E' else req (l'_1<=c') (req ((0:Int)<=(1:Int)/\1<=(NI (toN none l'_1))) (∀ (base':Option Addr) (E'_3:Mem),Mem.le E' E'_3->(∀ (cs:List Value),E' (VS b' l'_1 c') cs->E'_3 (VS base' (toN none l'_1-(1:Nat)) (toN none c'-(1:Nat))) (List.take ((toN none l'_1-(1:Nat))*(2:Nat)) (List.drop 2 cs)))->Option.isNone base'=Option.isNone b'->∃ (cs_1:List Value),(cs_1=[]\/E'_3 (VS base' (toN none l'_1-(1:Nat)) (toN none c'-(1:Nat))) cs_1)/\(toN none l'_1-(1:Nat))*(2:Nat)<=List.length cs_1/\(∀ (x:Value),List.Mem x cs_1->Value.oneCell' x=true)/\(n+(toN none l'-(1:Nat)))*(2:Nat)<=List.length (Row.cells (Row.vals (List.take (n*(2:Nat)) (List.flatMap rowV rs)++List.take ((toN none l'-(1:Nat))*(2:Nat)) cs)))/\cap'*(2:Nat)<=tot'/\n+(toN none l'-(1:Nat))<=cap'/\req ((n+(toN none l'-(1:Nat))+(toN none l'_1-(1:Nat)))*(32:Nat)<=(140737488355328:Nat)) (∀ (cap' tot':Nat),n+(toN none l'-(1:Nat))+(toN none l'_1-(1:Nat))<=cap'->cap'*(2:Nat)<=tot'->KK (SV.slc 5 0 (n+(toN none l'-(1:Nat))+(toN none l'_1-(1:Nat))) cap') [⟨(24:Nat),Row.lst [I s,L b l c],(2:Nat),true⟩,⟨(24:Nat),Row.lst [],(0:Nat),false⟩,⟨(5:Nat),Row.vals [U8 (IntKind.wrap IntKind.u64 (WI (g+(1:Int))) / (16777216:Int) % (256:Int)),U8 (IntKind.wrap IntKind.u64 (WI (g+(1:Int))) / (65536:Int) % (256:Int)),U8 (IntKind.wrap IntKind.u64 (WI (g+(1:Int))) / (256:Int) % (256:Int)),U8 (IntKind.wrap IntKind.u64 (WI (g+(1:Int))) / (1:Int) % (256:Int))],(4:Nat),false⟩,⟨(24:Nat),Row.lst [],(0:Nat),false⟩,⟨(5:Nat),Row.lst [SV.raw (U8 90)],(1:Nat),false⟩,⟨(24:Nat),Row.vals (List.take ((n+(toN none l'-(1:Nat)))*(2:Nat)) (List.take (n*(2:Nat)) (List.flatMap rowV rs)++List.take ((toN none l'-(1:Nat))*(2:Nat)) cs)++List.take ((toN none l'_1-(1:Nat))*(2:Nat)) cs_1),tot',true⟩] E'_3)))))))))
 delta WI NI U8 VS
 have hvl:(lastM ms).2.length<=16384:=hv.2.2.2.1
 have eg:IntKind.wrap .u64 (IntKind.wrap .i64 (g+1))=g+1:=by rw [wrap_i64 (by omega),wu64' (by omega)]
 have eo:IntKind.wrap .i64 ((o:Int)+1)=((o+1:Nat):Int):=by rw [wrap_i64 (by omega)];omega
 rw [eg,eo]
 refine ⟨rfl,⟨⟨by omega,by omega⟩,by decide,by decide⟩,mr_,?_⟩
 obtain ⟨n1,b2,l2,c2,ld,lb⟩:=last_load R hn hb.1 (by omega)
 refine req_intro n1 ⟨_,b2,l2,c2,ld,fun base1 E1 k1 w1=>⟨_,storF (g+1) 4,lb.mono k1,Bs.win (zs:=storF (g+1) 4) w1 rfl (storF_len _ _) (Nat.le_refl _) (storF_byte _ _),fun b3 l3 c3 m3 e3 E2 k2 r2 F2=>?_⟩⟩
 have r2:progF (lastM ms).1 (lastM ms).2 ((o+1:Nat):Int) (storF (g+1) 4)=(m3,e3):=r2
 have hl3:m3.length=5:=by
  rw [progF_mk hv (by omega) (by rw [storF_len];omega)] at r2
  rw [← (Prod.mk.inj r2).1,mems_len,storF_len]
 have hl3':=F2.len
 have ht3:toN none l3=l3:=rfl
 refine condC (fun g=>by simp at g;omega) (fun _=>?_)
 refine tail_app F2 (by omega) (R.mono (mt_ k1 k2)) hn hc (by omega) fun base' E3 cs cap3 tot3 rs3 ec k3 R3 n3 g1 g2=>?_
 have ep:chgF ms m3=progL ms (o+1) (storF (g+1) 4):=by
  rw [show progL ms (o+1) (storF (g+1) 4)=chgF ms (progF (lastM ms).1 (lastM ms).2 ((o+1:Nat):Int) (storF (g+1) 4)).1 from rfl,r2]
 rw [ep] at R3 n3
 obtain ⟨pl,pn⟩:=progL_ok (l:=ms) (a:=o+1) (ds:=storF (g+1) 4) hv (by rw [storF_len];omega) (by rw [storF_len];omega)
 have hv2:validF (lastM (progL ms (o+1) (storF (g+1) 4))).1 (lastM (progL ms (o+1) (storF (g+1) 4))).2.length:=by rw [pl];simp only [stp_len];exact hv
 have hz2:(lastM (progL ms (o+1) (storF (g+1) 4))).2.length=(lastM ms).2.length:=by rw [pl];simp only [stp_len]
 rw [ec]
 obtain ⟨n4,b4,l4,c4,ld4,lb4⟩:=last_load R3 n3 (by omega) (by omega)
 refine req_intro n4 ⟨_,b4,l4,c4,ld4,fun base5 E5 k5 w5=>⟨_,[90],lb4.mono k5,Bs.win (zs:=[90]) w5 rfl rfl (Nat.le_refl _) (by decide),fun b6 l6 c6 m6 e6 E6 k6 r6 F6=>?_⟩⟩
 have r6:progF (lastM (progL ms (o+1) (storF (g+1) 4))).1 (lastM (progL ms (o+1) (storF (g+1) 4))).2 (o:Int) [90]=(m6,e6):=r6
 have hl6:m6.length=2:=by
  rw [progF_mk hv2 (by omega) (by simp only [List.length_singleton];omega)] at r6
  rw [← (Prod.mk.inj r6).1,mems_len];rfl
 have hl6':=F6.len
 refine condC (fun g=>by simp at g;omega) (fun _=>?_)
 refine tail_app F6 (by omega) (R3.mono (mt_ k5 k6)) n3 ⟨g1,g2⟩ (by omega) fun base7 E7 cs7 cap7 tot7 rs7 ec7 k7 R7 n7 g3 g4=>?_
 rw [ec7]
 have ep7:chgF (progL ms (o+1) (storF (g+1) 4)) m6=progL (progL ms (o+1) (storF (g+1) 4)) o [90]:=by
  rw [show progL (progL ms (o+1) (storF (g+1) 4)) o [90]=chgF (progL ms (o+1) (storF (g+1) 4)) (progF (lastM (progL ms (o+1) (storF (g+1) 4))).1 (lastM (progL ms (o+1) (storF (g+1) 4))).2 (o:Int) [90]).1 from rfl,r6]
 rw [ep7] at R7 n7
 exact h _ cap7 tot7 rs7 E7 (mt_ k1 (mt_ k2 (mt_ k3 (mt_ k5 (mt_ k6 k7))))) R7 n7 ⟨g3,g4⟩
theorem lp36e {st q p:Nat} {b:Option Addr} {l c:Nat} {kb:Option Addr} {kn kc:Nat} {g:Int} {zs:List Int} {KK:KT} (hst:1<=st/\zs.length=2*(st*q)/\p<=q) (hv:validF st zs.length) {E0:Mem}
  (hend:∀ (n' cap' tot':Nat) (rs':List FRow) (E':Mem),Mem.le E0 E'->FLr E' rs' (erasesL p q [((st:Int),zs)])->(erasesL p q [((st:Int),zs)]).length=n'->n'<=cap'/\cap'*2<=tot'->Lp KA 8 Tryz.f50 [1,1,1,1,1,1,1,0,1,0] 0 KK (sh36w st b l c kb kn kc g (st*p) 0 (st*p+5) n' cap' tot' rs' E')):
  ∀ {r m n cap tot:Nat} {rs:List FRow} {E:Mem},m+r=q->Mem.le E0 E->FLr E rs (erasesL p m [((st:Int),zs)])->(erasesL p m [((st:Int),zs)]).length=n->(n<=cap/\cap*2<=tot)->Lp KA 8 Tryz.f50 [1,1,1,1,1,0,1,0] 0 KK (sh36e st b l c kb kn kc g (st*q) (st*p) (p+m) n cap tot rs E)
 | 0,m,n,cap,tot,rs,E,hr,hE,R,hn,hc=>Lp_ind (ι:=Unit) okKA (fun _=>sh36e st b l c kb kn kc g (st*q) (st*p) (p+m) n cap tot rs E) (fun _=>0) (fun _ _=>rnd36e ⟨hst.1,hst.2.1,hst.2.2,by omega⟩ hv R hn hc (fun _ _ _ _ _ g=>by omega) (fun g=>by subst g;exact hend n cap tot rs E hE R hn hc)) ()
 | r+1,m,n,cap,tot,rs,E,hr,hE,R,hn,hc=>Lp_ind (ι:=Unit) okKA (fun _=>sh36e st b l c kb kn kc g (st*q) (st*p) (p+m) n cap tot rs E) (fun _=>0) (fun _ _=>rnd36e ⟨hst.1,hst.2.1,hst.2.2,by omega⟩ hv R hn hc (fun n' cap' tot' rs' E' g k1 R1 n1 c1=>lp36e hst hv hend (r:=r) (by omega) (mt_ hE k1) R1 n1 c1) (fun g=>by omega)) ()
theorem lp36w {s:Int} {b:Option Addr} {l c:Nat} {kb:Option Addr} {kn kc:Nat} {g:Int} {o k0 len:Nat} {l0:List (Int×List Int)} {keep:List (List Int)} {KK:KT} {E0:Mem} (hk:BL E0 kb kn kc keep) (hkn:kn<=1000) (hv:validF (lastM l0).1 len/\(lastM l0).2.length=len) (hroom:k0+needF keep<=len) (hb0:1<=l0.length/\l0.length<=1000000)
  (hend:∀ (n' cap' tot' k':Nat) (rs':List FRow) (E':Mem),Mem.le E0 E'->FLr E' rs' (writesL k0 l0 keep).1->(writesL k0 l0 keep).1.length=n'->n'<=cap'/\cap'*2<=tot'->validF (lastM (writesL k0 l0 keep).1).1 len/\(lastM (writesL k0 l0 keep).1).2.length=len->1<=n'/\n'<=2000000->Ct KA 8 Tryz.f50 [1,1,1,1,1,1,1,1] 0 KK (sh36w s b l c kb kn kc g o kn k' n' cap' tot' rs' E')):
  ∀ {r i n cap tot:Nat} {rs:List FRow} {E:Mem},i+r=kn->Mem.le E0 E->FLr E rs (writesL k0 l0 (keep.take i)).1->(writesL k0 l0 (keep.take i)).1.length=n->(n<=cap/\cap*2<=tot)->(writesL k0 l0 (keep.take i)).2=k0+needF (keep.take i)->n=l0.length+needF (keep.take i)->validF (lastM (writesL k0 l0 (keep.take i)).1).1 len/\(lastM (writesL k0 l0 (keep.take i)).1).2.length=len->
   Lp KA 8 Tryz.f50 [1,1,1,1,1,1,1,0,1,0] 0 KK (sh36w s b l c kb kn kc g o i (k0+needF (keep.take i)) n cap tot rs E)
 | r,i,n,cap,tot,rs,E,hr,hE,R,hn,hc,h2,h3,h4=>by
  have hlen:len<=16384:=hv.1.2.2.2.1
  have hm:=needF_mono (keep:=keep) (i:=i)
  have hkl:=hk.len
  refine Lp_ind (ι:=Unit) okKA (fun _=>sh36w s b l c kb kn kc g o i (k0+needF (keep.take i)) n cap tot rs E) (fun _=>0) (fun _ _=>rnd36w (hk.mono RB_ok hE) R hn hc (by omega) h4 ⟨by omega,by omega⟩ (by omega) (fun d n' cap' tot' rs' E' ed k1 R1 n1 c1=>?_) (fun g=>?_)) ()
  ·have hi:i<kn:=by rw [← hkl];exact (List.getElem?_eq_some_iff.1 ed).1
   have hnt:=needF_take ed
   have hm1:=needF_mono (keep:=keep) (i:=i+1)
   obtain ⟨r,rfl⟩:∃ r',r=r'+1:=⟨r-1,by omega⟩
   have hs:=writesL_succ (k:=k0) (l:=l0) ed
   obtain ⟨w1,w2,w3⟩:=writeL_ok (l:=(writesL k0 l0 (keep.take i)).1) (a:=k0+needF (keep.take i)) (ds:=d) (by rw [h4.2];exact h4.1) (by rw [h4.2];omega)
   have hs1:(writesL k0 l0 (keep.take (i+1))).1=writeL (writesL k0 l0 (keep.take i)).1 (k0+needF (keep.take i)) d:=by rw [hs,h2]
   have hs2:(writesL k0 l0 (keep.take (i+1))).2=k0+needF (keep.take (i+1)):=by rw [hs,h2,hnt];show _+_+_=_;omega
   have key:=lp36w hk hkn hv hroom hb0 hend (r:=r) (i:=i+1) (n:=n') (cap:=cap') (tot:=tot') (rs:=rs') (E:=E') (by omega) (mt_ hE k1) (by rw [hs1];exact R1) (by rw [hs1];exact n1) c1 hs2 (by rw [← n1,w3,hn];omega) (by rw [hs1,w1,w2];exact h4)
   rw [hnt,← Nat.add_assoc,← Nat.add_assoc] at key
   exact key
  ·subst g
   have et:keep.take i=keep:=List.take_of_length_le (by omega)
   rw [et] at R hn h4 h3
   exact hend n cap tot _ rs E hE R hn hc h4 ⟨by omega,by omega⟩
theorem b36 {keep:List (List Int)} (hz:Bs E b l c zs) (hA:areaF s l≠0) (hu:usedF (areaF s l) zs=((a:Int),g)) (hk:BL E kb kn kc keep) (hkn:kn<=1000) (hroom:5+needF keep<=areaF s l)
  (h:∀ (n' cap' tot':Nat) (rs':List FRow) (E':Mem),Mem.le E E'->FLr E' rs' (rewL s zs (areaF s l) a g keep)->(rewL s zs (areaF s l) a g keep).length=n'->n'<=cap'/\cap'*2<=tot'->
   KK (.slc 5 0 n' cap') [⟨24,.lst [I s,L b l c],2,true⟩,⟨24,.lst [],0,false⟩,⟨5,.vals (vB (storF (g+1) 4)),4,false⟩,⟨24,.lst [],0,false⟩,⟨5,.lst [.raw (.int .u8 90)],1,false⟩,⟨24,.vals (rs'.flatMap rowV),tot',true⟩] E'):EntB KA 8 Tryz.f50 [.agg [I s,L b l c],L kb kn kc] [] E KK:=by
 refine sm_ (?_:∃ (zs:List Int),Bs E b l c zs/\(areaF s l=0->False)/\∀ (u g:Int) (E':Mem),Mem.le E E'->Hyp (usedF (areaF s l) zs=(u,g))->Mem.le E E'/\Mem.le E' E'/\(s=(0:Int)->False)/\Lp KA 8 Tryz.f50 [1,1,1,1,1,0,1,0] 0 KK { fr:=some (SV.agg [I s,L b l c])::oL kb kn kc::oc 0 0::none::oL none 0 0::oI u::oI g::oI (NI (areaF s l))::oI (WI ((NI (areaF s l))-u))::os 1 0 1 1::oI (WI (Int.tdiv (WI ((NI (areaF s l))-u)) s))::none::none::none::none::some (SV.tup [I u,I g])::some (SV.agg [I s,L b l c])::some (SV.tup [I u,I g])::oI u::oI g::some (SV.agg [I s,L b l c])::oI (NI (areaF s l))::oI (NI (areaF s l))::oI u::oI (WI ((NI (areaF s l))-u))::some (SV.agg [I s,L b l c])::os 1 0 1 1::oI (WI ((NI (areaF s l))-u))::oc 0 0::oI s::oI (WI (Int.tdiv (WI ((NI (areaF s l))-u)) s))::no32 (no16 (no8 (no4 (no2 (none::[]))))),bx:=[(⟨24,.lst [I s,L b l c],2,true⟩:Box),⟨24,.lst [I s,L b l c],2,true⟩],E:=E':St })
 delta WI NI no2 no4 no8 no16 no32
 have hzl:=hz.2.1
 obtain ⟨st,q,rfl,hq,hst1,hst2,hl⟩:=areaF_div hA
 obtain ⟨a1',hv,a3,a4,a5,a6⟩:=areaF_ok hA
 have ha:=used_ok hu
 have hg:0<=g/\g<4294967296:=by
  have h0:=genF_bd hz.2.2.2.1 0
  have h1:=genF_bd hz.2.2.2.1 (areaF st l)
  unfold usedF at hu
  by_cases q0:zs.getD 0 0=90
  ·rw [if_pos q0] at hu
   simp only at hu
   split at hu
   ·have:=(Prod.mk.inj hu).2;omega
   ·have:=(Prod.mk.inj hu).2;omega
  ·rw [if_neg q0] at hu
   simp only at hu
   split at hu
   ·have:=(Prod.mk.inj hu).2;omega
   ·have:=(Prod.mk.inj hu).1;omega
 obtain ⟨p,hp,hpq⟩:∃ p,areaF st l-a=st*p/\p<=q:=by
  rcases ha with rfl|rfl
  ·exact ⟨q,by omega,Nat.le_refl _⟩
  ·exact ⟨0,by omega,Nat.zero_le _⟩
 refine ⟨zs,hz,hA,fun u g2 E1 k1 r1=>⟨k1,mr_,by omega,?_⟩⟩
 have r1:usedF (areaF st l) zs=(u,g2):=r1
 rw [hu] at r1
 obtain ⟨rfl,rfl⟩:=Prod.mk.inj r1
 have e1:IntKind.wrap .i64 (((areaF st l:Nat):Int)-(a:Int))=((st*p:Nat):Int):=by rw [wrap_i64 (by omega)];omega
 have er:rewL st zs (areaF st l) a g keep=progL (progL (writesL (st*p+5) (erasesL p q [((st:Int),zs)]) keep).1 (st*p+1) (storF (g+1) 4)) (st*p) [90]:=by
  unfold rewL
  rw [hp,hq,Int.toNat_natCast,Nat.mul_div_cancel_left _ hst1,Nat.mul_div_cancel_left _ hst1]
 have hpq2:st*p<=st*q:=Nat.mul_le_mul_left st hpq
 rw [← hzl] at hv
 have hlen2:zs.length=2*(st*q):=by omega
 obtain ⟨z',ez1,ez2,ez3⟩:=erasesL_ok (st:=st) (p:=p) (m:=q) hv (by rw [Nat.mul_comm,Nat.mul_add];omega)
 rw [Nat.mul_comm q st] at ez3
 have fin:∀ (n' cap' tot':Nat) (rs':List FRow) (E':Mem),Mem.le E1 E'->FLr E' rs' (erasesL p q [((st:Int),zs)])->(erasesL p q [((st:Int),zs)]).length=n'->n'<=cap'/\cap'*2<=tot'->Lp KA 8 Tryz.f50 [1,1,1,1,1,1,1,0,1,0] 0 KK (sh36w st b l c kb kn kc g (st*p) 0 (st*p+5) n' cap' tot' rs' E'):=
  fun n' cap' tot' rs' E' k2 R2 n2 c2=>lp36w (len:=zs.length) (k0:=st*p+5) (l0:=erasesL p q [((st:Int),zs)]) (hk.mono RB_ok k1) hkn ⟨by rw [ez1];exact hv,by rw [ez1];exact ez2⟩ (by omega) ⟨by omega,by omega⟩
   (fun n3 cap3 tot3 k3 rs3 E3 q3 R3 l3 c3 v3 b3=>Ct_intro okKA (pc36 R3 l3 c3 ⟨b3.1,by omega⟩ (by rw [v3.2];exact v3.1) (by rw [v3.2];omega) hg (fun n4 cap4 tot4 rs4 E4 q4 R4 l4 c4=>by rw [← er] at R4 l4;exact h n4 cap4 tot4 rs4 E4 (mt_ k1 (mt_ q3 q4)) R4 l4 c4))) (r:=kn) (i:=0) (by omega) k2 R2 n2 c2 rfl (by rw [← n2];rfl) ⟨by show validF (lastM (erasesL p q [((st:Int),zs)])).1 _;rw [ez1];exact hv,by show (lastM (erasesL p q [((st:Int),zs)])).2.length=_;rw [ez1];exact ez2⟩
 have key:=lp36e (st:=st) (q:=q) (p:=p) (b:=b) (l:=l) (c:=c) (kb:=kb) (kn:=kn) (kc:=kc) (g:=g) ⟨hst1,hlen2,hpq⟩ hv fin (r:=q) (m:=0) (n:=1) (cap:=1) (tot:=2) (rs:=[((st:Int),b,l,c)]) (by omega) mr_ ((FLr.nil E1).snoc (r:=((st:Int),b,l,c)) (m:=((st:Int),zs)) rfl (hz.mono k1)) rfl ⟨Nat.le_refl _,Nat.le_refl _⟩
 rw [e1,div_lem hst1 (by omega)]
 rw [hq]
 exact Lp_re [some 0,some 1] (key) (wkG mr_)
theorem needF_cons (d:List Int) (l:List (List Int)):needF (d::l)=d.length+11+needF l:=by
 have key:∀ (ds:List (List Int)) (n:Nat),ds.foldl (fun n d=>n+d.length+11) n=n+needF ds:=by
  intro ds
  induction ds with
  | nil=>intro n;rfl
  | cons d ds ih=>
   intro n
   unfold needF
   simp only [List.foldl_cons]
   rw [ih,ih];omega
 unfold needF
 simp only [List.foldl_cons]
 rw [key];unfold needF;omega
theorem parseN_need:∀ (f:Nat) (r:List Int) (l:List (List Int)) (n:Nat),parseN f r=some (l,n)->needF l=n
 | 0,r,l,n,h=>by
  simp [parseN] at h
  obtain ⟨rfl,rfl⟩:=h;rfl
 | f+1,r,l,n,h=>by
  unfold parseN at h
  split at h
  ·simp at h;obtain ⟨rfl,rfl⟩:=h;rfl
  split at h
  ·cases h
  split at h
  ·cases h
  split at h
  ·cases h
  rename_i hl _
  cases hp:parseN f (r.drop ((numF ((r.drop 1).take 2)).toNat+11)) with
  | none=>rw [hp] at h;cases h
  | some q=>
   rw [hp] at h
   simp only [Option.map_some,Option.some.injEq,Prod.mk.injEq] at h
   have:=parseN_need f _ q.1 q.2 hp
   obtain ⟨rfl,rfl⟩:=h
   rw [needF_cons,this,List.length_take,List.length_drop]
   omega
theorem parseF_need {l:List (List Int)} (h:parseF r=some (l,n)):needF l=n:=parseN_need _ _ _ _ h
theorem writesL_cons (k:Nat) (l:List (Int×List Int)) (d:List Int) (keep:List (List Int)):writesL k l (d::keep)=writesL (k+d.length+11) (writeL l k d) keep:=rfl
theorem writesL_ok {len:Nat}:∀ {keep:List (List Int)} {k:Nat} {l:List (Int×List Int)},validF (lastM l).1 len->(lastM l).2.length=len->k+needF keep<=len->
  (lastM (writesL k l keep).1).1=(lastM l).1/\(lastM (writesL k l keep).1).2.length=len/\(writesL k l keep).1.length=l.length+needF keep/\(writesL k l keep).2=k+needF keep
 | [],k,l,hv,hl,hr=>⟨rfl,hl,rfl,rfl⟩
 | d::keep,k,l,hv,hl,hr=>by
  rw [needF_cons] at hr ⊢
  obtain ⟨w1,w2,w3⟩:=writeL_ok (l:=l) (a:=k) (ds:=d) (by rw [hl];exact hv) (by rw [hl];omega)
  obtain ⟨i1,i2,i3,i4⟩:=writesL_ok (keep:=keep) (k:=k+d.length+11) (l:=writeL l k d) (by rw [w1];exact hv) (by rw [w2,hl]) (by omega)
  rw [writesL_cons]
  exact ⟨by rw [i1,w1],i2,by rw [i3,w3];omega,by rw [i4];omega⟩
theorem rewL_ok {keep:List (List Int)} (hA:areaF s zs.length≠0) (ha:a=0\/a=areaF s zs.length) (hroom:5+needF keep<=areaF s zs.length):
  (lastM (rewL s zs (areaF s zs.length) a g keep)).1=s/\(lastM (rewL s zs (areaF s zs.length) a g keep)).2.length=zs.length/\(rewL s zs (areaF s zs.length) a g keep).length=1+areaF s zs.length+needF keep+5:=by
 obtain ⟨st,q,rfl,hq,hst1,hst2,hl⟩:=areaF_div hA
 obtain ⟨a1',hv,a3,a4,a5,a6⟩:=areaF_ok hA
 obtain ⟨p,hp,hpq⟩:∃ p,areaF st zs.length-a=st*p/\p<=q:=by
  rcases ha with rfl|rfl
  ·exact ⟨q,by omega,Nat.le_refl _⟩
  ·exact ⟨0,by omega,Nat.zero_le _⟩
 have hpq2:st*p<=st*q:=Nat.mul_le_mul_left st hpq
 obtain ⟨z',ez1,ez2,ez3⟩:=erasesL_ok (st:=st) (p:=p) (m:=q) hv (by rw [Nat.mul_comm,Nat.mul_add];omega)
 rw [Nat.mul_comm q st] at ez3
 obtain ⟨w1,w2,w3,w4⟩:=writesL_ok (len:=zs.length) (keep:=keep) (k:=st*p+5) (l:=erasesL p q [((st:Int),zs)]) (by rw [ez1];exact hv) (by rw [ez1];exact ez2) (by omega)
 have hv1:validF (lastM (writesL (st*p+5) (erasesL p q [((st:Int),zs)]) keep).1).1 (lastM (writesL (st*p+5) (erasesL p q [((st:Int),zs)]) keep).1).2.length:=by rw [w1,w2,ez1];exact hv
 obtain ⟨pl,pn⟩:=progL_ok (l:=(writesL (st*p+5) (erasesL p q [((st:Int),zs)]) keep).1) (a:=st*p+1) (ds:=storF (g+1) 4) hv1 (by rw [w2,storF_len];omega) (by rw [storF_len];omega)
 obtain ⟨ql,qn⟩:=progL_ok (l:=progL (writesL (st*p+5) (erasesL p q [((st:Int),zs)]) keep).1 (st*p+1) (storF (g+1) 4)) (a:=st*p) (ds:=[90]) (by rw [pl];simp only [stp_len];exact hv1) (by rw [pl];simp only [stp_len,List.length_singleton];omega) (by decide)
 have er:rewL st zs (areaF st zs.length) a g keep=progL (progL (writesL (st*p+5) (erasesL p q [((st:Int),zs)]) keep).1 (st*p+1) (storF (g+1) 4)) (st*p) [90]:=by
  unfold rewL
  rw [hp,hq,Int.toNat_natCast,Nat.mul_div_cancel_left _ hst1,Nat.mul_div_cancel_left _ hst1]
 rw [er]
 refine ⟨by rw [ql,pl,w1,ez1],by rw [ql,pl];simp only [stp_len];exact w2,by rw [qn,pn,w3,ez3,storF_len,hq];simp⟩
theorem appendF_eq {old:List (List Int)} (ds:List Int) (ho:openF s zs=((old,a,g,e),0)):appendF s zs ds=
  if e+ds.length+11>areaF s zs.length\/cleanF (areaF s zs.length) a e zs=false/\g=4294967295 then ([],10)
  else if cleanF (areaF s zs.length) a e zs then (writeL [(s,zs)] (a+e) ds,0)
  else (writeL (rewL s zs (areaF s zs.length) a g old) (areaF s zs.length-a+e) ds,0):=by
 unfold appendF
 rw [if_neg (by rw [ho];simp),ho]
theorem compactF_eq {old:List (List Int)} (keep:List (List Int)) (ho:openF s zs=((old,a,g,e),0)):compactF s zs keep=
  if 5+needF keep>areaF s zs.length\/g=4294967295 then ([],10) else (rewL s zs (areaF s zs.length) a g keep,0):=by
 unfold compactF
 rw [if_neg (by rw [ho];simp),ho]
noncomputable def tabBR:CallT:=fun f args bx E K=>match f with
 | 50=>d2 args fun x0 x1=>dC x0 fun l1=>d2 l1 fun y0 y1=>dI y0 fun s=>dS y1 fun b l c=>dS x1 fun kb kn kc=>∃ (zs:List Int) (keep:List (List Int)) (a:Nat) (g:Int),(Bs E b l c zs/\areaF s l≠0/\usedF (areaF s l) zs=((a:Int),g)/\BL E kb kn kc keep/\kn<=1000/\5+needF keep<=areaF s l)/\
   ∀ (n' cap' tot':Nat) (rs':List FRow) (E':Mem),Mem.le E E'->FLr E' rs' (rewL s zs (areaF s l) a g keep)->Hyp ((rewL s zs (areaF s l) a g keep).length=n')->n'<=cap'/\cap'*2<=tot'->K (.slc bx.length 0 n' cap') (bx++[⟨24,.vals (rs'.flatMap rowV),tot',true⟩]) E'
 | 51=>tabB37 51 args bx E K
 | _=>False
theorem tabBR_ok:∀ f args bx E K,tabBR f args bx E K->CallSem Tryz.prog f args bx E K:=by
 intro f args bx E K h
 unfold tabBR at h
 split at h
 ·obtain ⟨x0,x1,rfl,h1⟩:=d2_elim h
  obtain ⟨l1,hl1,h2⟩:=dC_elim h1
  obtain ⟨y0,y1,rfl,h3⟩:=d2_elim h2
  obtain ⟨s,rfl,h4⟩:=dI_elim h3
  obtain ⟨b,l,c,rfl,h5⟩:=dS_elim h4
  obtain ⟨kb,kn,kc,rfl,h6⟩:=dS_elim h5
  obtain ⟨zs,keep,a,g,⟨q1,q2,q3,q4,q5,q6⟩,h⟩:=h6
  refine CallSem.vcongr (args':=[.agg [I s,L b l c],L kb kn kc]) (vs:=[.agg #[.int .i64 s,.slice b l c],.slice kb kn kc]) (valL_cons (asCells_val hl1) rfl) rfl ?_
  refine CallSem.own0 (argv:=[.agg #[.int .i64 s,.slice b l c],.slice kb kn kc]) rfl (EntB.sem okKA Tryz.func50 ⟨by kernel_rfl,by kernel_rfl⟩ (b36 q1 q2 q3 q4 q5 q6 fun n' cap' tot' rs' E' h1 h2 h3 h4=>?_))
  exact cloK_intro [some 5] ⟨n',cap',24,_,tot',rfl,rfl,h n' cap' tot' rs' E' h1 h2 h3 h4⟩ (wkG mr_)
 ·exact tabB37_ok _ _ _ _ _ h
 ·exact h.elim
noncomputable def tabJ18:FuncId->List SV->Mem->(SV->Mem->Prop)->Prop:=fun f args E K=>match f with
 | 18=>d1 args fun x0=>dC x0 fun l1=>d2 l1 fun x0_0 x0_1=>dI x0_0 fun a1=>dS x0_1 fun b2 l3 c4=>∃ (zs:List Int),Bs E b2 l3 c4 zs/\(∀ (b':Option Addr) (l' c':Nat) (yss:List (List Int)) (e:Int) (E':Mem),Mem.le E E'->Hyp (readF a1 zs=(yss,e))->BL E' b' l' c' yss->K (.tup [L b' l' c',I e]) E')
 | 42=>d1 args fun x0=>dC x0 fun l1=>d2 l1 fun x0_0 x0_1=>dI x0_0 fun a1=>dS x0_1 fun b2 l3 c4=>∃ (zs:List Int),Bs E b2 l3 c4 zs/\areaF a1 l3≠0/\(∀ (u g:Int) (E':Mem),Mem.le E E'->Hyp (usedF (areaF a1 l3) zs=(u,g))->K (.tup [I u,I g]) E')
 | 41=>d1 args fun x0=>dC x0 fun l1=>d2 l1 fun x0_0 x0_1=>dI x0_0 fun a1=>dS x0_1 fun b2 l3 c4=>(K (I (areaF a1 l3:Nat)) E)
 | 43=>d1 args fun x0=>dC x0 fun l1=>d2 l1 fun x0_0 x0_1=>dI x0_0 fun a1=>dS x0_1 fun b2 l3 c4=>∃ (zs:List Int),Bs E b2 l3 c4 zs/\areaF a1 l3≠0/\0<=(usedF (areaF a1 l3) zs).1/\(∀ (b':Option Addr) (l' c':Nat) (yss:List (List Int)) (kk e:Int) (E':Mem),Mem.le E E'->Hyp (recR (areaF a1 l3) (usedF (areaF a1 l3) zs).1.toNat zs=((yss,kk),e))->BL E' b' l' c' yss->K (.tup [L b' l' c',I kk,I e]) E')
 | 49=>d1 args fun x0=>dC x0 fun l1=>d2 l1 fun x0_0 x0_1=>dI x0_0 fun a1=>dS x0_1 fun b2 l3 c4=>∃ (zs:List Int),Bs E b2 l3 c4 zs/\(openF a1 zs).2=0/\(∀ E':Mem,Mem.le E E'->K (B (cleanF (areaF a1 l3) (openF a1 zs).1.2.1 (openF a1 zs).1.2.2.2 zs)) E')
 | 52=>d1 args fun x0=>dS x0 fun b1 l2 c3=>∃ (dss:List (List Int)),BL E b1 l2 c3 dss/\(∀ d∈dss,d.length<=100000)/\l2<=1000/\(K (I (needF dss:Nat)) E)
 | _=>False
theorem tabJ18_ok:TabOK Tryz.prog tabJ18:=by
 intro f args E K h
 unfold tabJ18 at h
 split at h
 ·replace h:=d1_elim h
  obtain ⟨x0,rfl,h⟩:=h
  replace h:=dC_elim h
  obtain ⟨l1,hl1,h⟩:=h
  replace h:=d2_elim h
  obtain ⟨x0_0,x0_1,rfl,h⟩:=h
  replace h:=dI_elim h
  obtain ⟨a1,rfl,h⟩:=h
  replace h:=dS_elim h
  obtain ⟨b2,l3,c4,rfl,h⟩:=h
  obtain ⟨zs,g0,h⟩:=h
  exact TabSem.congr (valL_cons (asCells_val hl1) rfl) (Ent.sem okK7 Tryz.func18 ⟨by kernel_rfl,by kernel_rfl⟩ rfl (j16 g0 h))
 ·replace h:=d1_elim h
  obtain ⟨x0,rfl,h⟩:=h
  replace h:=dC_elim h
  obtain ⟨l1,hl1,h⟩:=h
  replace h:=d2_elim h
  obtain ⟨x0_0,x0_1,rfl,h⟩:=h
  replace h:=dI_elim h
  obtain ⟨a1,rfl,h⟩:=h
  replace h:=dS_elim h
  obtain ⟨b2,l3,c4,rfl,h⟩:=h
  obtain ⟨zs,g0,g1,h⟩:=h
  exact TabSem.congr (valL_cons (asCells_val hl1) rfl) (Ent.sem okK5 Tryz.func42 ⟨by kernel_rfl,by kernel_rfl⟩ rfl (j24 g0 g1 h))
 ·replace h:=d1_elim h
  obtain ⟨x0,rfl,h⟩:=h
  replace h:=dC_elim h
  obtain ⟨l1,hl1,h⟩:=h
  replace h:=d2_elim h
  obtain ⟨x0_0,x0_1,rfl,h⟩:=h
  replace h:=dI_elim h
  obtain ⟨a1,rfl,h⟩:=h
  replace h:=dS_elim h
  obtain ⟨b2,l3,c4,rfl,h⟩:=h
  exact TabSem.congr (valL_cons (asCells_val hl1) rfl) (Ent.sem okK2 Tryz.func41 ⟨by kernel_rfl,by kernel_rfl⟩ rfl (j28 h))
 ·replace h:=d1_elim h
  obtain ⟨x0,rfl,h⟩:=h
  replace h:=dC_elim h
  obtain ⟨l1,hl1,h⟩:=h
  replace h:=d2_elim h
  obtain ⟨x0_0,x0_1,rfl,h⟩:=h
  replace h:=dI_elim h
  obtain ⟨a1,rfl,h⟩:=h
  replace h:=dS_elim h
  obtain ⟨b2,l3,c4,rfl,h⟩:=h
  obtain ⟨zs,g0,g1,g2,h⟩:=h
  exact TabSem.congr (valL_cons (asCells_val hl1) rfl) (Ent.sem okK6 Tryz.func43 ⟨by kernel_rfl,by kernel_rfl⟩ rfl (j30 g0 g1 g2 h))
 ·replace h:=d1_elim h
  obtain ⟨x0,rfl,h⟩:=h
  replace h:=dC_elim h
  obtain ⟨l1,hl1,h⟩:=h
  replace h:=d2_elim h
  obtain ⟨x0_0,x0_1,rfl,h⟩:=h
  replace h:=dI_elim h
  obtain ⟨a1,rfl,h⟩:=h
  replace h:=dS_elim h
  obtain ⟨b2,l3,c4,rfl,h⟩:=h
  obtain ⟨zs,g0,g1,h⟩:=h
  exact TabSem.congr (valL_cons (asCells_val hl1) rfl) (Ent.sem okK8 Tryz.func49 ⟨by kernel_rfl,by kernel_rfl⟩ rfl (j35 g0 g1 h))
 ·replace h:=d1_elim h
  obtain ⟨x0,rfl,h⟩:=h
  replace h:=dS_elim h
  obtain ⟨b1,l2,c3,rfl,h⟩:=h
  obtain ⟨dss,g0,g1,g2,h⟩:=h
  exact TabSem.congr (valL_cons rfl rfl) (Ent.sem okK3 Tryz.func52 ⟨by kernel_rfl,by kernel_rfl⟩ rfl (j25 g0 g1 g2 h))
 ·exact h.elim
noncomputable def KB:Cx:={ P:=Tryz.prog,inl:=fun f=>List.contains [] f,tab:=tabJ18,isB:=fun f=>f==50||f==51,tabB:=tabBR,opt:={ unroll:=0,carry:=[] },muts:=mutsD }
theorem okKB:CxOK KB:=CxOK.four tabJ18_ok (by kernel_rfl) (okInl (by kernel_rfl)) tabBR_ok
theorem j18 {b5:Option Addr} {l6:Nat} {c7:Nat} (h0:Bs E b2 l3 c4 zs) (h1:Bs E b5 l6 c7 ds) (h2:l6<=60000) (h:∀ (b':Option Addr) (l' c':Nat) (ms:List (Int×List Int)) (e:Int) (E':Mem),Mem.le E E'->Hyp (appendF a1 zs ds=(ms,e))->FL E' b' l' c' ms->K (.tup [L b' l' c',I e]) E'):
  Ent KB 8 Tryz.f27 [.agg [I a1,L b2 l3 c4],L b5 l6 c7] E K:=by
 refine sm_ (?_:∃ (zs:List Int),Bs E b2 l3 c4 zs/\∀ (b':Option Addr) (l' c':Nat) (yss:List (List Int)) (e:Int) (E':Mem),Mem.le E E'->Hyp (((openF a1 zs).fst.fst,(openF a1 zs).snd)=(yss,e))->BL E' b' l' c' yss->Mem.le E E'/\bif e !=(0:Int) then Mem.le E E'/\K (SV.tup [L none 0 0,I e]) E' else ∃ (zs:List Int),Bs E' b2 l3 c4 zs/\(areaF a1 l3=0->False)/\∀ (u g:Int) (E'_1:Mem),Mem.le E' E'_1->Hyp (usedF (areaF a1 l3) zs=(u,g))->Mem.le E' E'_1/\∃ (zs:List Int),Bs E'_1 b2 l3 c4 zs/\(areaF a1 l3=0->False)/\(0:Int)<=(usedF (areaF a1 l3) zs).fst/\∀ (b'_1:Option Addr) (l'_1 c'_1:Nat) (yss:List (List Int)) (kk e:Int) (E':Mem),Mem.le E'_1 E'->Hyp (recR (areaF a1 l3) (Int.toNat (usedF (areaF a1 l3) zs).fst) zs=((yss,kk),e))->BL E' b'_1 l'_1 c'_1 yss->Mem.le E'_1 E'/\∃ (zs:List Int),Bs E' b2 l3 c4 zs/\(openF a1 zs).snd=(0:Int)/\∀ (E'_2:Mem),Mem.le E' E'_2->Mem.le E' E'_2/\Mem.le E'_2 E'_2/\bif decide (WI (WI (kk+(NI l6))+(11:Int))>WI (u+(NI (areaF a1 l3)))) then Mem.le E E'_2/\K (SV.tup [L none 0 0,I 10]) E'_2 else bif !cleanF (areaF a1 l3) (openF a1 zs).fst.snd.fst (openF a1 zs).fst.snd.snd.snd zs then bif bif false then true else bif true then g==(4294967295:Int) else false then Mem.le E E'_2/\K (SV.tup [L none 0 0,I 10]) E'_2 else bif !cleanF (areaF a1 l3) (openF a1 zs).fst.snd.fst (openF a1 zs).fst.snd.snd.snd zs then ∃ (zs:List Int),∃ (keep:List (List Int)),∃ (a:Nat),∃ (g:Int),(Bs E'_2 b2 l3 c4 zs/\(areaF a1 l3=0->False)/\usedF (areaF a1 l3) zs=((NI a),g)/\BL E'_2 b' l' c' keep/\l'<=1000/\5+needF keep<=areaF a1 l3)/\∀ (n' cap' tot':Nat) (rs':List FRow) (E':Mem),Mem.le E'_2 E'->FLr E' rs' (rewL a1 zs (areaF a1 l3) a g keep)->Hyp (List.length (rewL a1 zs (areaF a1 l3) a g keep)=n')->n'<=cap'/\cap'*2<=tot'->Mem.le E'_2 E'/\Mem.le E' E'/\∃ (rs:List FRow),∃ (ms:List (Int×List Int)),∃ (ds:List Int),(24=24/\List.flatMap rowV rs'=List.flatMap rowV rs/\FLr E' rs ms/\List.length ms=n'/\(n'<=cap'/\cap'*(2:Nat)<=tot')/\((1:Nat)<=n'/\n'<=(100000000000:Nat))/\Bs E' b5 l6 c7 ds/\validF (lastM ms).fst (List.length (lastM ms).snd)/\(0:Int)<=WI (WI (WI (kk-u)+(NI (areaF a1 l3)))-u)/\Int.toNat (WI (WI (WI (kk-u)+(NI (areaF a1 l3)))-u))+l6+(11:Nat)<=List.length (lastM ms).snd)/\∀ (n' cap' tot':Nat) (rs':List FRow) (E'_3:Mem),Mem.le E' E'_3->FLr E'_3 rs' (writeL ms (Int.toNat (WI (WI (WI (kk-u)+(NI (areaF a1 l3)))-u))) ds)->Hyp (List.length (writeL ms (Int.toNat (WI (WI (WI (kk-u)+(NI (areaF a1 l3)))-u))) ds)=n')->n'<=cap'/\cap'*(2:Nat)<=tot'->∀ (base:Option Addr) (E':Mem),Mem.le E'_3 E'->WinE E' base (List.flatMap rowV rs')->Mem.le E E'/\K (SV.tup [L (Option.map (fun (x:Addr)=>Addr.add x 0) base) n' cap',I 0]) E' else ∃ (rs:List FRow),∃ (ms:List (Int×List Int)),∃ (ds:List Int),(24=24/\[Value.int IntKind.i64 a1,VS b2 l3 c4]=List.flatMap rowV rs/\FLr E'_2 rs ms/\List.length ms=1/\(1<=1/\2<=2)/\(1<=1/\1<=100000000000)/\Bs E'_2 b5 l6 c7 ds/\validF (lastM ms).fst (List.length (lastM ms).snd)/\(0:Int)<=kk/\Int.toNat kk+l6+11<=List.length (lastM ms).snd)/\∀ (n' cap' tot':Nat) (rs':List FRow) (E':Mem),Mem.le E'_2 E'->FLr E' rs' (writeL ms (Int.toNat kk) ds)->Hyp (List.length (writeL ms (Int.toNat kk) ds)=n')->n'<=cap'/\cap'*2<=tot'->∀ (base:Option Addr) (E'_3:Mem),Mem.le E' E'_3->WinE E'_3 base (List.flatMap rowV rs')->Mem.le E E'_3/\K (SV.tup [L (Option.map (fun (x:Addr)=>Addr.add x 0) base) n' cap',I 0]) E'_3 else bif !cleanF (areaF a1 l3) (openF a1 zs).fst.snd.fst (openF a1 zs).fst.snd.snd.snd zs then ∃ (zs:List Int),∃ (keep:List (List Int)),∃ (a:Nat),∃ (g:Int),(Bs E'_2 b2 l3 c4 zs/\(areaF a1 l3=0->False)/\usedF (areaF a1 l3) zs=((NI a),g)/\BL E'_2 b' l' c' keep/\l'<=1000/\5+needF keep<=areaF a1 l3)/\∀ (n' cap' tot':Nat) (rs':List FRow) (E':Mem),Mem.le E'_2 E'->FLr E' rs' (rewL a1 zs (areaF a1 l3) a g keep)->Hyp (List.length (rewL a1 zs (areaF a1 l3) a g keep)=n')->n'<=cap'/\cap'*2<=tot'->Mem.le E'_2 E'/\Mem.le E' E'/\∃ (rs:List FRow),∃ (ms:List (Int×List Int)),∃ (ds:List Int),(24=24/\List.flatMap rowV rs'=List.flatMap rowV rs/\FLr E' rs ms/\List.length ms=n'/\(n'<=cap'/\cap'*(2:Nat)<=tot')/\((1:Nat)<=n'/\n'<=(100000000000:Nat))/\Bs E' b5 l6 c7 ds/\validF (lastM ms).fst (List.length (lastM ms).snd)/\(0:Int)<=WI (WI (WI (kk-u)+(NI (areaF a1 l3)))-u)/\Int.toNat (WI (WI (WI (kk-u)+(NI (areaF a1 l3)))-u))+l6+(11:Nat)<=List.length (lastM ms).snd)/\∀ (n' cap' tot':Nat) (rs':List FRow) (E'_3:Mem),Mem.le E' E'_3->FLr E'_3 rs' (writeL ms (Int.toNat (WI (WI (WI (kk-u)+(NI (areaF a1 l3)))-u))) ds)->Hyp (List.length (writeL ms (Int.toNat (WI (WI (WI (kk-u)+(NI (areaF a1 l3)))-u))) ds)=n')->n'<=cap'/\cap'*(2:Nat)<=tot'->∀ (base:Option Addr) (E':Mem),Mem.le E'_3 E'->WinE E' base (List.flatMap rowV rs')->Mem.le E E'/\K (SV.tup [L (Option.map (fun (x:Addr)=>Addr.add x 0) base) n' cap',I 0]) E' else ∃ (rs:List FRow),∃ (ms:List (Int×List Int)),∃ (ds:List Int),(24=24/\[Value.int IntKind.i64 a1,VS b2 l3 c4]=List.flatMap rowV rs/\FLr E'_2 rs ms/\List.length ms=1/\(1<=1/\2<=2)/\(1<=1/\1<=100000000000)/\Bs E'_2 b5 l6 c7 ds/\validF (lastM ms).fst (List.length (lastM ms).snd)/\(0:Int)<=kk/\Int.toNat kk+l6+11<=List.length (lastM ms).snd)/\∀ (n' cap' tot':Nat) (rs':List FRow) (E':Mem),Mem.le E'_2 E'->FLr E' rs' (writeL ms (Int.toNat kk) ds)->Hyp (List.length (writeL ms (Int.toNat kk) ds)=n')->n'<=cap'/\cap'*2<=tot'->∀ (base:Option Addr) (E'_3:Mem),Mem.le E' E'_3->WinE E'_3 base (List.flatMap rowV rs')->Mem.le E E'_3/\K (SV.tup [L (Option.map (fun (x:Addr)=>Addr.add x 0) base) n' cap',I 0]) E'_3)
 delta WI NI VS
 have hl:=h0.2.1
 have hdl:=h1.2.1
 subst hl
 have ex:∀ {ms:List (Int×List Int)} {e:Int},appendF a1 zs ds=(ms,e)->∀ (b':Option Addr) (l' c':Nat) (E':Mem),Mem.le E E'->FL E' b' l' c' ms->K (.tup [L b' l' c',I e]) E':=fun he b' l' c' E' hE hF=>h b' l' c' _ _ E' hE he hF
 refine ⟨zs,h0,fun b3 l3 c3 yss e E1 k1 r1 B1=>⟨k1,condC (fun q=>⟨k1,?_⟩) (fun q=>?_)⟩⟩
 all_goals
  have r1:((openF a1 zs).1.1,(openF a1 zs).2)=(yss,e):=r1
  obtain ⟨rfl,rfl⟩:=Prod.mk.inj r1
 ·have q:(openF a1 zs).2≠0:=by simpa using q
  exact ex (by unfold appendF;rw [if_pos q]) none 0 0 E1 k1 (FL.nil _)
 have q:(openF a1 zs).2=0:=by simpa using q
 obtain ⟨ls,a,n,g,hA,hu,hp,ho⟩:=openF_inv q
 obtain ⟨a1',hv,a3,a4,a5,a6⟩:=areaF_ok hA
 have ha:=used_ok hu
 have hn:=parseF_len hp
 have hnd:=parseF_need hp
 have hcnt:=needF_ge ls
 rw [recs_len (by omega)] at hn
 rw [ho] at B1
 have hBl:=B1.len
 have hBl:ls.length=l3:=hBl
 refine ⟨zs,h0.mono k1,hA,fun u g2 E2 k2 r2=>⟨k2,zs,h0.mono (mt_ k1 k2),hA,by rw [hu];exact Int.natCast_nonneg a,fun b4 l4' c4' ys4 kk e4 E3 k3 r3 B3=>⟨k3,zs,h0.mono (mt_ k1 (mt_ k2 k3)),q,fun E4 k4=>⟨k4,mr_,?_⟩⟩⟩⟩
 have r2:usedF (areaF a1 zs.length) zs=(u,g2):=r2
 rw [hu] at r2
 obtain ⟨rfl,rfl⟩:=Prod.mk.inj r2
 have r3:recR (areaF a1 zs.length) (Int.toNat (usedF (areaF a1 zs.length) zs).1) zs=((ys4,kk),e4):=r3
 rw [hu,Int.toNat_natCast] at r3
 unfold recR at r3
 rw [hp] at r3
 obtain ⟨r4,rfl⟩:=Prod.mk.inj r3
 obtain ⟨rfl,rfl⟩:=Prod.mk.inj r4
 have kE4:Mem.le E E4:=mt_ k1 (mt_ k2 (mt_ k3 k4))
 have hc:cleanF (areaF a1 zs.length) (openF a1 zs).1.2.1 (openF a1 zs).1.2.2.2 zs=cleanF (areaF a1 zs.length) a (5+n) zs:=by rw [ho]
 have e1:IntKind.wrap .i64 (IntKind.wrap .i64 (((a+5+n:Nat):Int)+((l6:Nat):Int))+11)=((a+5+n+l6+11:Nat):Int):=by rw [wrap_i64 (x:=((a+5+n:Nat):Int)+((l6:Nat):Int)) (by omega),wrap_i64 (by omega)];omega
 have e2:IntKind.wrap .i64 ((a:Int)+((areaF a1 zs.length:Nat):Int))=((a+areaF a1 zs.length:Nat):Int):=by rw [wrap_i64 (by omega)];omega
 have e3:IntKind.wrap .i64 (IntKind.wrap .i64 (IntKind.wrap .i64 (((a+5+n:Nat):Int)-(a:Int))+((areaF a1 zs.length:Nat):Int))-(a:Int))=((areaF a1 zs.length-a+(5+n):Nat):Int):=by rw [wrap_i64 (x:=((a+5+n:Nat):Int)-(a:Int)) (by omega),wrap_i64 (x:=((a+5+n:Nat):Int)-(a:Int)+((areaF a1 zs.length:Nat):Int)) (by omega),wrap_i64 (by omega)];omega
 rw [hc,e1,e2,e3,Int.toNat_natCast,Int.toNat_natCast]
 have eqA:=appendF_eq ds ho
 have full:a+5+n+l6+11>a+areaF a1 zs.length->appendF a1 zs ds=([],10):=fun z=>by rw [eqA,if_pos (.inl (by omega))]
 cases hcl:cleanF (areaF a1 zs.length) a (5+n) zs with
 | false=>
  refine condC (fun q1=>⟨kE4,ex (full (by simp at q1;omega)) none 0 0 E4 kE4 (FL.nil _)⟩) (fun q1=>condC (fun _=>condC (fun q2=>⟨kE4,ex (by rw [eqA,if_pos (.inr ⟨hcl,by simpa using q2⟩)]) none 0 0 E4 kE4 (FL.nil _)⟩) (fun q2=>condC (fun _=>?_) (fun z=>by cases z))) (fun z=>by cases z))
  have q1:¬ a+5+n+l6+11>a+areaF a1 zs.length:=by simp at q1;omega
  have q2:¬ g=4294967295:=by simpa using q2
  obtain ⟨w1,w2,w3⟩:=rewL_ok (g:=g) (keep:=ls) hA ha (by omega)
  refine ⟨zs,ls,a,g,⟨h0.mono kE4,hA,hu,B1.mono RB_ok (mt_ k2 (mt_ k3 k4)),by omega,by omega⟩,fun n1 cap1 tot1 rs1 E5 k5 R5 n5 c5=>⟨k5,mr_,rs1,_,ds,⟨rfl,rfl,R5,n5,c5,⟨by rw [← (show _=n1 from n5),w3];omega,by rw [← (show _=n1 from n5),w3];omega⟩,h1.mono (mt_ kE4 k5),by rw [w1,w2];exact hv,by omega,by rw [w2];omega⟩,fun n6 cap6 tot6 rs6 E6 k6 R6 n6' c6 base E7 k7 w7=>?_⟩⟩
  have kE7:Mem.le E E7:=mt_ kE4 (mt_ k5 (mt_ k6 k7))
  refine ⟨kE7,ex (by rw [eqA,if_neg (by rw [hcl];rintro (z|z);omega;exact q2 z.2),if_neg (by rw [hcl];simp)]) _ _ _ E7 kE7 (FL.win w7 rfl (R6.mono k7) n6' c6.1)⟩
 | true=>
  refine condC (fun q1=>⟨kE4,ex (full (by simp at q1;omega)) none 0 0 E4 kE4 (FL.nil _)⟩) (fun q1=>condC (fun z=>by cases z) (fun _=>condC (fun z=>by cases z) (fun _=>?_)))
  have q1:¬ a+5+n+l6+11>a+areaF a1 zs.length:=by simp at q1;omega
  refine ⟨[(a1,b2,zs.length,c4)],[(a1,zs)],ds,⟨rfl,rfl,(FLr.nil E4).snoc (r:=(a1,b2,zs.length,c4)) (m:=(a1,zs)) rfl (h0.mono kE4),rfl,⟨by omega,by omega⟩,⟨by omega,by omega⟩,h1.mono kE4,hv,by omega,by show _<=zs.length;omega⟩,fun n6 cap6 tot6 rs6 E6 k6 R6 n6' c6 base E7 k7 w7=>?_⟩
  have kE7:Mem.le E E7:=mt_ kE4 (mt_ k6 k7)
  refine ⟨kE7,ex (by rw [eqA,if_neg (by rw [hcl];rintro (z|z);omega;exact absurd z.1 (by simp)),if_pos hcl,← Nat.add_assoc]) _ _ _ E7 kE7 (FL.win w7 rfl (R6.mono k7) n6' c6.1)⟩
theorem j20 {b5:Option Addr} {l6:Nat} {c7:Nat} {keep:List (List Int)} (h0:Bs E b2 l3 c4 zs) (h1:BL E b5 l6 c7 keep) (h2:(∀ d∈keep,d.length<=60000)) (h3:l6<=1000) (h:∀ (b':Option Addr) (l' c':Nat) (ms:List (Int×List Int)) (e:Int) (E':Mem),Mem.le E E'->Hyp (compactF a1 zs keep=(ms,e))->FL E' b' l' c' ms->K (.tup [L b' l' c',I e]) E'):
  Ent KB 8 Tryz.f29 [.agg [I a1,L b2 l3 c4],L b5 l6 c7] E K:=by
 refine sm_ (?_:∃ (zs:List Int),Bs E b2 l3 c4 zs/\∀ (b':Option Addr) (l' c':Nat) (yss:List (List Int)) (e:Int) (E':Mem),Mem.le E E'->Hyp (((openF a1 zs).fst.fst,(openF a1 zs).snd)=(yss,e))->BL E' b' l' c' yss->Mem.le E E'/\bif e !=(0:Int) then Mem.le E E'/\K (SV.tup [L none 0 0,I e]) E' else ∃ (zs:List Int),Bs E' b2 l3 c4 zs/\(areaF a1 l3=0->False)/\∀ (u g:Int) (E'_1:Mem),Mem.le E' E'_1->Hyp (usedF (areaF a1 l3) zs=(u,g))->Mem.le E' E'_1/\∃ (dss:List (List Int)),BL E'_1 b5 l6 c7 dss/\(∀ (d:List Int),List.Mem d dss->List.length d<=100000)/\l6<=1000/\Mem.le E'_1 E'_1/\Mem.le E'_1 E'_1/\bif decide ((NI (needF dss))>WI ((NI (areaF a1 l3))-(5:Int))) then Mem.le E E'_1/\K (SV.tup [L none 0 0,I 10]) E'_1 else bif bif false then true else g==(4294967295:Int) then Mem.le E E'_1/\K (SV.tup [L none 0 0,I 10]) E'_1 else ∃ (zs:List Int),∃ (keep:List (List Int)),∃ (a:Nat),∃ (g:Int),(Bs E'_1 b2 l3 c4 zs/\(areaF a1 l3=0->False)/\usedF (areaF a1 l3) zs=((NI a),g)/\BL E'_1 b5 l6 c7 keep/\l6<=1000/\5+needF keep<=areaF a1 l3)/\∀ (n' cap' tot':Nat) (rs':List FRow) (E':Mem),Mem.le E'_1 E'->FLr E' rs' (rewL a1 zs (areaF a1 l3) a g keep)->Hyp (List.length (rewL a1 zs (areaF a1 l3) a g keep)=n')->n'<=cap'/\cap'*2<=tot'->Mem.le E'_1 E'/\∀ (base:Option Addr) (E'_2:Mem),Mem.le E' E'_2->WinE E'_2 base (List.flatMap rowV rs')->Mem.le E E'_2/\K (SV.tup [L (Option.map (fun (x:Addr)=>Addr.add x 0) base) n' cap',I 0]) E'_2)
 delta WI NI
 have hl:=h0.2.1
 subst hl
 have ex:∀ {ms:List (Int×List Int)} {e:Int},compactF a1 zs keep=(ms,e)->∀ (b':Option Addr) (l' c':Nat) (E':Mem),Mem.le E E'->FL E' b' l' c' ms->K (.tup [L b' l' c',I e]) E':=fun he b' l' c' E' hE hF=>h b' l' c' _ _ E' hE he hF
 refine ⟨zs,h0,fun b3 l3 c3 yss e E1 k1 r1 B1=>⟨k1,condC (fun q=>⟨k1,?_⟩) (fun q=>?_)⟩⟩
 all_goals
  have r1:((openF a1 zs).1.1,(openF a1 zs).2)=(yss,e):=r1
  obtain ⟨rfl,rfl⟩:=Prod.mk.inj r1
 ·have q:(openF a1 zs).2≠0:=by simpa using q
  exact ex (by unfold compactF;rw [if_pos q]) none 0 0 E1 k1 (FL.nil _)
 have q:(openF a1 zs).2=0:=by simpa using q
 obtain ⟨ls,a,n,g,hA,hu,hp,ho⟩:=openF_inv q
 obtain ⟨a1',hv,a3,a4,a5,a6⟩:=areaF_ok hA
 refine ⟨zs,h0.mono k1,hA,fun u g2 E2 k2 r2=>⟨k2,keep,h1.mono RB_ok (mt_ k1 k2),fun d hd=>by have:=h2 d hd;omega,h3,mr_,mr_,?_⟩⟩
 have r2:usedF (areaF a1 zs.length) zs=(u,g2):=r2
 rw [hu] at r2
 obtain ⟨rfl,rfl⟩:=Prod.mk.inj r2
 have k02:Mem.le E E2:=mt_ k1 k2
 rw [wrap_i64 (x:=((areaF a1 zs.length:Nat):Int)-5) (by omega)]
 have eqC:=compactF_eq keep ho
 refine condC (fun q1=>⟨k02,ex (by rw [eqC,if_pos (.inl (by simp at q1;omega))]) none 0 0 E2 k02 (FL.nil _)⟩) (fun q1=>condC (fun q2=>⟨k02,ex (by rw [eqC,if_pos (.inr (by simpa using q2))]) none 0 0 E2 k02 (FL.nil _)⟩) (fun q2=>?_))
 have q1:¬ 5+needF keep>areaF a1 zs.length:=by simp at q1;omega
 have q2:¬ g=4294967295:=by simpa using q2
 refine ⟨zs,keep,a,g,⟨h0.mono k02,hA,hu,h1.mono RB_ok k02,h3,by omega⟩,fun n1 cap1 tot1 rs1 E5 k5 R5 n5 c5=>⟨k5,fun base E7 k7 w7=>?_⟩⟩
 have kE7:Mem.le E E7:=mt_ k02 (mt_ k5 k7)
 exact ⟨kE7,ex (by rw [eqC,if_neg (by rintro (z|z);exact q1 z;exact q2 z)]) _ _ _ E7 kE7 (FL.win w7 rfl (R5.mono k7) n5 c5.1)⟩
noncomputable def tab34:FuncId->List SV->Mem->(SV->Mem->Prop)->Prop:=fun f args E K=>match f with
 | 106=>d3 args fun x0 x1 x2=>dC x0 fun l1=>d2 l1 fun x0_0 x0_1=>dI x0_0 fun a1=>dS x0_1 fun b2 l3 c4=>dI x1 fun a5=>dS x2 fun b6 l7 c8=>∃ (zs:List Int) (ds:List Int),Bs E b2 l3 c4 zs/\Bs E b6 l7 c8 ds/\(∀ (b':Option Addr) (l' c':Nat) (ms:List (Int×List Int)) (e:Int) (E':Mem),Mem.le E E'->Hyp (progF a1 zs a5 ds=(ms,e))->FL E' b' l' c' ms->K (.tup [L b' l' c',I e]) E')
 | 94=>d1 args fun x0=>dS x0 fun b1 l2 c3=>∃ (zs:List Int),Bs E b1 l2 c3 zs/\l2<=70000/\(∀ (b':Option Addr) (l' c':Nat) (ys:List Int) (E':Mem),Mem.le E E'->Hyp (ys=hidB zs)->Bs E' b' l' c' ys->K (L b' l' c') E')
 | _=>False
theorem tab34_ok:TabOK Tryz.prog tab34:=by
 intro f args E K h
 unfold tab34 at h
 split at h
 ·replace h:=d3_elim h
  obtain ⟨x0,x1,x2,rfl,h⟩:=h
  replace h:=dC_elim h
  obtain ⟨l1,hl1,h⟩:=h
  replace h:=d2_elim h
  obtain ⟨x0_0,x0_1,rfl,h⟩:=h
  replace h:=dI_elim h
  obtain ⟨a1,rfl,h⟩:=h
  replace h:=dS_elim h
  obtain ⟨b2,l3,c4,rfl,h⟩:=h
  replace h:=dI_elim h
  obtain ⟨a5,rfl,h⟩:=h
  replace h:=dS_elim h
  obtain ⟨b6,l7,c8,rfl,h⟩:=h
  obtain ⟨zs,ds,g0,g1,h⟩:=h
  exact TabSem.congr (valL_cons (asCells_val hl1) (valL_cons rfl (valL_cons rfl rfl))) (Ent.sem okF3 Tryz.func106 ⟨by kernel_rfl,by kernel_rfl⟩ rfl (s14 g0 g1 h))
 ·replace h:=d1_elim h
  obtain ⟨x0,rfl,h⟩:=h
  replace h:=dS_elim h
  obtain ⟨b1,l2,c3,rfl,h⟩:=h
  obtain ⟨zs,g0,g1,h⟩:=h
  exact TabSem.congr (valL_cons rfl rfl) (Ent.sem okJ7 Tryz.func94 ⟨by kernel_rfl,by kernel_rfl⟩ rfl (j54 g0 g1 h))
 ·exact h.elim
noncomputable def KC:Cx:={ P:=Tryz.prog,inl:=fun f=>List.contains [90,92] f,tab:=tab34,isB:=fun _=>false,tabB:=fun _ _ _ _ _=>False,opt:={ unroll:=0,carry:=[] },muts:=(fun o=>match o with | .call { callee:=.value (.func 90),.. }=>true| .call { callee:=.value (.func 106),.. }=>true|o=>mutsD o) }
theorem okKC:CxOK KC:=CxOK.four tab34_ok (by kernel_rfl) (okInl (by kernel_rfl)) (fun _ _ _ _ _ h=>h.elim)
theorem b34 {cap:Nat} (R:FLr E rs ms) (hn:ms.length=n) (hc:n<=cap/\cap*2<=tot) (hb:1<=n/\n<=100000000000) (hd:Bs E d dl dc ds)
  (hv:validF (lastM ms).1 (lastM ms).2.length) (ha:a+dl+11<=(lastM ms).2.length)
  (h:∀ (n' cap' tot':Nat) (rs':List FRow) (E':Mem),Mem.le E E'->FLr E' rs' (writeL ms a ds)->(writeL ms a ds).length=n'->n'<=cap'/\cap'*2<=tot'->KK (.tup []) [⟨111,.lst [.slc 4 0 n' cap'],1,true⟩,⟨24,.lst [],0,false⟩,⟨24,.lst [],0,false⟩,⟨5,.lst [.raw (.int .u8 90)],1,false⟩,⟨24,.vals (rs'.flatMap rowV),tot',true⟩] E'):
  EntB KC 8 Tryz.f71 [.loc 0 0,I (a:Nat),L d dl dc] [⟨111,.lst [.slc 1 0 n cap],1,true⟩,⟨24,.vals (rs.flatMap rowV),tot,true⟩] E KK:=by
 refine sm_ (?_:∃ (zs:List Int),Bs E d dl dc zs/\dl<=70000/\∀ (b':Option Addr) (l' c':Nat) (ys:List Int) (E':Mem),Mem.le E E'->Hyp (ys=hidB zs)->Bs E' b' l' c' ys->Mem.le E E'/\req ((0:Int)<=WI ((NI n)-1)/\WI ((NI n)-1)<(NI n)) (∃ (n_1:Int),∃ (base:Option Addr),∃ (len:Nat),∃ (cap_1:Nat),LoadV KC.P 24 (List.flatMap rowV rs) (0+Int.toNat (WI ((NI n)-1))*2) (SV.agg [I n_1,L base len cap_1])/\∃ (zs:List Int),∃ (ds:List Int),Bs E' base len cap_1 zs/\Bs E' b' l' c' ds/\∀ (b':Option Addr) (l' c':Nat) (ms:List (Int×List Int)) (e:Int) (E'_1:Mem),Mem.le E' E'_1->Hyp (progF n_1 zs (WI ((NI a)+1)) ds=(ms,e))->FL E'_1 b' l' c' ms->Mem.le E' E'_1/\Sx.Alike al2 (bif decide ((NI l')>0) then req (l'<=c') (req ((0:Int)<=(1:Int)/\1<=(NI (toN none l'))) (∀ (base':Option Addr) (E':Mem),Mem.le E'_1 E'->(∀ (cs:List Value),E'_1 (VS b' l' c') cs->E' (VS base' (toN none l'-1) (toN none c'-1)) (List.take ((toN none l'-1)*2) (List.drop 2 cs)))->Option.isNone base'=Option.isNone b'->∃ (cs:List Value),(cs=[]\/E' (VS base' (toN none l'-1) (toN none c'-1)) cs)/\(toN none l'-1)*2<=List.length cs/\(∀ (x:Value),List.Mem x cs->Value.oneCell' x=true)/\n*2<=List.length (Row.cells (Row.vals (List.flatMap rowV rs)))/\cap*2<=tot/\n<=cap/\req ((n+(toN none l'-1))*32<=140737488355328) (∀ (cap' tot':Nat),n+(toN none l'-1)<=cap'->cap'*2<=tot'->req ((0:Int)<=WI ((NI (n+(toN none l'-1)))-(1:Int))/\WI ((NI (n+(toN none l'-1)))-(1:Int))<(NI (n+(toN none l'-1)))) (∃ (n_2:Int),∃ (base:Option Addr),∃ (len:Nat),∃ (cap:Nat),LoadV KC.P 24 (List.take (n*2) (List.flatMap rowV rs)++List.take ((toN none l'-1)*2) cs) (0+Int.toNat (WI ((NI (n+(toN none l'-(1:Nat))))-(1:Int)))*2) (SV.agg [I n_2,L base len cap])/\∀ (base_1:Option Addr) (E'_2:Mem),Mem.le E' E'_2->WinE E'_2 base_1 [U8 90]->∃ (zs:List Int),∃ (ds:List Int),Bs E'_2 base len cap zs/\Bs E'_2 (Option.map (fun (x:Addr)=>Addr.add x 0) base_1) 1 1 ds/\∀ (b':Option Addr) (l'_1 c':Nat) (ms:List (Int×List Int)) (e:Int) (E':Mem),Mem.le E'_2 E'->Hyp (progF n_2 zs (NI a) ds=(ms,e))->FL E' b' l'_1 c' ms->Sx.Alike al2 (bif decide ((NI l'_1)>0) then req (l'_1<=c') (req ((0:Int)<=(1:Int)/\1<=(NI (toN none l'_1))) (∀ (base':Option Addr) (E'_3:Mem),Mem.le E' E'_3->(∀ (cs:List Value),E' (VS b' l'_1 c') cs->E'_3 (VS base' (toN none l'_1-(1:Nat)) (toN none c'-(1:Nat))) (List.take ((toN none l'_1-(1:Nat))*(2:Nat)) (List.drop 2 cs)))->Option.isNone base'=Option.isNone b'->∃ (cs_1:List Value),(cs_1=[]\/E'_3 (VS base' (toN none l'_1-(1:Nat)) (toN none c'-(1:Nat))) cs_1)/\(toN none l'_1-(1:Nat))*(2:Nat)<=List.length cs_1/\(∀ (x:Value),List.Mem x cs_1->Value.oneCell' x=true)/\(n+(toN none l'-(1:Nat)))*(2:Nat)<=List.length (Row.cells (Row.vals (List.take (n*(2:Nat)) (List.flatMap rowV rs)++List.take ((toN none l'-(1:Nat))*(2:Nat)) cs)))/\cap'*(2:Nat)<=tot'/\n+(toN none l'-(1:Nat))<=cap'/\req ((n+(toN none l'-(1:Nat))+(toN none l'_1-(1:Nat)))*(32:Nat)<=(140737488355328:Nat)) (∀ (cap' tot':Nat),n+(toN none l'-(1:Nat))+(toN none l'_1-(1:Nat))<=cap'->cap'*(2:Nat)<=tot'->KK (SV.tup []) [⟨(111:Nat),Row.lst [SV.slc 4 0 (n+(toN none l'-(1:Nat))+(toN none l'_1-(1:Nat))) cap'],(1:Nat),true⟩,⟨(24:Nat),Row.lst [],(0:Nat),false⟩,⟨(24:Nat),Row.lst [],(0:Nat),false⟩,⟨(5:Nat),Row.lst [SV.raw (U8 90)],(1:Nat),false⟩,⟨(24:Nat),Row.vals (List.take ((n+(toN none l'-(1:Nat)))*(2:Nat)) (List.take (n*(2:Nat)) (List.flatMap rowV rs)++List.take ((toN none l'-(1:Nat))*(2:Nat)) cs)++List.take ((toN none l'_1-(1:Nat))*(2:Nat)) cs_1),tot',true⟩] E'_3))) else KK (SV.tup []) [⟨(111:Nat),Row.lst [SV.slc 2 0 (n+(toN none l'-(1:Nat))) cap'],(1:Nat),true⟩,⟨(24:Nat),Row.lst [],(0:Nat),false⟩,⟨(24:Nat),Row.vals (List.take (n*(2:Nat)) (List.flatMap rowV rs)++List.take ((toN none l'-(1:Nat))*(2:Nat)) cs),tot',true⟩,⟨(5:Nat),Row.lst [SV.raw (U8 90)],(1:Nat),false⟩] E'))))) else req ((0:Int)<=WI ((NI n)-1)/\WI ((NI n)-1)<(NI n)) (∃ (n_2:Int),∃ (base:Option Addr),∃ (len:Nat),∃ (cap_2:Nat),LoadV KC.P 24 (List.flatMap rowV rs) (0+Int.toNat (WI ((NI n)-1))*2) (SV.agg [I n_2,L base len cap_2])/\∀ (base_1:Option Addr) (E':Mem),Mem.le E'_1 E'->WinE E' base_1 [U8 90]->∃ (zs:List Int),∃ (ds:List Int),Bs E' base len cap_2 zs/\Bs E' (Option.map (fun (x:Addr)=>Addr.add x 0) base_1) 1 1 ds/\∀ (b':Option Addr) (l' c':Nat) (ms:List (Int×List Int)) (e:Int) (E'_2:Mem),Mem.le E' E'_2->Hyp (progF n_2 zs (NI a) ds=(ms,e))->FL E'_2 b' l' c' ms->Sx.Alike al2 (bif decide ((NI l')>0) then req (l'<=c') (req ((0:Int)<=(1:Int)/\1<=(NI (toN none l'))) (∀ (base':Option Addr) (E':Mem),Mem.le E'_2 E'->(∀ (cs:List Value),E'_2 (VS b' l' c') cs->E' (VS base' (toN none l'-1) (toN none c'-1)) (List.take ((toN none l'-(1:Nat))*2) (List.drop 2 cs)))->Option.isNone base'=Option.isNone b'->∃ (cs:List Value),(cs=[]\/E' (VS base' (toN none l'-(1:Nat)) (toN none c'-(1:Nat))) cs)/\(toN none l'-(1:Nat))*(2:Nat)<=List.length cs/\(∀ (x:Value),List.Mem x cs->Value.oneCell' x=true)/\n*(2:Nat)<=List.length (Row.cells (Row.vals (List.flatMap rowV rs)))/\cap*(2:Nat)<=tot/\n<=cap/\req ((n+(toN none l'-(1:Nat)))*(32:Nat)<=(140737488355328:Nat)) (∀ (cap' tot':Nat),n+(toN none l'-(1:Nat))<=cap'->cap'*(2:Nat)<=tot'->KK (SV.tup []) [⟨(111:Nat),Row.lst [SV.slc 3 0 (n+(toN none l'-(1:Nat))) cap'],(1:Nat),true⟩,⟨(24:Nat),Row.lst [],(0:Nat),false⟩,⟨(5:Nat),Row.lst [SV.raw (U8 90)],(1:Nat),false⟩,⟨(24:Nat),Row.vals (List.take (n*(2:Nat)) (List.flatMap rowV rs)++List.take ((toN none l'-(1:Nat))*(2:Nat)) cs),tot',true⟩] E'))) else KK (SV.tup []) [⟨111,.lst [SV.slc 1 0 n cap],1,true⟩,⟨24,.vals (List.flatMap rowV rs),tot,true⟩,⟨5,.lst [SV.raw (U8 90)],1,false⟩] E'_2)))))
 delta WI NI U8 VS
 have hdl:=hd.2.1
 have hvl:(lastM ms).2.length<=16384:=hv.2.2.2.1
 refine ⟨ds,hd,by omega,fun b1 l1 c1 ys E1 k1 r1 B1=>⟨k1,?_⟩⟩
 have r1:ys=hidB ds:=r1
 rw [hidB_eq] at r1
 subst r1
 obtain ⟨n1,b2,l2,c2,ld,lb⟩:=last_load (R.mono k1) hn hb.1 (by omega)
 refine req_intro n1 ⟨_,b2,l2,c2,ld,_,_,lb,B1,fun b3 l3 c3 m3 e3 E2 k2 r2 F2=>⟨k2,alike ?_⟩⟩
 have r2:progF (lastM ms).1 (lastM ms).2 (IntKind.wrap .i64 ((a:Int)+1)) (bodyF ds)=(m3,e3):=r2
 rw [wrap_i64 (x:=(a:Int)+1) (by omega),show (a:Int)+1=((a+1:Nat):Int) by simp] at r2
 have hl3:m3.length=dl+11:=by
  rw [progF_mk hv (by omega) (by rw [bodyF_len];omega)] at r2
  rw [← (Prod.mk.inj r2).1,mems_len,bodyF_len,hdl]
 have hl3':=F2.len
 have ht3:toN none l3=l3:=rfl
 refine condC (fun g=>?_) (fun g=>by simp at g;omega)
 refine tail_app F2 (by omega) (R.mono (mt_ k1 k2)) hn hc (by omega) fun base' E3 cs cap3 tot3 rs3 ec k3 R3 n3 g1 g2=>?_
 have ep:chgF ms m3=progL ms (a+1) (bodyF ds):=by unfold progL;rw [r2]
 rw [ep] at R3 n3
 obtain ⟨pl,pn⟩:=progL_ok (l:=ms) (a:=a+1) (ds:=bodyF ds) hv (by rw [bodyF_len];omega) (by rw [bodyF_len];omega)
 have hv2:validF (lastM (progL ms (a+1) (bodyF ds))).1 (lastM (progL ms (a+1) (bodyF ds))).2.length:=by rw [pl];simp only [stp_len];exact hv
 have hz2:(lastM (progL ms (a+1) (bodyF ds))).2.length=(lastM ms).2.length:=by rw [pl];simp only [stp_len]
 rw [ec]
 obtain ⟨n4,b4,l4,c4,ld4,lb4⟩:=last_load R3 n3 (by omega) (by omega)
 refine req_intro n4 ⟨_,b4,l4,c4,ld4,fun base5 E5 k5 w5=>⟨_,[90],lb4.mono k5,Bs.win (zs:=[90]) w5 rfl rfl (Nat.le_refl _) (by decide),fun b6 l6 c6 m6 e6 E6 k6 r6 F6=>alike ?_⟩⟩
 have r6:progF (lastM (progL ms (a+1) (bodyF ds))).1 (lastM (progL ms (a+1) (bodyF ds))).2 (a:Int) [90]=(m6,e6):=r6
 have hl6:m6.length=2:=by
  rw [progF_mk hv2 (by omega) (by simp only [List.length_singleton];omega)] at r6
  rw [← (Prod.mk.inj r6).1,mems_len];rfl
 have hl6':=F6.len
 refine condC (fun g=>?_) (fun g=>by simp at g;omega)
 refine tail_app F6 (by omega) (R3.mono (mt_ k5 k6)) n3 ⟨g1,g2⟩ (by omega) fun base7 E7 cs7 cap7 tot7 rs7 ec7 k7 R7 n7 g3 g4=>?_
 rw [ec7]
 have ep7:chgF (progL ms (a+1) (bodyF ds)) m6=writeL ms a ds:=by
  show _=progL (progL ms (a+1) (bodyF ds)) a [90]
  rw [show progL (progL ms (a+1) (bodyF ds)) a [90]=chgF (progL ms (a+1) (bodyF ds)) (progF (lastM (progL ms (a+1) (bodyF ds))).1 (lastM (progL ms (a+1) (bodyF ds))).2 (a:Int) [90]).1 from rfl,r6]
 rw [ep7] at R7 n7
 exact h _ cap7 tot7 rs7 E7 (mt_ k1 (mt_ k2 (mt_ k3 (mt_ k5 (mt_ k6 k7))))) R7 n7 ⟨g3,g4⟩
theorem CallSem.wr {iw ir:Nat} {cap:Nat} {args':List SV} {K:KT} (hw:bx[iw]? =some ⟨111,.lst [.slc ir 0 n cap],1,true⟩) (hb:bx[ir]? =some ⟨24,.vals vs,tot,true⟩) (hne:iw≠ir) (ha:args=SV.renL [iw,ir] bx.length args')
  (h:CallSem P f args' [⟨111,.lst [.slc 1 0 n cap],1,true⟩,⟨24,.vals vs,tot,true⟩] E (cloK 2 fun s bx' E'=>∃ n' cap' vs' tot',s= .tup []/\bx'=[⟨111,.lst [.slc 2 0 n' cap'],1,true⟩,⟨24,.lst [],0,false⟩,⟨24,.vals vs',tot',true⟩]/\K (.tup []) ((bx.set iw ⟨111,.lst [.slc bx.length 0 n' cap'],1,true⟩).set ir ⟨24,.lst [],0,false⟩++[⟨24,.vals vs',tot',true⟩]) E')):
  CallSem P f args bx E K:=by
 refine frame (σ:=[iw,ir]) ⟨by simp [hne],rfl,fun i y hy=>?_⟩ ha h.clo ?_
 ·match i,hy with
  | 0,hy=>
   simp only [List.getElem?_cons_zero,Option.some.injEq] at hy;subst hy
   exact ⟨rfl,iw,rfl,hw⟩
  | 1,hy=>
   simp only [List.getElem?_cons_succ,List.getElem?_cons_zero,Option.some.injEq] at hy;subst hy
   exact ⟨rfl,ir,rfl,hb⟩
 ·rintro s bxs' E' ⟨n',cap',vs',tot',rfl,rfl,hK⟩
  simpa [merge,setAll,SV.ren,renF,Box.ren,Row.ren,SV.renL] using hK
noncomputable def tabW:CallT:=fun f args bx E K=>match f with
  | 71=>d3 args fun x0 x1 x2=>dI x1 fun a=>dS x2 fun d dl dc=>match x0 with
    | .loc iw 0=>match bx[iw]? with
      | some ⟨111,.lst [.slc ir 0 n cap],1,true⟩=>match bx[ir]? with
        | some ⟨e,r,tot,true⟩=>match r.val with
          | some vs=>∃ (rs:List FRow) (ms:List (Int×List Int)) (ds:List Int),(iw≠ir/\e=24/\vs=rs.flatMap rowV/\FLr E rs ms/\ms.length=n/\(n<=cap/\cap*2<=tot)/\(1<=n/\n<=100000000000)/\Bs E d dl dc ds/\validF (lastM ms).1 (lastM ms).2.length/\0<=a/\a.toNat+dl+11<=(lastM ms).2.length)/\
             ∀ (n' cap' tot':Nat) (rs':List FRow) (E':Mem),Mem.le E E'->FLr E' rs' (writeL ms a.toNat ds)->Hyp ((writeL ms a.toNat ds).length=n')->n'<=cap'/\cap'*2<=tot'->K (.tup []) ((bx.set iw ⟨111,.lst [.slc bx.length 0 n' cap'],1,true⟩).set ir ⟨24,.lst [],0,false⟩++[⟨24,.vals (rs'.flatMap rowV),tot',true⟩]) E'
          | none=>False
        | _=>False
      | _=>False
    | _=>False
  | _=>False
theorem tabW_ok:∀ f args bx E K,tabW f args bx E K->CallSem Tryz.prog f args bx E K:=by
 intro f args bx E K h
 unfold tabW at h
 split at h
 case h_2=>exact h.elim
 obtain ⟨x0,x1,x2,rfl,h1⟩:=d3_elim h
 obtain ⟨a,rfl,h2⟩:=dI_elim h1
 obtain ⟨d,dl,dc,rfl,h3⟩:=dS_elim h2
 clear h h1 h2
 split at h3
 case h_2=>exact h3.elim
 rename_i iw
 split at h3
 case h_2=>exact h3.elim
 rename_i ir n cap hw
 split at h3
 case h_2=>exact h3.elim
 rename_i e r tot hb
 split at h3
 case h_2=>exact h3.elim
 rename_i vs hr
 obtain ⟨rs,ms,ds,⟨hne,rfl,rfl,R,hn,hc,hbd,hd,hv,h0,ha⟩,h⟩:=h3
 obtain ⟨a,rfl⟩:∃ k:Nat,a=k:=⟨a.toNat,by omega⟩
 rw [Int.toNat_natCast] at ha h
 refine CallSem.asV hb hr ?_
 have hb2:(bx.set ir ⟨24,.vals (rs.flatMap rowV),tot,true⟩)[ir]? =some ⟨24,.vals (rs.flatMap rowV),tot,true⟩:=by
  rw [List.getElem?_set_self (List.getElem?_eq_some_iff.1 hb).1]
 have hw2:(bx.set ir ⟨24,.vals (rs.flatMap rowV),tot,true⟩)[iw]? =some ⟨111,.lst [.slc ir 0 n cap],1,true⟩:=by
  rw [List.getElem?_set_ne (Ne.symm hne)];exact hw
 refine CallSem.wr (args':=[.loc 0 0,I (a:Nat),L d dl dc]) hw2 hb2 hne (by simp [SV.renL,SV.ren,renF]) (EntB.sem okKC Tryz.func71 ⟨by kernel_rfl,by kernel_rfl⟩ (b34 R hn hc hbd hd hv ha fun n' cap' tot' rs' E' h1 h2 h3 h4=>?_))
 refine cloK_intro [some 0,some 1,some 4] ⟨n',cap',_,tot',rfl,rfl,?_⟩ (wkG mr_ (h6:=(by repeat' first|exact True.intro|exact rfl|exact Or.inl rfl|exact (by decide:1<5)|refine And.intro ?_ ?_)))
 have:=h n' cap' tot' rs' E' h1 h2 h3 h4
 rw [List.length_set,List.set_comm _ _ (Ne.symm hne),List.set_set]
 exact this
end Go.Proofs.YtdaakdbkmjgloaaGreat.CustodyOwn
