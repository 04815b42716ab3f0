/- Walks and plain laws. Conditions: none. -/
import Derived.Test.YtnjmojacdkjfoaaBb24
import Derived.Test.YtnjmojacdkjfoaaSyBB
namespace Go.Proofs.Ytnjmojacdkjfoaa.BeaconOwn
open Go Go.Sx
set_option maxRecDepth 100000
set_option maxHeartbeats 4000000
set_option linter.all false
variable {E:Mem} {K:SV->Mem->Prop}
variable {rs rs' z:List Lv} {j k i m n c bh bc aG aV aL aB aI aY aT l aN au aA aQ aE ay aM ax ar:Nat} {r vs:Lv} {xs ys:List (Int×Bc)} {fr e lo hi d:Int} {α:Type} {x23 x19 x11 x15 x4 x3 x7 x20 x26 x12 x25 x22 x21 x18 x13 x9 x5 x10 x16 x14 x17 x8 x24 x6:Option SV} {b0:aR} {bZ:List aR} {ak:cK} {aZ bg aS aK aX aC aH aU aF:Oa} {E E0:Mem} {D:Array Bool} {S:St} {v:Value} {W:World} {T t:TypeId} {q:IntKind} {ts:List TypeId} {x:Bc} {zs:Li} {o:Li×Bool} {fB:List Item} {F:Li×Bool->Li->Li×Bool} {ok tj:Bool}
structure R7 (fr:Int) (xs:List (Int×Bc)) (i:Int):Prop where
 eq:vA fr xs=i
noncomputable def Ik:cK:=λf args bx E K=>match f,args with
 | 72,[.bH 1 0 m cap,.fM 42 [] [.loc 0 0]]=>∃ (fr:Int) (rs:List Lv) (tot:Nat) (xs:List (Int×Bc)),(bx=[⟨3,.ae [I fr],1,true⟩,⟨61,.vals rs.flatten,tot,true⟩]/\Aa E rs xs/\xs.length=m/\m<=1000000)/\∀ i:Int,R7 fr xs i->K (I i) bx E
 | _,_=>False
theorem Il:∀ f args bx E K,Ik f args bx E K->aj Try.prog f args bx E K:=by
 intro f args bx E K h;unfold Ik at h;split at h
 ·obtain ⟨fr,rs,tot,xs,⟨rfl,hr,hm,hn⟩,hk⟩:=h;exact aj.fM (jE R6 Try.func72 (Xe hr.eq hm hn (hk _ ⟨rfl⟩) (λ_ _ q=>q)))
 ·exact h.elim
noncomputable def T1:Cx:={ P:=Try.prog,inl:=λf=>List.contains [42] f,jN:=λ_ _ _ _=>False,kH:=λf=>f==72,eY:=Ik,opt:={ cq:=0,carry:=[5,6] },eo:=dM }
theorem R8:bX T1:=bX.four (λ_ _ _ _ h=>h.elim) (by kernel_rfl) (dN (by kernel_rfl)) Il
theorem Cr (h:∀ r∈rs,r.length=31):rs.flatten.length=rs.length*31:=by
 induction rs with
 | nil=>rfl
 | cons r rs ih=>rw [List.flatten_cons,List.length_append,h r (by simp),ih (λr hr=>h r (by simp [hr])),List.length_cons];omega
theorem Cs (h:∀ r∈rs,r.length=31) (hr:rs[j]? =some r):(rs.flatten.drop (j*31)).take 31=r:=by obtain ⟨hj,e⟩:=List.getElem?_eq_some_iff.1 hr;rw [nT h,List.drop_eq_getElem_cons hj,List.flatten_cons,e];exact List.take_left' (h r (List.mem_of_getElem? hr))
structure Fg (E:Mem) (rs:List Lv) (xs:List (Int×Bc)) (fr:Int) (rs':List Lv) (i j:Nat):Prop where
 len:rs'.length=xs.length
 lens:∀ r∈rs',r.length=31
 pre:jP bE E (rs'.take i) ((xs.take j).filter λx=> !eL fr x)
 cnt:((xs.take j).filter λx=> !eL fr x).length=i
 rest:∀ t:Nat,j<=t->rs'[t]? =rs[t]?
 lt:i<j
 le:j<=xs.length
theorem Fg.start (hr:jP bE E rs xs) (hk:xs.findIdx? (eL fr)=some k):Fg E rs xs fr rs k (k+1):=by
 rw [List.findIdx?_eq_some_iff_getElem] at hk;obtain ⟨hl,h1,h2⟩:=hk;have e:(xs.take (k+1)).filter (λx=> !eL fr x)=xs.take k:=by
  rw [List.take_succ_eq_append_getElem hl,List.filter_append,List.filter_eq_self.2 (λx hx=>by obtain ⟨t,ht,e⟩:=List.getElem_of_mem hx;rw [List.length_take] at ht;have:=h2 t (by omega);rw [List.getElem_take] at e;rw [← e];simpa using this)]
  simp [h1]
 exact ⟨hr.1,hr.lens bu,by rw [e];exact hr.take k,by rw [e,List.length_take];omega,λt _=>rfl,Nat.lt_succ_self _,hl⟩
theorem Fg.drop (d:Fg E rs xs fr rs' i j) {x:Int×Bc} (hx:xs[j]? =some x) (q:eL fr x=true):Fg E rs xs fr rs' i (j+1):=by
 obtain ⟨hl,e0⟩:=List.getElem?_eq_some_iff.1 hx;have e:(xs.take (j+1)).filter (λx=> !eL fr x)=(xs.take j).filter λx=> !eL fr x:=by rw [List.take_succ_eq_append_getElem hl,List.filter_append,e0];simp [q]
 exact ⟨d.len,d.lens,by rw [e];exact d.pre,by rw [e];exact d.cnt,λt ht=>d.rest t (by omega),by have:=d.lt;omega,hl⟩
theorem Fg.keep (d:Fg E rs xs fr rs' i j) {x:Int×Bc} (hx:xs[j]? =some x) (hr:rs[j]? =some r) (q:eL fr x=false) (hR:bE E x r):Fg E rs xs fr (rs'.set i r) (i+1) (j+1):=by
 obtain ⟨hl,e0⟩:=List.getElem?_eq_some_iff.1 hx;have e:(xs.take (j+1)).filter (λx=> !eL fr x)=((xs.take j).filter λx=> !eL fr x)++[x]:=by rw [List.take_succ_eq_append_getElem hl,List.filter_append,e0];simp [q]
 have hlt:=d.lt;have hle:=d.le;have hlen:=d.len;have e2:(rs'.set i r).take (i+1)=rs'.take i++[r]:=by rw [List.take_succ_eq_append_getElem (by rw [List.length_set];omega),List.take_set_of_le (Nat.le_refl _)];simp
 exact ⟨by rw [List.length_set];exact d.len,λr' hr'=>by
  rcases List.mem_or_eq_of_mem_set hr' with h1|rfl
  ·exact d.lens r' h1
  ·exact bu.len hR,by rw [e,e2];exact d.pre.snoc hR,by rw [e,List.length_append,d.cnt];rfl,λt ht=>by rw [List.getElem?_set_ne (by omega)];exact d.rest t (by omega),by omega,hl⟩
def Im (m cap tot:Nat) (vs:Lv) (fr:Int) (i j:Nat) (E:Mem):St:=⟨[os 1 0 m cap,some (.fM 42 [] [.loc 0 0]),none,none,none,oI (i:Nat),oI (j:Nat)]++nn 35,[⟨3,.ae [I fr],1,true⟩,⟨61,.vals vs,tot,true⟩],E⟩
theorem Xf {cap tot:Nat} {KK Q:KT} (hr:jP bE E rs xs) (hm:xs.length=m) (hn:m<=1000000) (hc:m<=cap) (ht:cap*31<=tot) (hi:Fg E rs xs fr rs' i j)
  (h:j=m->i<m->KK (.bH 1 0 i cap) [⟨3,.ae [I fr],1,true⟩,⟨61,.vals ((rs'.take i).flatten++bW [.int .i64 0,.int .i64 0,.int .i64 0,.int .i64 0,.int .i64 0,.int .i64 0,.int .i64 0,.int .i64 0,.int .i64 0,.int .i64 0,.int .i64 0,.int .i64 0,.slice none 0 0,.slice none 0 0,.slice none 0 0,.slice none 0 0,.bool false,.slice none 0 0,.slice none 0 0,.slice none 0 0,.int .i64 0,.int .i64 0,.int .u64 0,.int .i64 0,.int .i64 0,.int .i64 0,.int .i64 0,.int .i64 0,.slice none 0 0,.slice none 0 0,.bool false] (m-i)),tot,true⟩] E) (hQ:∀ s bA,bT 2 KK s bA E->Q s bA E)
  (ih:j<m->∀ (BB:List Lv) (i2:Nat),Fg E rs xs fr BB i2 (j+1)->Lp T1 8 Try.f41 [1,1,1,0,1,0] 2 Q (Im m cap tot BB.flatten fr i2 (j+1) E)):jO T1 8 Try.f41 [1,1,1,0,1,0] 2 Q (Im m cap tot rs'.flatten fr i j E):=by
 refine dO (?_:bif decide ((NI j)<(NI m)) then cU (0<=(NI j)/\(NI j)<(NI m)) (∃ (n:Int) (n_1:Int) (n_2:Int) (ep:Int) (gT:Int) (iv:Int) (iN:Int) (iO:Int) (jl:Int) (jR:Int) (fm:Int) (fo:Int) (base:Oa) (len:Nat) (cC:Nat) (cm:Oa) (cJ:Nat) (cM:Nat) (cn:Oa) (df:Nat) (cX:Nat) (cw:Oa) (dy:Nat) (cY:Nat) (b:Bool) (cx:Oa) (dz:Nat) (cZ:Nat) (cy:Oa) (dD:Nat) (dc:Nat) (cz:Oa) (dG:Nat) (dh:Nat) (fp:Int) (fq:Int) (fu:Int) (fw:Int) (fy:Int) (fR:Int) (fS:Int) (fT:Int) (cA:Oa) (dH:Nat) (dK:Nat) (cB:Oa) (dJ:Nat) (gC:Nat) (b_1:Bool),gA T1.P 61 (List.flatten rs') (0+Int.toNat (NI j)*(31:Nat)) (SV.agg (I n::cW n_1 n_2 ep gT iv iN iO jl jR fm fo b fp fq fu fw fy fR fS fT b_1 base len cC cm cJ cM cn df cX cw dy cY cx dz cZ cy dD dc cz dG dh cA dH dK cB dJ gC))/\bif decide (fr>=(0:Int)) then bif bif true then decide (fr<=(1000000000:Int)) else false then bif !bif true then decide (n<WI (fr-(3:Int))) else false then cU (0<=(NI i)/\(NI i)<(NI m)) ((0:Nat)+Int.toNat (NI i)*(31:Nat)+(31:Nat)<=List.length (List.flatten rs')/\Lp T1 8 Try.f41 [(1:Nat),(1:Nat),(1:Nat),(0:Nat),(1:Nat),(0:Nat)] (2:Nat) Q { fr:=some (SV.bH 1 0 m cap)::some (SV.fM 42 [] [SV.loc 0 0])::none::none::none::oI (WI ((NI i)+1))::oI (WI ((NI j)+1))::ai (cE (none::[])),bx:=[(⟨(3:Nat),Row.ae [I fr],(1:Nat),true⟩:aR),⟨(61:Nat),Row.vals (bj (List.flatten rs') ((0:Nat)+Int.toNat (NI i)*(31:Nat)) [vI n,vI n_1,vI n_2,vI ep,vI gT,vI iv,vI iN,vI iO,vI jl,vI jR,vI fm,vI fo,VS base len cC,VS cm cJ cM,VS cn df cX,VS cw dy cY,Value.bool b,VS cx dz cZ,VS cy dD dc,VS cz dG dh,vI fp,vI fq,vU fu,vI fw,vI fy,vI fR,vI fS,vI fT,VS cA dH dK,VS cB dJ gC,Value.bool b_1]),tot,true⟩,⟨(61:Nat),Row.ae (I n::cW n_1 n_2 ep gT iv iN iO jl jR fm fo b fp fq fu fw fy fR fS fT b_1 base len cC cm cJ cM cn df cX cw dy cY cx dz cZ cy dD dc cz dG dh cA dH dK cB dJ gC),(31:Nat),true⟩,⟨(61:Nat),Row.ae (I n::cW n_1 n_2 ep gT iv iN iO jl jR fm fo b fp fq fu fw fy fR fS fT b_1 base len cC cm cJ cM cn df cX cw dy cY cx dz cZ cy dD dc cz dG dh cA dH dK cB dJ gC),(31:Nat),true⟩],E:=E:St }) else Lp T1 8 Try.f41 [(1:Nat),(1:Nat),(1:Nat),(0:Nat),(1:Nat),(0:Nat)] (2:Nat) Q { fr:=some (SV.bH 1 0 m cap)::some (SV.fM 42 [] [SV.loc 0 0])::none::none::none::oI (NI i)::oI (WI ((NI j)+1))::ai (cE (none::[])),bx:=[(⟨(3:Nat),Row.ae [I fr],(1:Nat),true⟩:aR),⟨(61:Nat),Row.vals (List.flatten rs'),tot,true⟩,⟨(61:Nat),Row.ae (I n::cW n_1 n_2 ep gT iv iN iO jl jR fm fo b fp fq fu fw fy fR fS fT b_1 base len cC cm cJ cM cn df cX cw dy cY cx dz cZ cy dD dc cz dG dh cA dH dK cB dJ gC),(31:Nat),true⟩,⟨(61:Nat),Row.ae (I n::cW n_1 n_2 ep gT iv iN iO jl jR fm fo b fp fq fu fw fy fR fS fT b_1 base len cC cm cJ cM cn df cX cw dy cY cx dz cZ cy dD dc cz dG dh cA dH dK cB dJ gC),(31:Nat),true⟩],E:=E:St } else cU (0<=(NI i)/\(NI i)<(NI m)) ((0:Nat)+Int.toNat (NI i)*(31:Nat)+(31:Nat)<=List.length (List.flatten rs')/\Lp T1 8 Try.f41 [(1:Nat),(1:Nat),(1:Nat),(0:Nat),(1:Nat),(0:Nat)] (2:Nat) Q { fr:=some (SV.bH 1 0 m cap)::some (SV.fM 42 [] [SV.loc 0 0])::none::none::none::oI (WI ((NI i)+1))::oI (WI ((NI j)+1))::ai (cE (none::[])),bx:=[(⟨(3:Nat),Row.ae [I fr],(1:Nat),true⟩:aR),⟨(61:Nat),Row.vals (bj (List.flatten rs') ((0:Nat)+Int.toNat (NI i)*(31:Nat)) [vI n,vI n_1,vI n_2,vI ep,vI gT,vI iv,vI iN,vI iO,vI jl,vI jR,vI fm,vI fo,VS base len cC,VS cm cJ cM,VS cn df cX,VS cw dy cY,Value.bool b,VS cx dz cZ,VS cy dD dc,VS cz dG dh,vI fp,vI fq,vU fu,vI fw,vI fy,vI fR,vI fS,vI fT,VS cA dH dK,VS cB dJ gC,Value.bool b_1]),tot,true⟩,⟨(61:Nat),Row.ae (I n::cW n_1 n_2 ep gT iv iN iO jl jR fm fo b fp fq fu fw fy fR fS fT b_1 base len cC cm cJ cM cn df cX cw dy cY cx dz cZ cy dD dc cz dG dh cA dH dK cB dJ gC),(31:Nat),true⟩,⟨(61:Nat),Row.ae (I n::cW n_1 n_2 ep gT iv iN iO jl jR fm fo b fp fq fu fw fy fR fS fT b_1 base len cC cm cJ cM cn df cX cw dy cY cx dz cZ cy dD dc cz dG dh cA dH dK cB dJ gC),(31:Nat),true⟩],E:=E:St }) else cU (0<=(NI i)/\(NI i)<(NI m)) (0+Int.toNat (NI i)*(31:Nat)+(31:Nat)<=List.length (List.flatten rs')/\Lp T1 8 Try.f41 [(1:Nat),(1:Nat),(1:Nat),(0:Nat),(1:Nat),(0:Nat)] (2:Nat) Q { fr:=some (SV.bH 1 0 m cap)::some (SV.fM 42 [] [SV.loc 0 0])::none::none::none::oI (WI ((NI i)+1))::oI (WI ((NI j)+1))::ai (cE (none::[])),bx:=[(⟨(3:Nat),Row.ae [I fr],(1:Nat),true⟩:aR),⟨(61:Nat),Row.vals (bj (List.flatten rs') ((0:Nat)+Int.toNat (NI i)*(31:Nat)) [vI n,vI n_1,vI n_2,vI ep,vI gT,vI iv,vI iN,vI iO,vI jl,vI jR,vI fm,vI fo,VS base len cC,VS cm cJ cM,VS cn df cX,VS cw dy cY,Value.bool b,VS cx dz cZ,VS cy dD dc,VS cz dG dh,vI fp,vI fq,vU fu,vI fw,vI fy,vI fR,vI fS,vI fT,VS cA dH dK,VS cB dJ gC,Value.bool b_1]),tot,true⟩,⟨(61:Nat),Row.ae (I n::cW n_1 n_2 ep gT iv iN iO jl jR fm fo b fp fq fu fw fy fR fS fT b_1 base len cC cm cJ cM cn df cX cw dy cY cx dz cZ cy dD dc cz dG dh cA dH dK cB dJ gC),(31:Nat),true⟩,⟨(61:Nat),Row.ae (I n::cW n_1 n_2 ep gT iv iN iO jl jR fm fo b fp fq fu fw fy fR fS fT b_1 base len cC cm cJ cM cn df cX cw dy cY cx dz cZ cy dD dc cz dG dh cA dH dK cB dJ gC),(31:Nat),true⟩],E:=E:St })) else cU (0<=(NI i)/\(NI i)<=(NI (toN none m))) ((if toN none cap=toN (some (NI i)) 0 then 0 else 0+toN (some (NI i)) 0*31)<=List.length (List.flatten rs')/\(if toN none cap=toN (some (NI i)) 0 then 0 else 0+toN (some (NI i)) 0*31)+(toN none m-toN (some (NI i)) 0)*31<=tot/\cU (0<=(NI i)/\(NI i)<=(NI (toN none cap))) (Q (SV.bH 1 (if toN none cap=0 then 0 else 0) (toN (some (NI i)) m-0) (toN none cap-0)) [⟨3,.ae [I fr],1,true⟩,⟨61,.vals (bj (List.flatten rs') (if toN none cap=toN (some (NI i)) 0 then 0 else 0+toN (some (NI i)) 0*31) (bW [vI 0,vI 0,vI 0,vI 0,vI 0,vI 0,vI 0,vI 0,vI 0,vI 0,vI 0,vI 0,VS none 0 0,VS none 0 0,VS none 0 0,VS none 0 0,Value.bool false,VS none 0 0,VS none 0 0,VS none 0 0,vI 0,vI 0,vU 0,vI 0,vI 0,vI 0,vI 0,vI 0,VS none 0 0,VS none 0 0,Value.bool false] (toN none m-toN (some (NI i)) 0))),tot,true⟩] E)))
 delta WI NI vI vU VS cE ai cW;have hrl:=hr.1;have hfl:rs'.flatten.length=m*31:=by rw [Cr hi.lens,hi.len];omega
 have hij:=hi.lt;have hjm:=hi.le;refine ah (λg=>?_) (λg=>?_)
 ·have g:j<m:=by simpa using g
  have w:IntKind.wrap .i64 ((i:Int)+1)=((i+1:Nat):Int):=by rw [wrap_i64 (by omega)];omega
  have w2:IntKind.wrap .i64 ((j:Int)+1)=((j+1:Nat):Int):=by rw [wrap_i64 (by omega)];omega
  obtain ⟨x,hx⟩:∃ x,xs[j]? =some x:=⟨_,List.getElem?_eq_getElem (by omega)⟩;obtain ⟨r,er⟩:∃ r,rs[j]? =some r:=⟨_,List.getElem?_eq_getElem (by omega)⟩;have er':rs'[j]? =some r:=by rw [hi.rest j (Nat.le_refl _)];exact er
  have hR:=hr.2 j r x er hx;obtain ⟨aC,ay,aB,aF,ax,aG,aH,ar,aI,aK,au,aL,aS,aM,aT,aU,aN,aV,aX,aA,aY,aZ,aQ,bc,bg,aE,bh,e,hM⟩:=hR;subst e;have lt:gA Try.prog 61 rs'.flatten (j*31) (.agg (I x.1::[I x.2.from_,I x.2.bO,I x.2.aD,I x.2.aJ,I x.2.bound,I x.2.fresh,I x.2.seq,I x.2.bf,I x.2.parent,I x.2.first,I x.2.next,L aC ay aB,L aF ax aG,L aH ar aI,L aK au aL,B x.2.full,L aS aM aT,L aU aN aV,L aX aA aY,I x.2.aP,I x.2.size,.raw (.int .u64 x.2.bD),I x.2.start,I x.2.pages,I x.2.version,I x.2.az,I x.2.seed,L aZ aQ bc,L bg aE bh,B x.2.has])):=yF (P:=Try.prog) (T:=61) rfl rfl (Cs hi.lens er') rfl;rw [show 0+Int.toNat (j:Int)*31=j*31 by rw [Int.toNat_natCast];omega,show 0+Int.toNat (i:Int)*31=i*31 by rw [Int.toNat_natCast];omega,w,w2];have keep:eL fr x=false->0<=(i:Int)/\(i:Int)<(m:Int)/\i*31+31<=rs'.flatten.length/\Lp T1 8 Try.f41 [1,1,1,0,1,0] 2 Q (Im m cap tot (bj rs'.flatten (i*31) (.int .i64 x.1::[.int .i64 x.2.from_,.int .i64 x.2.bO,.int .i64 x.2.aD,.int .i64 x.2.aJ,.int .i64 x.2.bound,.int .i64 x.2.fresh,.int .i64 x.2.seq,.int .i64 x.2.bf,.int .i64 x.2.parent,.int .i64 x.2.first,.int .i64 x.2.next,.slice aC ay aB,.slice aF ax aG,.slice aH ar aI,.slice aK au aL,.bool x.2.full,.slice aS aM aT,.slice aU aN aV,.slice aX aA aY,.int .i64 x.2.aP,.int .i64 x.2.size,.int .u64 x.2.bD,.int .i64 x.2.start,.int .i64 x.2.pages,.int .i64 x.2.version,.int .i64 x.2.az,.int .i64 x.2.seed,.slice aZ aQ bc,.slice bg aE bh,.bool x.2.has])) fr (i+1) (j+1) E):=λq=>by have d:=hi.keep hx er q ⟨aC,ay,aB,aF,ax,aG,aH,ar,aI,aK,au,aL,aS,aM,aT,aU,aN,aV,aX,aA,aY,aZ,aQ,bc,bg,aE,bh,rfl,hM⟩;refine ⟨by omega,by omega,by omega,?_⟩;rw [AM hi.lens (by rw [hi.len];omega) rfl];exact ih g _ _ d
  have drop:eL fr x=true->_:=λq=>ih g _ _ (hi.drop hx q);refine af (by omega) ⟨x.1,x.2.from_,x.2.bO,x.2.aD,x.2.aJ,x.2.bound,x.2.fresh,x.2.seq,x.2.bf,x.2.parent,x.2.first,x.2.next,aC,ay,aB,aF,ax,aG,aH,ar,aI,aK,au,aL,x.2.full,aS,aM,aT,aU,aN,aV,aX,aA,aY,x.2.aP,x.2.size,x.2.bD,x.2.start,x.2.pages,x.2.version,x.2.az,x.2.seed,aZ,aQ,bc,bg,aE,bh,x.2.has,lt,ah (λg1=>ah (λg2=>ah (λg3=>?_) (λg3=>?_)) (λg2=>?_)) (λg1=>?_)⟩
  ·have g1:0<=fr:=by simpa using g1
   have g2:fr<=1000000000:=by simpa using g2
   rw [wrap_i64 (by omega)] at g3;obtain ⟨k1,k2,k3,k4⟩:=keep (by unfold eL;rw [decide_eq_true g1,decide_eq_true g2];simpa using g3);exact af ⟨k1,k2⟩ ⟨k3,bz [some 0,some 1] k4 (cl bn)⟩
  ·have g1:0<=fr:=by simpa using g1
   have g2:fr<=1000000000:=by simpa using g2
   rw [wrap_i64 (by omega)] at g3;exact bz [some 0,some 1] (drop (by unfold eL;rw [decide_eq_true g1,decide_eq_true g2];simpa using g3)) (cl bn)
  ·have g2:¬ fr<=1000000000:=by simpa using g2
   obtain ⟨k1,k2,k3,k4⟩:=keep (by unfold eL;rw [decide_eq_false g2];simp);exact af ⟨k1,k2⟩ ⟨k3,bz [some 0,some 1] k4 (cl bn)⟩
  ·have g1:¬ 0<=fr:=by simpa using g1
   obtain ⟨k1,k2,k3,k4⟩:=keep (by unfold eL;rw [decide_eq_false g1];simp);exact af ⟨k1,k2⟩ ⟨k3,bz [some 0,some 1] k4 (cl bn)⟩
 ·have g:j=m:=by simp at g;omega
  have hd:=h g (by omega);have TM:(bW [.int .i64 0,.int .i64 0,.int .i64 0,.int .i64 0,.int .i64 0,.int .i64 0,.int .i64 0,.int .i64 0,.int .i64 0,.int .i64 0,.int .i64 0,.int .i64 0,.slice none 0 0,.slice none 0 0,.slice none 0 0,.slice none 0 0,.bool false,.slice none 0 0,.slice none 0 0,.slice none 0 0,.int .i64 0,.int .i64 0,.int .u64 0,.int .i64 0,.int .i64 0,.int .i64 0,.int .i64 0,.int .i64 0,.slice none 0 0,.slice none 0 0,.bool false] (m-i)).length=(m-i)*31:=by rw [Cq];rfl
  have e1:bj rs'.flatten (i*31) (bW [.int .i64 0,.int .i64 0,.int .i64 0,.int .i64 0,.int .i64 0,.int .i64 0,.int .i64 0,.int .i64 0,.int .i64 0,.int .i64 0,.int .i64 0,.int .i64 0,.slice none 0 0,.slice none 0 0,.slice none 0 0,.slice none 0 0,.bool false,.slice none 0 0,.slice none 0 0,.slice none 0 0,.int .i64 0,.int .i64 0,.int .u64 0,.int .i64 0,.int .i64 0,.int .i64 0,.int .i64 0,.int .i64 0,.slice none 0 0,.slice none 0 0,.bool false] (m-i))=(rs'.take i).flatten++bW [.int .i64 0,.int .i64 0,.int .i64 0,.int .i64 0,.int .i64 0,.int .i64 0,.int .i64 0,.int .i64 0,.int .i64 0,.int .i64 0,.int .i64 0,.int .i64 0,.slice none 0 0,.slice none 0 0,.slice none 0 0,.slice none 0 0,.bool false,.slice none 0 0,.slice none 0 0,.slice none 0 0,.int .i64 0,.int .i64 0,.int .u64 0,.int .i64 0,.int .i64 0,.int .i64 0,.int .i64 0,.int .i64 0,.slice none 0 0,.slice none 0 0,.bool false] (m-i):=by unfold bj;rw [nU hi.lens,List.drop_eq_nil_of_le (by rw [TM,hfl];omega),List.append_nil]
  simp only [toNn,toNs,RU,WW,Qj (show ¬ cap=i from by omega),Nat.zero_add,Int.toNat_natCast];refine af (by omega) ⟨by rw [hfl];omega,by have:=Nat.mul_le_mul_right 31 hc;omega,af (by omega) ?_⟩;rw [e1];exact hQ _ _ (aq [some 0,some 1] hd (cl bn))
theorem Xg {cap tot:Nat} {KK Q:KT} (hr:jP bE E rs xs) (hm:xs.length=m) (hn:m<=1000000) (hc:m<=cap) (ht:cap*31<=tot)
  (h:∀ (BB:List Lv) (n:Nat) (ws:Lv),jP bE E BB (xs.filter λx=> !eL fr x)->(xs.filter λx=> !eL fr x).length=n->n<=m->KK (.bH 1 0 n cap) [⟨3,.ae [I fr],1,true⟩,⟨61,.vals (BB.flatten++ws),tot,true⟩] E) (hQ:∀ s bA,bT 2 KK s bA E->Q s bA E):
  ej T1 8 Try.f41 [.bH 1 0 m cap,.fM 42 [] [.loc 0 0]] [⟨3,.ae [I fr],1,true⟩,⟨61,.vals rs.flatten,tot,true⟩] E Q:=by
 refine dO (?_:∃ (Fh:Int) (Io:List Lv) (R9:Nat) (xs:List (Int×Bc)),([(⟨3,.ae [I fr],1,true⟩:aR),⟨61,.vals (List.flatten rs),tot,true⟩]=[(⟨3,.ae [I Fh],1,true⟩:aR),⟨61,.vals (List.flatten Io),R9,true⟩]/\Aa E Io xs/\List.length xs=m/\m<=1000000)/\∀ (i:Int),R7 Fh xs i->bif i==(-1:Int) then Q (SV.bH 1 0 m cap) [⟨3,.ae [I fr],1,true⟩,⟨61,.vals (List.flatten rs),tot,true⟩] E else Lp T1 8 Try.f41 [1,1,1,0,1,0] 2 Q { fr:=some (SV.bH 1 0 m cap)::some (SV.fM 42 [] [SV.loc 0 0])::none::none::oL none 0 0::oI i::oI (WI (i+(1:Int)))::none::os 1 0 m cap::some (SV.fM 42 [] [SV.loc 0 0])::oI i::oI i::oB (i==(-1:Int))::none::oI i::oI (WI (i+(1:Int)))::bL (cQ (cE [])),bx:=[(⟨3,.ae [I fr],1,true⟩:aR),⟨61,.vals (List.flatten rs),tot,true⟩],E:=E:St });delta WI cE cQ bL;refine ⟨fr,rs,tot,xs,⟨rfl,⟨hr⟩,hm,hn⟩,λi0 hq=>ah (λg=>?_) (λg=>?_)⟩
 ·have hq:=hq.eq;have g:i0= -1:=by simpa using g
  rw [g] at hq;have all:xs.filter (λx=> !eL fr x)=xs:=List.filter_eq_self.2 λx hx=>by
   unfold vA at hq;split at hq
   ·omega
   ·rename_i hf;rw [List.findIdx?_eq_none_iff] at hf;simpa using hf x hx
  have:=h rs m [] (by rw [all];exact hr) (by rw [all];exact hm) (Nat.le_refl _);rw [List.append_nil] at this;exact hQ _ _ (aq [some 0,some 1] this (cl bn))
 ·have hq:=hq.eq;have g:i0≠ -1:=by simpa using g
  obtain ⟨k,hk⟩:∃ k,xs.findIdx? (eL fr)=some k:=by
   unfold vA at hq;split at hq
   ·rename_i k hk;exact ⟨k,hk⟩
   ·exact absurd hq.symm g
  have e0:i0=(k:Int):=by unfold vA at hq;rw [hk] at hq;exact hq.symm
  subst e0;have d0:=Fg.start hr hk;have hkm:=d0.le;rw [show IntKind.wrap .i64 ((k:Int)+1)=((k+1:Nat):Int) by rw [wrap_i64 (by omega)];omega];exact bz [some 0,some 1] (cu R8 (λz:{z:List Lv×Nat×Nat//Fg E rs xs fr z.1 z.2.1 z.2.2}=>Im m cap tot z.1.1.flatten fr z.1.2.1 z.1.2.2 E) (λz=>m-z.1.2.2) (λz ih=>by obtain ⟨⟨rs',i,j⟩,d⟩:=z;show jO T1 8 Try.f41 [1,1,1,0,1,0] 2 Q (Im m cap tot rs'.flatten fr i j E);refine Xf hr hm hn hc ht d (λe1 e2=>?_) hQ (λg BB i2 d2=>ih ⟨(BB,i2,j+1),d2⟩ (by show m-(j+1)<m-j;omega));have dd:Fg E rs xs fr rs' i j:=d;have e1:j=m:=e1;have e2:i<m:=e2;have f1:=dd.pre;have f2:=dd.cnt;rw [show xs.take j=xs from List.take_of_length_le (by omega)] at f1 f2;exact h _ _ _ f1 f2 (by show i<=m;omega)) ⟨(rs,k,k+1),d0⟩) (cl bn)
structure Sa (xs:List (Int×Bc)) (n:Nat):Prop where
 eq:xs.length=n
noncomputable def Ip:cK:=λf args bx E K=>match f,args with
 | 41,[.bH 1 0 m cap,.fM 42 [] [.loc 0 0]]=>∃ (fr:Int) (rs:List Lv) (tot:Nat) (xs:List (Int×Bc)),(bx=[⟨3,.ae [I fr],1,true⟩,⟨61,.vals rs.flatten,tot,true⟩]/\Aa E rs xs/\xs.length=m/\m<=1000000/\m<=cap/\cap*31<=tot)/\∀ (BB:List Lv) (n:Nat) (ws:Lv),Aa E BB (xs.filter λx=> !eL fr x)->Sa (xs.filter λx=> !eL fr x) n->n<=m->K (.bH 1 0 n cap) [⟨3,.ae [I fr],1,true⟩,⟨61,.vals (BB.flatten++ws),tot,true⟩] E
 | f,args=>KP f args bx E K
theorem Iq:∀ f args bx E K,Ip f args bx E K->aj Try.prog f args bx E K:=by
 intro f args bx E K h;unfold Ip at h;split at h
 ·obtain ⟨fr,rs,tot,xs,⟨rfl,hr,hm,hn,hc,ht⟩,hk⟩:=h;exact aj.fM (jE R8 Try.func41 (Xg hr.eq hm hn hc ht (λBB n ws h1 h2 h3=>hk BB n ws ⟨h1⟩ ⟨h2⟩ h3) (λ_ _ q=>q)))
 ·exact DB _ _ _ _ _ h
theorem SL.Xh {R:yc α} {xs:List α} (ok:lH k R) {base:Oa} {ws:Lv} (h:gD E base (rs.flatten++ws)) (hr:jP R E rs xs) (hn:xs.length=n) (hc:n<=c):SL R E (base.map λx=>x.add 0) n c xs:=by
 have hl:rs.flatten.length=n*k:=by rw [hr.flat ok,hn]
 have:=h.2 0 rs.flatten.length n c (by simp);rw [List.drop_zero,List.take_left' rfl] at this;refine ⟨rs,hr,hn,hc,.inr this,λe=>?_⟩
 cases base with
 | none=>
  have h0:=h.1 rfl;have h1:rs.flatten=[]:=(List.append_eq_nil_iff.1 h0).1;rw [h1] at hl;have hk:=ok.pos;rcases Nat.eq_zero_or_pos n with hz|hz
  ·exact hz
  ·have:=Nat.mul_pos hz hk;simp only [List.length_nil] at hl;omega
 | some a=>cases e
noncomputable def T2:Cx:={ P:=Try.prog,inl:=λf=>List.contains [] f,jN:=λ_ _ _ _=>False,kH:=λf=>f==39||f==41,eY:=Ip,opt:={ cq:=0,carry:=[] },eo:=dM }
theorem Xi:bX T2:=bX.four (λ_ _ _ _ h=>h.elim) (by kernel_rfl) (dN (by kernel_rfl)) Iq
theorem Xj {b:Oa} (h0:SL bE E b n c xs) (hn:n<=1000000)
  (h:∀ (b':Oa) (n' c':Nat) (E':Mem),Mem.le E E'->SL bE E' b' n' c' (xs.filter λx=> !eL fr x)->K (L b' n' c') E'):mm T2 8 Try.f20 [L b n c,I fr] E K:=by
 refine dO (?_:∃ (xs:List (Int×Bc)),(SL bE E b n c xs/\n<=1000000)/\∀ (rs:List Lv) (cap' aa:Nat),Aa E rs xs->n<=cap'->cap'*31<=aa->Mem.le E E/\∃ (Fh:Int) (Io:List Lv) (tot:Nat) (xs:List (Int×Bc)),([(⟨3,Row.ae [I fr],1,true⟩:aR),⟨61,Row.vals (List.flatten rs),aa,true⟩]=[(⟨3,Row.ae [I Fh],1,true⟩:aR),⟨61,Row.vals (List.flatten Io),tot,true⟩]/\Aa E Io xs/\List.length xs=n/\n<=1000000/\n<=cap'/\cap'*31<=tot)/\∀ (BB:List Lv) (n_1:Nat) (ws:Lv),Aa E BB (List.filter (λ(x:Int×Bc)=> !eL Fh x) xs)->Sa (List.filter (λ(x:Int×Bc)=> !eL Fh x) xs) n_1->n_1<=n->∀ (base:Oa) (E':Mem),Mem.le E E'->gD E' base (List.flatten BB++ws)->Mem.le E E'/\K (L (Option.map (λ(x:Addr)=>Addr.add x 0) base) n_1 cap') E');exact ⟨xs,⟨h0,hn⟩,λrs cap' aa hr c1 c2=>⟨bn,fr,rs,aa,xs,⟨rfl,hr,h0.len,hn,c1,c2⟩,λBB m ws h1 h2 h3 base E2 h4 h5=>⟨h4,h _ m cap' E2 h4 (SL.Xh bu h5 (h1.eq.mono bu h4) h2.eq (by omega))⟩⟩⟩
theorem OD {n:Int} (h:gl n):ji n<562949953421312:=by unfold gl at h;unfold ji;split<;>omega
theorem Ir {u:Int} (h0:0<=u) (h:u<562949953421312):(bD u).length<=7/\((bD u).length=1↔u<128):=by
  have key:∀ (k j:Nat) (u:Int),0<=u->u<128 ^ (k+1)->(jk j u).length<=k+1:=by
    intro k
    induction k with
    | zero => intro j u h0 h1;have h1:u<128:=by simpa using h1
              cases j with
              | zero=>simp [jk]
              | succ j=>unfold jk;rw [if_pos h1];simp
    | succ k ih => intro j u h0 h1
                   cases j with
                   | zero=>simp [jk]
                   | succ j=>
                     unfold jk;split
                     · simp
                     · have:=ih j (u / 128) (by omega) (by rw [Int.pow_succ] at h1;omega)
                       simp;omega
  refine ⟨key 6 9 u h0 (by simpa using h),?_⟩;by_cases hu:u<128
  · rw [qn hu];simp [hu]
  · rw [qo hu (by omega)]
    have:=(qL (u / 128)).1;exact ⟨λe=>by simp only [List.length_cons] at e;omega,λe=>absurd e hu⟩
structure Is (x:Bc):Prop where
 bD:0<=x.bD/\x.bD<18446744073709551616
 cT:∀ r∈x.cT,r.length=4
 bw:∀ r∈x.bw,r.length=5
 asks:∀ r∈x.asks,r.length=3
 below:∀ r∈x.below,r.length=4
 words:∀ r∈x.words,r.length=8
 eB:∀ r∈x.eB,r.length=8
 got:∀ r∈x.got,r.length=1
 proof:∀ r∈x.proof,∃ v,r=[v]/\0<=v/\v<18446744073709551616
noncomputable def Ue:Cx:={ P:=Try.prog,inl:=λf=>List.contains [] f,jN:=λ_ _ _ _=>False,kH:=λ_=>false,eY:=λ_ _ _ _ _=>False,opt:={ cq:=0,carry:=[],vq:=[3] },eo:=dM }
theorem Mh:bX Ue:=bX.four (λ_ _ _ _ h=>h.elim) (by kernel_rfl) (dN (by kernel_rfl)) (λ_ _ _ _ _ h=>h.elim)
@[irreducible] noncomputable def qq:Array Oper:=match sub (jq Try.f31) [1,1,1,0] with | .region _ o _=>o|_=>#[]
theorem It:sub (jq Try.f31) [1,1,1]= .seq (.region 3 qq true) .ret:=by kernel_rfl
noncomputable def iV (ak:cK) (i:Nat) (S:St) (K:St->Prop):Prop:=match qq[i]? with
 | some o=>kj Try.prog ak qq o S K
 | none=>False
theorem OE {K:St->Prop} (h:K ⟨[oc 0 0,oc 1 0,oc 2 0,x3,x4,x5,some (.agg [I 2,I 3]),x7,x8,x9,x10,x11,x12,x13,x14,x15,x16,x17,x18,x19,x20,x21,x22,x23,x24,x25,x26],(b0::⟨93,.ae [I 2,I 3],2,true⟩::⟨127,.ae [I 1,I 5,I (-1),I 300,I 0,I 0,I 1,I 2],8,true⟩::bZ),E⟩):iV ak 0 ⟨[oc 0 0,oc 1 0,oc 2 0,x3,x4,x5,x6,x7,x8,x9,x10,x11,x12,x13,x14,x15,x16,x17,x18,x19,x20,x21,x22,x23,x24,x25,x26],b0::⟨93,.ae [I 2,I 3],2,true⟩::⟨127,.ae [I 1,I 5,I (-1),I 300,I 0,I 0,I 1,I 2],8,true⟩::bZ,E⟩ K:=same (by kernel_rfl) h
theorem OF {K:St->Prop} (h:K ⟨[oc 0 0,oc 1 0,oc 2 0,x3,x4,x5,some (.agg [I 2,I 3]),some (.agg [I 2,I 3,I 1,I 9]),x8,x9,x10,x11,x12,x13,x14,x15,x16,x17,x18,x19,x20,x21,x22,x23,x24,x25,x26],(b0::⟨93,.ae [I 2,I 3],2,true⟩::⟨127,.ae [I 1,I 5,I (-1),I 300,I 0,I 0,I 1,I 2],8,true⟩::bZ),E⟩):iV ak 1 ⟨[oc 0 0,oc 1 0,oc 2 0,x3,x4,x5,some (.agg [I 2,I 3]),x7,x8,x9,x10,x11,x12,x13,x14,x15,x16,x17,x18,x19,x20,x21,x22,x23,x24,x25,x26],b0::⟨93,.ae [I 2,I 3],2,true⟩::⟨127,.ae [I 1,I 5,I (-1),I 300,I 0,I 0,I 1,I 2],8,true⟩::bZ,E⟩ K:=same (by kernel_rfl) h
theorem OG {K:St->Prop} (h:K ⟨[oc 0 0,oc 1 0,oc 2 0,x3,x4,x5,x6,some (.agg [I 2,I 3,I 1,I 9]),os (bZ.length+3) 0 1 1,x9,x10,x11,x12,x13,x14,x15,x16,x17,x18,x19,x20,x21,x22,x23,x24,x25,x26],(b0::⟨93,.ae [I 2,I 3],2,true⟩::⟨127,.ae [I 1,I 5,I (-1),I 300,I 0,I 0,I 1,I 2],8,true⟩::bZ++[⟨95,.ae [I 2,I 3,I 1,I 9],4,true⟩]),E⟩):iV ak 2 ⟨[oc 0 0,oc 1 0,oc 2 0,x3,x4,x5,x6,some (.agg [I 2,I 3,I 1,I 9]),x8,x9,x10,x11,x12,x13,x14,x15,x16,x17,x18,x19,x20,x21,x22,x23,x24,x25,x26],b0::⟨93,.ae [I 2,I 3],2,true⟩::⟨127,.ae [I 1,I 5,I (-1),I 300,I 0,I 0,I 1,I 2],8,true⟩::bZ,E⟩ K:=same (by kernel_rfl) h
theorem OH {K:St->Prop} (h:K ⟨[oc 0 0,oc 1 0,oc 2 0,x3,x4,x5,x6,x7,x8,some (.agg [I 2,I 3]),x10,x11,x12,x13,x14,x15,x16,x17,x18,x19,x20,x21,x22,x23,x24,x25,x26],(b0::⟨93,.ae [I 2,I 3],2,true⟩::⟨127,.ae [I 1,I 5,I (-1),I 300,I 0,I 0,I 1,I 2],8,true⟩::bZ),E⟩):iV ak 3 ⟨[oc 0 0,oc 1 0,oc 2 0,x3,x4,x5,x6,x7,x8,x9,x10,x11,x12,x13,x14,x15,x16,x17,x18,x19,x20,x21,x22,x23,x24,x25,x26],b0::⟨93,.ae [I 2,I 3],2,true⟩::⟨127,.ae [I 1,I 5,I (-1),I 300,I 0,I 0,I 1,I 2],8,true⟩::bZ,E⟩ K:=same (by kernel_rfl) h
theorem OI {K:St->Prop} (h:K ⟨[oc 0 0,oc 1 0,oc 2 0,x3,x4,x5,x6,x7,x8,some (.agg [I 2,I 3]),some (.agg [I 2,I 3,I 2,I 9,I 17]),x11,x12,x13,x14,x15,x16,x17,x18,x19,x20,x21,x22,x23,x24,x25,x26],(b0::⟨93,.ae [I 2,I 3],2,true⟩::⟨127,.ae [I 1,I 5,I (-1),I 300,I 0,I 0,I 1,I 2],8,true⟩::bZ),E⟩):iV ak 4 ⟨[oc 0 0,oc 1 0,oc 2 0,x3,x4,x5,x6,x7,x8,some (.agg [I 2,I 3]),x10,x11,x12,x13,x14,x15,x16,x17,x18,x19,x20,x21,x22,x23,x24,x25,x26],b0::⟨93,.ae [I 2,I 3],2,true⟩::⟨127,.ae [I 1,I 5,I (-1),I 300,I 0,I 0,I 1,I 2],8,true⟩::bZ,E⟩ K:=same (by kernel_rfl) h
theorem OJ {K:St->Prop} (h:K ⟨[oc 0 0,oc 1 0,oc 2 0,x3,x4,x5,x6,x7,x8,x9,some (.agg [I 2,I 3,I 2,I 9,I 17]),os (bZ.length+3) 0 1 1,x12,x13,x14,x15,x16,x17,x18,x19,x20,x21,x22,x23,x24,x25,x26],(b0::⟨93,.ae [I 2,I 3],2,true⟩::⟨127,.ae [I 1,I 5,I (-1),I 300,I 0,I 0,I 1,I 2],8,true⟩::bZ++[⟨97,.ae [I 2,I 3,I 2,I 9,I 17],5,true⟩]),E⟩):iV ak 5 ⟨[oc 0 0,oc 1 0,oc 2 0,x3,x4,x5,x6,x7,x8,x9,some (.agg [I 2,I 3,I 2,I 9,I 17]),x11,x12,x13,x14,x15,x16,x17,x18,x19,x20,x21,x22,x23,x24,x25,x26],b0::⟨93,.ae [I 2,I 3],2,true⟩::⟨127,.ae [I 1,I 5,I (-1),I 300,I 0,I 0,I 1,I 2],8,true⟩::bZ,E⟩ K:=same (by kernel_rfl) h
theorem OK {K:St->Prop} (h:K ⟨[oc 0 0,oc 1 0,oc 2 0,x3,x4,x5,x6,x7,x8,x9,x10,x11,some (.agg [I 2,I 3]),x13,x14,x15,x16,x17,x18,x19,x20,x21,x22,x23,x24,x25,x26],(b0::⟨93,.ae [I 2,I 3],2,true⟩::⟨127,.ae [I 1,I 5,I (-1),I 300,I 0,I 0,I 1,I 2],8,true⟩::bZ),E⟩):iV ak 6 ⟨[oc 0 0,oc 1 0,oc 2 0,x3,x4,x5,x6,x7,x8,x9,x10,x11,x12,x13,x14,x15,x16,x17,x18,x19,x20,x21,x22,x23,x24,x25,x26],b0::⟨93,.ae [I 2,I 3],2,true⟩::⟨127,.ae [I 1,I 5,I (-1),I 300,I 0,I 0,I 1,I 2],8,true⟩::bZ,E⟩ K:=same (by kernel_rfl) h
theorem OL {K:St->Prop} (h:K ⟨[oc 0 0,oc 1 0,oc 2 0,x3,x4,x5,x6,x7,x8,x9,x10,x11,some (.agg [I 2,I 3]),some (.agg [I 2,I 3,I 4]),x14,x15,x16,x17,x18,x19,x20,x21,x22,x23,x24,x25,x26],(b0::⟨93,.ae [I 2,I 3],2,true⟩::⟨127,.ae [I 1,I 5,I (-1),I 300,I 0,I 0,I 1,I 2],8,true⟩::bZ),E⟩):iV ak 7 ⟨[oc 0 0,oc 1 0,oc 2 0,x3,x4,x5,x6,x7,x8,x9,x10,x11,some (.agg [I 2,I 3]),x13,x14,x15,x16,x17,x18,x19,x20,x21,x22,x23,x24,x25,x26],b0::⟨93,.ae [I 2,I 3],2,true⟩::⟨127,.ae [I 1,I 5,I (-1),I 300,I 0,I 0,I 1,I 2],8,true⟩::bZ,E⟩ K:=same (by kernel_rfl) h
theorem OM {K:St->Prop} (h:K ⟨[oc 0 0,oc 1 0,oc 2 0,x3,x4,x5,x6,x7,x8,x9,x10,x11,x12,some (.agg [I 2,I 3,I 4]),os (bZ.length+3) 0 1 1,x15,x16,x17,x18,x19,x20,x21,x22,x23,x24,x25,x26],(b0::⟨93,.ae [I 2,I 3],2,true⟩::⟨127,.ae [I 1,I 5,I (-1),I 300,I 0,I 0,I 1,I 2],8,true⟩::bZ++[⟨99,.ae [I 2,I 3,I 4],3,true⟩]),E⟩):iV ak 8 ⟨[oc 0 0,oc 1 0,oc 2 0,x3,x4,x5,x6,x7,x8,x9,x10,x11,x12,some (.agg [I 2,I 3,I 4]),x14,x15,x16,x17,x18,x19,x20,x21,x22,x23,x24,x25,x26],b0::⟨93,.ae [I 2,I 3],2,true⟩::⟨127,.ae [I 1,I 5,I (-1),I 300,I 0,I 0,I 1,I 2],8,true⟩::bZ,E⟩ K:=same (by kernel_rfl) h
theorem ON {K:St->Prop} (h:K ⟨[oc 0 0,oc 1 0,oc 2 0,x3,x4,x5,x6,x7,x8,x9,x10,x11,x12,x13,x14,some (.agg [I 6,I 0,I 70,I 0]),x16,x17,x18,x19,x20,x21,x22,x23,x24,x25,x26],(b0::⟨93,.ae [I 2,I 3],2,true⟩::⟨127,.ae [I 1,I 5,I (-1),I 300,I 0,I 0,I 1,I 2],8,true⟩::bZ),E⟩):iV ak 9 ⟨[oc 0 0,oc 1 0,oc 2 0,x3,x4,x5,x6,x7,x8,x9,x10,x11,x12,x13,x14,x15,x16,x17,x18,x19,x20,x21,x22,x23,x24,x25,x26],b0::⟨93,.ae [I 2,I 3],2,true⟩::⟨127,.ae [I 1,I 5,I (-1),I 300,I 0,I 0,I 1,I 2],8,true⟩::bZ,E⟩ K:=same (by kernel_rfl) h
theorem KU {K:St->Prop} (h:K ⟨[oc 0 0,oc 1 0,oc 2 0,x3,x4,x5,x6,x7,x8,x9,x10,x11,x12,x13,x14,some (.agg [I 6,I 0,I 70,I 0]),os (bZ.length+3) 0 1 1,x17,x18,x19,x20,x21,x22,x23,x24,x25,x26],(b0::⟨93,.ae [I 2,I 3],2,true⟩::⟨127,.ae [I 1,I 5,I (-1),I 300,I 0,I 0,I 1,I 2],8,true⟩::bZ++[⟨101,.ae [I 6,I 0,I 70,I 0],4,true⟩]),E⟩):iV ak 10 ⟨[oc 0 0,oc 1 0,oc 2 0,x3,x4,x5,x6,x7,x8,x9,x10,x11,x12,x13,x14,some (.agg [I 6,I 0,I 70,I 0]),x16,x17,x18,x19,x20,x21,x22,x23,x24,x25,x26],b0::⟨93,.ae [I 2,I 3],2,true⟩::⟨127,.ae [I 1,I 5,I (-1),I 300,I 0,I 0,I 1,I 2],8,true⟩::bZ,E⟩ K:=same (by kernel_rfl) h
theorem KV {K:St->Prop} (h:K ⟨[oc 0 0,oc 1 0,oc 2 0,x3,x4,x5,x6,x7,x8,x9,x10,x11,x12,x13,x14,x15,x16,some (.agg [I 1,I 5,I (-1),I 300,I 0,I 0,I 1,I 2]),x18,x19,x20,x21,x22,x23,x24,x25,x26],(b0::⟨93,.ae [I 2,I 3],2,true⟩::⟨127,.ae [I 1,I 5,I (-1),I 300,I 0,I 0,I 1,I 2],8,true⟩::bZ),E⟩):iV ak 11 ⟨[oc 0 0,oc 1 0,oc 2 0,x3,x4,x5,x6,x7,x8,x9,x10,x11,x12,x13,x14,x15,x16,x17,x18,x19,x20,x21,x22,x23,x24,x25,x26],b0::⟨93,.ae [I 2,I 3],2,true⟩::⟨127,.ae [I 1,I 5,I (-1),I 300,I 0,I 0,I 1,I 2],8,true⟩::bZ,E⟩ K:=same (by kernel_rfl) h
theorem KW {K:St->Prop} (h:K ⟨[oc 0 0,oc 1 0,oc 2 0,x3,x4,x5,x6,x7,x8,x9,x10,x11,x12,x13,x14,x15,x16,some (.agg [I 1,I 5,I (-1),I 300,I 0,I 0,I 1,I 2]),os (bZ.length+3) 0 1 1,x19,x20,x21,x22,x23,x24,x25,x26],(b0::⟨93,.ae [I 2,I 3],2,true⟩::⟨127,.ae [I 1,I 5,I (-1),I 300,I 0,I 0,I 1,I 2],8,true⟩::bZ++[⟨127,.ae [I 1,I 5,I (-1),I 300,I 0,I 0,I 1,I 2],8,true⟩]),E⟩):iV ak 12 ⟨[oc 0 0,oc 1 0,oc 2 0,x3,x4,x5,x6,x7,x8,x9,x10,x11,x12,x13,x14,x15,x16,some (.agg [I 1,I 5,I (-1),I 300,I 0,I 0,I 1,I 2]),x18,x19,x20,x21,x22,x23,x24,x25,x26],b0::⟨93,.ae [I 2,I 3],2,true⟩::⟨127,.ae [I 1,I 5,I (-1),I 300,I 0,I 0,I 1,I 2],8,true⟩::bZ,E⟩ K:=same (by kernel_rfl) h
theorem KX {K:St->Prop} (h:K ⟨[oc 0 0,oc 1 0,oc 2 0,x3,x4,x5,x6,x7,x8,x9,x10,x11,x12,x13,x14,x15,x16,x17,x18,some (.agg [I 1,I 5,I (-1),I 300,I 0,I 0,I 1,I 2]),x20,x21,x22,x23,x24,x25,x26],(b0::⟨93,.ae [I 2,I 3],2,true⟩::⟨127,.ae [I 1,I 5,I (-1),I 300,I 0,I 0,I 1,I 2],8,true⟩::bZ),E⟩):iV ak 13 ⟨[oc 0 0,oc 1 0,oc 2 0,x3,x4,x5,x6,x7,x8,x9,x10,x11,x12,x13,x14,x15,x16,x17,x18,x19,x20,x21,x22,x23,x24,x25,x26],b0::⟨93,.ae [I 2,I 3],2,true⟩::⟨127,.ae [I 1,I 5,I (-1),I 300,I 0,I 0,I 1,I 2],8,true⟩::bZ,E⟩ K:=same (by kernel_rfl) h
theorem KY {K:St->Prop} (h:K ⟨[oc 0 0,oc 1 0,oc 2 0,x3,x4,x5,x6,x7,x8,x9,x10,x11,x12,x13,x14,x15,x16,x17,x18,some (.agg [I 1,I 5,I (-1),I 300,I 0,I 0,I 1,I 2]),os (bZ.length+3) 0 1 1,x21,x22,x23,x24,x25,x26],(b0::⟨93,.ae [I 2,I 3],2,true⟩::⟨127,.ae [I 1,I 5,I (-1),I 300,I 0,I 0,I 1,I 2],8,true⟩::bZ++[⟨127,.ae [I 1,I 5,I (-1),I 300,I 0,I 0,I 1,I 2],8,true⟩]),E⟩):iV ak 14 ⟨[oc 0 0,oc 1 0,oc 2 0,x3,x4,x5,x6,x7,x8,x9,x10,x11,x12,x13,x14,x15,x16,x17,x18,some (.agg [I 1,I 5,I (-1),I 300,I 0,I 0,I 1,I 2]),x20,x21,x22,x23,x24,x25,x26],b0::⟨93,.ae [I 2,I 3],2,true⟩::⟨127,.ae [I 1,I 5,I (-1),I 300,I 0,I 0,I 1,I 2],8,true⟩::bZ,E⟩ K:=same (by kernel_rfl) h
theorem KZ {K:St->Prop} (h:K ⟨[oc 0 0,oc 1 0,oc 2 0,x3,x4,x5,x6,x7,x8,x9,x10,x11,x12,x13,x14,x15,x16,x17,x18,x19,x20,os (bZ.length+3) 0 1 1,x22,x23,x24,x25,x26],(b0::⟨93,.ae [I 2,I 3],2,true⟩::⟨127,.ae [I 1,I 5,I (-1),I 300,I 0,I 0,I 1,I 2],8,true⟩::bZ++[⟨3,.ae [I 8],1,true⟩]),E⟩):iV ak 15 ⟨[oc 0 0,oc 1 0,oc 2 0,x3,x4,x5,x6,x7,x8,x9,x10,x11,x12,x13,x14,x15,x16,x17,x18,x19,x20,x21,x22,x23,x24,x25,x26],b0::⟨93,.ae [I 2,I 3],2,true⟩::⟨127,.ae [I 1,I 5,I (-1),I 300,I 0,I 0,I 1,I 2],8,true⟩::bZ,E⟩ K:=same (by kernel_rfl) h
theorem K0 {K:St->Prop} (h:K ⟨[oc 0 0,oc 1 0,oc 2 0,x3,x4,x5,x6,x7,x8,x9,x10,x11,x12,x13,x14,x15,x16,x17,x18,x19,x20,x21,some (.agg [I 2,I 0,.raw (.int .u64 9223372036854775808),I 0]),x23,x24,x25,x26],(b0::⟨93,.ae [I 2,I 3],2,true⟩::⟨127,.ae [I 1,I 5,I (-1),I 300,I 0,I 0,I 1,I 2],8,true⟩::bZ),E⟩):iV ak 16 ⟨[oc 0 0,oc 1 0,oc 2 0,x3,x4,x5,x6,x7,x8,x9,x10,x11,x12,x13,x14,x15,x16,x17,x18,x19,x20,x21,x22,x23,x24,x25,x26],b0::⟨93,.ae [I 2,I 3],2,true⟩::⟨127,.ae [I 1,I 5,I (-1),I 300,I 0,I 0,I 1,I 2],8,true⟩::bZ,E⟩ K:=same (by kernel_rfl) h
theorem K1 {K:St->Prop} (h:K ⟨[oc 0 0,oc 1 0,oc 2 0,x3,x4,x5,x6,x7,x8,x9,x10,x11,x12,x13,x14,x15,x16,x17,x18,x19,x20,x21,x22,os (bZ.length+3) 0 16 16,x24,x25,x26],(b0::⟨93,.ae [I 2,I 3],2,true⟩::⟨127,.ae [I 1,I 5,I (-1),I 300,I 0,I 0,I 1,I 2],8,true⟩::bZ++[⟨5,.vals (bW [.int .u8 0] 16),16,true⟩]),E⟩):iV ak 17 ⟨[oc 0 0,oc 1 0,oc 2 0,x3,x4,x5,x6,x7,x8,x9,x10,x11,x12,x13,x14,x15,x16,x17,x18,x19,x20,x21,x22,x23,x24,x25,x26],b0::⟨93,.ae [I 2,I 3],2,true⟩::⟨127,.ae [I 1,I 5,I (-1),I 300,I 0,I 0,I 1,I 2],8,true⟩::bZ,E⟩ K:=same (by kernel_rfl) h
theorem K2 {K:St->Prop} (h:K ⟨[oc 0 0,oc 1 0,oc 2 0,x3,x4,x5,x6,x7,x8,x9,x10,x11,x12,x13,x14,x15,x16,x17,x18,x19,x20,x21,x22,x23,os (bZ.length+3) 0 1 1,x25,x26],(b0::⟨93,.ae [I 2,I 3],2,true⟩::⟨127,.ae [I 1,I 5,I (-1),I 300,I 0,I 0,I 1,I 2],8,true⟩::bZ++[⟨32,.ae [.raw (.int .u64 5)],1,true⟩]),E⟩):iV ak 18 ⟨[oc 0 0,oc 1 0,oc 2 0,x3,x4,x5,x6,x7,x8,x9,x10,x11,x12,x13,x14,x15,x16,x17,x18,x19,x20,x21,x22,x23,x24,x25,x26],b0::⟨93,.ae [I 2,I 3],2,true⟩::⟨127,.ae [I 1,I 5,I (-1),I 300,I 0,I 0,I 1,I 2],8,true⟩::bZ,E⟩ K:=same (by kernel_rfl) h
theorem K3 {K:St->Prop} (h:K ⟨[oc 0 0,oc 1 0,oc 2 0,x3,x4,x5,x6,x7,x8,x9,x10,x11,x12,x13,x14,x15,x16,x17,x18,x19,x20,x21,x22,oL aZ 16 bc,oL bg 1 bh,some (.agg [I 1,I 2,L aZ 16 bc,L bg 1 bh]),x26],(b0::⟨93,.ae [I 2,I 3],2,true⟩::⟨127,.ae [I 1,I 5,I (-1),I 300,I 0,I 0,I 1,I 2],8,true⟩::bZ),E⟩):iV ak 19 ⟨[oc 0 0,oc 1 0,oc 2 0,x3,x4,x5,x6,x7,x8,x9,x10,x11,x12,x13,x14,x15,x16,x17,x18,x19,x20,x21,x22,oL aZ 16 bc,oL bg 1 bh,x25,x26],b0::⟨93,.ae [I 2,I 3],2,true⟩::⟨127,.ae [I 1,I 5,I (-1),I 300,I 0,I 0,I 1,I 2],8,true⟩::bZ,E⟩ K:=same (by kernel_rfl) h
theorem K4 {K:St->Prop} (h:K ⟨[oc 0 0,oc 1 0,oc 2 0,x3,x4,x5,x6,x7,oL aC 1 aB,x9,x10,oL aF 1 aG,x12,x13,oL aH 1 aI,x15,oL aK 1 aL,x17,oL aS 1 aT,x19,oL aU 1 aV,oL aX 1 aY,some (.agg [I 2,I 0,.raw (.int .u64 9223372036854775808),I 0]),x23,x24,some (.agg [I 1,I 2,L aZ 16 bc,L bg 1 bh]),some (.agg [I 7,I 100,I 0,I 0,I 0,I 0,I 0,I 0,I (-1),I 0,I 0,L aC 1 aB,L aF 1 aG,L aH 1 aI,L aK 1 aL,B true,L aS 1 aT,L aU 1 aV,L aX 1 aY,I 2,I 0,.raw (.int .u64 9223372036854775808),I 0,I 0,I 0,I 1,I 2,L aZ 16 bc,L bg 1 bh,B true])],(b0::⟨93,.ae [I 2,I 3],2,true⟩::⟨127,.ae [I 1,I 5,I (-1),I 300,I 0,I 0,I 1,I 2],8,true⟩::bZ),E⟩):iV ak 20 ⟨[oc 0 0,oc 1 0,oc 2 0,x3,x4,x5,x6,x7,oL aC 1 aB,x9,x10,oL aF 1 aG,x12,x13,oL aH 1 aI,x15,oL aK 1 aL,x17,oL aS 1 aT,x19,oL aU 1 aV,oL aX 1 aY,some (.agg [I 2,I 0,.raw (.int .u64 9223372036854775808),I 0]),x23,x24,some (.agg [I 1,I 2,L aZ 16 bc,L bg 1 bh]),x26],b0::⟨93,.ae [I 2,I 3],2,true⟩::⟨127,.ae [I 1,I 5,I (-1),I 300,I 0,I 0,I 1,I 2],8,true⟩::bZ,E⟩ K:=same (by kernel_rfl) h
theorem K5 {K:St->Prop} (h:K ⟨[oc 0 0,oc 1 0,oc 2 0,x3,x4,x5,x6,x7,x8,x9,x10,x11,x12,x13,x14,x15,x16,x17,x18,x19,x20,x21,x22,x23,x24,x25,some (.agg [I 7,I 100,I 0,I 0,I 0,I 0,I 0,I 0,I (-1),I 0,I 0,L aC 1 aB,L aF 1 aG,L aH 1 aI,L aK 1 aL,B true,L aS 1 aT,L aU 1 aV,L aX 1 aY,I 2,I 0,.raw (.int .u64 9223372036854775808),I 0,I 0,I 0,I 1,I 2,L aZ 16 bc,L bg 1 bh,B true])],(⟨40,.ae [I 7,I 100,I 0,I 0,I 0,I 0,I 0,I 0,I (-1),I 0,I 0,L aC 1 aB,L aF 1 aG,L aH 1 aI,L aK 1 aL,B true,L aS 1 aT,L aU 1 aV,L aX 1 aY,I 2,I 0,.raw (.int .u64 9223372036854775808),I 0,I 0,I 0,I 1,I 2,L aZ 16 bc,L bg 1 bh,B true],30,true⟩::⟨93,.ae [I 2,I 3],2,true⟩::⟨127,.ae [I 1,I 5,I (-1),I 300,I 0,I 0,I 1,I 2],8,true⟩::bZ),E⟩):iV ak 21 ⟨[oc 0 0,oc 1 0,oc 2 0,x3,x4,x5,x6,x7,x8,x9,x10,x11,x12,x13,x14,x15,x16,x17,x18,x19,x20,x21,x22,x23,x24,x25,some (.agg [I 7,I 100,I 0,I 0,I 0,I 0,I 0,I 0,I (-1),I 0,I 0,L aC 1 aB,L aF 1 aG,L aH 1 aI,L aK 1 aL,B true,L aS 1 aT,L aU 1 aV,L aX 1 aY,I 2,I 0,.raw (.int .u64 9223372036854775808),I 0,I 0,I 0,I 1,I 2,L aZ 16 bc,L bg 1 bh,B true])],⟨40,.ae [I 0,I 0,I 0,I 0,I 0,I 0,I 0,I 0,I 0,I 0,I 0,L none 0 0,L none 0 0,L none 0 0,L none 0 0,B false,L none 0 0,L none 0 0,L none 0 0,I 0,I 0,.raw (.int .u64 0),I 0,I 0,I 0,I 0,I 0,L none 0 0,L none 0 0,B false],30,true⟩::⟨93,.ae [I 2,I 3],2,true⟩::⟨127,.ae [I 1,I 5,I (-1),I 300,I 0,I 0,I 1,I 2],8,true⟩::bZ,E⟩ K:=same (by kernel_rfl) h
def fz:Bc:=⟨7,100,0,0,0,0,0,0, -1,0,0,[[2,3,1,9]],[[2,3,2,9,17]],[[2,3,4]],[[6,0,70,0]],true,[[1,5, -1,300,0,0,1,2]],[[1,5, -1,300,0,0,1,2]],[[8]],2,0,9223372036854775808,0,0,0,1,2,List.replicate 16 0,[[5]],true⟩
def Pv (i:Nat) (E:Mem) (v:SV):Prop:=match i with
 | 0=>v= .agg [I 2,I 3]
 | 1=>v= .agg [I 2,I 3,I 1,I 9]
 | 2=>∃ (b:Oa) (c:Nat),v=L b 1 c/\SL (RK .i64 4) E b 1 c [[2,3,1,9]]
 | 3=>v= .agg [I 2,I 3]
 | 4=>v= .agg [I 2,I 3,I 2,I 9,I 17]
 | 5=>∃ (b:Oa) (c:Nat),v=L b 1 c/\SL (RK .i64 5) E b 1 c [[2,3,2,9,17]]
 | 6=>v= .agg [I 2,I 3]
 | 7=>v= .agg [I 2,I 3,I 4]
 | 8=>∃ (b:Oa) (c:Nat),v=L b 1 c/\SL (RK .i64 3) E b 1 c [[2,3,4]]
 | 9=>v= .agg [I 6,I 0,I 70,I 0]
 | 10=>∃ (b:Oa) (c:Nat),v=L b 1 c/\SL (RK .i64 4) E b 1 c [[6,0,70,0]]
 | 11=>v= .agg [I 1,I 5,I (-1),I 300,I 0,I 0,I 1,I 2]
 | 12=>∃ (b:Oa) (c:Nat),v=L b 1 c/\SL (RK .i64 8) E b 1 c [[1,5, -1,300,0,0,1,2]]
 | 13=>v= .agg [I 1,I 5,I (-1),I 300,I 0,I 0,I 1,I 2]
 | 14=>∃ (b:Oa) (c:Nat),v=L b 1 c/\SL (RK .i64 8) E b 1 c [[1,5, -1,300,0,0,1,2]]
 | 15=>∃ (b:Oa) (c:Nat),v=L b 1 c/\SL (RK .i64 1) E b 1 c [[8]]
 | 16=>v= .agg [I 2,I 0,.raw (.int .u64 9223372036854775808),I 0]
 | 17=>∃ (b:Oa) (c:Nat),v=L b 16 c/\Bs E b 16 c (List.replicate 16 0)
 | 18=>∃ (b:Oa) (c:Nat),v=L b 1 c/\SL (RK .u64 1) E b 1 c [[5]]
 | 19=>∃ (b:Oa) (c:Nat) (d:Oa) (e:Nat),v= .agg [I 1,I 2,L b 16 c,L d 1 e]/\Bs E b 16 c (List.replicate 16 0)/\SL (RK .u64 1) E d 1 e [[5]]
 | 20=>∃ (aC:Oa) (aB:Nat) (aF:Oa) (aG:Nat) (aH:Oa) (aI:Nat) (aK:Oa) (aL:Nat) (aS:Oa) (aT:Nat) (aU:Oa) (aV:Nat) (aX:Oa) (aY:Nat) (aZ:Oa) (bc:Nat) (bg:Oa) (bh:Nat),v= .agg [I 7,I 100,I 0,I 0,I 0,I 0,I 0,I 0,I (-1),I 0,I 0,L aC 1 aB,L aF 1 aG,L aH 1 aI,L aK 1 aL,B true,L aS 1 aT,L aU 1 aV,L aX 1 aY,I 2,I 0,.raw (.int .u64 9223372036854775808),I 0,I 0,I 0,I 1,I 2,L aZ 16 bc,L bg 1 bh,B true]/\iY E fz aC 1 aB aF 1 aG aH 1 aI aK 1 aL aS 1 aT aU 1 aV aX 1 aY aZ 16 bc bg 1 bh
 | _=>False
theorem Pv.mono {E':Mem} {v:SV} (h:Pv i E v) (he:Mem.le E E'):Pv i E' v:=by
 match i,h with
 | 0,h=>exact h
 | 1,h=>exact h
 | 2,⟨b,c,e,hS⟩=>exact ⟨b,c,e,hS.mono (bC _ (by decide)) he⟩
 | 3,h=>exact h
 | 4,h=>exact h
 | 5,⟨b,c,e,hS⟩=>exact ⟨b,c,e,hS.mono (bC _ (by decide)) he⟩
 | 6,h=>exact h
 | 7,h=>exact h
 | 8,⟨b,c,e,hS⟩=>exact ⟨b,c,e,hS.mono (bC _ (by decide)) he⟩
 | 9,h=>exact h
 | 10,⟨b,c,e,hS⟩=>exact ⟨b,c,e,hS.mono (bC _ (by decide)) he⟩
 | 11,h=>exact h
 | 12,⟨b,c,e,hS⟩=>exact ⟨b,c,e,hS.mono (bC _ (by decide)) he⟩
 | 13,h=>exact h
 | 14,⟨b,c,e,hS⟩=>exact ⟨b,c,e,hS.mono (bC _ (by decide)) he⟩
 | 15,⟨b,c,e,hS⟩=>exact ⟨b,c,e,hS.mono (bC _ (by decide)) he⟩
 | 16,h=>exact h
 | 17,⟨b,c,e,hS⟩=>exact ⟨b,c,e,hS.mono he⟩
 | 18,⟨b,c,e,hS⟩=>exact ⟨b,c,e,hS.mono (bC _ (by decide)) he⟩
 | 19,⟨b,c,d,m,e,hB,hS⟩=>exact ⟨b,c,d,m,e,hB.mono he,hS.mono (bC _ (by decide)) he⟩
 | 20,⟨aC,aB,aF,aG,aH,aI,aK,aL,aS,aT,aU,aV,aX,aY,aZ,bc,bg,bh,e,hM⟩=>exact ⟨aC,aB,aF,aG,aH,aI,aK,aL,aS,aT,aU,aV,aX,aY,aZ,bc,bg,bh,e,hM.mono he⟩
theorem Pv.raw {v:SV} {base:Oa} (h:Pv i E v):v.subst k base=v:=by
 match i,h with
 | 0,h=>have h:v=_:=h;subst h;rfl
 | 1,h=>have h:v=_:=h;subst h;rfl
 | 2,⟨b,c,e,hS⟩=>subst e;rfl
 | 3,h=>have h:v=_:=h;subst h;rfl
 | 4,h=>have h:v=_:=h;subst h;rfl
 | 5,⟨b,c,e,hS⟩=>subst e;rfl
 | 6,h=>have h:v=_:=h;subst h;rfl
 | 7,h=>have h:v=_:=h;subst h;rfl
 | 8,⟨b,c,e,hS⟩=>subst e;rfl
 | 9,h=>have h:v=_:=h;subst h;rfl
 | 10,⟨b,c,e,hS⟩=>subst e;rfl
 | 11,h=>have h:v=_:=h;subst h;rfl
 | 12,⟨b,c,e,hS⟩=>subst e;rfl
 | 13,h=>have h:v=_:=h;subst h;rfl
 | 14,⟨b,c,e,hS⟩=>subst e;rfl
 | 15,⟨b,c,e,hS⟩=>subst e;rfl
 | 16,h=>have h:v=_:=h;subst h;rfl
 | 17,⟨b,c,e,hS⟩=>subst e;rfl
 | 18,⟨b,c,e,hS⟩=>subst e;rfl
 | 19,⟨b,c,d,m,e,hB,hS⟩=>subst e;rfl
 | 20,⟨aC,aB,aF,aG,aH,aI,aK,aL,aS,aT,aU,aV,aX,aY,aZ,bc,bg,bh,e,hM⟩=>subst e;rfl
structure sx (E0:Mem) (D:Array Bool) (S:St):Prop where
 len:S.fr.length=27
 f0:S.fr[0]? =some (oc 0 0)
 f1:S.fr[1]? =some (oc 1 0)
 f2:S.fr[2]? =some (oc 2 0)
 sl:∀ i,i<21->D.getD i false=true->∃ v,S.fr[i+6]? =some (some v)/\Pv i S.E v
 bx:∃ v bZ,S.bx=⟨40,.ae v,30,true⟩::⟨93,.ae [I 2,I 3],2,true⟩::⟨127,.ae [I 1,I 5,I (-1),I 300,I 0,I 0,I 1,I 2],8,true⟩::bZ/\(D.getD 21 false=false->v=[I 0,I 0,I 0,I 0,I 0,I 0,I 0,I 0,I 0,I 0,I 0,L none 0 0,L none 0 0,L none 0 0,L none 0 0,B false,L none 0 0,L none 0 0,L none 0 0,I 0,I 0,.raw (.int .u64 0),I 0,I 0,I 0,I 0,I 0,L none 0 0,L none 0 0,B false])/\(D.getD 21 false=true->Pv 20 S.E (.agg v))
 le:Mem.le E0 S.E
 sz:D.size=22
theorem OO (h:(D.setIfInBounds i true).getD j false=true):j=i\/D.getD j false=true:=by
 by_cases e:j=i
 ·exact .inl e
 ·right;rw [Array.getD_eq_getD_getElem?] at h ⊢
  rwa [Array.getElem?_setIfInBounds_ne (Ne.symm e)] at h
theorem OP (e:j≠i):(D.setIfInBounds i true).getD j false=D.getD j false:=by rw [Array.getD_eq_getD_getElem?,Array.getD_eq_getD_getElem?,Array.getElem?_setIfInBounds_ne (Ne.symm e)]
theorem sx.FR {v:SV} (h:sx E0 D S) (hi:i<21) (hv:Pv i S.E v):sx E0 (D.setIfInBounds i true) ⟨S.fr.set (i+6) (some v),S.bx,S.E⟩ where
 len:=by rw [List.length_set];exact h.len
 f0:=by show (S.fr.set _ _)[0]? =_;rw [List.getElem?_set_ne (by omega)];exact h.f0
 f1:=by show (S.fr.set _ _)[1]? =_;rw [List.getElem?_set_ne (by omega)];exact h.f1
 f2:=by show (S.fr.set _ _)[2]? =_;rw [List.getElem?_set_ne (by omega)];exact h.f2
 sl j hj hl:=by
  by_cases e:j=i
  ·subst e;exact ⟨v,by show (S.fr.set _ _)[j+6]? =_;rw [List.getElem?_set_self (by rw [h.len];omega)],hv⟩
  ·obtain ⟨u,h1,h2⟩:=h.sl j hj ((OO hl).resolve_left e);exact ⟨u,by show (S.fr.set _ _)[j+6]? =_;rw [List.getElem?_set_ne (by omega)];exact h1,h2⟩
 bx:=by rw [OP (by omega)];exact h.bx
 le:=h.le
 sz:=by rw [Array.size_setIfInBounds];exact h.sz
theorem sx.xL {y:aR} {cs:Lv} (h:sx E0 D S) (hi:i<21) (hk:k=S.bx.length) (hcs:y.row.val=some cs)
  (hP:∀ (base:Oa) (E':Mem),Mem.le S.E E'->gD E' base cs->Pv i E' (.raw (iP base 0 n n))):AN (sx E0 (D.setIfInBounds i true)) ⟨S.fr.set (i+6) (os k 0 n n),S.bx++[y],S.E⟩:=by
 refine Or.inr ⟨k,y,cs,⟨by show (S.bx++[y])[k]? =_;rw [hk];simp,hcs⟩,λbase E' hle hw=>?_⟩;obtain ⟨v,bZ,hb,Sb,Sc⟩:=h.bx;have get:∀ (j:Nat) (u:SV),j≠i+6->S.fr[j]? =some (some u)->u.subst k base=u->((S.fr.set (i+6) (os k 0 n n)).map (Option.map (SV.subst k base)))[j]? =some (some u):=λj u e hu hs=>by rw [List.getElem?_map,List.getElem?_set_ne (Ne.symm e),hu];simp [hs]
 have hv:SV.lR k base v=v:=by
  cases hD:D.getD 21 false with
  | false=>rw [Sb hD];rfl
  | true=>exact SV.agg.inj (Pv.raw (k:=k) (base:=base) (Sc hD))
 refine ⟨by show (List.map _ _).length=_;rw [List.length_map,List.length_set];exact h.len,get 0 _ (by omega) h.f0 rfl,get 1 _ (by omega) h.f1 rfl,get 2 _ (by omega) h.f2 rfl,λj hj hl=>?_,⟨v,bZ.map (aR.subst k base)++[aR.subst k base { y with own:=false }],?_,?_,?_⟩,bq h.le hle,by rw [Array.size_setIfInBounds];exact h.sz⟩
 ·by_cases e:j=i
  ·subst e;refine ⟨.raw (iP base 0 n n),?_,hP base E' hle hw⟩;show ((S.fr.set (j+6) (os k 0 n n)).map (Option.map (SV.subst k base)))[j+6]? =_;rw [List.getElem?_map,List.getElem?_set_self (by rw [h.len];omega)];simp [SV.subst]
  ·obtain ⟨u,h1,h2⟩:=h.sl j hj ((OO hl).resolve_left e);exact ⟨u,get (j+6) u (by omega) h1 h2.raw,h2.mono hle⟩
 ·show ((S.bx++[y]).set k { y with own:=false }).map (aR.subst k base)=_;rw [hk,List.set_append_right _ _ (Nat.le_refl _),Nat.sub_self,List.set_cons_zero,List.map_append,← hk,hb];have e0:aR.subst k base ⟨40,.ae v,30,true⟩=⟨40,.ae v,30,true⟩:=by
   show (⟨40,.ae (SV.lR k base v),30,true⟩:aR)=_;rw [hv]
  rw [List.map_cons,e0];rfl
 ·intro hD;rw [OP (by omega)] at hD;exact Sb hD
 ·intro hD;rw [OP (by omega)] at hD;exact (Sc hD).mono hle
theorem xo:qq.size=22:=by kernel_rfl
theorem jA (h:i∈Region.ready .any qq D) (hd:((qq[i]?).map λo=>o.after.any λe=>Region.binds .any e&&e.on==j)=some true):D.getD j false=true:=by
 obtain ⟨_,o,ho,hall⟩:=mem_ready.1 h;rw [ho] at hd;simp only [Option.map_some,Option.some.injEq,Array.any_eq_true,Bool.and_eq_true,beq_iff_eq] at hd;obtain ⟨k,hk,h1,h2⟩:=hd;have:=hall _ (Array.getElem_mem hk) h1
 rwa [h2] at this
theorem Sd {fr:List (Option SV)} (h:fr.length=27):∃ x0 x1 x2 x3 x4 x5 x6 x7 x8 x9 x10 x11 x12 x13 x14 x15 x16 x17 x18 x19 x20 x21 x22 x23 x24 x25 x26,fr=[x0,x1,x2,x3,x4,x5,x6,x7,x8,x9,x10,x11,x12,x13,x14,x15,x16,x17,x18,x19,x20,x21,x22,x23,x24,x25,x26]:=by
 match fr,h with
 | [x0,x1,x2,x3,x4,x5,x6,x7,x8,x9,x10,x11,x12,x13,x14,x15,x16,x17,x18,x19,x20,x21,x22,x23,x24,x25,x26],_=>exact ⟨x0,x1,x2,x3,x4,x5,x6,x7,x8,x9,x10,x11,x12,x13,x14,x15,x16,x17,x18,x19,x20,x21,x22,x23,x24,x25,x26,rfl⟩
theorem OQ (hi:i<22) (hr:i∈Region.ready .any qq D) (h:sx E0 D S):iV ak i S (AN (sx E0 (D.setIfInBounds i true))):=by
 obtain ⟨fr,bx,E⟩:=S;obtain ⟨x0,x1,x2,x3,x4,x5,x6,x7,x8,x9,x10,x11,x12,x13,x14,x15,x16,x17,x18,x19,x20,x21,x22,x23,x24,x25,x26,e⟩:=Sd h.len;have e:fr=_:=e;subst e;have q0:some x0=some (oc 0 0):=h.f0;have q1:some x1=some (oc 1 0):=h.f1;have q2:some x2=some (oc 2 0):=h.f2
 cases q0;cases q1;cases q2;obtain ⟨v,bZ,hb,Sb,Sc⟩:=h.bx;have hb:bx=_:=hb;subst hb
 match i,hi with
 | 0,_=>
  exact OE (.inl (sx.FR (i:=0) (v:=.agg [I 2,I 3]) h (by decide) rfl))
 | 1,_=>
  obtain ⟨u0,g0,p0⟩:=h.sl 0 (by decide) (jA hr (by kernel_rfl));have g0:some x6=some (some u0):=g0
  cases g0;have p0:u0=_:=p0;subst p0;exact OF (.inl (sx.FR (i:=1) (v:=.agg [I 2,I 3,I 1,I 9]) h (by decide) rfl))
 | 2,_=>
  obtain ⟨u1,g1,p1⟩:=h.sl 1 (by decide) (jA hr (by kernel_rfl));have g1:some x7=some (some u1):=g1
  cases g1;have p1:u1=_:=p1;subst p1;exact OG (sx.xL (i:=2) (n:=1) (k:=bZ.length+3) (y:=⟨95,.ae [I 2,I 3,I 1,I 9],4,true⟩) h (by decide) rfl rfl (λbase E' hle hw=>⟨base.map λx=>x.add 0,1,rfl,SL.win (bC .i64 (by decide)) (rs:=[([2,3,1,9]:Li).map (.int .i64)]) hw rfl (gE (xs:=[[2,3,1,9]]) (λx hx=>by cases List.mem_singleton.1 hx;rfl)) rfl (Nat.le_refl _)⟩))
 | 3,_=>
  exact OH (.inl (sx.FR (i:=3) (v:=.agg [I 2,I 3]) h (by decide) rfl))
 | 4,_=>
  obtain ⟨u3,g3,p3⟩:=h.sl 3 (by decide) (jA hr (by kernel_rfl));have g3:some x9=some (some u3):=g3
  cases g3;have p3:u3=_:=p3;subst p3;exact OI (.inl (sx.FR (i:=4) (v:=.agg [I 2,I 3,I 2,I 9,I 17]) h (by decide) rfl))
 | 5,_=>
  obtain ⟨u4,g4,p4⟩:=h.sl 4 (by decide) (jA hr (by kernel_rfl));have g4:some x10=some (some u4):=g4
  cases g4;have p4:u4=_:=p4;subst p4;exact OJ (sx.xL (i:=5) (n:=1) (k:=bZ.length+3) (y:=⟨97,.ae [I 2,I 3,I 2,I 9,I 17],5,true⟩) h (by decide) rfl rfl (λbase E' hle hw=>⟨base.map λx=>x.add 0,1,rfl,SL.win (bC .i64 (by decide)) (rs:=[([2,3,2,9,17]:Li).map (.int .i64)]) hw rfl (gE (xs:=[[2,3,2,9,17]]) (λx hx=>by cases List.mem_singleton.1 hx;rfl)) rfl (Nat.le_refl _)⟩))
 | 6,_=>
  exact OK (.inl (sx.FR (i:=6) (v:=.agg [I 2,I 3]) h (by decide) rfl))
 | 7,_=>
  obtain ⟨u6,g6,p6⟩:=h.sl 6 (by decide) (jA hr (by kernel_rfl));have g6:some x12=some (some u6):=g6
  cases g6;have p6:u6=_:=p6;subst p6;exact OL (.inl (sx.FR (i:=7) (v:=.agg [I 2,I 3,I 4]) h (by decide) rfl))
 | 8,_=>
  obtain ⟨u7,g7,p7⟩:=h.sl 7 (by decide) (jA hr (by kernel_rfl));have g7:some x13=some (some u7):=g7
  cases g7;have p7:u7=_:=p7;subst p7;exact OM (sx.xL (i:=8) (n:=1) (k:=bZ.length+3) (y:=⟨99,.ae [I 2,I 3,I 4],3,true⟩) h (by decide) rfl rfl (λbase E' hle hw=>⟨base.map λx=>x.add 0,1,rfl,SL.win (bC .i64 (by decide)) (rs:=[([2,3,4]:Li).map (.int .i64)]) hw rfl (gE (xs:=[[2,3,4]]) (λx hx=>by cases List.mem_singleton.1 hx;rfl)) rfl (Nat.le_refl _)⟩))
 | 9,_=>
  exact ON (.inl (sx.FR (i:=9) (v:=.agg [I 6,I 0,I 70,I 0]) h (by decide) rfl))
 | 10,_=>
  obtain ⟨u9,g9,p9⟩:=h.sl 9 (by decide) (jA hr (by kernel_rfl));have g9:some x15=some (some u9):=g9
  cases g9;have p9:u9=_:=p9;subst p9;exact KU (sx.xL (i:=10) (n:=1) (k:=bZ.length+3) (y:=⟨101,.ae [I 6,I 0,I 70,I 0],4,true⟩) h (by decide) rfl rfl (λbase E' hle hw=>⟨base.map λx=>x.add 0,1,rfl,SL.win (bC .i64 (by decide)) (rs:=[([6,0,70,0]:Li).map (.int .i64)]) hw rfl (gE (xs:=[[6,0,70,0]]) (λx hx=>by cases List.mem_singleton.1 hx;rfl)) rfl (Nat.le_refl _)⟩))
 | 11,_=>
  exact KV (.inl (sx.FR (i:=11) (v:=.agg [I 1,I 5,I (-1),I 300,I 0,I 0,I 1,I 2]) h (by decide) rfl))
 | 12,_=>
  obtain ⟨Qk,Jr,Ht⟩:=h.sl 11 (by decide) (jA hr (by kernel_rfl));have Jr:some x17=some (some Qk):=Jr
  cases Jr;have Ht:Qk=_:=Ht;subst Ht;exact KW (sx.xL (i:=12) (n:=1) (k:=bZ.length+3) (y:=⟨127,.ae [I 1,I 5,I (-1),I 300,I 0,I 0,I 1,I 2],8,true⟩) h (by decide) rfl rfl (λbase E' hle hw=>⟨base.map λx=>x.add 0,1,rfl,SL.win (bC .i64 (by decide)) (rs:=[([1,5, -1,300,0,0,1,2]:Li).map (.int .i64)]) hw rfl (gE (xs:=[[1,5, -1,300,0,0,1,2]]) (λx hx=>by cases List.mem_singleton.1 hx;rfl)) rfl (Nat.le_refl _)⟩))
 | 13,_=>
  exact KX (.inl (sx.FR (i:=13) (v:=.agg [I 1,I 5,I (-1),I 300,I 0,I 0,I 1,I 2]) h (by decide) rfl))
 | 14,_=>
  obtain ⟨Se,Js,Fb⟩:=h.sl 13 (by decide) (jA hr (by kernel_rfl));have Js:some x19=some (some Se):=Js
  cases Js;have Fb:Se=_:=Fb;subst Fb;exact KY (sx.xL (i:=14) (n:=1) (k:=bZ.length+3) (y:=⟨127,.ae [I 1,I 5,I (-1),I 300,I 0,I 0,I 1,I 2],8,true⟩) h (by decide) rfl rfl (λbase E' hle hw=>⟨base.map λx=>x.add 0,1,rfl,SL.win (bC .i64 (by decide)) (rs:=[([1,5, -1,300,0,0,1,2]:Li).map (.int .i64)]) hw rfl (gE (xs:=[[1,5, -1,300,0,0,1,2]]) (λx hx=>by cases List.mem_singleton.1 hx;rfl)) rfl (Nat.le_refl _)⟩))
 | 15,_=>
  exact KZ (sx.xL (i:=15) (n:=1) (k:=bZ.length+3) (y:=⟨3,.ae [I 8],1,true⟩) h (by decide) rfl rfl (λbase E' hle hw=>⟨base.map λx=>x.add 0,1,rfl,SL.win (bC .i64 (by decide)) (rs:=[([8]:Li).map (.int .i64)]) hw rfl (gE (xs:=[[8]]) (λx hx=>by cases List.mem_singleton.1 hx;rfl)) rfl (Nat.le_refl _)⟩))
 | 16,_=>
  exact K0 (.inl (sx.FR (i:=16) (v:=.agg [I 2,I 0,.raw (.int .u64 9223372036854775808),I 0]) h (by decide) rfl))
 | 17,_=>
  exact K1 (sx.xL (i:=17) (n:=16) (k:=bZ.length+3) (y:=⟨5,.vals (bW [.int .u8 0] 16),16,true⟩) h (by decide) rfl rfl (λbase E' hle hw=>⟨base.map λx=>x.add 0,16,rfl,Bs.win hw rfl rfl (Nat.le_refl _) (λz hz=>by rw [(List.mem_replicate.1 hz).2];decide)⟩))
 | 18,_=>
  exact K2 (sx.xL (i:=18) (n:=1) (k:=bZ.length+3) (y:=⟨32,.ae [.raw (.int .u64 5)],1,true⟩) h (by decide) rfl rfl (λbase E' hle hw=>⟨base.map λx=>x.add 0,1,rfl,SL.win (bC .u64 (by decide)) (rs:=[([5]:Li).map (.int .u64)]) hw rfl (gE (xs:=[[5]]) (λx hx=>by cases List.mem_singleton.1 hx;rfl)) rfl (Nat.le_refl _)⟩))
 | 19,_=>
  obtain ⟨Uf,Jv,Jp⟩:=h.sl 17 (by decide) (jA hr (by kernel_rfl));have Jv:some x23=some (some Uf):=Jv
  cases Jv;obtain ⟨aZ,bc,rfl,Ug⟩:=Jp;obtain ⟨Uh,Jw,KH⟩:=h.sl 18 (by decide) (jA hr (by kernel_rfl));have Jw:some x24=some (some Uh):=Jw
  cases Jw;obtain ⟨bg,bh,rfl,Ui⟩:=KH;exact K3 (.inl (sx.FR (i:=19) (v:=.agg [I 1,I 2,L aZ 16 bc,L bg 1 bh]) h (by decide) ⟨aZ,bc,bg,bh,rfl,Ug,Ui⟩))
 | 20,_=>
  obtain ⟨u2,g2,p2⟩:=h.sl 2 (by decide) (jA hr (by kernel_rfl));have g2:some x8=some (some u2):=g2
  cases g2;obtain ⟨aC,aB,rfl,z2⟩:=p2;obtain ⟨u5,g5,p5⟩:=h.sl 5 (by decide) (jA hr (by kernel_rfl));have g5:some x11=some (some u5):=g5
  cases g5;obtain ⟨aF,aG,rfl,z5⟩:=p5;obtain ⟨u8,g8,p8⟩:=h.sl 8 (by decide) (jA hr (by kernel_rfl));have g8:some x14=some (some u8):=g8
  cases g8;obtain ⟨aH,aI,rfl,z8⟩:=p8;obtain ⟨u10,Ql,Xk⟩:=h.sl 10 (by decide) (jA hr (by kernel_rfl));have Ql:some x16=some (some u10):=Ql
  cases Ql;obtain ⟨aK,aL,rfl,Cu⟩:=Xk;obtain ⟨Uj,FP,GV⟩:=h.sl 12 (by decide) (jA hr (by kernel_rfl));have FP:some x18=some (some Uj):=FP
  cases FP;obtain ⟨aS,aT,rfl,Uk⟩:=GV;obtain ⟨Ul,Jt,KG⟩:=h.sl 14 (by decide) (jA hr (by kernel_rfl));have Jt:some x20=some (some Ul):=Jt
  cases Jt;obtain ⟨aU,aV,rfl,Um⟩:=KG;obtain ⟨u15,Qm,Xl⟩:=h.sl 15 (by decide) (jA hr (by kernel_rfl));have Qm:some x21=some (some u15):=Qm
  cases Qm;obtain ⟨aX,aY,rfl,Un⟩:=Xl;obtain ⟨u16,Ju,FO⟩:=h.sl 16 (by decide) (jA hr (by kernel_rfl));have Ju:some x22=some (some u16):=Ju
  cases Ju;have FO:u16=_:=FO;subst FO;obtain ⟨u19,Qn,Xm⟩:=h.sl 19 (by decide) (jA hr (by kernel_rfl));have Qn:some x25=some (some u19):=Qn
  cases Qn;obtain ⟨aZ,bc,bg,bh,rfl,Sf,Xn⟩:=Xm;exact K4 (.inl (sx.FR (i:=20) (v:=.agg [I 7,I 100,I 0,I 0,I 0,I 0,I 0,I 0,I (-1),I 0,I 0,L aC 1 aB,L aF 1 aG,L aH 1 aI,L aK 1 aL,B true,L aS 1 aT,L aU 1 aV,L aX 1 aY,I 2,I 0,.raw (.int .u64 9223372036854775808),I 0,I 0,I 0,I 1,I 2,L aZ 16 bc,L bg 1 bh,B true]) h (by decide) ⟨aC,aB,aF,aG,aH,aI,aK,aL,aS,aT,aU,aV,aX,aY,aZ,bc,bg,bh,rfl,⟨z2,z5,z8,Cu,Uk,Um,Un,Sf,Xn⟩⟩))
 | 21,_=>
  obtain ⟨u20,Qo,Xo⟩:=h.sl 20 (by decide) (jA hr (by kernel_rfl));have Qo:some x26=some (some u20):=Qo
  cases Qo;obtain ⟨aC,aB,aF,aG,aH,aI,aK,aL,aS,aT,aU,aV,aX,aY,aZ,bc,bg,bh,rfl,zM⟩:=Xo;have hu:D.getD 21 true=false:=bK hr;have hv:v=[I 0,I 0,I 0,I 0,I 0,I 0,I 0,I 0,I 0,I 0,I 0,L none 0 0,L none 0 0,L none 0 0,L none 0 0,B false,L none 0 0,L none 0 0,L none 0 0,I 0,I 0,.raw (.int .u64 0),I 0,I 0,I 0,I 0,I 0,L none 0 0,L none 0 0,B false]:=Sb (by
   cases q:D.getD 21 false with
   | false=>rfl
   | true=>
    rw [Array.getD_eq_getD_getElem?] at hu q
    cases r:D[21]? with
    | none=>rw [r] at hu;cases hu
    | some t=>rw [r] at hu q;simp at hu q;rw [hu] at q;cases q)
  subst hv;refine K5 (.inl ⟨rfl,rfl,rfl,rfl,λj hj hl=>?_,⟨[I 7,I 100,I 0,I 0,I 0,I 0,I 0,I 0,I (-1),I 0,I 0,L aC 1 aB,L aF 1 aG,L aH 1 aI,L aK 1 aL,B true,L aS 1 aT,L aU 1 aV,L aX 1 aY,I 2,I 0,.raw (.int .u64 9223372036854775808),I 0,I 0,I 0,I 1,I 2,L aZ 16 bc,L bg 1 bh,B true],bZ,rfl,λq=>?_,λ_=>⟨aC,aB,aF,aG,aH,aI,aK,aL,aS,aT,aU,aV,aX,aY,aZ,bc,bg,bh,rfl,zM⟩⟩,h.le,by rw [Array.size_setIfInBounds];exact h.sz⟩)
  ·exact h.sl j hj ((OO hl).resolve_left (by omega))
  ·exfalso;have hlt:21<D.size:=by
    rcases Nat.lt_or_ge 21 D.size with r|r
    ·exact r
    ·rw [Array.getD_eq_getD_getElem?,Array.getElem?_eq_none r] at hu;cases hu
   rw [Array.getD_eq_getD_getElem?,Array.getElem?_setIfInBounds_self_of_lt hlt] at q
   cases q
 | n+22,hn=>exact absurd hn (by omega)
theorem Sg:(List.range 22).all (λi=>match qq[i]? with |some o=>o.after.all λe=> !Region.binds .any e||decide (e.on<i)|none=>false)=true:=by kernel_rfl
theorem Si (hsz:D.size=22) (hr:Region.ready .any qq D=[]):∀ i,i<22->D.getD i false=true:=by
 intro i
 induction i using Nat.strongRecOn with
 | _ i ih=>
  intro hi
  cases q:D.getD i false with
  | true=>rfl
  | false=>
   exfalso;have h1:=List.all_eq_true.1 Sg i (List.mem_range.2 hi);have h2:D.getD i true=false:=by rw [Array.getD_eq_getD_getElem?,Array.getElem?_eq_getElem (by omega)] at q ⊢;exact q
   cases ho:qq[i]? with
   | none=>rw [ho] at h1;cases h1
   | some o=>
    rw [ho] at h1;have :i∈Region.ready .any qq D:=mem_ready.2 ⟨h2,o,ho,λe he hb=>by
     have h3:=(Array.all_eq_true_iff_forall_mem.1 h1) e he;rw [hb] at h3;have h4:e.on<i:=by simpa using h3
     exact ih e.on h4 (by omega)⟩
    rw [hr] at this;cases this
theorem Xp (h:∀ (aC:Oa) (aB:Nat) (aF:Oa) (aG:Nat) (aH:Oa) (aI:Nat) (aK:Oa) (aL:Nat) (aS:Oa) (aT:Nat) (aU:Oa) (aV:Nat) (aX:Oa) (aY:Nat) (aZ:Oa) (bc:Nat) (bg:Oa) (bh:Nat) (E':Mem),Mem.le E E'->iY E' fz aC 1 aB aF 1 aG aH 1 aI aK 1 aL aS 1 aT aU 1 aV aX 1 aY aZ 16 bc bg 1 bh->K (.agg [I 7,I 100,I 0,I 0,I 0,I 0,I 0,I 0,I (-1),I 0,I 0,L aC 1 aB,L aF 1 aG,L aH 1 aI,L aK 1 aL,B true,L aS 1 aT,L aU 1 aV,L aX 1 aY,I 2,I 0,.raw (.int .u64 9223372036854775808),I 0,I 0,I 0,I 1,I 2,L aZ 16 bc,L bg 1 bh,B true]) E'):mm Ue 8 Try.f31 [] E K:=by
 refine same (q:=Ct Ue 8 Try.f31 [1,1,1] 0 (aW E K) ⟨[oc 0 0,oc 1 0,oc 2 0,some (.agg [I 2,I 3]),some (.agg [I 1,I 2]),some (.agg [I 1,I 5,I (-1),I 300,I 0,I 0,I 1,I 2]),none,none,none,none,none,none,none,none,none,none,none,none,none,none,none,none,none,none,none,none,none],[⟨40,.ae [I 0,I 0,I 0,I 0,I 0,I 0,I 0,I 0,I 0,I 0,I 0,L none 0 0,L none 0 0,L none 0 0,L none 0 0,B false,L none 0 0,L none 0 0,L none 0 0,I 0,I 0,.raw (.int .u64 0),I 0,I 0,I 0,I 0,I 0,L none 0 0,L none 0 0,B false],30,true⟩,⟨93,.ae [I 2,I 3],2,true⟩,⟨127,.ae [I 1,I 5,I (-1),I 300,I 0,I 0,I 1,I 2],8,true⟩],E⟩) (by kernel_rfl) ?_;refine NM Mh (id:=3) It (sx E) ⟨rfl,rfl,rfl,rfl,λi hi hl=>?_,⟨[I 0,I 0,I 0,I 0,I 0,I 0,I 0,I 0,I 0,I 0,I 0,L none 0 0,L none 0 0,L none 0 0,L none 0 0,B false,L none 0 0,L none 0 0,L none 0 0,I 0,I 0,.raw (.int .u64 0),I 0,I 0,I 0,I 0,I 0,L none 0 0,L none 0 0,B false],[],rfl,λ_=>rfl,λhl=>?_⟩,bn,by rw [Array.size_replicate];exact xo⟩ (λD i o S ho hr hf=>?_) (λD S hr hf=>?_)
 ·exfalso;rw [Array.getD_eq_getD_getElem?,Array.getElem?_replicate] at hl;split at hl<;>cases hl
 ·exfalso;rw [Array.getD_eq_getD_getElem?,Array.getElem?_replicate] at hl;split at hl<;>cases hl
 ·have hi:i<22:=by rw [← xo];exact (Array.getElem?_eq_some_iff.1 ho).1
  have:=OQ (ak:=rf Ue 8) hi hr hf;unfold iV at this;rw [ho] at this;exact this
 ·have hall:=Si hf.sz hr;obtain ⟨fr,bx,E'⟩:=S;obtain ⟨x0,x1,x2,x3,x4,x5,x6,x7,x8,x9,x10,x11,x12,x13,x14,x15,x16,x17,x18,x19,x20,x21,x22,x23,x24,x25,x26,e⟩:=Sd hf.len;have e:fr=_:=e;subst e;have q0:some x0=some (oc 0 0):=hf.f0
  cases q0;obtain ⟨v,bZ,hb,Sb,Sc⟩:=hf.bx;have hb:bx=_:=hb;subst hb;obtain ⟨aC,aB,aF,aG,aH,aI,aK,aL,aS,aT,aU,aV,aX,aY,aZ,bc,bg,bh,ev,hM⟩:=Sc (hall 21 (by decide));have ev:=SV.agg.inj ev;subst ev;exact same (q:=Mem.le E E'/\K (.agg [I 7,I 100,I 0,I 0,I 0,I 0,I 0,I 0,I (-1),I 0,I 0,L aC 1 aB,L aF 1 aG,L aH 1 aI,L aK 1 aL,B true,L aS 1 aT,L aU 1 aV,L aX 1 aY,I 2,I 0,.raw (.int .u64 9223372036854775808),I 0,I 0,I 0,I 1,I 2,L aZ 16 bc,L bg 1 bh,B true]) E') (by kernel_rfl) ⟨hf.le,h aC aB aF aG aH aI aK aL aS aT aU aV aX aY aZ bc bg bh E' hf.le hM⟩
structure OR (xs:List (Int×Bc)) (p:Int) (x:Bc) (f:Bool):Prop where
 eq:HX xs p=(x,f)
noncomputable def OS:FuncId->List SV->Mem->(SV->Mem->Prop)->Prop:=λf args E K=>match f with
 | 11=>d1 args λx0=>∃ x:Bc,mG E x0 x/\∀ f:Bool,(f=true->ng x)->K (B f) E
 | 14=>d2 args λx0 x1=>∃ x:Bc,(mG E x0 x/\mG E x1 x/\gh x)/\K (B true) E
 | 15=>d2 args λx0 x1=>dS x0 λb n c=>dS x1 λd m e=>∃ zs,(Bs E b n c zs/\Bs E d m e zs/\n<=1000000)/\K (B true) E
 | 17=>d1 args λx0=>dS x0 λb n c=>∃ xs,SL bE E b n c xs/\∀ f:Bool,(f=true->n<=70/\∀ x∈xs,ng x.2)->K (B f) E
 | 18=>d3 args λx0 x1 x2=>dS x0 λb n c=>dI x2 λfr=>∃ (xs:List (Int×Bc)) (x:Bc),(SL bE E b n c xs/\n<=1000000/\mG E x1 x/\gh x)/\∀ (ys:List (Int×Bc)) (e:Int) (b':Oa) (n' c':Nat) (E':Mem),Mem.le E E'->jJ xs x fr ys e->SL bE E' b' n' c' ys->K (.bB [L b' n' c',I e]) E'
 | 19=>d2 args λx0 x1=>dS x0 λb n c=>dS x1 λd m e=>∃ xs,(SL bE E b n c xs/\SL bE E d m e xs/\(∀ x∈xs,gh x.2)/\n<=1000000)/\K (B true) E
 | 20=>d2 args λx0 x1=>dS x0 λb n c=>dI x1 λfr=>∃ xs,(SL bE E b n c xs/\n<=1000000)/\∀ (b':Oa) (n' c':Nat) (E':Mem),Mem.le E E'->SL bE E' b' n' c' (xs.filter λx=> !eL fr x)->K (L b' n' c') E'
 | 24=>d2 args λx0 x1=>dS x0 λb n c=>dI x1 λp=>∃ xs,(SL bE E b n c xs/\n<=9223372036854775807)/\∀ (x:Bc) aC ay aB aF ax aG aH ar aI aK au aL aS aM aT aU aN aV aX aA aY aZ aQ bc bg aE bh (f:Bool),OR xs p x f->iY E x aC ay aB aF ax aG aH ar aI aK au aL aS aM aT aU aN aV aX aA aY aZ aQ bc bg aE bh->K (.bB [.agg [I x.from_,I x.bO,I x.aD,I x.aJ,I x.bound,I x.fresh,I x.seq,I x.bf,I x.parent,I x.first,I x.next,L aC ay aB,L aF ax aG,L aH ar aI,L aK au aL,B x.full,L aS aM aT,L aU aN aV,L aX aA aY,I x.aP,I x.size,.raw (.int .u64 x.bD),I x.start,I x.pages,I x.version,I x.az,I x.seed,L aZ aQ bc,L bg aE bh,B x.has],B f]) E
 | 31=>(args.length=0)/\∀ (aC:Oa) (aB:Nat) (aF:Oa) (aG:Nat) (aH:Oa) (aI:Nat) (aK:Oa) (aL:Nat) (aS:Oa) (aT:Nat) (aU:Oa) (aV:Nat) (aX:Oa) (aY:Nat) (aZ:Oa) (bc:Nat) (bg:Oa) (bh:Nat) (E':Mem),Mem.le E E'->iY E' fz aC 1 aB aF 1 aG aH 1 aI aK 1 aL aS 1 aT aU 1 aV aX 1 aY aZ 16 bc bg 1 bh->K (.agg [I 7,I 100,I 0,I 0,I 0,I 0,I 0,I 0,I (-1),I 0,I 0,L aC 1 aB,L aF 1 aG,L aH 1 aI,L aK 1 aL,B true,L aS 1 aT,L aU 1 aV,L aX 1 aY,I 2,I 0,.raw (.int .u64 9223372036854775808),I 0,I 0,I 0,I 1,I 2,L aZ 16 bc,L bg 1 bh,B true]) E'
 | _=>False
theorem K6:jm Try.prog OS:=by
 intro f args E K h;unfold OS at h;split at h
 ·exact xl 11 args E K h
 ·exact xl 14 args E K h
 ·exact A0 15 args E K h
 ·obtain ⟨x0,rfl,h1⟩:=fO h;obtain ⟨b,n,c,rfl,xs,hx,hk⟩:=eZ h1;exact nK KL Try.func17 rfl (Ov hx hk)
 ·obtain ⟨x0,x1,x2,rfl,h1⟩:=qJ h;obtain ⟨b,n,c,rfl,h2⟩:=eZ h1;obtain ⟨fr,rfl,xs,x,⟨hx,hn,hv,hs⟩,hk⟩:=bQ h2;obtain ⟨d11,xa,fK,d12,xb,fL,d13,zN,fE,d14,zO,fk,d16,zP,fC,d17,Bt,fF,d18,Bu,fg,d27,Bw,fI,d28,Bx,fJ,rfl,M⟩:=hv.ex;exact nK Xc Try.func18 rfl (Oz hx hn M hs hk)
 ·obtain ⟨x0,x1,rfl,h1⟩:=ck h;obtain ⟨b,n,c,rfl,h2⟩:=eZ h1;obtain ⟨d,m,e,rfl,xs,⟨hx,hy,hs,hn⟩,hk⟩:=eZ h2;have e1:=hx.len;have e2:=hy.len;obtain rfl:n=m:=by omega
  exact nK KL Try.func19 rfl (WN hx hy hs hn hk)
 ·obtain ⟨x0,x1,rfl,h1⟩:=ck h;obtain ⟨b,n,c,rfl,h2⟩:=eZ h1;obtain ⟨fr,rfl,xs,⟨hx,hn⟩,hk⟩:=bQ h2;exact nK Xi Try.func20 rfl (Xj hx hn hk)
 ·obtain ⟨x0,x1,rfl,h1⟩:=ck h;obtain ⟨b,n,c,rfl,h2⟩:=eZ h1;obtain ⟨p,rfl,xs,⟨hx,hn⟩,hk⟩:=bQ h2;exact nK KM Try.func24 rfl (WS hx hn (λx aC ay aB aF ax aG aH ar aI aK au aL aS aM aT aU aN aV aX aA aY aZ aQ bc bg aE bh f hq hM=>hk x aC ay aB aF ax aG aH ar aI aK au aL aS aM aT aU aN aV aX aA aY aZ aQ bc bg aE bh f ⟨hq⟩ hM))
 ·obtain ⟨h0,hk⟩:=h;have h0:=List.eq_nil_of_length_eq_zero h0;subst h0;exact nK Mh Try.func31 rfl (Xp hk)
 ·exact h.elim
noncomputable def K7:FuncId->List SV->Mem->(SV->Mem->Prop)->Prop:=λf args E K=>match f with
 | 12=>DC 12 args E K
 | 13=>d1 args λv=>dS v λb l c=>∃ zs,(Bs E b l c zs/\l<=100000)/\∀ (x:Bc) (e:Int) aC ay aB aF ax aG aH ar aI aK au aL aS aM aT aU aN aV aX aA aY aZ aQ bc bg aE bh (E':Mem),Mem.le E E'->A2 zs x e->iY E' x aC ay aB aF ax aG aH ar aI aK au aL aS aM aT aU aN aV aX aA aY aZ aQ bc bg aE bh->K (.bB [.agg [I x.from_,I x.bO,I x.aD,I x.aJ,I x.bound,I x.fresh,I x.seq,I x.bf,I x.parent,I x.first,I x.next,L aC ay aB,L aF ax aG,L aH ar aI,L aK au aL,B x.full,L aS aM aT,L aU aN aV,L aX aA aY,I x.aP,I x.size,.raw (.int .u64 x.bD),I x.start,I x.pages,I x.version,I x.az,I x.seed,L aZ aQ bc,L bg aE bh,B x.has],I e]) E'
 | f=>OS f args E K
theorem DD:jm Try.prog K7:=by
 intro f args E K h;unfold K7 at h;split at h
 ·exact A3 12 args E K h
 ·obtain ⟨v,rfl,h1⟩:=fO h;obtain ⟨b,l,c,rfl,zs,⟨hB,hl⟩,hk⟩:=eZ h1;have TM:=hB.2.1;refine nK Wm Try.func13 rfl (Fb hB hl (λy s' aC ay aB aF ax aG aH ar aI aK au aL aS aM aT aU aN aV aX aA aY aZ aQ bc bg aE bh E' hE hq hs hM=>?_));split
  ·rename_i h0;split
   ·rename_i h1;exact hk jf 11 none 0 0 none 0 0 none 0 0 none 0 0 none 0 0 none 0 0 none 0 0 none 0 0 none 0 0 E' hE ⟨y,s',hq,by rw [if_pos h0,if_pos (by omega)];exact ⟨rfl,rfl⟩⟩ yP
   ·rename_i h1;exact hk y 0 aC ay aB aF ax aG aH ar aI aK au aL aS aM aT aU aN aV aX aA aY aZ aQ bc bg aE bh E' hE ⟨y,s',hq,by rw [if_pos h0,if_neg (by omega)];exact ⟨rfl,rfl⟩⟩ hM
  ·rename_i h0;exact hk jf s'.2 none 0 0 none 0 0 none 0 0 none 0 0 none 0 0 none 0 0 none 0 0 none 0 0 none 0 0 E' hE ⟨y,s',hq,by rw [if_neg h0];exact ⟨rfl,rfl⟩⟩ yP
 ·exact K6 _ _ _ _ h
theorem Iu {α:Type} {R:yc α} {Q:α->Prop}:∀ {z:List Lv},(∀ r∈z,∃ x,R E x r/\Q x)->∃ xs,jP R E z xs/\∀ x∈xs,Q x
 | [],_=>⟨[],jP.nil,λx h=>by cases h⟩
 | r::z,h=>by
  obtain ⟨x,h1,h2⟩:=h r (by simp);obtain ⟨xs,h3,h4⟩:=Iu (λr hr=>h r (List.mem_cons_of_mem _ hr));exact ⟨x::xs,(jP.one h1).app h3,λy hy=>by
   rcases List.mem_cons.1 hy with rfl|hy
   ·exact h2
   ·exact h4 y hy⟩
theorem xp {cs:Lv} (h:dV W v cs) (k:Nat):dV W v (cs.take k):=by
 rcases h with rfl|⟨a,n,c,h1,h2,h3⟩
 ·exact .inl (by simp)
 ·exact .inr ⟨a,n,c,h1,h2,λi x hx=>h3 i x (by
   have hk:=(List.getElem?_eq_some_iff.1 hx).1;rw [List.length_take] at hk
   rwa [List.getElem?_take_of_lt (by omega)] at hx)⟩
theorem Mi {R:yc α} {Q:α->Prop} {b:Oa} (hl:l<=c) (hb:b=none->c=0) (hz:z.length=c) (hE:dV W (.slice b l c) z.flatten) (hk:∀ r∈z,r.length=k)
  (hr:∀ r∈z,∃ x,R (λv cs=>dV W v cs) x r/\Q x):∃ xs,SL R (λv cs=>dV W v cs) b l c xs/\∀ x∈xs,Q x:=by
 obtain ⟨xs,h1,h2⟩:=Iu (z:=z.take l) (λr h=>hr r (List.mem_of_mem_take h));refine ⟨xs,⟨z.take l,h1,?_,hl,.inr ?_,λe=>by have:=hb e;omega⟩,h2⟩
 ·rw [← h1.1,List.length_take];omega
 ·show dV W _ _;rw [← nU hk];exact xp hE _
theorem j9 {fs:Array Field} (hu:Try.prog.underlying T=some (.struct fs)) (h:kI Try.prog W (n+1) T r) {t o:Nat} (hf:(fs.toList[i]?).map (λf=>(f.type,f.offset))=some (t,o)):kI Try.prog W n t ((r.drop o).take (Try.prog.cellsOf t)):=by
 unfold kI at h;rw [hu] at h;obtain ⟨_,h⟩:=h
 cases he:fs.toList[i]? with
 | none=>rw [he] at hf;cases hf
 | some f=>
  rw [he] at hf;simp only [Option.map_some,Option.some.injEq,Prod.mk.injEq] at hf;have:=h f (List.mem_of_getElem? he)
  rwa [hf.1,hf.2] at this
theorem oV {e:TypeId} (hu:Try.prog.underlying T=some (.slice e)) (h:kI Try.prog W (n+1) T [v]):∃ (b:Oa) (l c:Nat) (z:List Lv),v= .slice b l c/\l<=c/\c<=maxLen/\(b=none->c=0)/\z.length=c/\dV W (.slice b l c) z.flatten/\∀ r∈z,r.length=Try.prog.cellsOf e/\kI Try.prog W n e r:=by unfold kI at h;rw [hu] at h;obtain ⟨b,l,c,z,h1,h⟩:=h;exact ⟨b,l,c,z,by simpa using h1,h⟩
theorem DE {W:World} {q:IntKind}:∀ {ts:List TypeId} {vs:Lv},gJ Try.prog W ts vs->(∀ t∈ts,Try.prog.underlying t=some (.int q))->∃ x:Li,vs=x.map (.int q)/\x.length=ts.length/\∀ z∈x,(Lit.int q z).wf=true
 | [],[],_,_=>⟨[],rfl,rfl,λz h=>by cases h⟩
 | t::ts,v::vs,⟨⟨m,s⟩,h⟩,ha=>by
  obtain ⟨z,rfl,hw⟩:=AJ (ha t (by simp)) s;obtain ⟨x,rfl,hl,hx⟩:=DE h (λt ht=>ha t (List.mem_cons_of_mem _ ht));exact ⟨z::x,rfl,by simp [hl],λy hy=>by
   rcases List.mem_cons.1 hy with rfl|hy
   ·exact hw
   ·exact hx y hy⟩
 | [],_::_,h,_=>h.elim
 | _::_,[],h,_=>h.elim
theorem kC {e:TypeId} {b:Oa} (hf:sO Try.prog n e=some ts) (ht:ts.length=k) (ha:∀ t∈ts,Try.prog.underlying t=some (.int q)) (hc:Try.prog.cellsOf e=k)
  (hl:l<=c) (hb:b=none->c=0) (hz:z.length=c) (hE:dV W (.slice b l c) z.flatten) (hr:∀ r∈z,r.length=k/\kI Try.prog W n e r):
  ∃ xs,SL (RK q k) (λv cs=>dV W v cs) b l c xs/\∀ x∈xs,x.length=k/\∀ z∈x,(Lit.int q z).wf=true:=
 Mi (R:=RK q k) hl hb hz hE (λr h=>(hr r h).1) (λr h=>by obtain ⟨x,e1,e2,e3⟩:=DE (qm n e ts r hf ((hr r h).1.trans hc.symm) (hr r h).2) ha;exact ⟨x,⟨e1,e2.trans ht⟩,e2.trans ht,e3⟩)
theorem Mj {b:Oa} {z:Li} (hl:l<=c) (hb:b=none->c=0) (hz:z.length=c) (hE:dV W (.slice b l c) (z.map (.int q))):SL (RK q 1) (λv cs=>dV W v cs) b l c ((z.take l).map λv=>[v]):=by
 refine ⟨((z.take l).map λv=>[v]).map λx=>x.map (Value.int q),gE (λx hx=>?_),?_,hl,.inr ?_,λe=>by have:=hb e;omega⟩
 ·obtain ⟨v,_,rfl⟩:=List.mem_map.1 hx;rfl
 ·rw [List.length_map,List.length_take];omega
 ·show dV W _ _;have e:∀ w:Li,((w.map λv=>[v]).map λx=>x.map (Value.int q)).flatten=w.map (Value.int q):=λw=>by
   induction w with
   | nil=>rfl
   | cons x w ih=>simp only [List.map_cons,List.flatten_cons,ih,List.map_nil,List.singleton_append]
  rw [e,List.map_take];exact xp hE _
theorem Mk {z:Li} (hw:∀ x∈z,(Lit.int q x).wf=true):∀ x∈(z.take l).map λv=>[v],x.length=1/\∀ z∈x,(Lit.int q z).wf=true:=λx hx=>by obtain ⟨v,hv,rfl⟩:=List.mem_map.1 hx;exact ⟨rfl,λy hy=>by cases List.mem_singleton.1 hy;exact hw _ (List.mem_of_mem_take hv)⟩
theorem Iv {xs:Ll} (h:jP (RK q k) E rs xs):rs=xs.map λx=>x.map (Value.int q):=by
 refine List.ext_getElem? λi=>?_;rw [List.getElem?_map]
 cases hx:xs[i]? with
 | none=>
  have :rs[i]? =none:=by rw [List.getElem?_eq_none_iff] at hx ⊢;rw [h.1];exact hx
  rw [this];rfl
 | some x=>
  have hi:i<rs.length:=by rw [h.1];exact (List.getElem?_eq_some_iff.1 hx).1
  rw [List.getElem?_eq_getElem hi,(h.2 i _ x (List.getElem?_eq_getElem hi) hx).1];rfl
theorem BsR {b:Oa} {xs:Ll} (h:SL (RK .u8 1) E b l c xs) (hw:∀ x∈xs,x.length=1/\∀ z∈x,(Lit.int .u8 z).wf=true):Bs E b l c xs.flatten:=by
 obtain ⟨rs,h1,h2,h3,h4,h5⟩:=h;have hl:xs.flatten.length=l:=by
  rw [← h2];clear h1 h2 h4
  induction xs with
  | nil=>rfl
  | cons x xs ih=>rw [List.flatten_cons,List.length_append,(hw x (by simp)).1,ih (λy hy=>hw y (by simp [hy])),List.length_cons];omega
 have e:=Iv h1;subst e;refine ⟨?_,hl,h3,λz hz=>?_,λe=>List.eq_nil_of_length_eq_zero (by rw [hl];exact h5 e)⟩
 ·rcases h4 with h4|h4
  ·exact .inl (List.eq_nil_of_length_eq_zero (by rw [hl,h4]))
  ·right;rw [List.map_flatten];exact h4
 ·obtain ⟨x,hx,hz⟩:=List.mem_flatten.1 hz;have:=(hw x hx).2 z hz;simpa [Lit.wf,IntKind.min,IntKind.max,IntKind.signed,IntKind.bits] using this
theorem OT {z:Int} (h:(Lit.int .u64 z).wf=true):0<=z/\z<18446744073709551616:=by
 have :0<=z/\z<=18446744073709551615:=by simpa [Lit.wf,IntKind.min,IntKind.max,IntKind.signed,IntKind.bits] using h
 omega
theorem Iw {xs:Ll} (h:∀ x∈xs,x.length=1/\∀ z∈x,(Lit.int .u64 z).wf=true):∀ r∈xs,∃ v,r=[v]/\0<=v/\v<18446744073709551616:=λr hr=>by
 obtain ⟨h1,h2⟩:=h r hr
 match r,h1 with
 | [v],_=>exact ⟨v,rfl,OT (h2 v (by simp))⟩
theorem iI (h:gJ Try.prog W (t::ts) (v::vs)):gJ Try.prog W ts vs:=h.2
theorem ek {k:IntKind} (hu:Try.prog.underlying t=some (.int k)) (h:gJ Try.prog W (t::ts) (v::vs)):∃ z:Int,v= .int k z/\(Lit.int k z).wf=true/\gJ Try.prog W ts vs:=by obtain ⟨⟨_,s⟩,h2⟩:=h;obtain ⟨z,rfl,hw⟩:=AJ hu s;exact ⟨z,rfl,hw,h2⟩
theorem xq (hu:Try.prog.underlying t=some .bool) (h:gJ Try.prog W (t::ts) (v::vs)):∃ z:Bool,v= .bool z/\gJ Try.prog W ts vs:=by obtain ⟨⟨m,s⟩,h2⟩:=h;unfold kI at s;rw [hu] at s;obtain ⟨z,hz⟩:=s;exact ⟨z,by simpa using hz,h2⟩
noncomputable def Xq:Array Field:=match Try.prog.underlying 61 with |some (.struct fs)=>fs|_=>#[]
noncomputable def A5:Array Field:=match Try.prog.underlying 40 with |some (.struct fs)=>fs|_=>#[]
noncomputable def Sj:Array Field:=match Try.prog.underlying 38 with |some (.struct fs)=>fs|_=>#[]
theorem Iy (h1:r.length=31) (h2:kI Try.prog W 12 61 r):∃ x:Int×Bc,bE (λv cs=>dV W v cs) x r/\Is x.2:=by
 have hC:=qm 12 61 [3,3,3,3,3,3,3,3,3,3,3,3,26,27,28,29,4,30,30,31,3,3,32,3,3,3,3,3,35,36,4] r (by kernel_rfl) (h1.trans (by kernel_rfl)) h2
 match r,h1 with
 | [v0,v1,v2,v3,v4,v5,v6,v7,v8,v9,v10,v11,fU,fX,fV,eS,ff,fa,fc,eR,v20,eT,eU,eW,eX,eV,eP,eN,fG,eO,v30],_=>
  have a:kI Try.prog W 11 40 [v1,v2,v3,v4,v5,v6,v7,v8,v9,v10,v11,fU,fX,fV,eS,ff,fa,fc,eR,v20,eT,eU,eW,eX,eV,eP,eN,fG,eO,v30]:=j9 (fs:=Xq) (by kernel_rfl) h2 (i:=1) (t:=40) (o:=1) (by kernel_rfl);have Xr:kI Try.prog W 10 38 [eP,eN,fG,eO]:=j9 (fs:=A5) (by kernel_rfl) a (i:=20) (t:=38) (o:=25) (by kernel_rfl);have vM:kI Try.prog W 10 26 [fU]:=j9 (fs:=A5) (by kernel_rfl) a (i:=9) (t:=26) (o:=11) (by kernel_rfl);have xP:kI Try.prog W 10 27 [fX]:=j9 (fs:=A5) (by kernel_rfl) a (i:=10) (t:=27) (o:=12) (by kernel_rfl);have xQ:kI Try.prog W 10 28 [fV]:=j9 (fs:=A5) (by kernel_rfl) a (i:=11) (t:=28) (o:=13) (by kernel_rfl);have xR:kI Try.prog W 10 29 [eS]:=j9 (fs:=A5) (by kernel_rfl) a (i:=12) (t:=29) (o:=14) (by kernel_rfl);have ye:kI Try.prog W 10 30 [fa]:=j9 (fs:=A5) (by kernel_rfl) a (i:=14) (t:=30) (o:=16) (by kernel_rfl);have zS:kI Try.prog W 10 30 [fc]:=j9 (fs:=A5) (by kernel_rfl) a (i:=15) (t:=30) (o:=17) (by kernel_rfl);have Al:kI Try.prog W 10 31 [eR]:=j9 (fs:=A5) (by kernel_rfl) a (i:=16) (t:=31) (o:=18) (by kernel_rfl);have Bv:kI Try.prog W 9 35 [fG]:=j9 (fs:=Sj) (by kernel_rfl) Xr (i:=2) (t:=35) (o:=2) (by kernel_rfl);have zF:kI Try.prog W 9 36 [eO]:=j9 (fs:=Sj) (by kernel_rfl) Xr (i:=3) (t:=36) (o:=3) (by kernel_rfl);clear a Xr;obtain ⟨aC,ay,aB,Uo,rfl,Iz,ad1,K8,K9,La,IA⟩:=oV (e:=95) (by kernel_rfl) vM;obtain ⟨x11,M11,Rt⟩:=kC (q:=.i64) (k:=4) (n:=9) (e:=95) (ts:=[3,3,3,3]) (by kernel_rfl) rfl (λt ht=>by simp at ht;subst ht;kernel_rfl) (by kernel_rfl) Iz K8 K9 La (λr hr=>⟨(IA r hr).1.trans (by kernel_rfl),(IA r hr).2⟩);obtain ⟨aF,ax,aG,Up,rfl,Xs,ad3,Xt,Xu,Xv,Sk⟩:=oV (e:=97) (by kernel_rfl) xP;obtain ⟨x12,M12,Ru⟩:=kC (q:=.i64) (k:=5) (n:=9) (e:=97) (ts:=[3,3,3,3,3]) (by kernel_rfl) rfl (λt ht=>by simp at ht;subst ht;kernel_rfl) (by kernel_rfl) Xs Xt Xu Xv (λr hr=>⟨(Sk r hr).1.trans (by kernel_rfl),(Sk r hr).2⟩);obtain ⟨aH,ar,aI,Uq,rfl,Xw,ad5,Xx,Xy,Xz,Sl⟩:=oV (e:=99) (by kernel_rfl) xQ;obtain ⟨x13,M13,Rv⟩:=kC (q:=.i64) (k:=3) (n:=9) (e:=99) (ts:=[3,3,3]) (by kernel_rfl) rfl (λt ht=>by simp at ht;subst ht;kernel_rfl) (by kernel_rfl) Xw Xx Xy Xz (λr hr=>⟨(Sl r hr).1.trans (by kernel_rfl),(Sl r hr).2⟩);obtain ⟨aK,au,aL,Ur,rfl,XA,ad7,XB,XC,XD,Sm⟩:=oV (e:=101) (by kernel_rfl) xR;obtain ⟨x14,M14,Rw⟩:=kC (q:=.i64) (k:=4) (n:=9) (e:=101) (ts:=[3,3,3,3]) (by kernel_rfl) rfl (λt ht=>by simp at ht;subst ht;kernel_rfl) (by kernel_rfl) XA XB XC XD (λr hr=>⟨(Sm r hr).1.trans (by kernel_rfl),(Sm r hr).2⟩);obtain ⟨aS,aM,aT,Us,rfl,XE,ad9,XF,XG,XH,Sn⟩:=oV (e:=127) (by kernel_rfl) ye;obtain ⟨x16,M16,Rx⟩:=kC (q:=.i64) (k:=8) (n:=9) (e:=127) (ts:=[3,3,3,3,3,3,3,3]) (by kernel_rfl) rfl (λt ht=>by simp at ht;subst ht;kernel_rfl) (by kernel_rfl) XE XF XG XH (λr hr=>⟨(Sn r hr).1.trans (by kernel_rfl),(Sn r hr).2⟩);obtain ⟨aU,aN,aV,Ut,rfl,XI,aea,XJ,XK,XL,So⟩:=oV (e:=127) (by kernel_rfl) zS;obtain ⟨x17,M17,Wu⟩:=kC (q:=.i64) (k:=8) (n:=9) (e:=127) (ts:=[3,3,3,3,3,3,3,3]) (by kernel_rfl) rfl (λt ht=>by simp at ht;subst ht;kernel_rfl) (by kernel_rfl) XI XJ XK XL (λr hr=>⟨(So r hr).1.trans (by kernel_rfl),(So r hr).2⟩);obtain ⟨aX,aA,aY,Uu,rfl,XM,aec,XN,XO,XP,Sq⟩:=oV (e:=3) (by kernel_rfl) Al;obtain ⟨x18,M18,Wv⟩:=kC (q:=.i64) (k:=1) (n:=9) (e:=3) (ts:=[3]) (by kernel_rfl) rfl (λt ht=>by simp at ht;subst ht;kernel_rfl) (by kernel_rfl) XM XN XO XP (λr hr=>⟨(Sq r hr).1.trans (by kernel_rfl),(Sq r hr).2⟩);obtain ⟨aZ,aQ,bc,y27,rfl,XQ,aee,XR,XS,XT,Sr⟩:=oV (e:=5) (by kernel_rfl) Bv;obtain ⟨x27,M27,Ww⟩:=kC (q:=.u8) (k:=1) (n:=8) (e:=5) (ts:=[5]) (by kernel_rfl) rfl (λt ht=>by simp at ht;subst ht;kernel_rfl) (by kernel_rfl) XQ XR XS XT (λr hr=>⟨(Sr r hr).1.trans (by kernel_rfl),(Sr r hr).2⟩);obtain ⟨bg,aE,bh,y28,rfl,XU,aeg,XV,XW,XX,Ss⟩:=oV (e:=32) (by kernel_rfl) zF;obtain ⟨x28,M28,Wx⟩:=kC (q:=.u64) (k:=1) (n:=8) (e:=32) (ts:=[32]) (by kernel_rfl) rfl (λt ht=>by simp at ht;subst ht;kernel_rfl) (by kernel_rfl) XU XV XW XX (λr hr=>⟨(Ss r hr).1.trans (by kernel_rfl),(Ss r hr).2⟩);obtain ⟨z0,rfl,u0,hC0⟩:=ek (k:=.i64) (by kernel_rfl) hC;clear hC;obtain ⟨z1,rfl,u1,hC1⟩:=ek (k:=.i64) (by kernel_rfl) hC0;clear hC0;obtain ⟨z2,rfl,u2,hC2⟩:=ek (k:=.i64) (by kernel_rfl) hC1;clear hC1;obtain ⟨z3,rfl,u3,hC3⟩:=ek (k:=.i64) (by kernel_rfl) hC2;clear hC2;obtain ⟨z4,rfl,u4,hC4⟩:=ek (k:=.i64) (by kernel_rfl) hC3;clear hC3;obtain ⟨z5,rfl,u5,hC5⟩:=ek (k:=.i64) (by kernel_rfl) hC4;clear hC4;obtain ⟨z6,rfl,u6,hC6⟩:=ek (k:=.i64) (by kernel_rfl) hC5;clear hC5;obtain ⟨z7,rfl,u7,hC7⟩:=ek (k:=.i64) (by kernel_rfl) hC6;clear hC6;obtain ⟨z8,rfl,u8,hC8⟩:=ek (k:=.i64) (by kernel_rfl) hC7;clear hC7;obtain ⟨z9,rfl,u9,hC9⟩:=ek (k:=.i64) (by kernel_rfl) hC8;clear hC8;obtain ⟨Cu,rfl,u10,Su⟩:=ek (k:=.i64) (by kernel_rfl) hC9;clear hC9;obtain ⟨Lb,rfl,Qk,Sv⟩:=ek (k:=.i64) (by kernel_rfl) Su;clear Su;have Sw:=iI Sv;clear Sv;have Sy:=iI Sw;clear Sw;have Sz:=iI Sy;clear Sy;have SA:=iI Sz;clear Sz;obtain ⟨Uv,rfl,SB⟩:=xq (by kernel_rfl) SA;clear SA;have SC:=iI SB;clear SB;have SD:=iI SC;clear SC;have SE:=iI SD;clear SD;obtain ⟨Uw,rfl,u20,SF⟩:=ek (k:=.i64) (by kernel_rfl) SE;clear SE;obtain ⟨Ux,rfl,u21,SH⟩:=ek (k:=.i64) (by kernel_rfl) SF;clear SF;obtain ⟨z22,rfl,u22,SI⟩:=ek (k:=.u64) (by kernel_rfl) SH;clear SH;obtain ⟨Uy,rfl,u23,SJ⟩:=ek (k:=.i64) (by kernel_rfl) SI;clear SI;obtain ⟨Uz,rfl,u24,SK⟩:=ek (k:=.i64) (by kernel_rfl) SJ;clear SJ;obtain ⟨UA,rfl,u25,SM⟩:=ek (k:=.i64) (by kernel_rfl) SK;clear SK;obtain ⟨UB,rfl,u26,SN⟩:=ek (k:=.i64) (by kernel_rfl) SM;clear SM;obtain ⟨Sf,rfl,XY,SO⟩:=ek (k:=.i64) (by kernel_rfl) SN;clear SN;have SP:=iI SO;clear SO;have SQ:=iI SP;clear SP;obtain ⟨XZ,rfl,aek⟩:=xq (by kernel_rfl) SQ;clear SQ;exact ⟨(z0,⟨z1,z2,z3,z4,z5,z6,z7,z8,z9,Cu,Lb,x11,x12,x13,x14,Uv,x16,x17,x18,Uw,Ux,z22,Uy,Uz,UA,UB,Sf,x27.flatten,x28,XZ⟩),⟨aC,ay,aB,aF,ax,aG,aH,ar,aI,aK,au,aL,aS,aM,aT,aU,aN,aV,aX,aA,aY,aZ,aQ,bc,bg,aE,bh,rfl,⟨M11,M12,M13,M14,M16,M17,M18,BsR M27 Ww,M28⟩⟩,⟨OT u22,λr hr=>(Rt r hr).1,λr hr=>(Ru r hr).1,λr hr=>(Rv r hr).1,λr hr=>(Rw r hr).1,λr hr=>(Rx r hr).1,λr hr=>(Wu r hr).1,λr hr=>(Wv r hr).1,Iw Wx⟩⟩
theorem SR {b:Oa} (hl:l<=c) (hb:b=none->c=0) (hz:z.length=c) (hE:dV W (.slice b l c) z.flatten) (hr:∀ r∈z,r.length=31/\kI Try.prog W 12 61 r):
  ∃ xs,SL bE (λv cs=>dV W v cs) b l c xs/\∀ x∈xs,Is x.2:=
 Mi (k:=31) (R:=bE) (Q:=λx=>Is x.2) hl hb hz hE (λr h=>(hr r h).1) (λr h=>Iy (hr r h).1 (hr r h).2)
noncomputable def H0:Cx:={ P:=Try.prog,inl:=λf=>List.contains [] f,jN:=K7,kH:=λ_=>false,eY:=λ_ _ _ _ _=>False,opt:={ cq:=0,carry:=[],vq:=[11,12] },eo:=dM }
theorem OU:bX H0:=bX.four DD (by kernel_rfl) (dN (by kernel_rfl)) (λ_ _ _ _ _ h=>h.elim)
def jg (v:Int):Bc:={ jf with from_:=v }
theorem Fi:vv jf=(List.replicate 33 0,0):=by kernel_rfl
theorem Lc:vv (jg 60)=([],1):=by kernel_rfl
theorem IB:(enc fz).2=false/\(enc fz).1.length<=1000:=by decide+kernel
theorem SS:(enc (jg 3)).2=false:=by decide+kernel
theorem SU:(enc (jg 1)).2=false:=by decide+kernel
theorem Ml:(enc (jg 9)).2=false:=by decide+kernel
def UC:List (Int×Bc):=[(4,jg 3)]
def UD:List (Int×Bc):=[(7,jg 1),(4,jg 3)]
def Mm:List (Int×Bc):=[(7,jg 1),(4,jg 3),(8,jg 9)]
def UE:List (Int×Bc):=[(7,jg 1),(8,jg 9)]
theorem SW:gM [] (jg 3) 4=(UC,0):=by rfl
theorem SX:gM UC (jg 1) 7=(UD,0):=by rfl
theorem SY:gM UD (jg 9) 8=(Mm,0):=by rfl
theorem SZ:gM Mm (jg 9) 7=([],14):=by rfl
theorem X0:(Mm.filter λx=> !eL 8 x)=UE:=by rfl
theorem okA:jr UC:=λi x hx=>by
 match i,hx with
 | 0,hx=>cases hx;exact ⟨by decide,by decide,λy h=>absurd h (by decide)⟩
theorem okB:jr UD:=λi x hx=>by
 match i,hx with
 | 0,hx=>cases hx;exact ⟨by decide,by decide,λy h=>absurd h (by decide)⟩
 | 1,hx=>cases hx;exact ⟨by decide,by decide,λy _ h=>by cases h;decide⟩
theorem okC:jr Mm:=λi x hx=>by
 match i,hx with
 | 0,hx=>cases hx;exact ⟨by decide,by decide,λy h=>absurd h (by decide)⟩
 | 1,hx=>cases hx;exact ⟨by decide,by decide,λy _ h=>by cases h;decide⟩
 | 2,hx=>cases hx;exact ⟨by decide,by decide,λy _ h=>by cases h;decide⟩
theorem Ab (v:Int):gh (jg v):=⟨Nat.zero_le _,Nat.zero_le _,Nat.zero_le _,Nat.zero_le _,Nat.zero_le _,Nat.zero_le _,Nat.zero_le _,Nat.zero_le _,Nat.zero_le _⟩
theorem yT (v:Int):mG E (.agg [I v,I 0,I 0,I 0,I 0,I 0,I 0,I 0,I 0,I 0,I 0,L none 0 0,L none 0 0,L none 0 0,L none 0 0,B false,L none 0 0,L none 0 0,L none 0 0,I 0,I 0,.raw (.int .u64 0),I 0,I 0,I 0,I 0,I 0,L none 0 0,L none 0 0,B false]) (jg v):=⟨⟨none,0,0,none,0,0,none,0,0,none,0,0,none,0,0,none,0,0,none,0,0,none,0,0,none,0,0,rfl,⟨SL.nil,SL.nil,SL.nil,SL.nil,SL.nil,SL.nil,SL.nil,Bs.nil _,SL.nil⟩⟩⟩
theorem Mn:gh fz:=by constructor<;>decide
def X6 (b d:Oa) (c e:Nat) (aC:Oa) (ay aB:Nat) (aF:Oa) (ax aG:Nat) (aH:Oa) (ar aI:Nat) (aK:Oa) (au aL:Nat) (aS:Oa) (aM aT:Nat) (aU:Oa) (aN aV:Nat) (aX:Oa) (aA aY:Nat) (aZ:Oa) (aQ bc:Nat) (bg:Oa) (aE bh:Nat) (E:Mem):St:=⟨[none]++nn 4++[oc 0 0]++nn 5++[oL b 3 c]++nn 5++[oL d 2 e,oB true]++nn 129,[⟨40,.ae [I fz.from_,I fz.bO,I fz.aD,I fz.aJ,I fz.bound,I fz.fresh,I fz.seq,I fz.bf,I fz.parent,I fz.first,I fz.next,L aC ay aB,L aF ax aG,L aH ar aI,L aK au aL,B fz.full,L aS aM aT,L aU aN aV,L aX aA aY,I fz.aP,I fz.size,.raw (.int .u64 fz.bD),I fz.start,I fz.pages,I fz.version,I fz.az,I fz.seed,L aZ aQ bc,L bg aE bh,B fz.has],30,true⟩],E⟩
def X7 (b0 b d:Oa) (c0 c e:Nat) (aC:Oa) (ay aB:Nat) (aF:Oa) (ax aG:Nat) (aH:Oa) (ar aI:Nat) (aK:Oa) (au aL:Nat) (aS:Oa) (aM aT:Nat) (aU:Oa) (aN aV:Nat) (aX:Oa) (aA aY:Nat) (aZ:Oa) (aQ bc:Nat) (bg:Oa) (aE bh:Nat) (E:Mem):St:=⟨[none,oL b0 33 c0,oI 0,none,oI 0,oc 0 0,oI 0,none,oI 1,none,oI 3,oL b 3 c,oI 0,oI 0,oI 0,none,oI 14,oL d 2 e]++nn 130,[⟨40,.ae [I fz.from_,I fz.bO,I fz.aD,I fz.aJ,I fz.bound,I fz.fresh,I fz.seq,I fz.bf,I fz.parent,I fz.first,I fz.next,L aC ay aB,L aF ax aG,L aH ar aI,L aK au aL,B fz.full,L aS aM aT,L aU aN aV,L aX aA aY,I fz.aP,I fz.size,.raw (.int .u64 fz.bD),I fz.start,I fz.pages,I fz.version,I fz.az,I fz.seed,L aZ aQ bc,L bg aE bh,B fz.has],30,true⟩],E⟩
theorem Ld {b d:Oa} {e:Nat} (hM:iY E fz aC ay aB aF ax aG aH ar aI aK au aL aS aM aT aU aN aV aX aA aY aZ aQ bc bg aE bh) (hB:SL bE E b 3 c Mm) (hD:SL bE E d 2 e UE) (q:Mem.le E0 E) (h:∀ E',Mem.le E0 E'->K (B true) E'):Pc H0 8 Try.f10 [1,1,1,1,1,1,1,1,1,1,1,1] 0 (aW E0 K) (X6 b d c e aC ay aB aF ax aG aH ar aI aK au aL aS aM aT aU aN aV aX aA aY aZ aQ bc bg aE bh E):=by refine dO (?_:0=0/\∀ (kR:Oa) (kS:Nat) (kT:Oa) (kU:Nat) (kV:Oa) (kW:Nat) (kX:Oa) (kY:Nat) (kZ:Oa) (lf:Nat) (lj:Oa) (lp:Nat) (lq:Oa) (lz:Nat) (qt:Oa) (qu:Nat) (qv:Oa) (qw:Nat) (E':Mem),Mem.le E E'->iY E' fz kR 1 kS kT 1 kU kV 1 kW kX 1 kY kZ 1 lf lj 1 lp lq 1 lz qt 16 qu qv 1 qw->Mem.le E E'/\∃ (x:Bc),(mG E' (SV.agg (cW 7 100 0 0 0 0 0 0 (-1:Int) 0 0 true 2 0 9223372036854775808 0 0 0 1 2 true aC ay aB aF ax aG aH ar aI aK au aL aS aM aT aU aN aV aX aA aY aZ aQ bc bg aE bh)) x/\mG E' (SV.agg (cW 7 100 0 0 0 0 0 0 (-1:Int) 0 0 true 2 0 9223372036854775808 0 0 0 1 2 true kR 1 kS kT 1 kU kV 1 kW kX 1 kY kZ 1 lf lj 1 lp lq 1 lz qt 16 qu qv 1 qw)) x/\gh x)/\Mem.le E' E'/\nE E' b 3 c/\∃ (n:Int),bt H0.P E' 3 (VS b 3 c) 1 (I n)/\bif bif true then n==(1:Int) else false then nE E' b 3 c/\∃ (n:Int),bt H0.P E' 3 (VS b 3 c) 32 (I n)/\bif bif true then n==(3:Int) else false then nE E' d 2 e/\∃ (n:Int),bt H0.P E' 3 (VS d 2 e) 32 (I n)/\Mem.le E0 E'/\K (B (bif true then n==(9:Int) else false)) E' else Mem.le E0 E'/\K (B false) E' else Mem.le E0 E'/\K (B false) E');delta VS cW;refine ⟨rfl,λd11 fK d12 fL d13 fE d14 fk d16 fC d17 fF d18 fg d27 fI d28 fJ E1 m X8=>?_⟩;have hB:=hB.mono bu m;have hD:=hD.mono bu m;refine ⟨m,fz,⟨⟨⟨aC,ay,aB,aF,ax,aG,aH,ar,aI,aK,au,aL,aS,aM,aT,aU,aN,aV,aX,aA,aY,aZ,aQ,bc,bg,aE,bh,rfl,hM.mono m⟩⟩,⟨⟨d11,1,fK,d12,1,fL,d13,1,fE,d14,1,fk,d16,1,fC,d17,1,fF,d18,1,fg,d27,16,fI,d28,1,fJ,rfl,X8⟩⟩,Mn⟩,bn,SL.ne bu hB (i:=0) (by decide),1,iw hB (i:=0) rfl,ah (λ_=>?_) (λg=>absurd g (by decide))⟩;refine ⟨SL.ne bu hB (i:=1) (by decide),3,iw hB (i:=1) rfl,ah (λ_=>?_) (λg=>absurd g (by decide))⟩;exact ⟨SL.ne bu hD (i:=1) (by decide),9,iw hD (i:=1) rfl,bq q m,h E1 (bq q m)⟩
theorem Le {b0 b d:Oa} {c0 e:Nat} (hM:iY E fz aC ay aB aF ax aG aH ar aI aK au aL aS aM aT aU aN aV aX aA aY aZ aQ bc bg aE bh) (h0:Bs E b0 33 c0 (List.replicate 33 0)) (hB:SL bE E b 3 c Mm) (hD:SL bE E d 2 e UE) (q:Mem.le E0 E) (h:∀ E',Mem.le E0 E'->K (B true) E'):Pc H0 8 Try.f10 [1,1,1,1,1,1,1,1,1,1,1] 0 (aW E0 K) (X7 b0 b d c0 c e aC ay aB aF ax aG aH ar aI aK au aL aS aM aT aU aN aV aX aA aY aZ aQ bc bg aE bh E):=by refine dO (?_:∀ (base:Oa) (E':Mem),Mem.le E E'->gD E' base [U8 0,U8 0,U8 0,U8 0,U8 0,U8 0,U8 0,U8 0,U8 0,U8 0,U8 0,U8 0,U8 0,U8 0,U8 0,U8 0,U8 0,U8 0,U8 0,U8 0,U8 0,U8 0,U8 0,U8 0,U8 0,U8 0,U8 0,U8 0,U8 0,U8 0,U8 0,U8 0,U8 0]->∃ (zs:Li),(Bs E' b0 33 c0 zs/\Bs E' (Option.map (λ(x:Addr)=>Addr.add x 0) base) 33 33 zs/\33<=1000000)/\Ct H0 8 Try.f10 [1,1,1,1,1,1,1,1,1,1,1,1] 0 (aW E0 K) { fr:=none::oL b0 33 c0::oI 0::none::oI 0::oc 0 0::oI 0::none::oI 1::none::oI 3::oL b 3 c::oI 0::oI 0::oI 0::none::oI 14::oL d 2 e::oB true::ai (bL (cE (oI 0::oB true::oB true::oL b0 33 c0::os 1 0 33 33::oB true::oB true::oB true::oI 0::oB true::oB true::oB true::oI 0::oB true::oB true::oB true::oI 1::oB true::oB true::oB true::oI 3::oB true::oB true::oB true::oI 0::oB true::oB true::oB true::oI 0::oB true::oB true::oB true::oI 0::oB true::oB true::oB true::oI 14::oB true::oB true::ai (cQ [])))),bx:=[(⟨40,.ae (cW 7 100 0 0 0 0 0 0 (-1:Int) 0 0 true 2 0 9223372036854775808 0 0 0 1 2 true aC ay aB aF ax aG aH ar aI aK au aL aS aM aT aU aN aV aX aA aY aZ aQ bc bg aE bh),30,true⟩:aR),⟨5,.vals [U8 0,U8 0,U8 0,U8 0,U8 0,U8 0,U8 0,U8 0,U8 0,U8 0,U8 0,U8 0,U8 0,U8 0,U8 0,U8 0,U8 0,U8 0,U8 0,U8 0,U8 0,U8 0,U8 0,U8 0,U8 0,U8 0,U8 0,U8 0,U8 0,U8 0,U8 0,U8 0,U8 0],33,false⟩],E:=E':St });delta U8 cE cQ bL ai cW;refine λbase E1 m hw=>⟨List.replicate 33 0,⟨h0.mono m,Bs.win hw rfl rfl (Nat.le_refl _) (λz hz=>by rw [(List.mem_replicate.1 hz).2];decide),by decide⟩,?_⟩;exact iC [some 0] (eE OU (Ld (E:=E1) (hM.mono m) (hB.mono bu m) (hD.mono bu m) (bq q m) h)) (cl bn)
def dF (zs:Li):Bc×(Int×Int):=
 let r1:=bJ zs (0,0) 0 59
 let r2:=bJ zs r1.2 0 1000000000
 let r3:=bJ zs r2.2 0 1000000000
 let r4:=bJ zs r3.2 0 60
 let r5:=bJ zs r4.2 0 2000
 let r6:=bJ zs r5.2 0 1000000000
 let r7:=bJ zs r6.2 0 1000000000
 let r8:=bJ zs r7.2 0 1000000
 let r9:=bJ zs r8.2 (-1) 59
 let X9:=bJ zs r9.2 0 500002
 let Hu:=bJ zs X9.2 0 500002
 let Hv:=xO 85 24 zs Hu.2
 let Hw:=xO 88 24 zs Hv.2
 let Hx:=xO 90 24 zs Hw.2
 let Ya:=xO 92 60 zs Hx.2
 let Hy:=bJ zs Ya.2 0 1
 let Hz:=xO 94 4 zs Hy.2
 let Jq:=xO 94 1 zs Hz.2
 let Yb:=xO 68 60 zs Jq.2
 let Yc:=bJ zs Yb.2 0 1000000000
 let Yd:=bJ zs Yc.2 0 4096
 let Ye:=qT zs Yd.2 0
 let Yf:=bJ zs Ye.2 0 1000000000
 let Yg:=bJ zs Yf.2 0 16
 let Yh:=bJ zs Yg.2 0 1000000000
 let Yi:=bJ zs Yh.2 0 1
 bif Yi.1==1 then
  let KI:=bJ zs Yi.2 0 15
  let KJ:=bJ zs KI.2 0 1000000000
  let r29:=fD zs KJ.2 16
  let r30:=xO 96 5 zs r29.2
  (⟨r1.1,r2.1,r3.1,r4.1,r5.1,r6.1,r7.1,r8.1,r9.1,X9.1,Hu.1,Hv.1,Hw.1,Hx.1,Ya.1,Hy.1==1,Hz.1,Jq.1,Yb.1,Yc.1,Yd.1,Ye.1,Yf.1,Yg.1,Yh.1,KI.1,KJ.1,r29.1,r30.1,true⟩,r30.2)
 else (⟨r1.1,r2.1,r3.1,r4.1,r5.1,r6.1,r7.1,r8.1,r9.1,X9.1,Hu.1,Hv.1,Hw.1,Hx.1,Ya.1,Hy.1==1,Hz.1,Jq.1,Yb.1,Yc.1,Yd.1,Ye.1,Yf.1,Yg.1,Yh.1,0,0,[],[],false⟩,Yi.2)
theorem Mo {s':Int×Int} (d:Fa zs x s'):dF zs=(x,s'):=by
 obtain ⟨s1,s2,s3,s4,s5,s6,s7,s8,s9,yO,vM,xP,xQ,xR,yd,ye,zS,Al,G3,FI,FJ,FK,FL,FM,FN,BA,vf,vh,⟨q1,q2,q3,q4,q5,q6,q7,q8,q9,Ak,yL,Bp,Bq,Br,Di,AV,EG,EH,GW,EI,EJ,B7,EK,EL,EM,B8⟩,dB⟩:=d;obtain ⟨from_,bO,aD,aJ,bound,fresh,seq,bf,parent,first,next,cT,bw,asks,below,full,words,eB,got,aP,size,bD,start,pages,version,az,seed,data,proof,has⟩:=x
 have e1:=AV.2;have e2:=B8.2;simp only at e1 e2;unfold dF;simp only [q1,q2,q3,q4,q5,q6,q7,q8,q9,Ak,yL,Bp,Bq,Br,Di,AV.1,EG,EH,GW,EI,EJ,B7,EK,EL,EM,B8.1]
 cases has with
 | true=>
  rw [if_pos rfl] at dB;obtain ⟨Bv,zF,KD,⟨Dj,Dk,Dl,Jn⟩⟩:=dB;simp only [Dj,Dk,Dl,Jn,← e1,← e2,cond_true]
 | false=>
  rw [if_neg (λh=>by cases h)] at dB;obtain ⟨h1,h2,h3,h4,h5⟩:=dB;simp only at h1 h2 h3 h4;simp only [← e1,← e2,cond_false,h1,h2,h3,h4,h5]
theorem S5:dF (enc fz).1=(fz,((enc fz).1.length:Int),0):=by kernel_rfl
theorem n10 (h:∀ E',Mem.le E E'->K (B true) E'):mm H0 8 Try.f10 [] E K:=by
 refine dO (?_:∃ (x:Bc),(mG E (SV.agg (cW 0 0 0 0 0 0 0 0 0 0 0 false 0 0 0 0 0 0 0 0 false none 0 0 none 0 0 none 0 0 none 0 0 none 0 0 none 0 0 none 0 0 none 0 0 none 0 0)) x/\gh x)/\∀ (ys:Li) (e:Int) (b:Oa) (n c:Nat) (E':Mem),Mem.le E E'->ue x ys e->Bs E' b n c ys->Mem.le E E'/\0=0/\∀ (aC:Oa) (aB:Nat) (aF:Oa) (aG:Nat) (aH:Oa) (aI:Nat) (aK:Oa) (aL:Nat) (aS:Oa) (aT:Nat) (aU:Oa) (aV:Nat) (aX:Oa) (aY:Nat) (aZ:Oa) (bc:Nat) (bg:Oa) (bh:Nat) (cP:Mem),Mem.le E' cP->iY cP fz aC 1 aB aF 1 aG aH 1 aI aK 1 aL aS 1 aT aU 1 aV aX 1 aY aZ 16 bc bg 1 bh->Mem.le E' cP/\∃ (x:Bc),(mG cP (SV.agg (cW 7 100 0 0 0 0 0 0 (-1:Int) 0 0 true 2 0 9223372036854775808 0 0 0 1 2 true aC 1 aB aF 1 aG aH 1 aI aK 1 aL aS 1 aT aU 1 aV aX 1 aY aZ 16 bc bg 1 bh)) x/\gh x)/\∀ (ys:Li) (e_1:Int) (b_1:Oa) (n_1 FQ:Nat) (E':Mem),Mem.le cP E'->ue x ys e_1->Bs E' b_1 n_1 FQ ys->Mem.le cP E'/\∃ (zs:Li),(Bs E' b_1 n_1 FQ zs/\n_1<=100000)/\∀ (x:Bc) (e_2:Int) kR ay kS kT ax kU kV ar kW kX au kY kZ aM lf lj aN lp lq aA lz qt aQ qu qv aE qw (gO:Mem),Mem.le E' gO->A2 zs x e_2->iY gO x kR ay kS kT ax kU kV ar kW kX au kY kZ aM lf lj aN lp lq aA lz qt aQ qu qv aE qw->Mem.le E' gO/\∃ (x_1:Bc),(mG gO (SV.agg (cW 60 0 0 0 0 0 0 0 0 0 0 false 0 0 0 0 0 0 0 0 false none 0 0 none 0 0 none 0 0 none 0 0 none 0 0 none 0 0 none 0 0 none 0 0 none 0 0)) x_1/\gh x_1)/\∀ (ys:Li) (e_3:Int) (b_2:Oa) (n_2 S6:Nat) (E':Mem),Mem.le gO E'->ue x_1 ys e_3->Bs E' b_2 n_2 S6 ys->Mem.le gO E'/\∀ (base:Oa) (iJ:Mem),Mem.le E' iJ->gD iJ base [U8 120]->∃ (zs:Li),(Bs iJ (Option.map (λ(x:Addr)=>Addr.add x 0) base) 1 1 zs/\1<=100000)/\∀ (x_2:Bc) (e_4:Int) uJ nh uK uL ni uM uN nj uO uP nk uQ uR nm uS uT nq uU uV nr uW uX uY uZ va vb vc (E':Mem),Mem.le iJ E'->A2 zs x_2 e_4->iY E' x_2 uJ nh uK uL ni uM uN nj uO uP nk uQ uR nm uS uT nq uU uV nr uW uX uY uZ va vb vc->∃ (xs:List (Int×Bc)) (x_3:Bc),(SL bE E' none 0 0 xs/\0<=1000000/\mG E' (SV.agg (cW 3 0 0 0 0 0 0 0 0 0 0 false 0 0 0 0 0 0 0 0 false none 0 0 none 0 0 none 0 0 none 0 0 none 0 0 none 0 0 none 0 0 none 0 0 none 0 0)) x_3/\gh x_3)/\∀ (ys:List (Int×Bc)) (e_5:Int) (b':Oa) (n' c':Nat) (jy:Mem),Mem.le E' jy->jJ xs x_3 4 ys e_5->SL bE jy b' n' c' ys->Mem.le E' jy/\∃ (xs:List (Int×Bc)) (x_4:Bc),(SL bE jy b' n' c' xs/\n'<=(1000000:Nat)/\mG jy (SV.agg [I 1,I 0,I 0,I 0,I 0,I 0,I 0,I 0,I 0,I 0,I 0,L none 0 0,L none 0 0,L none 0 0,L none 0 0,B false,L none 0 0,L none 0 0,L none 0 0,I 0,I 0,SV.raw (vU 0),I 0,I 0,I 0,I 0,I 0,L none 0 0,L none 0 0,B false]) x_4/\gh x_4)/\∀ (ys:List (Int×Bc)) (e_6:Int) (uf:Oa) (jx ug:Nat) (E':Mem),Mem.le jy E'->jJ xs x_4 7 ys e_6->SL bE E' uf jx ug ys->Mem.le jy E'/\∃ (xs:List (Int×Bc)) (x_5:Bc),(SL bE E' uf jx ug xs/\jx<=(1000000:Nat)/\mG E' (SV.agg [I 9,I 0,I 0,I 0,I 0,I 0,I 0,I 0,I 0,I 0,I 0,L none 0 0,L none 0 0,L none 0 0,L none 0 0,B false,L none 0 0,L none 0 0,L none 0 0,I 0,I 0,SV.raw (vU 0),I 0,I 0,I 0,I 0,I 0,L none 0 0,L none 0 0,B false]) x_5/\gh x_5)/\∀ (ys:List (Int×Bc)) (e_7:Int) (vC:Oa) (j7 vD:Nat) (nY:Mem),Mem.le E' nY->jJ xs x_5 8 ys e_7->SL bE nY vC j7 vD ys->Mem.le E' nY/\∃ (xs:List (Int×Bc)) (x_6:Bc),(SL bE nY vC j7 vD xs/\j7<=(1000000:Nat)/\mG nY (SV.agg [I 9,I 0,I 0,I 0,I 0,I 0,I 0,I 0,I 0,I 0,I 0,L none 0 0,L none 0 0,L none 0 0,L none 0 0,B false,L none 0 0,L none 0 0,L none 0 0,I 0,I 0,SV.raw (vU 0),I 0,I 0,I 0,I 0,I 0,L none 0 0,L none 0 0,B false]) x_6/\gh x_6)/\∀ (ys:List (Int×Bc)) (e_8:Int) (IC:Oa) (oO ID:Nat) (E':Mem),Mem.le nY E'->jJ xs x_6 7 ys e_8->SL bE E' IC oO ID ys->Mem.le nY E'/\∃ (xs:List (Int×Bc)),(SL bE E' vC j7 vD xs/\j7<=(1000000:Nat))/\∀ (OV:Oa) (qU OW:Nat) (tf:Mem),Mem.le E' tf->SL bE tf OV qU OW (List.filter (λ(x:Int×Bc)=> !eL 8 x) xs)->Mem.le E' tf/\Ct H0 8 Try.f10 [(1:Nat),(1:Nat),(1:Nat),(1:Nat),(1:Nat),(1:Nat),(1:Nat),(1:Nat),(1:Nat),(1:Nat),(1:Nat)] (0:Nat) (aW E K) { fr:=some (B false)::oL b n c::oI e::oL b_1 n_1 FQ::oI e_1::oc 0 0::oI e_2::oL b_2 n_2 S6::oI e_3::oc 2 0::oI e_4::oL vC j7 vD::oI e_5::oI e_6::oI e_7::oL IC oO ID::oI e_8::oL OV qU OW::none::some (SV.bB [L b n c,I e])::some (SV.agg [I 0,I 0,I 0,I 0,I 0,I 0,I 0,I 0,I 0,I 0,I 0,L none 0 0,L none 0 0,L none 0 0,L none 0 0,B false,L none 0 0,L none 0 0,L none 0 0,I 0,I 0,SV.raw (vU 0),I 0,I 0,I 0,I 0,I 0,L none 0 0,L none 0 0,B false])::some (SV.bB [L b n c,I e])::oL b n c::oI e::some (SV.bB [L b_1 n_1 FQ,I e_1])::some (SV.agg [I 7,I 100,I 0,I 0,I 0,I 0,I 0,I 0,I (-1),I 0,I 0,L aC 1 aB,L aF 1 aG,L aH 1 aI,L aK 1 aL,B true,L aS 1 aT,L aU 1 aV,L aX 1 aY,I 2,I 0,SV.raw (vU 9223372036854775808),I 0,I 0,I 0,I 1,I 2,L aZ 16 bc,L bg 1 bh,B true])::some (SV.bB [L b_1 n_1 FQ,I e_1])::oL b_1 n_1 FQ::oI e_1::some (SV.bB [SV.agg (gq x kR ay kS kT ax kU kV ar kW kX au kY kZ aM lf lj aN lp lq aA lz qt aQ qu qv aE qw),I e_2])::oL b_1 n_1 FQ::some (SV.bB [SV.agg (gq x kR ay kS kT ax kU kV ar kW kX au kY kZ aM lf lj aN lp lq aA lz qt aQ qu qv aE qw),I e_2])::some (SV.agg (gq x kR ay kS kT ax kU kV ar kW kX au kY kZ aM lf lj aN lp lq aA lz qt aQ qu qv aE qw))::oI e_2::some (SV.bB [L b_2 n_2 S6,I e_3])::some (SV.agg [I 60,I 0,I 0,I 0,I 0,I 0,I 0,I 0,I 0,I 0,I 0,L none 0 0,L none 0 0,L none 0 0,L none 0 0,B false,L none 0 0,L none 0 0,L none 0 0,I 0,I 0,SV.raw (vU 0),I 0,I 0,I 0,I 0,I 0,L none 0 0,L none 0 0,B false])::some (SV.bB [L b_2 n_2 S6,I e_3])::oL b_2 n_2 S6::oI e_3::some (SV.bB [SV.agg (gq x_2 uJ nh uK uL ni uM uN nj uO uP nk uQ uR nm uS uT nq uU uV nr uW uX uY uZ va vb vc),I e_4])::os 1 0 1 1::some (SV.bB [SV.agg (gq x_2 uJ nh uK uL ni uM uN nj uO uP nk uQ uR nm uS uT nq uU uV nr uW uX uY uZ va vb vc),I e_4])::some (SV.agg (gq x_2 uJ nh uK uL ni uM uN nj uO uP nk uQ uR nm uS uT nq uU uV nr uW uX uY uZ va vb vc))::oI e_4::some (SV.bB [L b' n' c',I e_5])::some (SV.agg [I 3,I 0,I 0,I 0,I 0,I 0,I 0,I 0,I 0,I 0,I 0,L none 0 0,L none 0 0,L none 0 0,L none 0 0,B false,L none 0 0,L none 0 0,L none 0 0,I 0,I 0,SV.raw (vU 0),I 0,I 0,I 0,I 0,I 0,L none 0 0,L none 0 0,B false])::some (SV.bB [L b' n' c',I e_5])::oL b' n' c'::oI e_5::some (SV.bB [L uf jx ug,I e_6])::oL b' n' c'::some (SV.agg [I 1,I 0,I 0,I 0,I 0,I 0,I 0,I 0,I 0,I 0,I 0,L none 0 0,L none 0 0,L none 0 0,L none 0 0,B false,L none 0 0,L none 0 0,L none 0 0,I 0,I 0,SV.raw (vU 0),I 0,I 0,I 0,I 0,I 0,L none 0 0,L none 0 0,B false])::some (SV.bB [L uf jx ug,I e_6])::oL uf jx ug::oI e_6::some (SV.bB [L vC j7 vD,I e_7])::oL uf jx ug::some (SV.agg [I 9,I 0,I 0,I 0,I 0,I 0,I 0,I 0,I 0,I 0,I 0,L none 0 0,L none 0 0,L none 0 0,L none 0 0,B false,L none 0 0,L none 0 0,L none 0 0,I 0,I 0,SV.raw (vU 0),I 0,I 0,I 0,I 0,I 0,L none 0 0,L none 0 0,B false])::some (SV.bB [L vC j7 vD,I e_7])::oL vC j7 vD::oI e_7::some (SV.bB [L IC oO ID,I e_8])::oL vC j7 vD::some (SV.agg [I 9,I 0,I 0,I 0,I 0,I 0,I 0,I 0,I 0,I 0,I 0,L none 0 0,L none 0 0,L none 0 0,L none 0 0,B false,L none 0 0,L none 0 0,L none 0 0,I 0,I 0,SV.raw (vU 0),I 0,I 0,I 0,I 0,I 0,L none 0 0,L none 0 0,B false])::some (SV.bB [L IC oO ID,I e_8])::oL IC oO ID::oI e_8::oL vC j7 vD::oL OV qU OW::ai (ai (cQ (cL (cE (none::[]))))),bx:=[(⟨(40:Nat),Row.ae (gq x kR ay kS kT ax kU kV ar kW kX au kY kZ aM lf lj aN lp lq aA lz qt aQ qu qv aE qw),(30:Nat),true⟩:aR),⟨(5:Nat),Row.ae [SV.raw (U8 120)],(1:Nat),false⟩,⟨(40:Nat),Row.ae (gq x_2 uJ nh uK uL ni uM uN nj uO uP nk uQ uR nm uS uT nq uU uV nr uW uX uY uZ va vb vc),(30:Nat),true⟩],E:=tf:St });delta U8 vU cE cL cQ ai gq cW;refine ⟨jf,⟨yT 0,Ab 0⟩,λys0 e0 b0 n0 c0 E1 m1 hq1 ND=>⟨m1,rfl,λHt Hu GV Hv Fb Hw KG Hx FO Hy Jp Hz KH Jq Ma KI Mb KJ E2 m2 X8=>?_⟩⟩;have hq:=hq1.eq;rw [Fi] at hq;simp only [Prod.mk.injEq] at hq;obtain ⟨rfl,rfl⟩:=hq;refine ⟨m2,fz,⟨⟨⟨Ht,1,Hu,GV,1,Hv,Fb,1,Hw,KG,1,Hx,FO,1,Hy,Jp,1,Hz,KH,1,Jq,Ma,16,KI,Mb,1,KJ,rfl,X8⟩⟩,Mn⟩,λys1 e1 b1 n1 c1 E3 m3 hq2 D2=>?_⟩;have hq:=hq2.eq;unfold vv at hq;rw [if_neg (by rw [IB.1];exact Bool.false_ne_true)] at hq;simp only [Prod.mk.injEq] at hq;obtain ⟨rfl,rfl⟩:=hq;refine ⟨m3,_,⟨D2,by have:=D2.2.1;have:=IB.2;omega⟩,λx2 e2 t11 Qk v11 t12 Uj fU t13 Se fX t14 Ul fV t16 u16 ff t17 Uf fa t18 Uh fc t27 XY eN t28 u28 fG E4 m4 hd Yj=>?_⟩;have hd:=hd.eq;obtain ⟨y,s',hr,hy⟩:=hd;have hr:=Mo hr;rw [S5] at hr;obtain ⟨q1,q2⟩:=Prod.mk.inj hr;subst q2;have q1:=q1.symm;simp only [Int.lt_irrefl,if_true,if_false] at hy;obtain ⟨rfl,rfl⟩:=hy;subst q1;refine ⟨m4,jg 60,⟨yT 60,Ab 60⟩,λys3 e3 b2 n2 c2 E5 m5 hq3 P9=>?_⟩;have hq:=hq3.eq;rw [Lc] at hq;simp only [Prod.mk.injEq] at hq;obtain ⟨rfl,rfl⟩:=hq;refine ⟨m5,λbase E6 m6 hw=>⟨[120],⟨Bs.win hw rfl rfl (Nat.le_refl _) (λz hz=>by cases List.mem_singleton.1 hz;decide),by decide⟩,λx4 e4 f11 Jr sW f12 FP sX f13 Js sY f14 Jt tE f16 Ju sZ f17 Jv tb f18 Jw uI f27 Qi rz f28 Ud tF E7 m7 Qb hM7=>?_⟩⟩;have e4':e4=3:=by
  obtain ⟨y,s2,OX,PW⟩:=Qb.eq;have OX:=Mo OX;have :s2.2=3:=by rw [← (Prod.mk.inj OX).2];kernel_rfl
  rw [if_neg (by rw [this];decide)] at PW;rw [PW.2,this]
 subst e4';refine ⟨[],jg 3,⟨SL.nil,by decide,yT 3,Ab 3⟩,λl1 a1 d1 i1 j1 E8 m8 hn1 hs1=>?_⟩;have hq:=hn1.eq.1 ⟨SS,(λi x hx=>by simp at hx),by decide,by decide⟩;rw [SW] at hq;simp only [Prod.mk.injEq] at hq;obtain ⟨rfl,rfl⟩:=hq;have hl:=hs1.len;obtain rfl:i1=1:=hl.symm;refine ⟨m8,UC,jg 1,⟨hs1,by decide,yT 1,Ab 1⟩,λl2 a2 d2 i2 j2 E9 m9 Vk hs2=>?_⟩;have hq:=Vk.eq.1 ⟨SU,okA,by decide,by decide⟩;rw [SX] at hq;simp only [Prod.mk.injEq] at hq;obtain ⟨rfl,rfl⟩:=hq;have hl:=hs2.len;obtain rfl:i2=2:=hl.symm;refine ⟨m9,UD,jg 9,⟨hs2,by decide,yT 9,Ab 9⟩,λl3 a3 d3 i3 j3 E10 Kf hn3 Yk=>?_⟩;have hq:=hn3.eq.1 ⟨Ml,okB,by decide,by decide⟩;rw [SY] at hq;simp only [Prod.mk.injEq] at hq;obtain ⟨rfl,rfl⟩:=hq;have hl:=Yk.len;obtain rfl:i3=3:=hl.symm;refine ⟨Kf,Mm,jg 9,⟨Yk,by decide,yT 9,Ab 9⟩,λl4 a4 d4 i4 j4 E11 xa hn4 hs4=>?_⟩;have hq:=hn4.eq.1 ⟨Ml,okC,by decide,by decide⟩;rw [SZ] at hq;simp only [Prod.mk.injEq] at hq;obtain ⟨rfl,rfl⟩:=hq;have s3:=Yk.mono bu xa;refine ⟨xa,Mm,⟨s3,by decide⟩,λd5 i5 j5 N9 xb S7=>⟨xb,?_⟩⟩;have S7:SL bE N9 d5 i5 j5 UE:=by rw [X0] at S7;exact S7
 have hl:=S7.len;obtain rfl:i5=2:=hl.symm;have hl:=ND.2.1;obtain rfl:n0=33:=by rw [← hl];rfl
 have k4:Mem.le E4 N9:=bq m5<|bq m6<|bq m7<|bq m8<|bq m9<|bq Kf<|bq xa xb;have k1:Mem.le E1 N9:=bq m2<|bq m3<|bq m4 k4;exact iC [some 0] (eE OU (Le (E:=N9) (Yj.mono k4) (ND.mono k1) (s3.mono bu xb) S7 (bq m1 k1) h)) (cl bn)
theorem ng.sm (h:ng x):gh x:=⟨Nat.le_trans h.rL (by decide),Nat.le_trans h.L2 (by decide),Nat.le_trans h.L3 (by decide),Nat.le_trans h.L4 (by decide),Nat.le_trans h.Kg (by decide),Nat.le_trans h.Kh (by decide),Nat.le_trans h.L5 (by decide),Nat.le_trans h.FG (by decide),Nat.le_trans h.FH (by decide)⟩
noncomputable def DF:FuncId->List SV->Mem->(SV->Mem->Prop)->Prop:=λf args E K=>match f with
 | 10=>args.length=0/\∀ E',Mem.le E E'->K (B true) E'
 | f=>K7 f args E K
theorem A6:jm Try.prog DF:=by
 intro f args E K h;unfold DF at h;split at h
 ·obtain ⟨h0,hk⟩:=h;have h0:=List.eq_nil_of_length_eq_zero h0;subst h0;exact nK OU Try.func10 rfl (n10 hk)
 ·exact DD _ _ _ _ h
section
variable {xs ys:List (Int×Bc)} {x a b:Bc} {y:Int×Bc} {fr later:Int}
theorem yU:gM [] x fr=([(fr,x)],0):=rfl
theorem Lg (h:y.2.from_<x.from_):oS (y::ys) x.from_=oS ys x.from_+1:=by unfold oS;rw [List.takeWhile_cons_of_pos (by simpa using h),List.length_cons]
theorem DG (h:¬ y.2.from_<x.from_):oS (y::ys) x.from_=0:=by unfold oS;rw [List.takeWhile_cons_of_neg (by simpa using h)];rfl
theorem qx (h:y.2.from_<x.from_):gM (y::ys) x fr=if (gM ys x fr).2=0 then (y::(gM ys x fr).1,0) else ([],14):=by
 unfold gM;rw [Lg h,List.getElem?_cons_succ]
 cases ys[oS ys x.from_]? with
 | none=>rw [if_pos rfl];rfl
 | some z=>
  dsimp only;by_cases h1:z.2.from_=x.from_
  ·simp only [if_pos h1];by_cases h2:z.1>fr
   ·simp only [if_pos h2];rfl
   ·simp only [if_neg h2];rfl
  ·simp only [if_neg h1];rfl
theorem qy (h:y.2.from_=x.from_):gM (y::ys) x fr=if y.1>fr then ([],14) else ((fr,x)::ys,0):=by unfold gM;rw [DG (by omega),List.getElem?_cons_zero];dsimp only;rw [if_pos h];rfl
theorem tq (h:x.from_<y.2.from_):gM (y::ys) x fr=((fr,x)::y::ys,0):=by unfold gM;rw [DG (by omega),List.getElem?_cons_zero];dsimp only;rw [if_neg (by omega)];rfl
theorem Fj:∀ {xs:List (Int×Bc)},(gM xs x fr).2=0\/gM xs x fr=([],14)
 | []=>.inl rfl
 | y::ys=>by
  rcases Int.lt_trichotomy y.2.from_ x.from_ with h|h|h
  ·rw [qx h];split
   ·exact .inl rfl
   ·exact .inr rfl
  ·rw [qy h];split
   ·exact .inr rfl
   ·exact .inl rfl
  ·rw [tq h];exact .inl rfl
def nbR (y:Int×Bc):Prop:=(0<=y.2.from_/\y.2.from_<=59)/\(0<=y.1/\y.1<=1000000000)
theorem yV:jr (y::ys)↔nbR y/\(∀ z,ys[0]? =some z->y.2.from_<z.2.from_)/\jr ys:=by
 constructor
 ·intro h;refine ⟨⟨(h 0 y rfl).1,(h 0 y rfl).2.1⟩,λz hz=>(h 1 z hz).2.2 y (by decide) rfl,λi z hz=>?_⟩;have:=h (i+1) z hz;refine ⟨this.1,this.2.1,λw hi hw=>this.2.2 w (Nat.succ_pos _) ?_⟩;rw [Nat.add_sub_cancel]
  cases i with
  | zero=>cases hi
  | succ i=>exact hw
 ·rintro ⟨h1,h2,h3⟩ i z hz
  cases i with
  | zero=>cases hz;exact ⟨h1.1,h1.2,λw hi=>absurd hi (by decide)⟩
  | succ i=>
   have:=h3 i z hz;refine ⟨this.1,this.2.1,λw _ hw=>?_⟩;rw [Nat.add_sub_cancel] at hw
   cases i with
   | zero=>cases hw;exact h2 z hz
   | succ i=>exact this.2.2 w (Nat.succ_pos _) hw
theorem yW:∀ {xs X:List (Int×Bc)} {z:Int×Bc},gM xs x fr=(X,0)->z∈X->z=(fr,x)\/z∈xs
 | [],X,z,h,hz=>by rw [yU] at h;cases h;exact .inl (List.mem_singleton.1 hz)
 | y::ys,X,z,h,hz=>by
  rcases Int.lt_trichotomy y.2.from_ x.from_ with g|g|g
  ·rw [qx g] at h;split at h;case isFalse=>cases h
   rename_i g0
   cases h;have e:gM ys x fr=((gM ys x fr).1,0):=by rw [← g0]
   rcases List.mem_cons.1 hz with rfl|hz
   ·exact .inr (by simp)
   ·exact (yW e hz).imp_right (List.mem_cons_of_mem _)
  ·rw [qy g] at h;split at h
   ·cases h
   cases h;rcases List.mem_cons.1 hz with rfl|hz
   ·exact .inl rfl
   ·exact .inr (List.mem_cons_of_mem _ hz)
  ·rw [tq g] at h;cases h;rcases List.mem_cons.1 hz with rfl|hz
   ·exact .inl rfl
   ·exact .inr hz
theorem yX:∀ {xs X:List (Int×Bc)},gM xs x fr=(X,0)->X.length<=xs.length+1
 | [],X,h=>by rw [yU] at h;cases h;simp
 | y::ys,X,h=>by
  rcases Int.lt_trichotomy y.2.from_ x.from_ with g|g|g
  ·rw [qx g] at h;split at h;case isFalse=>cases h
   rename_i g0
   cases h;have e:gM ys x fr=((gM ys x fr).1,0):=by rw [← g0]
   have:=yX e;simp;omega
  ·rw [qy g] at h;split at h
   ·cases h
   cases h;simp
  ·rw [tq g] at h;cases h;simp
end
def Cv (xs:List (Int×Bc)) (x:Bc) (fr:Int):Prop:=(enc x).2=false/\jr xs/\0<=fr/\fr<=1000000000
theorem jJ.yes (h:jJ xs x fr ys e) (g:e=0):Cv xs x fr/\gM xs x fr=(ys,0):=by
 by_cases k:Cv xs x fr
 ·exact ⟨k,by rw [← g];exact h.eq.1 k⟩
 ·have:=(h.eq.2 k).2;omega
theorem jJ.no (h:jJ xs x fr ys e) (g:¬ e=0):ys=[]:=by
 by_cases k:Cv xs x fr
 ·have k2:=h.eq.1 k;rcases Fj (xs:=xs) (x:=x) (fr:=fr) with j|j
  ·rw [k2] at j;exact absurd j g
  ·rw [k2] at j;cases j;rfl
 ·exact (h.eq.2 k).1
theorem jJ.sm (h:jJ xs x fr ys e) (hs:∀ y∈xs,gh y.2) (hx:gh x):(∀ y∈ys,gh y.2)/\ys.length<=xs.length+1:=by
 by_cases g:e=0
 ·have k:=(h.yes g).2;refine ⟨λy hy=>?_,yX k⟩;rcases yW k hy with rfl|q
  ·exact hx
  ·exact hs y q
 ·have k:=h.no g;subst k;exact ⟨λy hy=>(by cases hy),by simp⟩
noncomputable def R0:Cx:={ P:=Try.prog,inl:=λf=>List.contains [] f,jN:=λ_ _ _ _=>False,kH:=λ_=>false,eY:=λ_ _ _ _ _=>False,opt:={ cq:=0,carry:=[] },eo:=dM }
theorem S8:bX R0:=bX.four (λ_ _ _ _ h=>h.elim) (by kernel_rfl) (dN (by kernel_rfl)) (λ_ _ _ _ _ h=>h.elim)
def cH (n lo hi:Int):Bool:=decide (lo<=n)&&decide (n<=hi)
theorem tr {n:Int}:cH n lo hi=true↔lo<=n/\n<=hi:=by simp [cH]
theorem Yl {n:Int} (h:K (B (cH n lo hi)) E):mm R0 8 Try.f52 [I n,I lo,I hi] E K:=by
  refine dO (?_:bif decide (n>=lo) then Mem.le E E/\K (B (bif true then decide (n<=hi) else false)) E else Mem.le E E/\K (B false) E);refine ah (λg=>?_) (λg=>?_)
  · have e : cH n lo hi = decide (n ≤ hi) := by have :lo<=n:=by simpa using g
                                                simp [cH,this]
    rw [e] at h;exact ⟨bn,h⟩
  · have e : cH n lo hi = false := by have :¬ lo<=n:=by simpa using g
                                      simp only [cH,this,decide_false,Bool.false_and]
    rw [e] at h;exact ⟨bn,h⟩
theorem Ym {n:Int} (h:K (B (cH n 0 1000000000)) E):mm R0 8 Try.f51 [I n] E K:=by
  refine dO (?_:bif decide (n>=(0:Int)) then Mem.le E E/\K (B (bif true then decide (n<=(1000000000:Int)) else false)) E else Mem.le E E/\K (B false) E);refine ah (λg=>?_) (λg=>?_)
  · have e : cH n 0 1000000000 = decide (n ≤ 1000000000) := by have :0<=n:=by simpa using g
                                                               simp [cH,this]
    rw [e] at h;exact ⟨bn,h⟩
  · have e : cH n 0 1000000000 = false := by have :¬ 0<=n:=by simpa using g
                                             simp only [cH,this,decide_false,Bool.false_and]
    rw [e] at h;exact ⟨bn,h⟩
noncomputable def A7:FuncId->List SV->Mem->(SV->Mem->Prop)->Prop:=λf args E K=>match f with
 | 52=>d3 args λx0 x1 x2=>dI x0 λn=>dI x1 λlo=>dI x2 λhi=>K (B (cH n lo hi)) E
 | 51=>d1 args λx0=>dI x0 λn=>K (B (cH n 0 1000000000)) E
 | _=>False
theorem xu:jm Try.prog A7:=by
 intro f args E K h;unfold A7 at h;split at h
 ·obtain ⟨x0,x1,x2,rfl,h1⟩:=qJ h;obtain ⟨n,rfl,h2⟩:=bQ h1;obtain ⟨lo,rfl,h3⟩:=bQ h2;obtain ⟨hi,rfl,h4⟩:=bQ h3;exact nK S8 Try.func52 rfl (Yl h4)
 ·obtain ⟨x0,rfl,h1⟩:=fO h;obtain ⟨n,rfl,h2⟩:=bQ h1;exact nK S8 Try.func51 rfl (Ym h2)
 ·exact h.elim
noncomputable def R1:Cx:={ P:=Try.prog,inl:=λf=>List.contains [] f,jN:=A7,kH:=λ_=>false,eY:=λ_ _ _ _ _=>False,opt:={ cq:=0,carry:=[3] },eo:=dM }
theorem IE:bX R1:=bX.four xu (by kernel_rfl) (dN (by kernel_rfl)) (λ_ _ _ _ _ h=>h.elim)
def OY (b:Oa) (n c i:Nat) (E:Mem):St:=⟨[oL b n c,none,none,oI (i:Nat)]++nn 47,[],E⟩
theorem Yn {b:Oa} (h0:SL bE E b n c xs) (hn:n<=9223372036854775807) (hi:i<=n/\∀ (j:Nat) x,j<i->xs[j]? =some x->xn xs j x) (h:∀ v:Bool,(v=true↔jr xs)->K (B v) E)
  (ih:i<n->(∀ x,xs[i]? =some x->xn xs i x)->Lp R1 8 Try.f27 [1,0,1,0] 0 (aW E K) (OY b n c (i+1) E)):jO R1 8 Try.f27 [1,0,1,0] 0 (aW E K) (OY b n c i E):=by
 refine dO (?_:bif decide ((NI i)<(NI n)) then cU (0<=(NI i)/\(NI i)<(NI n)) (nE E b n c/\∃ (n_1:Int),bt R1.P E 3 (VS b n c) (Int.toNat (NI i)*31+1+0) (I n_1)/\Mem.le E E/\cU (0<=(NI i)/\(NI i)<(NI n)) (nE E b n c/\∃ (n_2:Int),bt R1.P E 3 (VS b n c) (Int.toNat (NI i)*31+0) (I n_2)/\Mem.le E E/\bif !cH n_1 0 59 then Mem.le E E/\K (B false) E else bif bif false then true else !cH n_2 0 1000000000 then Mem.le E E/\K (B false) E else bif decide ((NI i)>0) then cU ((0:Int)<=WI ((NI i)-1)/\WI ((NI i)-1)<(NI n)) (nE E b n c/\∃ (ep:Int),bt R1.P E 3 (VS b n c) (Int.toNat (WI ((NI i)-1))*31+1+0) (I ep)/\cU (0<=(NI i)/\(NI i)<(NI n)) (nE E b n c/\∃ (gT:Int),bt R1.P E 3 (VS b n c) (Int.toNat (NI i)*31+1+0) (I gT)/\bif bif false then true else bif true then decide (ep>=gT) else false then Mem.le E E/\K (B false) E else Lp R1 8 Try.f27 [1,0,1,0] 0 (aW E K) { fr:=some (L b n c)::none::none::oI (WI ((NI i)+1))::ai (cQ (cL (cE (none::[])))),bx:=[],E:=E:St })) else Lp R1 8 Try.f27 [1,0,1,0] 0 (aW E K) { fr:=some (L b n c)::none::none::oI (WI ((NI i)+1))::ai (cQ (cL (cE (none::[])))),bx:=[],E:=E:St })) else Mem.le E E/\K (B true) E);delta WI NI VS cE cL cQ ai;have hl:=h0.len;refine ah (λg=>?_) (λg=>⟨bn,h true ⟨λ_ j x hx=>hi.2 j x (by have:=(List.getElem?_eq_some_iff.1 hx).1;simp at g;omega) hx,λ_=>rfl⟩⟩);have g:i<n:=by simpa using g
 have w:IntKind.wrap .i64 ((i:Int)+1)=((i+1:Nat):Int):=by rw [wrap_i64 (by omega)];omega
 obtain ⟨x,hx⟩:∃ x,xs[i]? =some x:=⟨_,List.getElem?_eq_getElem (by omega)⟩;have no:¬ xn xs i x->Mem.le E E/\K (B false) E:=λq=>⟨bn,h false ⟨λe=>(by cases e),λe=>absurd (e i x hx) q⟩⟩;have nx:xn xs i x->_:=λq=>ih g (λy hy=>by rw [hx] at hy;cases hy;exact q);refine af (by omega) ⟨SL.ne bu h0 g,x.2.from_,iw h0 hx,bn,af (by omega) ⟨SL.ne bu h0 g,x.1,kx h0 hx,bn,?_⟩⟩;rw [w];refine ah (λg1=>no (λq=>by have e:=tr.2 q.1;simp [e] at g1)) (λg1=>ah (λg2=>no (λq=>by have e:=tr.2 q.2.1;simp [e] at g2)) (λg2=>?_));have g1:=tr.1 (by simpa using g1);have g2:=tr.1 (by simpa using g2);refine ah (λg5=>?_) (λg5=>bz [] (nx ⟨g1,g2,λy hy=>by simp at g5;omega⟩) (cl bn));have g5:0<i:=by simpa using g5
 have w2:IntKind.wrap .i64 ((i:Int)-1)=((i-1:Nat):Int):=by rw [wrap_i64 (by omega)];omega
 obtain ⟨y,hy⟩:∃ y,xs[i-1]? =some y:=⟨_,List.getElem?_eq_getElem (by omega)⟩;rw [w2];refine af (by omega) ⟨SL.ne bu h0 g,y.2.from_,iw h0 hy,af (by omega) ⟨SL.ne bu h0 g,x.2.from_,iw h0 hx,?_⟩⟩;refine ah (λg6=>no (λq=>by have:=q.2.2 y g5 hy;simp at g6;omega)) (λg6=>bz [] (nx ⟨g1,g2,λz _ hz=>by rw [hy] at hz;cases hz;simp at g6;omega⟩) (cl bn))
theorem OZ {b:Oa} (h0:SL bE E b n c xs) (hn:n<=9223372036854775807) (h:∀ v:Bool,(v=true↔jr xs)->K (B v) E):mm R1 8 Try.f27 [L b n c] E K:=by
 refine dO (?_:Lp R1 8 Try.f27 [1,0,1,0] 0 (aW E K) { fr:=some (L b n c)::none::none::oI 0::ai (cQ (cL (cE (none::[])))),bx:=[],E:=E:St });delta cE cL cQ ai;exact bz [] (cu IE (λz:{i:Nat//i<=n/\∀ (j:Nat) x,j<i->xs[j]? =some x->xn xs j x}=>OY b n c z.1 E) (λz=>n-z.1) (λz ih=>Yn h0 hn z.2 h λg hf=>ih ⟨z.1+1,g,λj x hj hx=>by
  rcases Nat.lt_succ_iff_lt_or_eq.1 hj with h1|h1
  ·exact z.2.2 j x h1 hx
  ·subst h1;exact hf x hx⟩ (by show n-(_+1)<n-_;omega)) ⟨0,Nat.zero_le _,λj x hj=>absurd hj (Nat.not_lt_zero _)⟩) (cl bn)
theorem IF {p:Int}:HX xs p=match xs.find? (λx=>x.2.from_==p) with |some x=>(x.2,true)|none=>(jf,false):=rfl
theorem O0 {p:Int} {y:Bc} {f:Bool} (h:HX xs p=(y,f)) (hs:∀ x∈xs,gh x.2):gh y:=by
 rw [IF] at h;split at h
 ·rename_i x hx
  cases h;exact hs x (List.mem_of_find?_eq_some hx)
 ·cases h;exact Ab 0
noncomputable def IG:FuncId->List SV->Mem->(SV->Mem->Prop)->Prop:=λf args E K=>match f with
 | 27=>d1 args λx0=>dS x0 λb n c=>∃ xs,(SL bE E b n c xs/\n<=9223372036854775807)/\∀ v:Bool,(v=true↔jr xs)->K (B v) E
 | f=>DF f args E K
theorem II:jm Try.prog IG:=by
 intro f args E K h;unfold IG at h;split at h
 ·obtain ⟨x0,rfl,h1⟩:=fO h;obtain ⟨b,n,c,rfl,xs,⟨hx,hn⟩,hk⟩:=eZ h1;exact nK IE Try.func27 rfl (OZ hx hn hk)
 ·exact A6 _ _ _ _ h
def bS (fB:List Item) (x:Li):Bool:=fB.all λit=>match it.2 with
 | some r=>decide (r.1<=x.getD it.1 0/\x.getD it.1 0<=r.2)
 | none=>decide (x.getD it.1 0=0)
theorem ed {v:Int}:(bM o v lo hi).2=false↔o.2=false/\lo<=v/\v<=hi:=by refine ⟨dZ,λh=>?_⟩;rw [sQ (by rw [h.1];rintro (q|q|q);omega;omega;cases q)]
theorem tu {v:Int}:(qS o v).2=false↔o.2=false/\v=0:=by simp [qS]
theorem IJ {m:Int}:(nH o zs m).2=false↔o.2=false/\(zs.length:Int)=m:=by simp [nH]
theorem IK:(my o d).2=false↔o.2=false:=Iff.rfl
theorem yY {b:Bool}:(bM o (if b then 1 else 0) 0 1).2=false↔o.2=false:=by
 rw [ed]
 cases b<;>simp
theorem DH (x:Li):∀ (fB:List Item) {o:Li×Bool},(fB.foldl (jw x) o).2=false↔o.2=false/\bS fB x=true
 | [],o=>by simp [bS]
 | it::fB,o=>by
  rw [List.foldl_cons,DH x fB];unfold jw bS;rw [List.all_cons,Bool.and_eq_true];obtain ⟨j,r⟩:=it
  cases r with
  | none=>simp only [tu,decide_eq_true_eq];exact and_assoc
  | some r=>simp only [ed,decide_eq_true_eq];exact and_assoc
theorem DI {fB:List Item}:∀ (xs:Ll) {o:Li×Bool},(xs.foldl (gR fB) o).2=false↔o.2=false/\∀ r∈xs,bS fB r=true
 | [],o=>by simp
 | x::xs,o=>by rw [List.foldl_cons,DI xs,List.forall_mem_cons];unfold gR;rw [DH x fB];exact and_assoc
theorem oW {xs:Ll}:(cg (gR fB) hi o xs).2=false↔o.2=false/\(xs.length:Int)<=hi/\∀ r∈xs,bS fB r=true:=by
 unfold cg;split
 ·rw [ed];constructor
  ·intro h;omega
  ·intro h;omega
 ·rw [DI,ed];constructor
  ·intro h;exact ⟨h.1.1,h.1.2.2,h.2⟩
  ·intro h;exact ⟨⟨h.1,by omega,h.2.1⟩,h.2.2⟩
theorem S9:∀ (xs:Ll) (o:Li×Bool),(xs.foldl yK o).2=o.2
 | [],o=>rfl
 | x::xs,o=>by rw [List.foldl_cons,S9 xs];rfl
theorem Lh {xs:Ll}:(cg yK hi o xs).2=false↔o.2=false/\(xs.length:Int)<=hi:=by
 unfold cg;split
 ·rw [ed];constructor<;>intro h<;>omega
 ·rw [S9,ed];constructor
  ·intro h;exact ⟨h.1,h.2.2⟩
  ·intro h;exact ⟨h.1,by omega,h.2⟩
structure Mp (x:Bc):Prop where
 from_:0<=x.from_/\x.from_<=59
 bO:0<=x.bO/\x.bO<=1000000000
 aD:0<=x.aD/\x.aD<=1000000000
 aJ:0<=x.aJ/\x.aJ<=60
 bound:0<=x.bound/\x.bound<=2000
 fresh:0<=x.fresh/\x.fresh<=1000000000
 seq:0<=x.seq/\x.seq<=1000000000
 bf:0<=x.bf/\x.bf<=1000000
 parent: -1<=x.parent/\x.parent<=59
 first:0<=x.first/\x.first<=500002
 next:0<=x.next/\x.next<=500002
 cT:(x.cT.length:Int)<=24/\∀ r∈x.cT,bS [(0,some (0,59)),(1,some (0,15)),(2,some (0,59)),(3,some (0,1000000000))] r=true
 bw:(x.bw.length:Int)<=24/\∀ r∈x.bw,bS [(0,some (0,59)),(1,some (0,15)),(2,some (0,59)),(3,some (0,1000000000)),(4,some (0,1000000000))] r=true
 asks:(x.asks.length:Int)<=24/\∀ r∈x.asks,bS [(0,some (0,59)),(1,some (0,15)),(2,some (0,59))] r=true
 below:(x.below.length:Int)<=60/\∀ r∈x.below,bS [(0,some (0,59)),(2,some (0,1000000000)),(1,none),(3,none)] r=true
 words:(x.words.length:Int)<=4/\∀ r∈x.words,bS [(0,some (1,4)),(1,some (0,59)),(2,some (-1,59)),(3,some (0,10000000000000)),(4,some (0,10000000000000)),(5,some (0,2000000)),(6,some (0,500002)),(7,some (0,500002))] r=true
 eB:(x.eB.length:Int)<=1/\∀ r∈x.eB,bS [(0,some (1,4)),(1,some (0,59)),(2,some (-1,59)),(3,some (0,10000000000000)),(4,some (0,10000000000000)),(5,some (0,2000000)),(6,some (0,500002)),(7,some (0,500002))] r=true
 got:(x.got.length:Int)<=60/\∀ r∈x.got,bS [(0,some (0,59))] r=true
 aP:0<=x.aP/\x.aP<=1000000000
 size:0<=x.size/\x.size<=4096
 start:0<=x.start/\x.start<=1000000000
 pages:0<=x.pages/\x.pages<=16
 version:0<=x.version/\x.version<=1000000000
structure A8 (x:Bc):Prop where
 az:0<=x.az/\x.az<=15
 seed:0<=x.seed/\x.seed<=1000000000
 data:(x.data.length:Int)=16
 proof:(x.proof.length:Int)<=5
theorem A9:(wY x).2=false↔Mp x:=by
 unfold wY;rw [yY,ed,ed,ed,IK,ed,ed,oW,oW,oW,yY,oW,oW,oW,oW,ed,ed,ed,ed,ed,ed,ed,ed,ed,ed,ed];constructor
 ·rintro ⟨⟨⟨⟨⟨⟨⟨⟨⟨⟨⟨⟨⟨⟨⟨⟨⟨⟨⟨⟨⟨⟨⟨_,oX⟩,xx⟩,rQ⟩,rR⟩,oY⟩,oZ⟩,xy⟩,rT⟩,mH⟩,pq⟩,rU⟩,rV⟩,mI⟩,rW⟩,pw⟩,py⟩,rX⟩,vg⟩,rY⟩,rZ⟩,pz⟩,pA⟩,kD⟩;exact ⟨oX,xx,rQ,rR,oY,oZ,xy,rT,mH,pq,rU,rV,mI,rW,pw,py,rX,vg,rY,rZ,pz,pA,kD⟩
 ·rintro ⟨oX,xx,rQ,rR,oY,oZ,xy,rT,mH,pq,rU,rV,mI,rW,pw,py,rX,vg,rY,rZ,pz,pA,kD⟩;exact ⟨⟨⟨⟨⟨⟨⟨⟨⟨⟨⟨⟨⟨⟨⟨⟨⟨⟨⟨⟨⟨⟨⟨rfl,oX⟩,xx⟩,rQ⟩,rR⟩,oY⟩,oZ⟩,xy⟩,rT⟩,mH⟩,pq⟩,rU⟩,rV⟩,mI⟩,rW⟩,pw⟩,py⟩,rX⟩,vg⟩,rY⟩,rZ⟩,pz⟩,pA⟩,kD⟩
theorem vO:(enc x).2=false↔Mp x/\(if x.has=true then A8 x else x.az=0/\x.seed=0/\x.data.length=0/\x.proof.length=0):=by
 unfold enc;split
 ·rw [Lh,IJ,ed,ed,A9];constructor
  ·rintro ⟨⟨⟨⟨h,si⟩,sj⟩,sk⟩,pC⟩;exact ⟨h,si,sj,sk,pC⟩
  ·rintro ⟨h,si,sj,sk,pC⟩;exact ⟨⟨⟨⟨h,si⟩,sj⟩,sk⟩,pC⟩
 ·rw [tu,tu,tu,A9];constructor
  ·rintro ⟨⟨⟨h,h1⟩,h2⟩,h3⟩;exact ⟨h,h1,h2,by omega,by omega⟩
  ·rintro ⟨h,h1,h2,h3,h4⟩;exact ⟨⟨⟨h,h1⟩,h2⟩,by omega⟩
theorem Ac {v:Int} (hb: -10000000000000<=lo/\hi<=10000000000000):(bM o v lo hi).1.length<=o.1.length+7:=by
 unfold bM;split
 ·simp
 ·rename_i q;have k:gl v:=by unfold gl;omega
  have:=(Ir (AP k).1 (OD k)).1;rw [List.length_append];omega
theorem vi (x:Li):∀ (fB:List Item) {o:Li×Bool},yR fB=true->(fB.foldl (jw x) o).1.length<=o.1.length+(fB.filter λit=>it.2.isSome).length*7
 | [],o,_=>by simp
 | it::fB,o,h=>by
  unfold yR at h;rw [List.all_cons,Bool.and_eq_true] at h;rw [List.foldl_cons];have ih:=vi x fB (o:=jw x o it) h.2;obtain ⟨j,r⟩:=it
  cases r with
  | none=>
   rw [List.filter_cons_of_neg (by simp)];exact ih
  | some r=>
   rw [List.filter_cons_of_pos rfl,List.length_cons];have :(jw x o (j,some r)).1.length<=o.1.length+7:=Ac (by simpa using h.1);omega
theorem Mq {F:Li×Bool->Li->Li×Bool} {k:Nat} (hF:∀ o x,(F o x).1.length<=o.1.length+k):∀ (xs:Ll) {o:Li×Bool},(xs.foldl F o).1.length<=o.1.length+xs.length*k
 | [],o=>by simp
 | x::xs,o=>by have h1:=Mq hF xs (o:=F o x);have h2:=hF o x;rw [List.foldl_cons,List.length_cons,Nat.add_mul];omega
theorem Ta (hF:∀ o x,(F o x).1.length<=o.1.length+k) {xs:Ll} (hm:hi<=(m:Int)) (hb:(m:Int)<=10000000000000):(cg F hi o xs).1.length<=o.1.length+(7+m*k):=by
 unfold cg;have h0:=Ac (o:=o) (v:=(xs.length:Int)) (lo:=0) (hi:=hi) ⟨by decide,by omega⟩;split
 ·omega
 ·have h1:=Mq hF xs (o:=bM o xs.length 0 hi);have :xs.length*k<=m*k:=Nat.mul_le_mul_right k (by omega);omega
theorem DJ:(my o d).1.length<=o.1.length+8:=by unfold my;simp [fQ]
theorem LL (o:Li×Bool) (x:Li):(yK o x).1.length<=o.1.length+8:=DJ
theorem gr {v:Int} (hb: -10000000000000<=lo/\hi<=10000000000000) (h:o.1.length<=k):(bM o v lo hi).1.length<=k+7:=Nat.le_trans (Ac hb) (by omega)
theorem Lj (h:o.1.length<=k):(my o d).1.length<=k+8:=Nat.le_trans DJ (by omega)
theorem vj (hF:∀ o x,(F o x).1.length<=o.1.length+j) {xs:Ll} (hm:hi<=(m:Int)) (hb:(m:Int)<=10000000000000) (h:o.1.length<=k):(cg F hi o xs).1.length<=k+(7+m*j):=Nat.le_trans (Ta hF hm hb) (by omega)
theorem Lk {m:Int} (h:o.1.length<=k) (hz:zs.length=16):(nH o zs m).1.length<=k+16:=by unfold nH;rw [List.length_append];omega
theorem A' (x:Bc):(wY x).1.length<=3739:=(gr (by decide) (gr (by decide) (gr (by decide) (gr (by decide) (Lj (gr (by decide) (gr (by decide) (vj (j:=7) (m:=60) (λo x=>vi x [(0,some (0,59))] (by decide)) (by decide) (by decide) (vj (j:=56) (m:=1) (λo x=>vi x [(0,some (1,4)),(1,some (0,59)),(2,some (-1,59)),(3,some (0,10000000000000)),(4,some (0,10000000000000)),(5,some (0,2000000)),(6,some (0,500002)),(7,some (0,500002))] (by decide)) (by decide) (by decide) (vj (j:=56) (m:=4) (λo x=>vi x [(0,some (1,4)),(1,some (0,59)),(2,some (-1,59)),(3,some (0,10000000000000)),(4,some (0,10000000000000)),(5,some (0,2000000)),(6,some (0,500002)),(7,some (0,500002))] (by decide)) (by decide) (by decide) (gr (by decide) (vj (j:=14) (m:=60) (λo x=>vi x [(0,some (0,59)),(2,some (0,1000000000)),(1,none),(3,none)] (by decide)) (by decide) (by decide) (vj (j:=21) (m:=24) (λo x=>vi x [(0,some (0,59)),(1,some (0,15)),(2,some (0,59))] (by decide)) (by decide) (by decide) (vj (j:=35) (m:=24) (λo x=>vi x [(0,some (0,59)),(1,some (0,15)),(2,some (0,59)),(3,some (0,1000000000)),(4,some (0,1000000000))] (by decide)) (by decide) (by decide) (vj (j:=28) (m:=24) (λo x=>vi x [(0,some (0,59)),(1,some (0,15)),(2,some (0,59)),(3,some (0,1000000000))] (by decide)) (by decide) (by decide) (gr (by decide) (gr (by decide) (gr (by decide) (gr (by decide) (gr (by decide) (gr (by decide) (gr (by decide) (gr (by decide) (gr (by decide) (gr (by decide) (gr (by decide) (Nat.le_refl 0)))))))))))))))))))))))))))
theorem LV (h:(enc x).2=false):(enc x).1.length<=3816:=by
 have hg:=(vO.1 h).2;unfold enc;split
 ·rename_i q;rw [if_pos q] at hg;have hz:x.data.length=16:=by have:=hg.data;omega
  exact (vj (j:=8) (m:=5) LL (by decide) (by decide) (Lk (gr (by decide) (gr (by decide) (A' x))) hz))
 ·exact Nat.le_trans (A' x) (by decide)
theorem Yo {a b c:Int} (h:∀ v:Bool,(v=true↔cH a 0 59=true/\cH b 0 15=true/\cH c 0 59=true)->K (B v) E):mm R1 8 Try.f78 [.agg [I a,I b],I c] E K:=by
 refine dO (?_:Mem.le E E/\Mem.le E E/\Mem.le E E/\bif cH a (0:Int) (59:Int) then bif bif true then cH b (0:Int) (15:Int) else false then Mem.le E E/\K (B (bif true then cH c (0:Int) (59:Int) else false)) E else Mem.le E E/\K (B false) E else Mem.le E E/\K (B false) E);refine ⟨bn,bn,bn,ah (λg1=>ah (λg2=>?_) (λg2=>?_)) (λg1=>?_)⟩
 all_goals exact ⟨bn,h _ (by (try simp [cH] at g1);(try simp [cH] at g2);simp [cH];omega)⟩
theorem Yp {a b:Int} (h:∀ v:Bool,(v=true↔cH a 0 500002=true/\cH b 0 500002=true)->K (B v) E):mm R1 8 Try.f53 [.agg [I a,I b]] E K:=by
 refine dO (?_:bif decide (a>=(0:Int)) then bif bif true then decide (a<=(500002:Int)) else false then bif bif true then decide (b>=(0:Int)) else false then Mem.le E E/\K (B (bif true then decide (b<=(500002:Int)) else false)) E else Mem.le E E/\K (B false) E else Mem.le E E/\K (B false) E else Mem.le E E/\K (B false) E);refine ah (λg1=>ah (λg2=>ah (λg3=>?_) (λg3=>?_)) (λg2=>?_)) (λg1=>?_)
 all_goals exact ⟨bn,h _ (by simp [cH] at *;omega)⟩
theorem Fk:A8 x↔(0<=x.az/\x.az<=15)/\(0<=x.seed/\x.seed<=1000000000)/\((x.data.length:Int)=16)/\((x.proof.length:Int)<=5):=⟨λ⟨si,sj,sk,pC⟩=>⟨si,sj,sk,pC⟩,λ⟨si,sj,sk,pC⟩=>⟨si,sj,sk,pC⟩⟩
theorem Yq (hM:iY E x aC ay aB aF ax aG aH ar aI aK au aL aS aM aT aU aN aV aX aA aY aZ aQ bc bg aE bh) (h:∀ v:Bool,(v=true↔(cH x.aP 0 1000000000=true/\cH x.size 0 4096=true/\cH x.start 0 1000000000=true/\cH x.pages 0 16=true/\cH x.version 0 1000000000=true)/\(if x.has=true then A8 x else x.az=0/\x.seed=0/\x.data.length=0/\x.proof.length=0))->K (B v) E):mm R1 8 Try.f56 [.agg [I x.from_,I x.bO,I x.aD,I x.aJ,I x.bound,I x.fresh,I x.seq,I x.bf,I x.parent,I x.first,I x.next,L aC ay aB,L aF ax aG,L aH ar aI,L aK au aL,B x.full,L aS aM aT,L aU aN aV,L aX aA aY,I x.aP,I x.size,.raw (.int .u64 x.bD),I x.start,I x.pages,I x.version,I x.az,I x.seed,L aZ aQ bc,L bg aE bh,B x.has]] E K:=by
 refine dO (?_:Mem.le E E/\Mem.le E E/\Mem.le E E/\Mem.le E E/\Mem.le E E/\bif !cH x.aP 0 1000000000 then Mem.le E E/\K (B false) E else bif bif false then true else !cH x.size 0 4096 then Mem.le E E/\K (B false) E else bif bif false then true else !cH x.start 0 1000000000 then Mem.le E E/\K (B false) E else bif bif false then true else !cH x.pages 0 16 then Mem.le E E/\K (B false) E else bif bif false then true else !cH x.version 0 1000000000 then Mem.le E E/\K (B false) E else bif !x.has then bif x.az==(0:Int) then bif bif true then x.seed==(0:Int) else false then bif bif true then (NI aQ)==0 else false then Mem.le E E/\K (B (bif true then (NI aE)==0 else false)) E else Mem.le E E/\K (B false) E else Mem.le E E/\K (B false) E else Mem.le E E/\K (B false) E else Mem.le E E/\bif cH x.seed 0 1000000000 then bif bif true then decide (x.az>=(0:Int)) else false then bif bif true then decide (x.az<=(15:Int)) else false then bif bif true then (NI aQ)==16 else false then Mem.le E E/\K (B (bif true then decide ((NI aE)<=5) else false)) E else Mem.le E E/\K (B false) E else Mem.le E E/\K (B false) E else Mem.le E E/\K (B false) E else Mem.le E E/\K (B false) E);delta NI;have FG:=hM.rz.2.1;have FH:=hM.tF.len;have no:∀ {p:Prop},(p->False)->¬ p:=λh=>h;refine ⟨bn,bn,bn,bn,bn,?_⟩;refine ah (λg=>⟨bn,h false (by simp at g;simp [g])⟩) (λg1=>ah (λg=>⟨bn,h false (by simp at g;simp [g])⟩) (λg2=>ah (λg=>⟨bn,h false (by simp at g;simp [g])⟩) (λg3=>ah (λg=>⟨bn,h false (by simp at g;simp [g])⟩) (λg4=>ah (λg=>⟨bn,h false (by simp at g;simp [g])⟩) (λg5=>?_)))));simp only [cond_false,Bool.not_eq_false'] at g1 g2 g3 g4 g5;simp only [g1,g2,g3,g4,g5,true_and,and_true,and_self] at h;refine ah (λg6=>?_) (λg6=>⟨bn,?_⟩)
 ·have g6:¬ x.has=true:=by simpa using g6
  simp only [if_neg g6,FG,FH] at h;refine ah (λg1=>ah (λg2=>ah (λg3=>?_) (λg3=>?_)) (λg2=>?_)) (λg1=>?_)
  all_goals exact ⟨bn,h _ (by (try simp at g1);(try simp at g2);(try simp at g3);simp;omega)⟩
 ·have g6:x.has=true:=by simpa using g6
  simp only [if_pos g6,Fk,FG,FH] at h;refine ah (λg1=>ah (λg2=>ah (λg3=>ah (λg4=>?_) (λg4=>?_)) (λg3=>?_)) (λg2=>?_)) (λg1=>?_)
  all_goals exact ⟨bn,h _ (by simp [cH] at *;omega)⟩
theorem xz {b:Oa} {xs:Ll} (hk:0<k) (h:SL (RK q k) E b n c xs) (hu:(match Try.prog.underlying T with |some (.struct _)=>true|_=>false)=true) (hs:(Try.prog.info? T).map (·.size)=some 2) (h2:2<=k) {x:Li} (hx:xs[i]? =some x):
  bt Try.prog E T (.slice b n c) (i*k+0) (.agg [.raw (.int q (x.getD 0 0)),.raw (.int q (x.getD 1 0))]):=by
 obtain ⟨cs,r,h1,h2',h3,h4,h5⟩:=SL.load (bC q hk) h hx;refine ⟨cs,h1,qK (k:=2) hu hs ?_ rfl⟩
 match x,h5,h2 with
 | a::a'::t,h5,_=>
  have e:(cs.drop (i*k)).take 2=[.int q a,.int q a']:=by have:=congrArg (List.take 2) h2';rw [List.take_take,Nat.min_eq_left h2,h4] at this;rw [this];rfl
  rw [Nat.add_zero,← List.map_drop,← List.map_take,e];rfl
noncomputable def Lm:FuncId->List SV->Mem->(SV->Mem->Prop)->Prop:=λf args E K=>match f with
 | 78=>d2 args λx0 x1=>dC x0 λl=>d2 l λy0 y1=>dI y0 λa=>dI y1 λb=>dI x1 λc=>∀ v:Bool,(v=true↔cH a 0 59=true/\cH b 0 15=true/\cH c 0 59=true)->K (B v) E
 | 53=>d1 args λx0=>dC x0 λl=>d2 l λy0 y1=>dI y0 λa=>dI y1 λb=>∀ v:Bool,(v=true↔cH a 0 500002=true/\cH b 0 500002=true)->K (B v) E
 | f=>A7 f args E K
theorem DK:jm Try.prog Lm:=by
 intro f args E K h;unfold Lm at h;split at h
 ·replace h:=ck h;obtain ⟨x0,x1,rfl,h⟩:=h;replace h:=C7 h;obtain ⟨l,hl,h⟩:=h;replace h:=ck h;obtain ⟨y0,y1,rfl,h⟩:=h;replace h:=bQ h;obtain ⟨a,rfl,h⟩:=h;replace h:=bQ h;obtain ⟨b,rfl,h⟩:=h;replace h:=bQ h;obtain ⟨c,rfl,h⟩:=h;exact gy.congr (fH (uF hl) (fH rfl rfl)) (nK IE Try.func78 rfl (Yo h))
 ·replace h:=fO h;obtain ⟨x0,rfl,h⟩:=h;replace h:=C7 h;obtain ⟨l,hl,h⟩:=h;replace h:=ck h;obtain ⟨y0,y1,rfl,h⟩:=h;replace h:=bQ h;obtain ⟨a,rfl,h⟩:=h;replace h:=bQ h;obtain ⟨b,rfl,h⟩:=h;exact gy.congr (fH (uF hl) rfl) (nK IE Try.func53 rfl (Yp h))
 ·exact xu _ _ _ _ h
noncomputable def R2:Cx:={ P:=Try.prog,inl:=λf=>List.contains [] f,jN:=Lm,kH:=λ_=>false,eY:=λ_ _ _ _ _=>False,opt:={ cq:=0,carry:=[3,4,5,7,11,13] },eo:=dM }
theorem Cw:bX R2:=bX.four DK (by kernel_rfl) (dN (by kernel_rfl)) (λ_ _ _ _ _ h=>h.elim)
theorem gd {xs:Ll} {x:Li} (hx:xs[i]? =some x):(∀ r∈xs.take (i+1),bS fB r=true)↔(∀ r∈xs.take i,bS fB r=true)/\bS fB x=true:=by
 rw [Et hx];constructor
 ·intro h;exact ⟨λr hr=>h r (by simp [hr]),h x (by simp)⟩
 ·rintro ⟨h1,h2⟩ r hr;rcases List.mem_append.1 hr with h|h
  ·exact h1 r h
  ·cases List.mem_singleton.1 h;exact h2
def O1 (b:Oa) (n c i:Nat) (m:Int) (E:Mem):St:=⟨[oL b n c,oI m,none,none,none,oI (i:Nat)]++nn 69,[],E⟩
theorem Yr {b:Oa} {m:Int} {xs:Ll} (h0:SL (RK .i64 8) E b n c xs) (hn:n<=1000000) (hi:i<=n) (hg:∀ r∈xs.take i,bS [(0,some (1,4)),(1,some (0,59)),(2,some (-1,59)),(3,some (0,10000000000000)),(4,some (0,10000000000000)),(5,some (0,2000000)),(6,some (0,500002)),(7,some (0,500002))] r=true) (h:∀ v:Bool,(v=true↔(n:Int)<=m/\∀ r∈xs,bS [(0,some (1,4)),(1,some (0,59)),(2,some (-1,59)),(3,some (0,10000000000000)),(4,some (0,10000000000000)),(5,some (0,2000000)),(6,some (0,500002)),(7,some (0,500002))] r=true)->K (B v) E)
  (ih:i<n->(∀ r∈xs.take (i+1),bS [(0,some (1,4)),(1,some (0,59)),(2,some (-1,59)),(3,some (0,10000000000000)),(4,some (0,10000000000000)),(5,some (0,2000000)),(6,some (0,500002)),(7,some (0,500002))] r=true)->Lp R2 8 Try.f55 [1,0,1,0] 0 (aW E K) (O1 b n c (i+1) m E)):jO R2 8 Try.f55 [1,0,1,0] 0 (aW E K) (O1 b n c i m E):=by
 refine dO (?_:bif decide ((NI i)<(NI n)) then cU (0<=(NI i)/\(NI i)<(NI n)) (nE E b n c/\∃ (n_1:Int) (n_2:Int) (ep:Int) (gT:Int) (iv:Int) (iN:Int) (iO:Int) (jl:Int),bt R2.P E 127 (VS b n c) (Int.toNat (NI i)*8) (SV.agg [I n_1,I n_2,I ep,I gT,I iv,I iN,I iO,I jl])/\∀ (v:Bool),(v=true↔cH iO 0 (500002:Int)=true/\cH jl 0 (500002:Int)=true)->Mem.le E E/\Mem.le E E/\Mem.le E E/\Mem.le E E/\Mem.le E E/\Mem.le E E/\Mem.le E E/\bif !v then Mem.le E E/\K (B false) E else bif bif false then true else !cH gT 0 10000000000000 then Mem.le E E/\K (B false) E else bif bif false then true else !cH iv 0 10000000000000 then Mem.le E E/\K (B false) E else bif bif false then true else !cH n_1 1 4 then Mem.le E E/\K (B false) E else bif bif false then true else !cH n_2 0 59 then Mem.le E E/\K (B false) E else bif bif false then true else !cH ep (-1:Int) 59 then Mem.le E E/\K (B false) E else bif bif false then true else !cH iN 0 2000000 then Mem.le E E/\K (B false) E else Lp R2 8 Try.f55 [1,0,1,0] 0 (aW E K) { fr:=some (L b n c)::oI m::none::none::none::oI (WI ((NI i)+1))::none::oB v::none::none::none::oB (cH n_2 0 59)::none::oB (cH iN 0 2000000)::ai (bL (cQ (cL (none::[])))),bx:=[(⟨127,.ae [I n_1,I n_2,I ep,I gT,I iv,I iN,I iO,I jl],8,true⟩:aR)],E:=E:St }) else Mem.le E E/\K (B (decide ((NI n)<=m))) E);delta WI NI VS cL cQ bL ai;have hl:=h0.len;refine ah (λg=>?_) (λg=>⟨bn,h _ (by
  have e:i=n:=by simp at g;omega
  subst e;rw [List.take_of_length_le (by omega)] at hg;simp only [decide_eq_true_eq];exact ⟨λq=>⟨q,hg⟩,λq=>q.1⟩)⟩)
 have g:i<n:=by simpa using g
 have w:IntKind.wrap .i64 ((i:Int)+1)=((i+1:Nat):Int):=by rw [wrap_i64 (by omega)];omega
 obtain ⟨x,hx⟩:∃ x,xs[i]? =some x:=⟨_,List.getElem?_eq_getElem (by omega)⟩;obtain ⟨a0,a1,a2,a3,a4,a5,a6,a7,e0,l0⟩:=Dp (T:=127) h0 rfl rfl hx;have hr:bS [(0,some (1,4)),(1,some (0,59)),(2,some (-1,59)),(3,some (0,10000000000000)),(4,some (0,10000000000000)),(5,some (0,2000000)),(6,some (0,500002)),(7,some (0,500002))] x=true↔cH a0 1 4=true/\cH a1 0 59=true/\cH a2 (-1) 59=true/\cH a3 0 10000000000000=true/\cH a4 0 10000000000000=true/\cH a5 0 2000000=true/\cH a6 0 500002=true/\cH a7 0 500002=true:=by subst e0;simp [bS,cH]
 have no:¬ bS [(0,some (1,4)),(1,some (0,59)),(2,some (-1,59)),(3,some (0,10000000000000)),(4,some (0,10000000000000)),(5,some (0,2000000)),(6,some (0,500002)),(7,some (0,500002))] x=true->Mem.le E E/\K (B false) E:=λq=>⟨bn,h false ⟨λe=>(by cases e),λe=>absurd (e.2 x (List.mem_of_getElem? hx)) q⟩⟩;rw [hr] at no;refine af (by omega) ⟨SL.ne (bC .i64 (by decide)) h0 g,a0,a1,a2,a3,a4,a5,a6,a7,l0,λv hv=>⟨bn,bn,bn,bn,bn,bn,bn,?_⟩⟩;refine ah (λq=>no (λz=>by rw [hv.2 ⟨z.2.2.2.2.2.2.1,z.2.2.2.2.2.2.2⟩] at q;cases q)) (λq0=>?_);refine ah (λq=>no (λz=>by rw [z.2.2.2.1] at q;cases q)) (λq1=>?_);refine ah (λq=>no (λz=>by rw [z.2.2.2.2.1] at q;cases q)) (λq2=>?_);refine ah (λq=>no (λz=>by rw [z.1] at q;cases q)) (λq3=>?_);refine ah (λq=>no (λz=>by rw [z.2.1] at q;cases q)) (λq4=>?_);refine ah (λq=>no (λz=>by rw [z.2.2.1] at q;cases q)) (λq5=>?_);refine ah (λq=>no (λz=>by rw [z.2.2.2.2.2.1] at q;cases q)) (λq6=>?_);rw [w];exact bz [] (ih g ((gd hx).2 ⟨hg,hr.2 (by have:=hv.1 (by simpa using q0);exact ⟨by simpa using q3,by simpa using q4,by simpa using q5,by simpa using q1,by simpa using q2,by simpa using q6,this.1,this.2⟩)⟩)) (cl bn)
theorem Ys {b:Oa} {m:Int} {xs:Ll} (h0:SL (RK .i64 8) E b n c xs) (hn:n<=1000000) (h:∀ v:Bool,(v=true↔(n:Int)<=m/\∀ r∈xs,bS [(0,some (1,4)),(1,some (0,59)),(2,some (-1,59)),(3,some (0,10000000000000)),(4,some (0,10000000000000)),(5,some (0,2000000)),(6,some (0,500002)),(7,some (0,500002))] r=true)->K (B v) E):mm R2 8 Try.f55 [L b n c,I m] E K:=by refine dO (?_:Lp R2 8 Try.f55 [1,0,1,0] 0 (aW E K) { fr:=some (L b n c)::oI m::none::none::oB false::oI 0::ai (ai (cL (none::[]))),bx:=[],E:=E:St });delta cL ai;exact bz [] (cu Cw (λz:{i:Nat//i<=n/\∀ r∈xs.take i,bS [(0,some (1,4)),(1,some (0,59)),(2,some (-1,59)),(3,some (0,10000000000000)),(4,some (0,10000000000000)),(5,some (0,2000000)),(6,some (0,500002)),(7,some (0,500002))] r=true}=>O1 b n c z.1 m E) (λz=>n-z.1) (λz ih=>Yr h0 hn z.2.1 z.2.2 h λg hf=>ih ⟨z.1+1,g,hf⟩ (by show n-(_+1)<n-_;omega)) ⟨0,Nat.zero_le _,by simp⟩) (cl bn)
def Ad (x:Bc) (aC:Oa) (ay aB:Nat) (aF:Oa) (ax aG:Nat) (aH:Oa) (ar aI:Nat) (aK:Oa) (au aL:Nat) (aS:Oa) (aM aT:Nat) (aU:Oa) (aN aV:Nat) (aX:Oa) (aA aY:Nat) (aZ:Oa) (aQ bc:Nat) (bg:Oa) (aE bh:Nat) (ok:Bool) (i:Nat) (E:Mem):St:=⟨[none,oc 0 0,none,oB ok,oI (i:Nat)]++nn 175,[⟨40,.ae [I x.from_,I x.bO,I x.aD,I x.aJ,I x.bound,I x.fresh,I x.seq,I x.bf,I x.parent,I x.first,I x.next,L aC ay aB,L aF ax aG,L aH ar aI,L aK au aL,B x.full,L aS aM aT,L aU aN aV,L aX aA aY,I x.aP,I x.size,.raw (.int .u64 x.bD),I x.start,I x.pages,I x.version,I x.az,I x.seed,L aZ aQ bc,L bg aE bh,B x.has],30,true⟩],E⟩
def uh (x:Bc) (aC:Oa) (ay aB:Nat) (aF:Oa) (ax aG:Nat) (aH:Oa) (ar aI:Nat) (aK:Oa) (au aL:Nat) (aS:Oa) (aM aT:Nat) (aU:Oa) (aN aV:Nat) (aX:Oa) (aA aY:Nat) (aZ:Oa) (aQ bc:Nat) (bg:Oa) (aE bh:Nat) (ok:Bool) (i:Nat) (E:Mem):St:=⟨[none,oc 0 0,none,oB ok,none,none,none,oI (i:Nat)]++nn 172,[⟨40,.ae [I x.from_,I x.bO,I x.aD,I x.aJ,I x.bound,I x.fresh,I x.seq,I x.bf,I x.parent,I x.first,I x.next,L aC ay aB,L aF ax aG,L aH ar aI,L aK au aL,B x.full,L aS aM aT,L aU aN aV,L aX aA aY,I x.aP,I x.size,.raw (.int .u64 x.bD),I x.start,I x.pages,I x.version,I x.az,I x.seed,L aZ aQ bc,L bg aE bh,B x.has],30,true⟩],E⟩
def uj (x:Bc) (aC:Oa) (ay aB:Nat) (aF:Oa) (ax aG:Nat) (aH:Oa) (ar aI:Nat) (aK:Oa) (au aL:Nat) (aS:Oa) (aM aT:Nat) (aU:Oa) (aN aV:Nat) (aX:Oa) (aA aY:Nat) (aZ:Oa) (aQ bc:Nat) (bg:Oa) (aE bh:Nat) (ok:Bool) (i:Nat) (E:Mem):St:=⟨[none,oc 0 0,none,oB ok]++nn 7++[oI (i:Nat)]++nn 168,[⟨40,.ae [I x.from_,I x.bO,I x.aD,I x.aJ,I x.bound,I x.fresh,I x.seq,I x.bf,I x.parent,I x.first,I x.next,L aC ay aB,L aF ax aG,L aH ar aI,L aK au aL,B x.full,L aS aM aT,L aU aN aV,L aX aA aY,I x.aP,I x.size,.raw (.int .u64 x.bD),I x.start,I x.pages,I x.version,I x.az,I x.seed,L aZ aQ bc,L bg aE bh,B x.has],30,true⟩],E⟩
def uk (x:Bc) (aC:Oa) (ay aB:Nat) (aF:Oa) (ax aG:Nat) (aH:Oa) (ar aI:Nat) (aK:Oa) (au aL:Nat) (aS:Oa) (aM aT:Nat) (aU:Oa) (aN aV:Nat) (aX:Oa) (aA aY:Nat) (aZ:Oa) (aQ bc:Nat) (bg:Oa) (aE bh:Nat) (ok:Bool) (i:Nat) (E:Mem):St:=⟨[none,oc 0 0,none,oB ok]++nn 9++[oI (i:Nat)]++nn 166,[⟨40,.ae [I x.from_,I x.bO,I x.aD,I x.aJ,I x.bound,I x.fresh,I x.seq,I x.bf,I x.parent,I x.first,I x.next,L aC ay aB,L aF ax aG,L aH ar aI,L aK au aL,B x.full,L aS aM aT,L aU aN aV,L aX aA aY,I x.aP,I x.size,.raw (.int .u64 x.bD),I x.start,I x.pages,I x.version,I x.az,I x.seed,L aZ aQ bc,L bg aE bh,B x.has],30,true⟩],E⟩
theorem O2 (hM:iY E x aC ay aB aF ax aG aH ar aI aK au aL aS aM aT aU aN aV aX aA aY aZ aQ bc bg aE bh) (hn:ay<=1000000) (hi:i<=ay) (hg:ok=true↔tj=true/\∀ r∈x.cT.take i,bS [(0,some (0,59)),(1,some (0,15)),(2,some (0,59)),(3,some (0,1000000000))] r=true) (h:∀ v:Bool,(v=true↔tj=true/\∀ r∈x.cT,bS [(0,some (0,59)),(1,some (0,15)),(2,some (0,59)),(3,some (0,1000000000))] r=true)->Lp R2 8 Try.f54 [1,1,1,1,0,1,0] 0 (aW E K) (uh x aC ay aB aF ax aG aH ar aI aK au aL aS aM aT aU aN aV aX aA aY aZ aQ bc bg aE bh v 0 E))
  (ih:∀ v:Bool,i<ay->(v=true↔tj=true/\∀ r∈x.cT.take (i+1),bS [(0,some (0,59)),(1,some (0,15)),(2,some (0,59)),(3,some (0,1000000000))] r=true)->Lp R2 8 Try.f54 [1,1,1,0,1,0] 0 (aW E K) (Ad x aC ay aB aF ax aG aH ar aI aK au aL aS aM aT aU aN aV aX aA aY aZ aQ bc bg aE bh v (i+1) E)):jO R2 8 Try.f54 [1,1,1,0,1,0] 0 (aW E K) (Ad x aC ay aB aF ax aG aH ar aI aK au aL aS aM aT aU aN aV aX aA aY aZ aQ bc bg aE bh ok i E):=by
 refine dO (?_:bif decide ((NI i)<(NI ay)) then cU (0<=(NI i)/\(NI i)<(NI ay)) (nE E aC ay aB/\∃ (n:Int) (n_1:Int),bt R2.P E 93 (VS aC ay aB) (Int.toNat (NI i)*4+0) (SV.agg [I n,I n_1])/\cU (0<=(NI i)/\(NI i)<(NI ay)) (nE E aC ay aB/\∃ (n_2:Int),bt R2.P E 3 (VS aC ay aB) (Int.toNat (NI i)*4+2) (I n_2)/\∀ (v:Bool),(v=true↔cH n 0 (59:Int)=true/\cH n_1 0 (15:Int)=true/\cH n_2 0 (59:Int)=true)->Mem.le E E/\cU (0<=(NI i)/\(NI i)<(NI ay)) (nE E aC ay aB/\∃ (n:Int),bt R2.P E 3 (VS aC ay aB) (Int.toNat (NI i)*4+3) (I n)/\Mem.le E E/\bif ok then bif bif true then v else false then Lp R2 8 Try.f54 [1,1,1,0,1,0] 0 (aW E K) { fr:=none::oc 0 0::none::oB (bif true then cH n 0 1000000000 else false)::oI (WI ((NI i)+1))::oB v::ai (ai (ai (ai (ai (cQ (cL (cE []))))))),bx:=[(⟨40,.ae (gq x aC ay aB aF ax aG aH ar aI aK au aL aS aM aT aU aN aV aX aA aY aZ aQ bc bg aE bh),30,true⟩:aR)],E:=E:St } else Lp R2 8 Try.f54 [1,1,1,0,1,0] 0 (aW E K) { fr:=none::oc 0 0::none::oB false::oI (WI ((NI i)+1))::oB v::ai (ai (ai (ai (ai (cQ (cL (cE []))))))),bx:=[(⟨40,.ae (gq x aC ay aB aF ax aG aH ar aI aK au aL aS aM aT aU aN aV aX aA aY aZ aQ bc bg aE bh),30,true⟩:aR)],E:=E:St } else Lp R2 8 Try.f54 [1,1,1,0,1,0] 0 (aW E K) { fr:=none::oc 0 0::none::oB false::oI (WI ((NI i)+1))::oB v::ai (ai (ai (ai (ai (cQ (cL (cE []))))))),bx:=[(⟨40,.ae (gq x aC ay aB aF ax aG aH ar aI aK au aL aS aM aT aU aN aV aX aA aY aZ aQ bc bg aE bh),30,true⟩:aR)],E:=E:St }))) else Lp R2 8 Try.f54 [1,1,1,1,0,1,0] 0 (aW E K) { fr:=none::oc 0 0::none::oB ok::oI (NI i)::none::none::oI 0::bL (cQ (cL (cE (oI (NI i)::oc 0 11::oL aC ay aB::oI (NI ay)::oB (decide ((NI i)<(NI ay)))::ai (ai (ai (ai (cQ (none::[]))))))))),bx:=[(⟨40,.ae (gq x aC ay aB aF ax aG aH ar aI aK au aL aS aM aT aU aN aV aX aA aY aZ aQ bc bg aE bh),30,true⟩:aR)],E:=E:St });delta WI NI VS cE cL cQ bL ai gq;have h0:=hM.sW;have hl:=h0.len;refine ah (λg=>?_) (λg=>?_)
 ·have g:i<ay:=by simpa using g
  have w:IntKind.wrap .i64 ((i:Int)+1)=((i+1:Nat):Int):=by rw [wrap_i64 (by omega)];omega
  obtain ⟨y,hx⟩:∃ y,x.cT[i]? =some y:=⟨_,List.getElem?_eq_getElem (by omega)⟩;obtain ⟨a0,a1,a2,a3,e0,l0⟩:=xk (T:=95) h0 rfl rfl hx;have hr:bS [(0,some (0,59)),(1,some (0,15)),(2,some (0,59)),(3,some (0,1000000000))] y=true↔(cH a0 0 59=true/\cH a1 0 15=true/\cH a2 0 59=true)/\cH a3 0 1000000000=true:=by subst e0;simp [bS,cH];try omega
  subst e0;refine af (by omega) ⟨SL.ne (bC .i64 (by decide)) h0 g,a0,a1,xz (T:=93) (by decide) h0 rfl rfl (by decide) hx,af (by omega) ⟨SL.ne (bC .i64 (by decide)) h0 g,a2,iq (by decide) (T:=3) (by kernel_rfl) h0 hx 2 (by decide),λv hv=>⟨bn,?_⟩⟩⟩;rw [← hv] at hr;refine af (by omega) ⟨SL.ne (bC .i64 (by decide)) h0 g,a3,iq (by decide) (T:=3) (by kernel_rfl) h0 hx 3 (by decide),bn,?_⟩;rw [w];refine ah (λq1=>ah (λq2=>?_) (λq2=>?_)) (λq1=>?_)
  ·exact bz [some 0] (ih (cH a3 0 1000000000) g (by rw [gd hx,← and_assoc,← hg,hr];simp at q2;simp [q1,q2])) (cl bn)
  ·exact bz [some 0] (ih (false) g (by rw [gd hx,← and_assoc,← hg,hr];simp at q2;simp [q1,q2])) (cl bn)
  ·exact bz [some 0] (ih (false) g (by rw [gd hx,← and_assoc,← hg,hr];simp [q1])) (cl bn)
 ·have e:i=ay:=by simp at g;omega
  rw [e,List.take_of_length_le (by omega)] at hg;exact bz [some 0] (h ok hg) (cl bn)
theorem O3 (hM:iY E x aC ay aB aF ax aG aH ar aI aK au aL aS aM aT aU aN aV aX aA aY aZ aQ bc bg aE bh) (hn:ax<=1000000) (hi:i<=ax) (hg:ok=true↔tj=true/\∀ r∈x.bw.take i,bS [(0,some (0,59)),(1,some (0,15)),(2,some (0,59)),(3,some (0,1000000000)),(4,some (0,1000000000))] r=true) (h:∀ v:Bool,(v=true↔tj=true/\∀ r∈x.bw,bS [(0,some (0,59)),(1,some (0,15)),(2,some (0,59)),(3,some (0,1000000000)),(4,some (0,1000000000))] r=true)->Lp R2 8 Try.f54 [1,1,1,1,1,0,1,0] 0 (aW E K) (uj x aC ay aB aF ax aG aH ar aI aK au aL aS aM aT aU aN aV aX aA aY aZ aQ bc bg aE bh v 0 E))
  (ih:∀ v:Bool,i<ax->(v=true↔tj=true/\∀ r∈x.bw.take (i+1),bS [(0,some (0,59)),(1,some (0,15)),(2,some (0,59)),(3,some (0,1000000000)),(4,some (0,1000000000))] r=true)->Lp R2 8 Try.f54 [1,1,1,1,0,1,0] 0 (aW E K) (uh x aC ay aB aF ax aG aH ar aI aK au aL aS aM aT aU aN aV aX aA aY aZ aQ bc bg aE bh v (i+1) E)):jO R2 8 Try.f54 [1,1,1,1,0,1,0] 0 (aW E K) (uh x aC ay aB aF ax aG aH ar aI aK au aL aS aM aT aU aN aV aX aA aY aZ aQ bc bg aE bh ok i E):=by
 refine dO (?_:bif decide ((NI i)<(NI ax)) then cU (0<=(NI i)/\(NI i)<(NI ax)) (nE E aF ax aG/\∃ (n:Int) (n_1:Int),bt R2.P E 93 (VS aF ax aG) (Int.toNat (NI i)*5+0) (SV.agg [I n,I n_1])/\cU (0<=(NI i)/\(NI i)<(NI ax)) (nE E aF ax aG/\∃ (n_2:Int),bt R2.P E 3 (VS aF ax aG) (Int.toNat (NI i)*5+2) (I n_2)/\∀ (v:Bool),(v=true↔cH n 0 (59:Int)=true/\cH n_1 0 (15:Int)=true/\cH n_2 0 (59:Int)=true)->Mem.le E E/\cU (0<=(NI i)/\(NI i)<(NI ax)) (nE E aF ax aG/\∃ (n:Int),bt R2.P E 3 (VS aF ax aG) (Int.toNat (NI i)*5+3) (I n)/\Mem.le E E/\cU (0<=(NI i)/\(NI i)<(NI ax)) (nE E aF ax aG/\∃ (ep:Int),bt R2.P E 3 (VS aF ax aG) (Int.toNat (NI i)*5+4) (I ep)/\Mem.le E E/\bif ok then bif bif true then v else false then bif bif true then cH n 0 1000000000 else false then Lp R2 8 Try.f54 [1,1,1,1,0,1,0] 0 (aW E K) { fr:=none::oc 0 0::none::oB (bif true then cH ep 0 1000000000 else false)::none::none::none::oI (WI ((NI i)+1))::ai (ai (ai (ai (ai (cQ (cL [])))))),bx:=[(⟨40,.ae (gq x aC ay aB aF ax aG aH ar aI aK au aL aS aM aT aU aN aV aX aA aY aZ aQ bc bg aE bh),30,true⟩:aR)],E:=E:St } else Lp R2 8 Try.f54 [1,1,1,1,0,1,0] 0 (aW E K) { fr:=none::oc 0 0::none::oB false::none::none::none::oI (WI ((NI i)+1))::ai (ai (ai (ai (ai (cQ (cL [])))))),bx:=[(⟨40,.ae (gq x aC ay aB aF ax aG aH ar aI aK au aL aS aM aT aU aN aV aX aA aY aZ aQ bc bg aE bh),30,true⟩:aR)],E:=E:St } else Lp R2 8 Try.f54 [1,1,1,1,0,1,0] 0 (aW E K) { fr:=none::oc 0 0::none::oB false::none::none::none::oI (WI ((NI i)+1))::ai (ai (ai (ai (ai (cQ (cL [])))))),bx:=[(⟨40,.ae (gq x aC ay aB aF ax aG aH ar aI aK au aL aS aM aT aU aN aV aX aA aY aZ aQ bc bg aE bh),30,true⟩:aR)],E:=E:St } else Lp R2 8 Try.f54 [1,1,1,1,0,1,0] 0 (aW E K) { fr:=none::oc 0 0::none::oB false::none::none::none::oI (WI ((NI i)+1))::ai (ai (ai (ai (ai (cQ (cL [])))))),bx:=[(⟨40,.ae (gq x aC ay aB aF ax aG aH ar aI aK au aL aS aM aT aU aN aV aX aA aY aZ aQ bc bg aE bh),30,true⟩:aR)],E:=E:St })))) else Lp R2 8 Try.f54 [1,1,1,1,1,0,1,0] 0 (aW E K) { fr:=none::oc 0 0::none::oB ok::none::none::none::oI (NI i)::none::none::none::oI 0::ai (bL (cQ (cL (oI (NI i)::oc 0 12::oL aF ax aG::oI (NI ax)::oB (decide ((NI i)<(NI ax)))::ai (ai (ai (cL (cE (none::[]))))))))),bx:=[(⟨40,.ae (gq x aC ay aB aF ax aG aH ar aI aK au aL aS aM aT aU aN aV aX aA aY aZ aQ bc bg aE bh),30,true⟩:aR)],E:=E:St });delta WI NI VS cE cL cQ bL ai gq;have h0:=hM.sX;have hl:=h0.len;refine ah (λg=>?_) (λg=>?_)
 ·have g:i<ax:=by simpa using g
  have w:IntKind.wrap .i64 ((i:Int)+1)=((i+1:Nat):Int):=by rw [wrap_i64 (by omega)];omega
  obtain ⟨y,hx⟩:∃ y,x.bw[i]? =some y:=⟨_,List.getElem?_eq_getElem (by omega)⟩;obtain ⟨a0,a1,a2,a3,a4,e0,l0⟩:=Dn (T:=97) h0 rfl rfl hx;have hr:bS [(0,some (0,59)),(1,some (0,15)),(2,some (0,59)),(3,some (0,1000000000)),(4,some (0,1000000000))] y=true↔(cH a0 0 59=true/\cH a1 0 15=true/\cH a2 0 59=true)/\cH a3 0 1000000000=true/\cH a4 0 1000000000=true:=by subst e0;simp [bS,cH];try omega
  subst e0;refine af (by omega) ⟨SL.ne (bC .i64 (by decide)) h0 g,a0,a1,xz (T:=93) (by decide) h0 rfl rfl (by decide) hx,af (by omega) ⟨SL.ne (bC .i64 (by decide)) h0 g,a2,iq (by decide) (T:=3) (by kernel_rfl) h0 hx 2 (by decide),λv hv=>⟨bn,?_⟩⟩⟩;rw [← hv] at hr;refine af (by omega) ⟨SL.ne (bC .i64 (by decide)) h0 g,a3,iq (by decide) (T:=3) (by kernel_rfl) h0 hx 3 (by decide),bn,af (by omega) ⟨SL.ne (bC .i64 (by decide)) h0 g,a4,iq (by decide) (T:=3) (by kernel_rfl) h0 hx 4 (by decide),bn,?_⟩⟩;rw [w];refine ah (λq1=>ah (λq2=>ah (λq3=>?_) (λq3=>?_)) (λq2=>?_)) (λq1=>?_)
  ·exact bz [some 0] (ih (cH a4 0 1000000000) g (by rw [gd hx,← and_assoc,← hg,hr];simp at q2 q3;simp [q1,q2,q3])) (cl bn)
  ·exact bz [some 0] (ih (false) g (by rw [gd hx,← and_assoc,← hg,hr];simp at q2 q3;simp [q1,q2,q3])) (cl bn)
  ·exact bz [some 0] (ih (false) g (by rw [gd hx,← and_assoc,← hg,hr];simp at q2;simp [q1,q2])) (cl bn)
  ·exact bz [some 0] (ih (false) g (by rw [gd hx,← and_assoc,← hg,hr];simp [q1])) (cl bn)
 ·have e:i=ax:=by simp at g;omega
  rw [e,List.take_of_length_le (by omega)] at hg;exact bz [some 0] (h ok hg) (cl bn)
theorem O4 (hM:iY E x aC ay aB aF ax aG aH ar aI aK au aL aS aM aT aU aN aV aX aA aY aZ aQ bc bg aE bh) (hn:ar<=1000000) (hi:i<=ar) (hg:ok=true↔tj=true/\∀ r∈x.asks.take i,bS [(0,some (0,59)),(1,some (0,15)),(2,some (0,59))] r=true) (h:∀ v:Bool,(v=true↔tj=true/\∀ r∈x.asks,bS [(0,some (0,59)),(1,some (0,15)),(2,some (0,59))] r=true)->Lp R2 8 Try.f54 [1,1,1,1,1,1,0,1,0] 0 (aW E K) (uk x aC ay aB aF ax aG aH ar aI aK au aL aS aM aT aU aN aV aX aA aY aZ aQ bc bg aE bh v 0 E))
  (ih:∀ v:Bool,i<ar->(v=true↔tj=true/\∀ r∈x.asks.take (i+1),bS [(0,some (0,59)),(1,some (0,15)),(2,some (0,59))] r=true)->Lp R2 8 Try.f54 [1,1,1,1,1,0,1,0] 0 (aW E K) (uj x aC ay aB aF ax aG aH ar aI aK au aL aS aM aT aU aN aV aX aA aY aZ aQ bc bg aE bh v (i+1) E)):jO R2 8 Try.f54 [1,1,1,1,1,0,1,0] 0 (aW E K) (uj x aC ay aB aF ax aG aH ar aI aK au aL aS aM aT aU aN aV aX aA aY aZ aQ bc bg aE bh ok i E):=by
 refine dO (?_:bif decide ((NI i)<(NI ar)) then cU (0<=(NI i)/\(NI i)<(NI ar)) (nE E aH ar aI/\∃ (n:Int) (n_1:Int),bt R2.P E 93 (VS aH ar aI) (Int.toNat (NI i)*3+0) (SV.agg [I n,I n_1])/\cU (0<=(NI i)/\(NI i)<(NI ar)) (nE E aH ar aI/\∃ (n_2:Int),bt R2.P E 3 (VS aH ar aI) (Int.toNat (NI i)*3+2) (I n_2)/\∀ (v:Bool),(v=true↔cH n 0 (59:Int)=true/\cH n_1 0 (15:Int)=true/\cH n_2 0 (59:Int)=true)->Mem.le E E/\bif ok then Lp R2 8 Try.f54 [1,1,1,1,1,0,1,0] 0 (aW E K) { fr:=none::oc 0 0::none::oB (bif true then v else false)::cL (cE (none::(oI (WI ((NI i)+1))::ai (ai (ai (ai (ai (cQ [])))))))),bx:=[(⟨40,.ae (gq x aC ay aB aF ax aG aH ar aI aK au aL aS aM aT aU aN aV aX aA aY aZ aQ bc bg aE bh),30,true⟩:aR)],E:=E:St } else Lp R2 8 Try.f54 [1,1,1,1,1,0,1,0] 0 (aW E K) { fr:=none::oc 0 0::none::oB false::cL (cE (none::(oI (WI ((NI i)+1))::ai (ai (ai (ai (ai (cQ [])))))))),bx:=[(⟨40,.ae (gq x aC ay aB aF ax aG aH ar aI aK au aL aS aM aT aU aN aV aX aA aY aZ aQ bc bg aE bh),30,true⟩:aR)],E:=E:St })) else Lp R2 8 Try.f54 [1,1,1,1,1,1,0,1,0] 0 (aW E K) { fr:=none::oc 0 0::none::oB ok::cL (cE (none::(oI (NI i)::none::oI 0::ai (ai (ai (cL (cE (oI (NI i)::oc 0 13::oL aH ar aI::oI (NI ar)::oB (decide ((NI i)<(NI ar)))::ai (bL (cQ (cE (none::[])))))))))))),bx:=[(⟨40,.ae (gq x aC ay aB aF ax aG aH ar aI aK au aL aS aM aT aU aN aV aX aA aY aZ aQ bc bg aE bh),30,true⟩:aR)],E:=E:St });delta WI NI VS cE cL cQ bL ai gq;have h0:=hM.sY;have hl:=h0.len;refine ah (λg=>?_) (λg=>?_)
 ·have g:i<ar:=by simpa using g
  have w:IntKind.wrap .i64 ((i:Int)+1)=((i+1:Nat):Int):=by rw [wrap_i64 (by omega)];omega
  obtain ⟨y,hx⟩:∃ y,x.asks[i]? =some y:=⟨_,List.getElem?_eq_getElem (by omega)⟩;obtain ⟨a0,a1,a2,e0,l0⟩:=Dm (T:=99) h0 rfl rfl hx;have hr:bS [(0,some (0,59)),(1,some (0,15)),(2,some (0,59))] y=true↔(cH a0 0 59=true/\cH a1 0 15=true/\cH a2 0 59=true):=by subst e0;simp [bS,cH];try omega
  subst e0;refine af (by omega) ⟨SL.ne (bC .i64 (by decide)) h0 g,a0,a1,xz (T:=93) (by decide) h0 rfl rfl (by decide) hx,af (by omega) ⟨SL.ne (bC .i64 (by decide)) h0 g,a2,iq (by decide) (T:=3) (by kernel_rfl) h0 hx 2 (by decide),λv hv=>⟨bn,?_⟩⟩⟩;rw [← hv] at hr;rw [w];refine ah (λq1=>?_) (λq1=>?_)
  ·exact bz [some 0] (ih (v) g (by rw [gd hx,← and_assoc,← hg,hr];simp [q1])) (cl bn)
  ·exact bz [some 0] (ih (false) g (by rw [gd hx,← and_assoc,← hg,hr];simp [q1])) (cl bn)
 ·have e:i=ar:=by simp at g;omega
  rw [e,List.take_of_length_le (by omega)] at hg;exact bz [some 0] (h ok hg) (cl bn)
theorem O5 (hM:iY E x aC ay aB aF ax aG aH ar aI aK au aL aS aM aT aU aN aV aX aA aY aZ aQ bc bg aE bh) (hn:au<=1000000) (hi:i<=au) (hg:ok=true↔tj=true/\∀ r∈x.below.take i,bS [(0,some (0,59)),(2,some (0,1000000000)),(1,none),(3,none)] r=true) (h:∀ v:Bool,(v=true↔tj=true/\∀ r∈x.below,bS [(0,some (0,59)),(2,some (0,1000000000)),(1,none),(3,none)] r=true)->K (B v) E)
  (ih:∀ v:Bool,i<au->(v=true↔tj=true/\∀ r∈x.below.take (i+1),bS [(0,some (0,59)),(2,some (0,1000000000)),(1,none),(3,none)] r=true)->Lp R2 8 Try.f54 [1,1,1,1,1,1,0,1,0] 0 (aW E K) (uk x aC ay aB aF ax aG aH ar aI aK au aL aS aM aT aU aN aV aX aA aY aZ aQ bc bg aE bh v (i+1) E)):jO R2 8 Try.f54 [1,1,1,1,1,1,0,1,0] 0 (aW E K) (uk x aC ay aB aF ax aG aH ar aI aK au aL aS aM aT aU aN aV aX aA aY aZ aQ bc bg aE bh ok i E):=by
 refine dO (?_:bif decide ((NI i)<(NI au)) then cU (0<=(NI i)/\(NI i)<(NI au)) (nE E aK au aL/\∃ (n:Int) (n_1:Int) (n_2:Int) (ep:Int),bt R2.P E 101 (VS aK au aL) (Int.toNat (NI i)*4) (SV.agg [I n,I n_1,I n_2,I ep])/\Mem.le E E/\bif ok then bif bif true then cH n_2 0 1000000000 else false then bif bif true then decide (n>=(0:Int)) else false then bif bif true then decide (n<=(59:Int)) else false then bif bif true then n_1==(0:Int) else false then Lp R2 8 Try.f54 [1,1,1,1,1,1,0,1,0] 0 (aW E K) { fr:=none::oc 0 0::none::oB (bif true then ep==(0:Int) else false)::cQ (none::(oI (WI ((NI i)+1))::ai (ai (ai (ai (ai (cL (cE [])))))))),bx:=[(⟨40,.ae (gq x aC ay aB aF ax aG aH ar aI aK au aL aS aM aT aU aN aV aX aA aY aZ aQ bc bg aE bh),30,true⟩:aR),⟨101,.ae [I n,I n_1,I n_2,I ep],4,true⟩],E:=E:St } else Lp R2 8 Try.f54 [1,1,1,1,1,1,0,1,0] 0 (aW E K) { fr:=none::oc 0 0::none::oB false::cQ (none::(oI (WI ((NI i)+1))::ai (ai (ai (ai (ai (cL (cE [])))))))),bx:=[(⟨40,.ae (gq x aC ay aB aF ax aG aH ar aI aK au aL aS aM aT aU aN aV aX aA aY aZ aQ bc bg aE bh),30,true⟩:aR),⟨101,.ae [I n,I n_1,I n_2,I ep],4,true⟩],E:=E:St } else Lp R2 8 Try.f54 [1,1,1,1,1,1,0,1,0] 0 (aW E K) { fr:=none::oc 0 0::none::oB false::cQ (none::(oI (WI ((NI i)+1))::ai (ai (ai (ai (ai (cL (cE [])))))))),bx:=[(⟨40,.ae (gq x aC ay aB aF ax aG aH ar aI aK au aL aS aM aT aU aN aV aX aA aY aZ aQ bc bg aE bh),30,true⟩:aR),⟨101,.ae [I n,I n_1,I n_2,I ep],4,true⟩],E:=E:St } else Lp R2 8 Try.f54 [1,1,1,1,1,1,0,1,0] 0 (aW E K) { fr:=none::oc 0 0::none::oB false::cQ (none::(oI (WI ((NI i)+1))::ai (ai (ai (ai (ai (cL (cE [])))))))),bx:=[(⟨40,.ae (gq x aC ay aB aF ax aG aH ar aI aK au aL aS aM aT aU aN aV aX aA aY aZ aQ bc bg aE bh),30,true⟩:aR),⟨101,.ae [I n,I n_1,I n_2,I ep],4,true⟩],E:=E:St } else Lp R2 8 Try.f54 [1,1,1,1,1,1,0,1,0] 0 (aW E K) { fr:=none::oc 0 0::none::oB false::cQ (none::(oI (WI ((NI i)+1))::ai (ai (ai (ai (ai (cL (cE [])))))))),bx:=[(⟨40,.ae (gq x aC ay aB aF ax aG aH ar aI aK au aL aS aM aT aU aN aV aX aA aY aZ aQ bc bg aE bh),30,true⟩:aR),⟨101,.ae [I n,I n_1,I n_2,I ep],4,true⟩],E:=E:St } else Lp R2 8 Try.f54 [1,1,1,1,1,1,0,1,0] 0 (aW E K) { fr:=none::oc 0 0::none::oB false::cQ (none::(oI (WI ((NI i)+1))::ai (ai (ai (ai (ai (cL (cE [])))))))),bx:=[(⟨40,.ae (gq x aC ay aB aF ax aG aH ar aI aK au aL aS aM aT aU aN aV aX aA aY aZ aQ bc bg aE bh),30,true⟩:aR),⟨101,.ae [I n,I n_1,I n_2,I ep],4,true⟩],E:=E:St }) else Mem.le E E/\K (B ok) E);delta WI NI VS cE cL cQ ai gq;have h0:=hM.tE;have hl:=h0.len;refine ah (λg=>?_) (λg=>?_)
 ·have g:i<au:=by simpa using g
  have w:IntKind.wrap .i64 ((i:Int)+1)=((i+1:Nat):Int):=by rw [wrap_i64 (by omega)];omega
  obtain ⟨y,hx⟩:∃ y,x.below[i]? =some y:=⟨_,List.getElem?_eq_getElem (by omega)⟩;obtain ⟨a0,a1,a2,a3,e0,l0⟩:=xk (T:=101) h0 rfl rfl hx;have hr:bS [(0,some (0,59)),(2,some (0,1000000000)),(1,none),(3,none)] y=true↔cH a2 0 1000000000=true/\0<=a0/\a0<=59/\a1=0/\a3=0:=by subst e0;simp [bS,cH];omega
  subst e0;refine af (by omega) ⟨SL.ne (bC .i64 (by decide)) h0 g,a0,a1,a2,a3,l0,bn,?_⟩;rw [w];refine ah (λq1=>ah (λq2=>ah (λq3=>ah (λq4=>ah (λq5=>?_) (λq5=>?_)) (λq4=>?_)) (λq3=>?_)) (λq2=>?_)) (λq1=>?_)
  ·exact bz [some 0] (ih (a3==0) g (by rw [gd hx,← and_assoc,← hg,hr];simp at q2 q3 q4 q5;simp [q1,q2,q3,q4,q5])) (cl bn)
  ·exact bz [some 0] (ih (false) g (by rw [gd hx,← and_assoc,← hg,hr];simp at q2 q3 q4 q5;simp [q1,q2,q3,q4,q5])) (cl bn)
  ·exact bz [some 0] (ih (false) g (by rw [gd hx,← and_assoc,← hg,hr];simp at q2 q3 q4;simp [q1,q2,q3];intro z;omega)) (cl bn)
  ·exact bz [some 0] (ih (false) g (by rw [gd hx,← and_assoc,← hg,hr];simp at q2 q3;simp [q1,q2];intro z;omega)) (cl bn)
  ·exact bz [some 0] (ih (false) g (by rw [gd hx,← and_assoc,← hg,hr];simp at q2;simp [q1,q2])) (cl bn)
  ·exact bz [some 0] (ih (false) g (by rw [gd hx,← and_assoc,← hg,hr];simp [q1])) (cl bn)
 ·have e:i=au:=by simp at g;omega
  rw [e,List.take_of_length_le (by omega)] at hg;exact ⟨bn,h ok hg⟩
theorem O6 (hM:iY E x aC ay aB aF ax aG aH ar aI aK au aL aS aM aT aU aN aV aX aA aY aZ aQ bc bg aE bh) (hn:ay<=1000000) (h:∀ v:Bool,(v=true↔tj=true/\∀ r∈x.cT,bS [(0,some (0,59)),(1,some (0,15)),(2,some (0,59)),(3,some (0,1000000000))] r=true)->Lp R2 8 Try.f54 [1,1,1,1,0,1,0] 0 (aW E K) (uh x aC ay aB aF ax aG aH ar aI aK au aL aS aM aT aU aN aV aX aA aY aZ aQ bc bg aE bh v 0 E)):Lp R2 8 Try.f54 [1,1,1,0,1,0] 0 (aW E K) (Ad x aC ay aB aF ax aG aH ar aI aK au aL aS aM aT aU aN aV aX aA aY aZ aQ bc bg aE bh tj 0 E):=
 cu Cw (λz:{p:Nat×Bool//p.1<=ay/\(p.2=true↔tj=true/\∀ r∈x.cT.take p.1,bS [(0,some (0,59)),(1,some (0,15)),(2,some (0,59)),(3,some (0,1000000000))] r=true)}=>Ad x aC ay aB aF ax aG aH ar aI aK au aL aS aM aT aU aN aV aX aA aY aZ aQ bc bg aE bh z.1.2 z.1.1 E) (λz=>ay-z.1.1) (λz ih=>O2 hM hn z.2.1 z.2.2 h λv g hv=>ih ⟨(z.1.1+1,v),g,hv⟩ (by show ay-(_+1)<ay-_;omega)) ⟨(0,tj),Nat.zero_le _,by simp⟩
theorem O7 (hM:iY E x aC ay aB aF ax aG aH ar aI aK au aL aS aM aT aU aN aV aX aA aY aZ aQ bc bg aE bh) (hn:ax<=1000000) (h:∀ v:Bool,(v=true↔tj=true/\∀ r∈x.bw,bS [(0,some (0,59)),(1,some (0,15)),(2,some (0,59)),(3,some (0,1000000000)),(4,some (0,1000000000))] r=true)->Lp R2 8 Try.f54 [1,1,1,1,1,0,1,0] 0 (aW E K) (uj x aC ay aB aF ax aG aH ar aI aK au aL aS aM aT aU aN aV aX aA aY aZ aQ bc bg aE bh v 0 E)):Lp R2 8 Try.f54 [1,1,1,1,0,1,0] 0 (aW E K) (uh x aC ay aB aF ax aG aH ar aI aK au aL aS aM aT aU aN aV aX aA aY aZ aQ bc bg aE bh tj 0 E):=
 cu Cw (λz:{p:Nat×Bool//p.1<=ax/\(p.2=true↔tj=true/\∀ r∈x.bw.take p.1,bS [(0,some (0,59)),(1,some (0,15)),(2,some (0,59)),(3,some (0,1000000000)),(4,some (0,1000000000))] r=true)}=>uh x aC ay aB aF ax aG aH ar aI aK au aL aS aM aT aU aN aV aX aA aY aZ aQ bc bg aE bh z.1.2 z.1.1 E) (λz=>ax-z.1.1) (λz ih=>O3 hM hn z.2.1 z.2.2 h λv g hv=>ih ⟨(z.1.1+1,v),g,hv⟩ (by show ax-(_+1)<ax-_;omega)) ⟨(0,tj),Nat.zero_le _,by simp⟩
theorem O8 (hM:iY E x aC ay aB aF ax aG aH ar aI aK au aL aS aM aT aU aN aV aX aA aY aZ aQ bc bg aE bh) (hn:ar<=1000000) (h:∀ v:Bool,(v=true↔tj=true/\∀ r∈x.asks,bS [(0,some (0,59)),(1,some (0,15)),(2,some (0,59))] r=true)->Lp R2 8 Try.f54 [1,1,1,1,1,1,0,1,0] 0 (aW E K) (uk x aC ay aB aF ax aG aH ar aI aK au aL aS aM aT aU aN aV aX aA aY aZ aQ bc bg aE bh v 0 E)):Lp R2 8 Try.f54 [1,1,1,1,1,0,1,0] 0 (aW E K) (uj x aC ay aB aF ax aG aH ar aI aK au aL aS aM aT aU aN aV aX aA aY aZ aQ bc bg aE bh tj 0 E):=
 cu Cw (λz:{p:Nat×Bool//p.1<=ar/\(p.2=true↔tj=true/\∀ r∈x.asks.take p.1,bS [(0,some (0,59)),(1,some (0,15)),(2,some (0,59))] r=true)}=>uj x aC ay aB aF ax aG aH ar aI aK au aL aS aM aT aU aN aV aX aA aY aZ aQ bc bg aE bh z.1.2 z.1.1 E) (λz=>ar-z.1.1) (λz ih=>O4 hM hn z.2.1 z.2.2 h λv g hv=>ih ⟨(z.1.1+1,v),g,hv⟩ (by show ar-(_+1)<ar-_;omega)) ⟨(0,tj),Nat.zero_le _,by simp⟩
theorem O9 (hM:iY E x aC ay aB aF ax aG aH ar aI aK au aL aS aM aT aU aN aV aX aA aY aZ aQ bc bg aE bh) (hn:au<=1000000) (h:∀ v:Bool,(v=true↔tj=true/\∀ r∈x.below,bS [(0,some (0,59)),(2,some (0,1000000000)),(1,none),(3,none)] r=true)->K (B v) E):Lp R2 8 Try.f54 [1,1,1,1,1,1,0,1,0] 0 (aW E K) (uk x aC ay aB aF ax aG aH ar aI aK au aL aS aM aT aU aN aV aX aA aY aZ aQ bc bg aE bh tj 0 E):=
 cu Cw (λz:{p:Nat×Bool//p.1<=au/\(p.2=true↔tj=true/\∀ r∈x.below.take p.1,bS [(0,some (0,59)),(2,some (0,1000000000)),(1,none),(3,none)] r=true)}=>uk x aC ay aB aF ax aG aH ar aI aK au aL aS aM aT aU aN aV aX aA aY aZ aQ bc bg aE bh z.1.2 z.1.1 E) (λz=>au-z.1.1) (λz ih=>O5 hM hn z.2.1 z.2.2 h λv g hv=>ih ⟨(z.1.1+1,v),g,hv⟩ (by show au-(_+1)<au-_;omega)) ⟨(0,tj),Nat.zero_le _,by simp⟩
theorem Yt (hM:iY E x aC ay aB aF ax aG aH ar aI aK au aL aS aM aT aU aN aV aX aA aY aZ aQ bc bg aE bh) (hs:gh x) (h:∀ v:Bool,(v=true↔((x.cT.length:Int)<=24/\∀ r∈x.cT,bS [(0,some (0,59)),(1,some (0,15)),(2,some (0,59)),(3,some (0,1000000000))] r=true)/\((x.bw.length:Int)<=24/\∀ r∈x.bw,bS [(0,some (0,59)),(1,some (0,15)),(2,some (0,59)),(3,some (0,1000000000)),(4,some (0,1000000000))] r=true)/\((x.asks.length:Int)<=24/\∀ r∈x.asks,bS [(0,some (0,59)),(1,some (0,15)),(2,some (0,59))] r=true)/\((x.below.length:Int)<=60/\∀ r∈x.below,bS [(0,some (0,59)),(2,some (0,1000000000)),(1,none),(3,none)] r=true))->K (B v) E):mm R2 8 Try.f54 [.agg [I x.from_,I x.bO,I x.aD,I x.aJ,I x.bound,I x.fresh,I x.seq,I x.bf,I x.parent,I x.first,I x.next,L aC ay aB,L aF ax aG,L aH ar aI,L aK au aL,B x.full,L aS aM aT,L aU aN aV,L aX aA aY,I x.aP,I x.size,.raw (.int .u64 x.bD),I x.start,I x.pages,I x.version,I x.az,I x.seed,L aZ aQ bc,L bg aE bh,B x.has]] E K:=by
 refine dO (?_:bif decide ((NI ay)>24) then Mem.le E E/\K (B false) E else bif bif false then true else decide ((NI ax)>24) then Mem.le E E/\K (B false) E else bif bif false then true else decide ((NI ar)>24) then Mem.le E E/\K (B false) E else bif bif false then true else decide ((NI au)>60) then Mem.le E E/\K (B false) E else Lp R2 8 Try.f54 [1,1,1,0,1,0] 0 (aW E K) { fr:=some (SV.agg (gq x aC ay aB aF ax aG aH ar aI aK au aL aS aM aT aU aN aV aX aA aY aZ aQ bc bg aE bh))::oc 0 0::oB false::oB true::oI 0::cQ (cE (none::(oc 0 11::oL aC ay aB::oI (NI ay)::oB (decide ((NI ay)>24))::oB false::oc 0 12::oL aF ax aG::oI (NI ax)::oB (decide ((NI ax)>24))::oB (bif false then true else decide ((NI ax)>24))::oB false::oc 0 13::oL aH ar aI::oI (NI ar)::oB (decide ((NI ar)>24))::oB (bif false then true else decide ((NI ar)>24))::oB false::oc 0 14::oL aK au aL::oI (NI au)::oB (decide ((NI au)>60))::oB (bif false then true else decide ((NI au)>60))::ai (ai (ai (ai (cQ (cL (cE []))))))))),bx:=[(⟨40,.ae (gq x aC ay aB aF ax aG aH ar aI aK au aL aS aM aT aU aN aV aX aA aY aZ aQ bc bg aE bh),30,true⟩:aR)],E:=E:St });delta NI cE cL cQ ai gq;have Hu:=hM.sW.len;have Hv:=hM.sX.len;have Hw:=hM.sY.len;have Hx:=hM.tE.len;have t11:=hs.rL;have t12:=hs.L2;have t13:=hs.L3;have t14:=hs.L4;have no:(¬ ((x.cT.length:Int)<=24/\(x.bw.length:Int)<=24/\(x.asks.length:Int)<=24/\(x.below.length:Int)<=60))->Mem.le E E/\K (B false) E:=λq=>⟨bn,h false ⟨λe=>(by cases e),λe=>absurd ⟨e.1.1,e.2.1.1,e.2.2.1.1,e.2.2.2.1⟩ q⟩⟩;refine ah (λq=>no (by simp at q;omega)) (λq0=>?_);refine ah (λq=>no (by simp at q;omega)) (λq1=>?_);refine ah (λq=>no (by simp at q;omega)) (λq2=>?_);refine ah (λq=>no (by simp at q;omega)) (λq3=>?_);simp at q0 q1 q2 q3;refine bz [some 0] (O6 (tj:=true) hM (by omega) λv0 h0=>O7 hM (by omega) λv1 h1=>O8 hM (by omega) λv2 h2=>O9 hM (by omega) λv3 h3=>h v3 ?_) (cl bn);rw [h3,h2,h1,h0];constructor
 ·rintro ⟨⟨⟨⟨_,k0⟩,k1⟩,k2⟩,k3⟩;exact ⟨⟨by omega,k0⟩,⟨by omega,k1⟩,⟨by omega,k2⟩,⟨by omega,k3⟩⟩
 ·rintro ⟨⟨_,k0⟩,⟨_,k1⟩,⟨_,k2⟩,⟨_,k3⟩⟩;exact ⟨⟨⟨⟨rfl,k0⟩,k1⟩,k2⟩,k3⟩
end Go.Proofs.Ytnjmojacdkjfoaa.BeaconOwn
