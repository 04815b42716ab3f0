/- The symbolic evaluator; generic. Conditions: none. -/
import Derived.Test.YtnjmojacdkjfoaaSyV
import Derived.Lib.MakeNoZero
import Derived.Lib.Overlaps
namespace Go.Sx
open Go
variable {S:St} {dr:Env} {w0 w:World} {n0 n c l i:Nat} {mu:Fm} {f:FuncId} {bx:List aR} {K:KT} {E:Mem} {args:List SV} {P:Program} {vs:Lv} {e T:TypeId} {b:Oa} {zs:Li}
def bT (n0:Nat) (K:KT):KT:=λs bx E=>∃ τ s' bA E',St.wk n0 τ ⟨[some s],bx,E⟩ ⟨[some s'],bA,E'⟩/\K s' bA E'
theorem JX {τ:vK} {T:St} (hw:S.wk n0 τ T) {a:Act} (hn:dr.length<=n0)
  (h:gz w0 mu dr (λS'=>S'=S) a w):gz w0 mu dr (λS'=>S'=T) a w:=
 (BV (n0:=n0) (Φ:=λw0 mu dr a w=>gz w0 mu dr (λS'=>S'=T) a w) hw ⟨λ_ _ _ _ _ _ h=>h⟩).out w0 mu dr a w hn h
theorem aj.fM (h:aj P f args bx E (bT bx.length K)):aj P f args bx E K:=by
 refine λw0 mu ρ w vs hR hv=>?_;refine (h w0 mu ρ w vs hR hv).mono λe w' hp=>?_;obtain ⟨v,s,bA,E',ρ',rfl,hpre,hs,iT,τ,s',Vu,mN,hw,hK⟩:=hp;have hl:gz w0 ⟨mu.mu,mu.E0,none,[]⟩ ρ (λS'=>S'=(⟨[some s],bA,E'⟩:St)) { tmps:=#[v],defers:=[] } w':=
  ⟨⟨rfl,trivial⟩,_,ρ',hpre,Rel.cast (mu:=mu) rfl rfl iT,⟨rfl,λi t ht=>by
   match i,ht with
   | 0,ht=>simp at ht;subst ht;exact ⟨v,rfl,hs⟩⟩,rfl⟩
 obtain ⟨_,_,ρ2,Q0,Bm,hF2,rfl⟩:=JX hw (by rw [hR.len];exact Nat.le_refl _) hl;obtain ⟨v2,h1,h2⟩:=hF2.2 0 s' rfl;simp at h1;subst h1;exact ⟨v,s',Vu,mN,ρ2,rfl,Q0,h2,Rel.cast (mu:=⟨mu.mu,mu.E0,none,[]⟩) rfl rfl Bm,hK⟩
theorem aq (τ:vK) {s s':SV} {bA:List aR} {E':Mem} (h:K s' bA E') (hw:St.wk n0 τ ⟨[some s],bx,E⟩ ⟨[some s'],bA,E'⟩):bT n0 K s bx E:=⟨τ,s',bA,E',hw,h⟩
theorem aj.Q1 {b:Nat} {tot cap:Nat} {rest:List SV} {gF:Lv} (hb:bx[b]? =some ⟨e,.vals vs,tot,true⟩) (hr:SV.fY rest=some gF)
  (h:aj P f (.bH 0 0 n cap::rest) [⟨e,.vals vs,tot,true⟩] E (bT 1 λs bA E'=>∃ n' cap' vs' aa,s= .bH 1 0 n' cap'/\bA=[⟨e,.ae [],0,false⟩,⟨e,.vals vs',aa,true⟩]/\K (.bH bx.length 0 n' cap') (bx.set b ⟨e,.ae [],0,false⟩++[⟨e,.vals vs',aa,true⟩]) E')):
  aj P f (.bH b 0 n cap::rest) bx E K:=by
 refine frame (σ:=[b]) ⟨by simp,rfl,λi y hy=>?_⟩ ?_ h.fM ?_
 ·match i,hy with
  | 0,hy=>
   simp only [List.getElem?_cons_zero,Option.some.injEq] at hy;subst hy;exact ⟨rfl,b,rfl,hb⟩
 ·simp only [SV.dL,SV.cD,dW,List.getElem?_cons_zero,fZ _ _ _ hr]
 ·rintro s jD E' ⟨n',cap',vs',aa,rfl,rfl,hK⟩;simpa [merge,fj,SV.cD,dW,aR.cD,Row.cD,SV.dL] using hK
theorem aj.Vv {Q2:Lv} (hr:SV.fY args=some Q2)
  (h:aj P f args [] E (bT 0 λs bA E'=>∃ n' cap' e vs' aa,s= .bH 0 0 n' cap'/\bA=[⟨e,.vals vs',aa,true⟩]/\K (.bH bx.length 0 n' cap') (bx++[⟨e,.vals vs',aa,true⟩]) E')):
  aj P f args bx E K:=by
 refine BL hr h.fM ?_;rintro s jD E' ⟨n',cap',e,vs',aa,rfl,rfl,hK⟩;simpa [SV.cD,dW,aR.cD,Row.cD] using hK
def Bs (E:Mem) (b:Oa) (l c:Nat) (zs:Li):Prop:=(zs=[]\/E (.slice b l c) (zs.map (.int .u8)))/\zs.length=l/\l<=c/\(∀ z∈zs,0<=z/\z<=255)/\(b=none->zs=[])
theorem Bs.mono {E':Mem} (h:Bs E b l c zs) (he:Mem.le E E'):Bs E' b l c zs:=⟨h.1.imp_right (he _ _),h.2⟩
theorem Bs.nil (E:Mem):Bs E none 0 0 []:=⟨.inl rfl,rfl,Nat.le_refl _,(λz hz=>by cases hz),λ_=>rfl⟩
theorem Bs.src (h:Bs E b l c zs):(zs.map (Value.int .u8)=[]\/E (.slice b l c) (zs.map (.int .u8)))/\l*1<=(zs.map (Value.int .u8)).length/\∀ x:Value,List.Mem x (zs.map (.int .u8))->x.oneCell'=true:=
 ⟨h.1.imp_left λe=>by rw [e];rfl,by simp [h.2.1],λx hx=>by obtain ⟨z,_,rfl⟩:=List.mem_map.1 hx;rfl⟩
theorem Bs.win {base:Oa} {cs:Lv} (h:gD E base cs) (e:cs=zs.map (.int .u8)) (hl:zs.length=l) (hc:l<=c) (hz:∀ z∈zs,0<=z/\z<=255):Bs E (base.map λx=>x.add 0) l c zs:=by
 subst e;have:=h.2 0 zs.length l c (by simp);simp only [List.drop_zero] at this;rw [List.take_of_length_le (by simp)] at this;exact ⟨.inr this,hl,hc,hz,λe=>by
  cases base with
  | none=>have:=h.1 rfl;rw [List.map_eq_nil_iff] at this;exact this
  | some a=>cases e⟩
theorem Bs.load (h:Bs E b l c zs) (ht:P.underlying T=some (.int .u8)) (hi:i<l):bt P E T (.slice b l c) (i*1) (.raw (.int .u8 (zs.getD i 0))):=by
 have hl:i<zs.length:=by rw [h.2.1];exact hi
 refine ⟨_,h.1.resolve_left (λe=>by rw [e] at hl;cases hl),?_⟩;unfold iB;rw [ht];simp [hl]
theorem Bs.ne (h:Bs E b l c zs) (hi:i<l):∃ cs,E (.slice b l c) cs/\(cs=[]->False):=by
 have hl:i<zs.length:=by rw [h.2.1];exact hi
 exact ⟨_,h.1.resolve_left (λe=>by rw [e] at hl;cases hl),λe=>by rw [List.map_eq_nil_iff] at e;rw [e] at hl;cases hl⟩
theorem Bs.of {W:World} (hl:l<=c) (hb:b=none->c=0) (hz:zs.length=c) (hw:∀ x∈zs,(Lit.int .u8 x).wf=true) (hE:dV W (.slice b l c) (zs.map (.int .u8))):
  Bs (λv cs=>dV W v cs) b l c (zs.take l):=by
 refine ⟨?_,by rw [List.length_take,hz];omega,hl,λz UX=>?_,λe=>?_⟩
 ·rcases hE with h|⟨a,len,cap,e,hs,h⟩
  ·rw [List.map_eq_nil_iff] at h;exact .inl (by rw [h];simp)
  ·refine .inr (.inr ⟨a,len,cap,e,hs,λi x hx=>h i x ?_⟩);rw [List.map_take,List.getElem?_take] at hx;split at hx
   ·exact hx
   ·cases hx
 ·have:=hw z (List.take_subset _ _ UX);simpa [Lit.wf,IntKind.min,IntKind.max,IntKind.signed,IntKind.bits] using this
 ·have:=hb e;rw [this] at hz;rw [List.length_eq_zero_iff.1 hz];simp
end Go.Sx
namespace Go.Sx
open Go
variable {bx:List aR} {E:Mem} {ρ:Env} {w0 w:World} {mu:Fm} {n0 n:Nat} {S:St} {K:KT} {fn:Func} {f:FuncId} {args:List SV} {P:Program}
theorem Rel.xL (hR:Rel w0 mu bx E ρ w) {b:Nat} {y:aR} (hy:bx[b]? =some y) {cs:Lv} (hcs:y.row.val=some cs):
  ∃ base E',ρ[b]? =some base/\Mem.le E E'/\gD E' base cs/\Rel w0 mu ((bx.set b { y with own:=false }).map (aR.subst b base)) E' ρ w:=by
 have hi:b<bx.length:=eC hy;have hρ:∃ base,ρ[b]? =some base:=⟨_,List.getElem?_eq_getElem (by rw [hR.len];exact hi)⟩;obtain ⟨base,hρ⟩:=hρ;have gG:=hR.box b y base hy hρ;have BG:=hR.share hy;have hval:=Row.CS hcs;have lB:base=none->cs=[]:=by rintro rfl;have h1:=gG.1;have h2:=hval [];rw [show y.row.cells=[] from h1] at h2;simp only [SV.bF,Option.some.injEq] at h2;exact h2.symm
 let E':Mem:=λv c=>E v c\/∃ off m len cap,off+m<=cs.length/\v=iP base off len cap/\c=(cs.drop off).take m;have hrow:∀ off m len cap,off+m<=cs.length->dV w (iP base off len cap) ((cs.drop off).take m)/\
   ((cs.drop off).take m≠[]->∃ a,base=some a/\a.spot=none/\y.live=true):=by
  intro off m len cap hle
  cases base with
  | none=>
   have h0:cs=[]:=lB rfl;subst h0;exact ⟨.inl (by simp),λh=>by simp at h⟩
  | some a=>
   obtain ⟨h1,vs',h2,h3⟩:=gG.share;have :vs'=cs:=by
    have:=hval ρ;rw [show ({ y with own:=false }:aR).cells=y.row.cells from rfl,this] at h2
    cases h2;rfl
   subst this;simp only [Bool.false_eq_true,if_false] at h3;constructor
   ·right;refine ⟨a.add off,len,cap,rfl,by rw [add_eq h1],λi x hx=>?_⟩;rw [add_eq h1];simp only;have hi:i<m:=by
     rcases Nat.lt_or_ge i m with q|q
     ·exact q
     ·rw [List.getElem?_eq_none (by simp;omega)] at hx;cases hx
    rw [List.getElem?_take_of_lt hi,List.getElem?_drop] at hx;rw [Nat.add_assoc];exact h3 _ _ hx
   ·intro hne;refine ⟨a,rfl,h1,?_⟩;simp only [aR.live,Bool.or_eq_true];right
    cases hc:y.cells with
    | nil=>
     have h2:=hval [];rw [show y.row.cells=[] from hc] at h2;simp only [SV.bF,Option.some.injEq] at h2;subst h2;simp at hne
    | cons=>rfl
 have iT:Rel w0 mu (bx.set b { y with own:=false }) E' ρ w:=BG.D4 (λv c g=>by
   rcases g with g|⟨off,m,len,cap,hle,rfl,rfl⟩
   ·exact hR.hold v c g
   ·exact (hrow off m len cap hle).1) (λv c g hne=>by
   rcases g with g|⟨off,m,len,cap,hle,rfl,rfl⟩
   ·exact .inl g
   ·right;obtain ⟨a,rfl,h1,hl⟩:=(hrow off m len cap hle).2 hne;intro j b' c' g1 g2 g3;have hj:b≠j:=by
     rintro rfl;rw [List.getElem?_set_self hi] at g1;simp only [Option.some.injEq] at g1;subst g1;simp at g2
    rw [List.getElem?_set_ne hj] at g1;have:=(hR.sep j b' c' g1 g2 g3).2.1 b y a hj hy hl hρ;simp only [iP,Option.map_some,pP,add_eq h1];intro e;simp only [Option.some.injEq] at e;exact this e) (λv c g hne=>by
   rcases g with g|⟨off,m,len,cap,hle,rfl,rfl⟩
   ·exact hR.src _ _ g hne
   ·obtain ⟨a,rfl,h1,hl⟩:=(hrow off m len cap hle).2 hne;exact .inl ⟨a.block,by simp only [iP,Option.map_some,pP,add_eq h1],hR.jM b y a hy hl hρ⟩)
 exact ⟨base,E',hρ,λ_ _ g=>.inl g,⟨lB,λoff m len cap hle=>.inr ⟨off,m,len,cap,hle,rfl,rfl⟩⟩,iT.subst hρ⟩
def St.xL (S:St) (b:Nat) (y:aR) (base:Oa) (E':Mem):St:=
 { fr:=S.fr.map (Option.map (SV.subst b base)),bx:=(S.bx.set b { y with own:=false }).map (aR.subst b base),E:=E' }
theorem JY {Φ:World->Fm->Env->Act->World->Prop} (b:Nat) (y:aR) (cs:Lv) (hy:S.bx[b]? =some y) (hcs:y.row.val=some cs)
  (h:∀ base E',Mem.le S.E E'->gD E' base cs->P8 n0 Φ (S.xL b y base E')):P8 n0 Φ S:=by
 refine ⟨λw0 mu dr a w hn hl=>?_⟩;obtain ⟨hd,S',ρ,hp,hR,hF,rfl⟩:=hl;obtain ⟨base,E',hρ,hle,hw,iT⟩:=hR.xL hy hcs;refine (h base E' hle hw).out w0 mu dr a w hn ⟨hd,_,ρ,hp,iT,⟨by rw [← hF.1];simp [St.xL],λi s hs=>?_⟩,rfl⟩;simp only [St.xL,List.getElem?_map] at hs
 cases hx:S'.fr[i]? with
 | none=>rw [hx] at hs;cases hs
 | some o=>
  rw [hx] at hs;simp only [Option.map_some,Option.some.injEq] at hs
  cases o with
  | none=>cases hs
  | some s0=>
   simp only [Option.map_some,Option.some.injEq] at hs;subst hs;obtain ⟨v,h1,h2⟩:=hF.2 i s0 hx;exact ⟨v,h1,lM hρ s0 h2⟩
theorem tP {C:Cx} {p:List Nat} (b:Nat) (y:aR) (cs:Lv) (hy:S.bx[b]? =some y) (hcs:y.row.val=some cs)
  (h:∀ base E',Mem.le S.E E'->gD E' base cs->Ct C n fn p n0 K (S.xL b y base E')):Ct C n fn p n0 K S:=by
 unfold Ct at *;exact ⟨(JY (Φ:=λw0 mu dr a w=>mu.om=C.opt.om/\xJ C.opt.om dr->Code.wpIn Fence.wide 0 C.P _ (lE w0 mu dr _) a w) b y cs hy hcs λbase E' h1 h2=>⟨(h base E' h1 h2).out⟩).out⟩
def AK (K:KT):KT:=λs bx E=>BD 16 [s] bx E λss FY E2=>match ss with
 | [s']=>K s' FY E2
 | _=>False
theorem aj.AK (h:aj P f args bx E (AK K)):aj P f args bx E K:=by
 refine λw0 mu ρ w vs hR hv=>?_;refine (h w0 mu ρ w vs hR hv).mono λe w' hp=>?_;obtain ⟨v,s,bA,E',ρ',rfl,hpre,hs,iT,hK⟩:=hp;obtain ⟨ss,FY,E2,h5,h6,h7⟩:=lV 16 [s] bA E' [v] hK iT (by simp only [SV.bF,hs]);split at h7;case h_2=>exact h7.elim
 rename_i s';refine ⟨v,s',FY,E2,ρ',rfl,hpre,?_,h6,h7⟩;simp only [SV.bF] at h5;split at h5
 ·rename_i x ys e1 e2;simp only [Option.some.injEq,List.cons.injEq] at e2 h5;rw [e1,h5.1]
 ·cases h5
end Go.Sx
namespace Go.Sx
open Go
end Go.Sx
namespace Go.Sx
open Go
variable {f:FuncId} {bx:List aR} {n i p:Nat} {K:KT} {E:Mem} {fn:Func} {e T:TypeId} {P:Program} {r vs:Lv}
theorem zD (hf : P.funcs[f]? = some fn) (h1 : (fn.name == "runtime.NumGoroutine") = false) (h2 : fn.body.isNone = true) (h3 : Extern.findNext fn = none) {tS tR : TypeId}
  (h4:Extern.find fn=some (Extern.SlicesOverlaps.overlaps #[tS,tS] #[tR])) (ht:P.underlying tS=some (.slice e)) {i:TypeInfo} (hi:P.info? e=some i)
  {b b' off cap off' n' cap':Nat} {y y':aR} (hb:bx[b]? =some y) (hb':bx[b']? =some y') (ho:y.own=true) (FV:y'.own=true) (hne:b≠b') (htot:0<y'.total)
  (h:K (.raw (.bool false)) bx E):aj P f [.bH b off n cap,.bH b' off' n' cap'] bx E K:=by
 intro w0 mu ρ w vs hR hd;simp only [SV.bF,SV.den] at hd;split at hd;case h_2=>cases hd
 rename_i v us hv iX;split at iX;case h_2=>cases iX
 rename_i v' FE hv' Q3;simp only [Option.some.injEq] at hd iX Q3;subst Q3;subst iX;subst hd;have hz:∀ w,(Go.sizeOf e).run P w= .ok i.size w:=λw=>bY hi w;have hrun:(Extern.SlicesOverlaps.overlaps #[tS,tS] #[tR] #[v,v']).run P w= .ok (.bool false) w:=by
  have hnone:∀ a b la ca lb cb,(a=none\/b=none)->(Extern.SlicesOverlaps.overlaps #[tS,tS] #[tR] #[.slice a la ca,.slice b lb cb]).run P w= .ok (.bool false) w:=by
   intro a b la ca lb cb hab;have Q4:Extern.SlicesOverlaps.overlaps #[tS,tS] #[tR] #[.slice a la ca,.slice b lb cb]=(do
     let some t := (#[tS, tS] : Array TypeId)[0]? | stuck "slices.overlaps: no parameter types"
     let .slice elem ← underlying t | stuck "slices.overlaps: slice type expected"
     let size ← sizeOf elem
     match a,b with
     | some a,some b=>
      if la=0\/lb=0\/size=0 then pure (Value.bool false)
      else if a.block !=b.block&&(← frozen a)&&(← frozen b) then unsupported .addressObserved
      else do
       if a.block !=b.block then do
        noView a;noView b
        if ← mayBeOne a b then return Value.bool ((← choose (.extern "sameAddr.stringBytes" 2)) == 1)
       pure (Value.bool (a.block==b.block&&a.off<b.off+lb*size&&b.off<a.off+la*size))
     | _,_=>pure (Value.bool false)):=rfl
   cases a with
   | none=>rw [Q4];simp [run_underlying ht,hz]
   | some a=>
    cases b with
    | none=>rw [Q4];simp [run_underlying ht,hz]
    | some b=>rcases hab with h|h<;>cases h
  rcases cN hv with ⟨c,hc,rfl⟩|⟨_,_,_,_,rfl⟩
  ·rcases cN hv' with ⟨c',JJ,rfl⟩|⟨_,_,_,_,rfl⟩
   ·obtain ⟨hsp,ws,hw,k⟩:=hR.box b _ _ hb hc;obtain ⟨Vw,ws',hw',k'⟩:=hR.box b' _ _ hb' JJ;rw [if_pos ho] at k;rw [if_pos FV] at k';obtain ⟨nA,bZ,kh,hl⟩:=k;obtain ⟨aaN,Q5,NL,hl'⟩:=k';have Nm:=(hR.sep b' _ c' hb' FV JJ).2.1 b y c hne hb (by simp [aR.live,ho]) hc;rw [add_eq hsp,add_eq Vw];refine Lib.run_overlaps_apart w tS tR e ht i.size hz _ _ n cap n' cap' Nm y.elem y'.elem (ws++bZ).length (ws'++Q5).length ?_ ?_ (by rw [hl'];omega) ?_ ?_
    ·simp [World.shape?,kh]
    ·simp [World.shape?,NL]
    ·simp [World.frozen?,kh]
    ·simp [World.frozen?,kh]
   ·exact hnone _ _ _ _ _ _ (.inr rfl)
  ·rcases cN hv' with ⟨c',JJ,rfl⟩|⟨_,_,_,_,rfl⟩
   ·exact hnone _ _ _ _ _ _ (.inl rfl)
   ·exact hnone _ _ _ _ _ _ (.inl rfl)
 have dP:(callFunc f [v,v'].toArray).run P w= .ok (.value (.bool false)) w:=by unfold callFunc;have hr':(Extern.SlicesOverlaps.overlaps #[tS,tS] #[tR] [v,v'].toArray).run P w=_:=hrun;simp only [Sem.run_bind,run_program,Result.andThen_ok,hf,h1,h2,h3,h4,Bool.false_eq_true,if_false,if_true,run_mark,Sem.run_pure,hr']
 exact .inr ⟨_,_,dP,_,_,_,E,ρ,rfl,List.prefix_refl _,rfl,hR,h⟩
abbrev yc (α:Type):=Mem->α->Lv->Prop
structure lH {α:Type} (k:Nat) (R:yc α):Prop where
 mono:∀ {E E':Mem} {x:α} {r:Lv},Mem.le E E'->R E x r->R E' x r
 len:∀ {E:Mem} {x:α} {r:Lv},R E x r->r.length=k
 one:∀ {E:Mem} {x:α} {r:Lv},R E x r->∀ v∈r,v.oneCell'=true
 pos:0<k
def jP {α:Type} (R:yc α) (E:Mem) (rs:List Lv) (xs:List α):Prop:=rs.length=xs.length/\∀ (i:Nat) r x,rs[i]? =some r->xs[i]? =some x->R E x r
def SL {α:Type} (R:yc α) (E:Mem) (b:Oa) (n c:Nat) (xs:List α):Prop:=
 ∃ rs,jP R E rs xs/\xs.length=n/\n<=c/\(n=0\/E (.slice b n c) rs.flatten)/\(b=none->n=0)
section
variable {α:Type} {k:Nat} {R:yc α} {E E':Mem} {rs rt:List Lv} {xs ys:List α} {b b':Oa} {n c:Nat}
theorem jP.mono (ok:lH k R) (h:jP R E rs xs) (he:Mem.le E E'):jP R E' rs xs:=⟨h.1,λi r x h1 h2=>ok.mono he (h.2 i r x h1 h2)⟩
theorem jP.nil:jP R E [] []:=⟨rfl,λi r x h=>by simp at h⟩
theorem jP.app (h:jP R E rs xs) (q:jP R E rt ys):jP R E (rs++rt) (xs++ys):=by
 refine ⟨by simp [h.1,q.1],λi r m g1 g2=>?_⟩;have hl:=h.1;by_cases hi:i<rs.length
 ·rw [List.getElem?_append_left hi] at g1;rw [List.getElem?_append_left (by omega)] at g2;exact h.2 i r m g1 g2
 ·rw [List.getElem?_append_right (by omega)] at g1;rw [List.getElem?_append_right (by omega),← hl] at g2;exact q.2 _ r m g1 g2
theorem jP.one {x:α} (h:R E x r):jP R E [r] [x]:=⟨rfl,λi r' x' g1 g2=>by
 cases i with
 | zero=>simp at g1 g2;subst g1;subst g2;exact h
 | succ i=>simp at g1⟩
theorem jP.snoc {x:α} (h:jP R E rs xs) (q:R E x r):jP R E (rs++[r]) (xs++[x]):=h.app (.one q)
theorem jP.drop (h:jP R E rs xs) (i:Nat):jP R E (rs.drop i) (xs.drop i):=⟨by simp [h.1],λj r x g1 g2=>by rw [List.getElem?_drop] at g1 g2;exact h.2 _ r x g1 g2⟩
theorem jP.take (h:jP R E rs xs) (i:Nat):jP R E (rs.take i) (xs.take i):=⟨by simp [h.1],λj r x g1 g2=>by
 rw [List.getElem?_take] at g1 g2;split at g1
 ·rename_i hj;rw [if_pos hj] at g2;exact h.2 _ r x g1 g2
 ·cases g1⟩
theorem jP.set {x:α} (h:jP R E rs xs) (i:Nat) (q:R E x r):jP R E (rs.set i r) (xs.set i x):=⟨by simp [h.1],λj r' x' g1 g2=>by
 rw [List.getElem?_set] at g1 g2;by_cases hij:i=j
 ·subst hij;rw [if_pos rfl] at g1 g2;have hl:=h.1;by_cases hi:i<rs.length
  ·rw [if_pos hi] at g1;rw [if_pos (by omega)] at g2;cases g1;cases g2;exact q
  ·rw [if_neg hi] at g1;cases g1
 ·rw [if_neg hij] at g1 g2;exact h.2 _ _ _ g1 g2⟩
theorem mw:∀ {rs:List Lv},(∀ r∈rs,r.length=k)->rs.flatten.length=rs.length*k
 | [],_=>by simp
 | r::rs,h=>by rw [List.flatten_cons,List.length_append,h r (by simp),mw (rs:=rs) (λr hr=>h r (by simp [hr])),List.length_cons,Nat.add_mul];omega
theorem nT:∀ {rs:List Lv},(∀ r∈rs,r.length=k)->∀ i,rs.flatten.drop (i*k)=(rs.drop i).flatten
 | [],_,i=>by simp
 | r::rs,h,0=>by simp
 | r::rs,h,i+1=>by rw [List.flatten_cons,Nat.add_mul,Nat.one_mul,List.drop_append,List.drop_eq_nil_of_le (by rw [h r (by simp)];omega),List.nil_append,h r (by simp),Nat.add_sub_cancel,nT (rs:=rs) (λr hr=>h r (by simp [hr])),List.drop_succ_cons]
theorem nU:∀ {rs:List Lv},(∀ r∈rs,r.length=k)->∀ i,rs.flatten.take (i*k)=(rs.take i).flatten
 | [],_,i=>by simp
 | r::rs,h,0=>by simp
 | r::rs,h,i+1=>by rw [List.flatten_cons,Nat.add_mul,Nat.one_mul,List.take_append,List.take_of_length_le (by rw [h r (by simp)];omega),h r (by simp),Nat.add_sub_cancel,nU (rs:=rs) (λr hr=>h r (by simp [hr])),List.take_succ_cons,List.flatten_cons]
theorem jP.lens (ok:lH k R) (h:jP R E rs xs):∀ r∈rs,r.length=k:=λr hr=>by obtain ⟨i,hi,rfl⟩:=List.getElem_of_mem hr;have hl:=h.1;exact ok.len (h.2 i _ _ (List.getElem?_eq_getElem hi) (List.getElem?_eq_getElem (by omega)))
theorem jP.flat (ok:lH k R) (h:jP R E rs xs):rs.flatten.length=xs.length*k:=by rw [mw (h.lens ok),h.1]
theorem jP.Q6 (ok:lH k R) (h:jP R E rs xs):∀ v:Value,List.Mem v rs.flatten->v.oneCell'=true:=λv hv=>by obtain ⟨r,hr,hv⟩:=List.mem_flatten.1 hv;obtain ⟨i,hi,rfl⟩:=List.getElem_of_mem hr;have hl:=h.1;exact ok.one (h.2 i _ _ (List.getElem?_eq_getElem hi) (List.getElem?_eq_getElem (by omega))) v hv
theorem jP.get (ok:lH k R) (h:jP R E rs xs) {x:α} (hx:xs[i]? =some x):∃ r,rs[i]? =some r/\R E x r/\(rs.flatten.drop (i*k)).take k=r:=by have hi:i<xs.length:=(List.getElem?_eq_some_iff.1 hx).1;have hl:=h.1;have hr:=List.getElem?_eq_getElem (l:=rs) (i:=i) (by omega);refine ⟨_,hr,h.2 i _ x hr hx,?_⟩;rw [nT (h.lens ok),List.drop_eq_getElem_cons (by omega),List.flatten_cons,List.take_append_of_le_length (by rw [h.lens ok _ (List.getElem_mem _)];exact Nat.le_refl _),List.take_of_length_le (by rw [h.lens ok _ (List.getElem_mem _)];exact Nat.le_refl _)]
theorem SL.mono (ok:lH k R) (h:SL R E b n c xs) (he:Mem.le E E'):SL R E' b n c xs:=
 let ⟨rs,h1,h2,h3,h4,h5⟩:=h;⟨rs,h1.mono ok he,h2,h3,h4.imp_right (he _ _),h5⟩
theorem SL.nil:SL R E none 0 0 []:=⟨[],jP.nil,rfl,Nat.le_refl _,.inl rfl,λ_=>rfl⟩
theorem SL.len (h:SL R E b n c xs):xs.length=n:=by obtain ⟨rs,h1,h2,_⟩:=h;exact h2
theorem SL.none (h:SL R E none n c xs):xs=[]:=by obtain ⟨rs,h1,h2,h3,h4,h5⟩:=h;exact List.eq_nil_of_length_eq_zero (by rw [h2];exact h5 rfl)
theorem SL.win (ok:lH k R) {base:Oa} (h:gD E base vs) (e:vs=rs.flatten) (hr:jP R E rs xs) (hn:xs.length=n) (hc:n<=c):SL R E (base.map λx=>x.add 0) n c xs:=by
 subst e;have hl:rs.flatten.length=n*k:=by rw [hr.flat ok,hn]
 have:=h.2 0 rs.flatten.length n c (by simp);simp only [List.drop_zero] at this;rw [List.take_of_length_le (Nat.le_refl _)] at this;refine ⟨rs,hr,hn,hc,.inr this,λe=>?_⟩
 cases base with
 | none=>
  have h0:=h.1 rfl;rw [h0] at hl;have hk:=ok.pos;rcases Nat.eq_zero_or_pos n with hz|hz
  ·exact hz
  ·have:=Nat.mul_pos hz hk;simp only [List.length_nil] at hl;omega
 | some a=>cases e
theorem SL.src (ok:lH k R) (h:SL R E b n c xs):∃ rs,jP R E rs xs/\(rs.flatten=[]\/E (.slice b n c) rs.flatten)/\n*k<=rs.flatten.length/\(∀ x:Value,List.Mem x rs.flatten->x.oneCell'=true)/\rs.length=n:=by
 obtain ⟨rs,h1,h2,h3,h4,h5⟩:=h;have hl:rs.length=n:=by rw [h1.1,h2]
 refine ⟨rs,h1,?_,by rw [h1.flat ok,h2];exact Nat.le_refl _,h1.Q6 ok,hl⟩;rcases h4 with rfl|h4
 ·exact .inl (by rw [List.length_eq_zero_iff.1 hl];rfl)
 ·exact .inr h4
theorem SL.ne (ok:lH k R) (h:SL R E b n c xs) (hi:i<n):∃ cs,E (.slice b n c) cs/\(cs=[]->False):=by obtain ⟨rs,h1,h2,h3,h4,h5⟩:=h;refine ⟨_,h4.resolve_left (by omega),λe=>?_⟩;have hl:=h1.flat ok;rw [e,h2] at hl;have:=ok.pos;have:=Nat.mul_pos (show 0<n by omega) this;simp at hl;omega
theorem qK (hu:(match P.underlying T with |some (.struct _)=>true|_=>false)=true) (hi:(P.info? T).map (·.size)=some k) {cs:List SV} {off:Nat} {r:List SV} (hr:(cs.drop off).take k=r) (hl:r.length=k):iB P T cs off=some (.agg r):=by
 unfold iB;split at hu
 ·rename_i fs hfs;rw [hfs]
  cases Q7:P.info? T with
  | none=>rw [Q7] at hi;cases hi
  | some inf=>
   rw [Q7] at hi;simp only [Option.map_some,Option.some.injEq] at hi;simp only [hi,hr,hl,if_true]
 ·cases hu
theorem SL.load (ok:lH k R) (h:SL R E b n c xs) {x:α} (hx:xs[i]? =some x):∃ cs r,E (.slice b n c) cs/\(cs.drop (i*k)).take k=r/\r.length=k/\R E x r:=by obtain ⟨rs,g1,g2,g3,g4,g5⟩:=h;have hi:i<xs.length:=(List.getElem?_eq_some_iff.1 hx).1;obtain ⟨r,_,h2,h3⟩:=g1.get ok hx;exact ⟨_,r,g4.resolve_left (by omega),h3,ok.len h2,h2⟩
theorem SL.AL (ok:lH k R) (h:SL R E b n c xs) (hu:(match P.underlying T with |some (.struct _)=>true|_=>false)=true) (hs:(P.info? T).map (·.size)=some k) {x:α} (hx:xs[i]? =some x):
  ∃ r,R E x r/\bt P E T (.slice b n c) (i*k) (.agg (r.map .raw)):=by
 obtain ⟨cs,r,h1,h2,h3,h4⟩:=h.load ok hx;exact ⟨r,h4,cs,h1,qK hu hs (by rw [← List.map_drop,← List.map_take,h2]) (by rw [List.length_map,h3])⟩
theorem SL.Gq (ok:lH k R) (h:SL R E b n c xs) {d:TypeDesc} (hu:P.underlying T=some d) (hd:jS d=false) {j:Nat} {x:α} (hx:xs[i]? =some x) (hj:j<k):
  ∃ r v,R E x r/\r[j]? =some v/\bt P E T (.slice b n c) (i*k+j) (.raw v):=by
 obtain ⟨cs,r,h1,h2,h3,h4⟩:=h.load ok hx;have hv:r[j]? =some r[j]:=List.getElem?_eq_getElem (by omega);refine ⟨r,r[j],h4,hv,cs,h1,?_⟩;have hc:(cs.map SV.raw)[i*k+j]? =some (.raw r[j]):=by
  rw [List.getElem?_map];have :cs[i*k+j]? =some r[j]:=by rw [← hv,← h2,List.getElem?_take,if_pos hj,List.getElem?_drop]
  rw [this];rfl
 unfold iB;rw [hu]
 cases d<;>simp_all [jS]
theorem ez {d:TypeDesc} (hu:P.underlying T=some d) (hd:jS d=false) {v:Value} (h:vs[p]? =some v):gA P T vs p (.raw v):=by
 unfold gA iB;rw [hu]
 cases d<;>simp_all [jS]
theorem yF (hu:(match P.underlying T with |some (.struct _)=>true|_=>false)=true) (hs:(P.info? T).map (·.size)=some k) (hr:(vs.drop p).take k=r) (hl:r.length=k):gA P T vs p (.agg (r.map .raw)):=
 qK hu hs (by rw [← List.map_drop,← List.map_take,hr]) (by rw [List.length_map,hl])
theorem AM (LX:∀ r∈rs,r.length=k) (hi:i<rs.length) (hl:r.length=k):bj rs.flatten (i*k) r=(rs.set i r).flatten:=by unfold bj;rw [nU LX,hl,show i*k+k=(i+1)*k by rw [Nat.add_mul];omega,nT LX,List.set_eq_take_append_cons_drop,if_pos hi,List.flatten_append,List.flatten_cons,List.append_assoc]
theorem Et {l:List α} {x:α} (h:l[i]? =some x):l.take (i+1)=l.take i++[x]:=by obtain ⟨h1,h2⟩:=List.getElem?_eq_some_iff.1 h;rw [List.take_succ_eq_append_getElem h1,h2]
end
end Go.Sx
namespace Go.Sx
open Go
variable {bx:List aR} {E:Mem} {ρ:Env} {i p n:Nat} {w0 w:World} {mu:Fm} {us:Lv} {row:Row} {f:FuncId} {K:KT} {args:List SV} {e:TypeId} {P:Program}
theorem Rel.LZ (h:Rel w0 mu bx E ρ w) {b:aR} {r:Row} (hb:bx[i]? =some b)
  (hr:SV.bF ρ r.cells=SV.bF ρ b.cells):Rel w0 mu (bx.set i { b with row:=r }) E ρ w:=by
 have hi:i<bx.length:=eC hb;obtain ⟨oa,hρ⟩:∃ oa,ρ[i]? =some oa:=⟨_,List.getElem?_eq_getElem (by rw [h.len];exact hi)⟩;have gG:=h.box i b oa hb hρ;have hd:∃ vs,SV.bF ρ b.cells=some vs:=by
  cases oa with
  | none=>exact ⟨[],by rw [gG.1];rfl⟩
  | some a=>obtain ⟨_,vs,h2,_⟩:=gG;exact ⟨vs,h2⟩
 obtain ⟨vs,hd⟩:=hd;have Qb:SV.bF ρ r.cells=some vs:=by rw [hr,hd]
 have hl:r.cells.length=b.cells.length:=by rw [← bN hd,← bN Qb]
 have mQ:({ b with row:=r }:aR).live=b.live:=by simp only [aR.live,aR.cells] at hl ⊢;congr 2;rcases h1:r.cells with _|⟨x,xs⟩<;>rcases h2:b.row.cells with _|⟨y,ys⟩<;>simp_all
 have key:∀ {j:Nat} {b':aR},(bx.set i { b with row:=r })[j]? =some b'->∃ b2,bx[j]? =some b2/\b2.own=b'.own/\b2.live=b'.live:=by
  intro j b' h1;by_cases hj:i=j
  ·subst hj;rw [List.getElem?_set_self hi] at h1;simp only [Option.some.injEq] at h1;subst h1;exact ⟨b,hb,rfl,mQ.symm⟩
  ·rw [List.getElem?_set_ne hj] at h1;exact ⟨b',h1,rfl,rfl⟩
 refine ⟨h.keep,by simpa using h.len,λj b' TI h1 h2=>?_,λj b' a h1 ho h2=>?_,h.hold,λj b' a h1 hv h2=>?_,h.src⟩
 ·by_cases hj:i=j
  ·subst hj;rw [List.getElem?_set_self hi] at h1;simp only [Option.some.injEq] at h1;subst h1;rw [hρ] at h2;cases h2
   cases oa with
   | none=>
    refine ⟨?_,gG.2⟩;have :vs=[]:=by have:=hd;rw [gG.1] at this;simp only [SV.bF,Option.some.injEq] at this;exact this.symm
    rw [this] at Qb;exact List.eq_nil_of_length_eq_zero (bN Qb).symm
   | some a=>
    obtain ⟨h3,us,h4,h5⟩:=gG;have h4':=h4;rw [hd] at h4';cases h4';exact ⟨h3,vs,Qb,h5⟩
  ·rw [List.getElem?_set_ne hj] at h1;exact h.box j b' TI h1 h2
 ·obtain ⟨b2,k1,k2,k3⟩:=key h1;obtain ⟨t1,t2,t3⟩:=h.sep j b2 a k1 (by rw [k2];exact ho) h2;refine ⟨t1,λm b3 a3 hm m1 m2 m3=>?_,t3⟩;obtain ⟨b4,q1,q2,q3⟩:=key m1;exact t2 m b4 a3 hm q1 (by rw [q3];exact m2) m3
 ·obtain ⟨b2,k1,k2,k3⟩:=key h1;exact h.jM j b2 a k1 (by rw [k3];exact hv) h2
def Cl (us:Lv) (row r q:Row):Prop:=∀ ρ,SV.bF ρ row.cells=some us->SV.bF ρ r.cells=SV.bF ρ q.cells
def tQ (r:Row) (off:Nat) (ws:Lv):Row:=match r with
 | .ae l=>.ae (lay l off (ws.map .raw))
 | .vals vs=>.vals (bj vs off ws)
theorem wQ {l pc:List SV} {ws:Lv} (h:SV.bF ρ l=some us) (hp:SV.bF ρ pc=some ws) (off:Nat):SV.bF ρ (lay l off pc)=some (bj us off ws):=by have hl:=bN hp;unfold lay bj;rw [hl];exact dQ (dQ (ir h off) hp) (iL h _)
theorem Cl.id:Cl us row (.vals us) row:=λρ h=>by rw [h];exact bU us
theorem Cl.bj (off:Nat) (ws:Lv):Cl us row (.vals (bj us off ws)) (tQ row off ws):=λρ h=>by
 rw [show (Row.vals (Go.Sx.bj us off ws)).cells=(Go.Sx.bj us off ws).map .raw from rfl,bU]
 cases row with
 | ae l=>exact (wQ h (bU ws) off).symm
 | vals vs=>
  have :vs=us:=by rw [show (Row.vals vs).cells=vs.map .raw from rfl,bU] at h;exact Option.some.inj h
  subst this;exact (bU _).symm
theorem Cl.lay {us:Lv} {l:List SV} (off:Nat) (pc:List SV):Cl us (.ae l) (.ae (lay (us.map .raw) off pc)) (.ae (lay l off pc)):=λρ h=>by
 cases hp:SV.bF ρ pc with
 | some ws=>
  show SV.bF ρ (Sx.lay (us.map .raw) off pc)=SV.bF ρ (Sx.lay l off pc);rw [wQ (bU us) hp];exact (wQ h hp off).symm
 | none=>
  have bad:∀ (a c:List SV) (x y:Lv),SV.bF ρ a=some x->SV.bF ρ c=some y->SV.bF ρ (a++pc++c)=none:=by
   intro a
   induction a with
   | nil=>
    intro c x y _ hc;rw [List.nil_append];clear h
    induction pc with
    | nil=>simp [SV.bF] at hp
    | cons p pc ih=>
     simp only [SV.bF] at hp;rw [List.cons_append];simp only [SV.bF]
     cases h1:SV.den ρ p with
     | none=>rfl
     | some v=>
      rw [h1] at hp
      cases h2:SV.bF ρ pc with
      | none=>rw [ih h2]
      | some ws=>rw [h2] at hp;cases hp
   | cons s a ih=>
    intro c x y ha hc;simp only [SV.bF] at ha;split at ha
    ·rename_i v ws h1 h2;rw [List.cons_append,List.cons_append];simp only [SV.bF,h1,ih c ws y h2 hc]
    ·cases ha
  exact (bad _ _ _ _ (ir (bU us) off) (iL (bU us) _)).trans (bad _ _ _ _ (ir h off) (iL h _)).symm
theorem aj.opened {tot:Nat} {o:Bool} (hb:bx[p]? =some ⟨e,row,tot,o⟩) (r0:Lv->Row) (h0:∀ us,(r0 us).cells=us.map .raw)
  (h:∀ us:Lv,us.length=row.cells.length->(∀ (i:Nat) v,row.cells[i]? =some (.raw v)->us[i]? =some v)->
   aj P f args (bx.set p ⟨e,r0 us,tot,o⟩) E λs bA E'=>∃ r q,(bA[p]? =some ⟨e,r,tot,o⟩/\Cl us row r q)/\K s (bA.set p ⟨e,q,tot,o⟩) E'):aj P f args bx E K:=by
 intro w0 mu ρ w vs hR hv;have hi:p<bx.length:=eC hb;obtain ⟨oa,hρ⟩:∃ oa,ρ[p]? =some oa:=⟨_,List.getElem?_eq_getElem (by rw [hR.len];exact hi)⟩;have gG:=hR.box p _ oa hb hρ;have hd:∃ us,SV.bF ρ row.cells=some us:=by
  cases oa with
  | none=>exact ⟨[],by rw [show row.cells=[] from gG.1];rfl⟩
  | some a=>obtain ⟨_,us,h2,_⟩:=gG;exact ⟨us,h2⟩
 obtain ⟨us,hd⟩:=hd;have Bm:=hR.LZ (r:=r0 us) hb (by rw [h0,bU];exact hd.symm);refine (h us (bN hd) (λi v hv=>?_) w0 mu ρ w vs Bm hv).mono λe' w' hp=>?_
 ·obtain ⟨v',g1,g2⟩:=kJ hd hv;simp only [SV.den,Option.some.injEq] at g2;subst g2;exact g1
 ·obtain ⟨v,s,bA,E',ρ',rfl,hpre,hs,iT,r,q,⟨g1,g2⟩,hK⟩:=hp;refine ⟨v,s,_,E',ρ',rfl,hpre,hs,?_,hK⟩;have:=iT.LZ (r:=q) g1 (g2 ρ' (SV.iK hpre _ hd)).symm;exact this
theorem aj.uG
  (h:aj P f args bx E λs bA E'=>∃ b y cs,(bA[b]? =some y/\y.row.val=some cs)/\∀ base mN,Mem.le E' mN->gD mN base cs->K (s.subst b base) ((bA.set b { y with own:=false }).map (aR.subst b base)) mN):aj P f args bx E K:=by
 refine λw0 mu ρ w vs hR hv=>?_;refine (h w0 mu ρ w vs hR hv).mono λe w' hp=>?_;obtain ⟨v,s,bA,E',ρ',rfl,hpre,hs,iT,b,y,cs,⟨g1,g2⟩,hK⟩:=hp;obtain ⟨base,mN,hρ,hle,hw,Bm⟩:=iT.xL g1 g2;exact ⟨v,_,_,mN,ρ',rfl,hpre,lM hρ s hs,Bm,hK base mN hle hw⟩
theorem uH {p:Nat} {X:aR}:∀ (σ:List Nat) (bx bs:List aR),(∃ i,σ[i]? =some p/\i<bs.length)->fj (bx.set p X) σ bs=fj bx σ bs
 | [],_,_,⟨i,h,_⟩=>by simp at h
 | k::σ,bx,[],⟨i,_,h⟩=>by simp at h
 | k::σ,bx,b::bs,⟨i,h1,h2⟩=>by
  simp only [fj];by_cases hk:k=p
  ·subst hk;rw [List.set_set]
  ·rw [List.set_comm _ _ (Ne.symm hk)];refine uH σ _ bs ?_
   cases i with
   | zero=>simp at h1;exact absurd h1 hk
   | succ i=>exact ⟨i,by simpa using h1,by simpa using h2⟩
theorem fP {α:Type} {l t:List α} {x y:α} (h:p<l.length):(l.set p x++t).set p y=l.set p y++t:=by rw [List.set_append_left _ _ (by simpa using h),List.set_set]
theorem aj.ry {args':List SV} {pH:List aR} {σ:List Nat} {k:Nat} {t:Nat} (r0:Lv->Row) (h0:∀ us,(r0 us).cells=us.map .raw)
  (hb:bx[p]? =some ⟨e,row,t,true⟩) (hk:σ[k]? =some p) (hn:σ.Nodup) (hl:pH.length=σ.length)
  (qR:∀ (i:Nat) (b:aR),i≠k->pH[i]? =some b->b.own=true/\∃ j:Nat,σ[i]? =some j/\bx[j]? =some (b.cD σ bx.length)) (ha:args=SV.dL σ bx.length args')
  (h:∀ us:Lv,us.length=row.cells.length->(∀ (i:Nat) v,row.cells[i]? =some (.raw v)->us[i]? =some v)->
   aj P f args' (pH.set k ⟨e,r0 us,t,true⟩) E (bT σ.length λs bs' E'=>∃ r q,(bs'[k]? =some ⟨e,r,t,true⟩/\Cl us row (r.cD σ bx.length) q)/\K (s.cD σ bx.length) ((merge σ bx bs').set p ⟨e,q,t,true⟩) E')):aj P f args bx E K:=by
 refine aj.opened hb r0 h0 λus h1 h2=>?_;have hp:p<bx.length:=eC hb;have hkl:k<pH.length:=by rw [hl];exact eC hk
 have hlen:(bx.set p ⟨e,r0 us,t,true⟩).length=bx.length:=by simp
 have hkk:=h us h1 h2;rw [← hl,show pH.length=(pH.set k ⟨e,r0 us,t,true⟩).length by simp] at hkk;refine frame (pH:=pH.set k ⟨e,r0 us,t,true⟩) ⟨hn,by simpa using hl,λi b LN=>?_⟩ (by rw [hlen];exact ha) hkk.fM ?_
 ·by_cases hi:i=k
  ·subst hi;rw [List.getElem?_set_self hkl] at LN;simp only [Option.some.injEq] at LN;subst LN;refine ⟨rfl,p,hk,?_⟩;rw [List.getElem?_set_self hp];have :(r0 us).cD σ (bx.set p ⟨e,r0 us,t,true⟩).length=r0 us:=by
    have h3:=h0 us
    cases hr:r0 us with
    | ae l=>
     rw [hr] at h3;simp only [Row.cells] at h3;subst h3;simp only [Row.cD,vP]
    | vals vs=>rfl
   simp only [aR.cD,this]
  ·rw [List.getElem?_set_ne (Ne.symm hi)] at LN;obtain ⟨g1,j,g2,g3⟩:=qR i b hi LN;refine ⟨g1,j,g2,?_⟩;rw [List.getElem?_set_ne ?_,hlen];exact g3;rintro rfl;exact hi ((List.getElem?_inj (eC hk) hn).1 (hk.trans g2.symm)).symm
 ·rintro s bs' E' ⟨r,q,⟨g1,g2⟩,hK⟩;rw [hlen];have gt:(bs'.take σ.length)[k]? =some ⟨e,r,t,true⟩:=by rw [List.getElem?_take_of_lt (eC hk)];exact g1
  have hm:merge σ (bx.set p ⟨e,r0 us,t,true⟩) bs'=merge σ bx bs':=by unfold merge;rw [uH σ bx _ ⟨k,hk,by rw [List.length_map];exact eC gt⟩,hlen]
  rw [hm];refine ⟨_,q,⟨?_,g2⟩,hK⟩;unfold merge;have hsa:=tM σ bx ((bs'.take σ.length).map (aR.cD σ bx.length)) k p _ hn hk hp (by rw [List.getElem?_map,gt];rfl);rw [List.getElem?_append_left (by rw [iM];exact hp)];exact hsa
theorem aj.hand {args':List SV} {pH:List aR} {σ:List Nat} (hp:Part σ bx pH) (ha:args=SV.dL σ bx.length args')
  (h:aj P f args' pH E (bT σ.length λs bs' E'=>K (s.cD σ bx.length) (merge σ bx bs') E')):aj P f args bx E K:=by
 rw [← hp.len] at h;exact frame hp ha h.fM λ_ _ _ g=>g
theorem aj.mono {K':KT} (h:aj P f args bx E K) (hk:∀ s bA E',K s bA E'->K' s bA E'):aj P f args bx E K':=by intro w0 mu ρ w vs hR hv;refine (h w0 mu ρ w vs hR hv).mono λe w' hp=>?_;obtain ⟨v,s,bA,E',ρ',rfl,hpre,hs,iT,hK⟩:=hp;exact ⟨v,s,bA,E',ρ',rfl,hpre,hs,iT,hk _ _ _ hK⟩
theorem aj.nV {K':KT} (h:aj P f args bx E (bT n K)) (hk:∀ s bA E',K s bA E'->K' s bA E'):aj P f args bx E (bT n K'):=
 h.mono λ_ _ _ ⟨τ,s',bA,E',h1,h2⟩=>⟨τ,s',bA,E',h1,hk _ _ _ h2⟩
end Go.Sx
namespace Go.Sx
open Go Go.Sx
set_option maxRecDepth 100000
variable {P:Program} {ak:cK} {all:Array Oper}
variable {w0 w:World} {mu:Fm} {dr:Env} {n0 n:Nat} {fn:Func}
def AN (F:St->Prop) (S:St):Prop:=F S\/∃ b y cs,(S.bx[b]? =some y/\y.row.val=some cs)/\∀ (base:Oa) (E':Mem),Mem.le S.E E'->gD E' base cs->F ⟨S.fr.map (Option.map (SV.subst b base)),(S.bx.set b { y with own:=false }).map (aR.subst b base),E'⟩
theorem gz.Vx {F:St->Prop} {a:Act} (h:gz w0 mu dr (AN F) a w):gz w0 mu dr F a w:=by
 obtain ⟨hd,S,ρ,hp,hR,hF,h⟩:=h;rcases h with h|⟨b,y,cs,⟨g1,g2⟩,hK⟩
 ·exact ⟨hd,S,ρ,hp,hR,hF,h⟩
 ·obtain ⟨base,E',hρ,hle,hw,Bm⟩:=hR.xL g1 g2;refine ⟨hd,_,ρ,hp,Bm,⟨by rw [List.length_map];exact hF.1,λi s hs=>?_⟩,hK base E' hle hw⟩;rw [List.getElem?_map] at hs
  cases q:S.fr[i]? with
  | none=>rw [q] at hs;cases hs
  | some o=>
   rw [q] at hs
   cases o with
   | none=>cases hs
   | some s'=>
    simp only [Option.map_some,Option.some.injEq] at hs;subst hs;obtain ⟨v,h1,h2⟩:=hF.2 i s' q;exact ⟨v,h1,lM hρ s' h2⟩
theorem Gr {Ω:Option Rc} (dP:ja Ω P ak) {w0:World} {mu:Fm} {dr:Env} (pN:mu.om=Ω/\xJ Ω dr) {AO:Array Bool->St->Prop} {K:St->Prop}
  (hstep:∀ (L:Array Bool) (i:Nat) (o:Oper) (S:St),all[i]? =some o->i∈Region.ready .any all L->AO L S->kj P ak all o S (AN (AO (L.setIfInBounds i true))))
  (BY:∀ (L:Array Bool) (S:St),Region.ready .any all L=[]->AO L S->K S):
  ∀ (n:Nat) (L:Array Bool),(∃ U:List Nat,(∀ k,L.getD k true=false->k∈U)/\U.length<=n)->∀ (a:Act) (w:World),gz w0 mu dr (AO L) a w->
   wpAnyIn Fence.wide 0 P .any all (λe a w=>match e with | .normal=>gz w0 mu dr K a w|_=>False) n L a w
 | 0,L,hU,a,w,h=>by
  obtain ⟨U,h1,h2⟩:=hU;have hU0:U=[]:=List.eq_nil_of_length_eq_zero (by omega);subst hU0;have hr:Region.ready .any all L=[]:=by
   cases q:Region.ready .any all L with
   | nil=>rfl
   | cons i l=>exact absurd (h1 i (bK (ops:=all) (by rw [q];exact List.mem_cons_self))) (by simp)
  obtain ⟨hd,S,ρ,hp,hR,hF,hf⟩:=h;exact ⟨hr,hd,S,ρ,hp,hR,hF,BY L S hr hf⟩
 | n+1,L,hU,a,w,h=>by
  refine ⟨λhr=>?_,λi hi=>?_⟩
  ·obtain ⟨hd,S,ρ,hp,hR,hF,hf⟩:=h;exact ⟨hd,S,ρ,hp,hR,hF,BY L S hr hf⟩
  ·have rF:=bK hi;have C6:∃ U:List Nat,(∀ k,(L.setIfInBounds i true).getD k true=false->k∈U)/\U.length<=n:=by
    obtain ⟨U,h1,h2⟩:=hU;have LS:=h1 i rF;have hpos:0<U.length:=List.length_pos_of_mem LS;refine ⟨U.erase i,λk hk=>?_,?_⟩
    ·rw [j6] at hk;simp only [Bool.or_eq_false_iff,decide_eq_false_iff_not] at hk;exact (List.mem_erase_of_ne (Ne.symm hk.2)).2 (h1 k hk.1)
    ·rw [List.length_erase_of_mem LS];omega
   have lG:∀ a' w',gz w0 mu dr (AN (AO (L.setIfInBounds i true))) a' w'->wpAnyIn Fence.wide 0 P .any all (λe a w=>match e with | .normal=>gz w0 mu dr K a w|_=>False) n (L.setIfInBounds i true) a' w':=
    λa' w' hl=>Gr dP pN hstep BY n _ C6 a' w' hl.Vx
   unfold wpOpIn
   cases ho:all[i]? with
   | none=>
    obtain ⟨_,o,FV,_⟩:=mem_ready.1 hi;rw [ho] at FV;cases FV
   | some o=>
    dsimp only;obtain ⟨hd,S,ρ,hp,hR,hF,hf⟩:=h;have hst:=mW (P:=P) (all:=all) (Q:=λe a w=>match e with | .normal=>gz w0 mu dr K a w|_=>False) dP (o:=o) (K:=AN (AO (L.setIfInBounds i true))) (w0:=w0) (mu:=mu) (dr:=dr) (a:=a) (w:=w) (ro:=none) pN ⟨hd,S,ρ,hp,hR,hF,hstep L i o S ho hi hf⟩
    split
    ·rename_i hw;rw [if_pos hw] at hst;exact Oper.wpIn_mono lG hst
    ·rename_i hw;rw [if_neg hw] at hst;exact ⟨λ_ _=>trivial,lG _ _ hst⟩
theorem Gs {Ω:Option Rc} (dP:ja Ω P ak) (hm:P.follows .mixedOrders=true) {id:Nat} {y:Code} {Q:Ex->St->Prop} {S0:St} (AO:Array Bool->St->Prop)
  (h0:AO (Array.replicate all.size false) S0)
  (hstep:∀ (L:Array Bool) (i:Nat) (o:Oper) (S:St),all[i]? =some o->i∈Region.ready .any all L->AO L S->kj P ak all o S (AN (AO (L.setIfInBounds i true))))
  (BY:∀ (L:Array Bool) (S:St),Region.ready .any all L=[]->AO L S->rE P Ω n0 y Q S):rE P Ω n0 (.seq (.region id all true) y) Q S0 where
 out w0 mu dr a w hn hl ho:=by
  obtain ⟨hd,S,ρ,hp,hR,hF,e⟩:=hl;subst e;have h1:(Code.region id all true).wpIn Fence.wide 0 P (λe a w=>match e with | .normal=>gz w0 mu dr (λS'=>rE P Ω n0 y Q S') a w|_=>False) a w:=by
   refine wpIn_region_any hm ?_;exact Gr dP ho hstep BY all.size (Array.replicate all.size false) ⟨List.range all.size,λk hk=>by
    rcases Nat.lt_or_ge k all.size with q|q
    ·exact List.mem_range.2 q
    ·simp [Nat.not_lt.2 q] at hk,by simp⟩ a _ ⟨hd,S,ρ,hp,hR.drew _,hF,h0⟩
  refine wpIn_seq (Code.wpIn_mono (λe a' w' x=>?_) h1)
  cases e with
  | normal=>
   obtain ⟨tD,S',ρ',qZ,iT,mM,hc⟩:=x;exact hc.out w0 mu dr a' w' hn ⟨tD,S',ρ',qZ,iT,mM,rfl⟩ ho
  | _=>exact x.elim
theorem NM {C:Cx} (hC:bX C) {p:List Nat} {n0:Nat} {K:KT} {S0:St} {id:Nat} {all:Array Oper} (hs:sub (jq fn) p= .seq (.region id all true) .ret) (AO:Array Bool->St->Prop)
  (h0:AO (Array.replicate all.size false) S0)
  (hstep:∀ (L:Array Bool) (i:Nat) (o:Oper) (S:St),all[i]? =some o->i∈Region.ready .any all L->AO L S->kj C.P (rf C n) all o S (AN (AO (L.setIfInBounds i true))))
  (BY:∀ (L:Array Bool) (S:St),Region.ready .any all L=[]->AO L S->gW C.P (lZ C n) C.eo { C.opt with base:=n0 } (jq fn) p (ri C.P fn K) .ret S):Ct C n fn p n0 K S0:=by
 unfold Ct;rw [hs];exact Gs (jc n hC) hC.wide AO h0 hstep λL S h1 h2=>wJ (un:={ C.opt with base:=n0 }) (jc n hC) hC.wide (inl:=C.eo) (BY L S h1 h2)
end Go.Sx
