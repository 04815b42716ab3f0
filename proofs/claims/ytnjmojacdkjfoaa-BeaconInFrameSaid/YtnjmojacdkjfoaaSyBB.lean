/- The symbolic evaluator: a part of it; generic over programs. Conditions: none. -/
import Derived.Test.YtnjmojacdkjfoaaSyV
import Derived.Lib.MakeNoZero
import Derived.Lib.Overlaps
namespace Go.Sx
open Go
variable {w w0:World} {n0 n l c i:Nat} {ρ0:Env} {mu:Fm} {bx:List Box} {f:FuncId} {E:Mem} {P:Program} {K:KT} {args:List SV} {vs:List Value} {e T:TypeId} {b:Option Addr} {zs:List Int}
def cloK (n0:Nat) (K:KT):KT:=fun s bx E=>∃ τ s' bx' E',St.wk n0 τ ⟨[some s],bx,E⟩ ⟨[some s'],bx',E'⟩/\K s' bx' E'
theorem Lift_wk {τ:Tau} {S T:St} (hw:S.wk n0 τ T) {a:Act} (hn:ρ0.length<=n0)
  (h:Lift w0 mu ρ0 (fun S'=>S'=S) a w):Lift w0 mu ρ0 (fun S'=>S'=T) a w:=
 (AtP_wk (n0:=n0) (Φ:=fun w0 mu ρ0 a w=>Lift w0 mu ρ0 (fun S'=>S'=T) a w) hw ⟨fun _ _ _ _ _ _ h=>h⟩).out w0 mu ρ0 a w hn h
theorem CallSem.clo (h:CallSem P f args bx E (cloK bx.length K)):CallSem P f args bx E K:=by
 refine fun w0 mu ρ w vs hR hv=>?_
 refine (h w0 mu ρ w vs hR hv).mono fun e w' hp=>?_
 obtain ⟨v,s,bx',E',ρ',rfl,hpre,hs,hR',τ,s',bx'',E'',hw,hK⟩:=hp
 have hl:Lift w0 ⟨mu.mu,mu.E0,none,[]⟩ ρ (fun S'=>S'=(⟨[some s],bx',E'⟩:St)) { tmps:=#[v],defers:=[] } w':=
  ⟨⟨rfl,trivial⟩,_,ρ',hpre,Rel.cast (mu:=mu) rfl rfl hR',⟨rfl,fun i t ht=>by
   match i,ht with
   | 0,ht=>simp at ht;subst ht;exact ⟨v,rfl,hs⟩⟩,rfl⟩
 obtain ⟨_,_,ρ2,hp2,hR2,hF2,rfl⟩:=Lift_wk hw (by rw [hR.len];exact Nat.le_refl _) hl
 obtain ⟨v2,h1,h2⟩:=hF2.2 0 s' rfl
 simp at h1;subst h1
 exact ⟨v,s',bx'',E'',ρ2,rfl,hp2,h2,Rel.cast (mu:=⟨mu.mu,mu.E0,none,[]⟩) rfl rfl hR2,hK⟩
theorem cloK_intro (τ:Tau) {s s':SV} {bx':List Box} {E':Mem} (h:K s' bx' E') (hw:St.wk n0 τ ⟨[some s],bx,E⟩ ⟨[some s'],bx',E'⟩):cloK n0 K s bx E:=⟨τ,s',bx',E',hw,h⟩
theorem CallSem.own1 {b:Nat} {tot cap:Nat} {rest:List SV} {restv:List Value} (hb:bx[b]? =some ⟨e,.vals vs,tot,true⟩) (hr:SV.valL rest=some restv)
  (h:CallSem P f (.slc 0 0 n cap::rest) [⟨e,.vals vs,tot,true⟩] E (cloK 1 fun s bx' E'=>∃ n' cap' vs' tot',s= .slc 1 0 n' cap'/\bx'=[⟨e,.lst [],0,false⟩,⟨e,.vals vs',tot',true⟩]/\K (.slc bx.length 0 n' cap') (bx.set b ⟨e,.lst [],0,false⟩++[⟨e,.vals vs',tot',true⟩]) E')):
  CallSem P f (.slc b 0 n cap::rest) bx E K:=by
 refine frame (σ:=[b]) ⟨by simp,rfl,fun i y hy=>?_⟩ ?_ h.clo ?_
 ·match i,hy with
  | 0,hy=>
   simp only [List.getElem?_cons_zero,Option.some.injEq] at hy;subst hy
   exact ⟨rfl,b,rfl,hb⟩
 ·simp only [SV.renL,SV.ren,renF,List.getElem?_cons_zero,renL_of_val _ _ _ hr]
 ·rintro s bxs' E' ⟨n',cap',vs',tot',rfl,rfl,hK⟩
  simpa [merge,setAll,SV.ren,renF,Box.ren,Row.ren,SV.renL] using hK
theorem CallSem.own0 {argv:List Value} (hr:SV.valL args=some argv)
  (h:CallSem P f args [] E (cloK 0 fun s bx' E'=>∃ n' cap' e vs' tot',s= .slc 0 0 n' cap'/\bx'=[⟨e,.vals vs',tot',true⟩]/\K (.slc bx.length 0 n' cap') (bx++[⟨e,.vals vs',tot',true⟩]) E')):
  CallSem P f args bx E K:=by
 refine frame0 hr h.clo ?_
 rintro s bxs' E' ⟨n',cap',e,vs',tot',rfl,rfl,hK⟩
 simpa [SV.ren,renF,Box.ren,Row.ren] using hK
def Bs (E:Mem) (b:Option Addr) (l c:Nat) (zs:List Int):Prop:=(zs=[]\/E (.slice b l c) (zs.map (.int .u8)))/\zs.length=l/\l<=c/\(∀ z∈zs,0<=z/\z<=255)/\(b=none->zs=[])
theorem Bs.mono {E':Mem} (h:Bs E b l c zs) (he:Mem.le E E'):Bs E' b l c zs:=⟨h.1.imp_right (he _ _),h.2⟩
theorem Bs.nil (E:Mem):Bs E none 0 0 []:=⟨.inl rfl,rfl,Nat.le_refl _,(fun z hz=>by cases hz),fun _=>rfl⟩
theorem Bs.src (h:Bs E b l c zs):(zs.map (Value.int .u8)=[]\/E (.slice b l c) (zs.map (.int .u8)))/\l*1<=(zs.map (Value.int .u8)).length/\∀ x:Value,List.Mem x (zs.map (.int .u8))->x.oneCell'=true:=
 ⟨h.1.imp_left fun e=>by rw [e];rfl,by simp [h.2.1],fun x hx=>by
  obtain ⟨z,_,rfl⟩:=List.mem_map.1 hx
  rfl⟩
theorem Bs.win {base:Option Addr} {cs:List Value} (h:WinE E base cs) (e:cs=zs.map (.int .u8)) (hl:zs.length=l) (hc:l<=c) (hz:∀ z∈zs,0<=z/\z<=255):Bs E (base.map fun x=>x.add 0) l c zs:=by
 subst e
 have:=h.2 0 zs.length l c (by simp)
 simp only [List.drop_zero] at this
 rw [List.take_of_length_le (by simp)] at this
 exact ⟨.inr this,hl,hc,hz,fun e=>by
  cases base with
  | none=>have:=h.1 rfl;rw [List.map_eq_nil_iff] at this;exact this
  | some a=>cases e⟩
theorem Bs.load (h:Bs E b l c zs) (ht:P.underlying T=some (.int .u8)) (hi:i<l):LoadE P E T (.slice b l c) (i*1) (.raw (.int .u8 (zs.getD i 0))):=by
 have hl:i<zs.length:=by rw [h.2.1];exact hi
 refine ⟨_,h.1.resolve_left (fun e=>by rw [e] at hl;cases hl),?_⟩
 unfold loadW
 rw [ht]
 simp [hl]
theorem Bs.ne (h:Bs E b l c zs) (hi:i<l):∃ cs,E (.slice b l c) cs/\(cs=[]->False):=by
 have hl:i<zs.length:=by rw [h.2.1];exact hi
 exact ⟨_,h.1.resolve_left (fun e=>by rw [e] at hl;cases hl),fun e=>by rw [List.map_eq_nil_iff] at e;rw [e] at hl;cases hl⟩
theorem Bs.of {W:World} (hl:l<=c) (hb:b=none->c=0) (hz:zs.length=c) (hw:∀ x∈zs,(Lit.int .u8 x).wf=true) (hE:RowAt W (.slice b l c) (zs.map (.int .u8))):
  Bs (fun v cs=>RowAt W v cs) b l c (zs.take l):=by
 refine ⟨?_,by rw [List.length_take,hz];omega,hl,fun z hz'=>?_,fun e=>?_⟩
 ·rcases hE with h|⟨a,len,cap,e,hs,h⟩
  ·rw [List.map_eq_nil_iff] at h;exact .inl (by rw [h];simp)
  ·refine .inr (.inr ⟨a,len,cap,e,hs,fun i x hx=>h i x ?_⟩)
   rw [List.map_take,List.getElem?_take] at hx
   split at hx
   ·exact hx
   ·cases hx
 ·have:=hw z (List.take_subset _ _ hz')
  simpa [Lit.wf,IntKind.min,IntKind.max,IntKind.signed,IntKind.bits] using this
 ·have:=hb e
  rw [this] at hz
  rw [List.length_eq_zero_iff.1 hz];simp
end Go.Sx
namespace Go.Sx
open Go
variable {w w0:World} {bx:List Box} {mu:Fm} {E:Mem} {ρ:Env} {f:FuncId} {P:Program} {K:KT} {args:List SV}
theorem Rel.pub (hR:Rel w0 mu bx E ρ w) {b:Nat} {y:Box} (hy:bx[b]? =some y) {cs:List Value} (hcs:y.row.val=some cs):
  ∃ base E',ρ[b]? =some base/\Mem.le E E'/\WinE E' base cs/\Rel w0 mu ((bx.set b { y with own:=false }).map (Box.subst b base)) E' ρ w:=by
 have hi:b<bx.length:=get_lt hy
 have hρ:∃ base,ρ[b]? =some base:=⟨_,List.getElem?_eq_getElem (by rw [hR.len];exact hi)⟩
 obtain ⟨base,hρ⟩:=hρ
 have hbox:=hR.box b y base hy hρ
 have hshare:=hR.share hy
 have hval:=Row.val_den hcs
 have hnil:base=none->cs=[]:=by
  rintro rfl
  have h1:=hbox.1
  have h2:=hval []
  rw [show y.row.cells=[] from h1] at h2
  simp only [SV.denL,Option.some.injEq] at h2
  exact h2.symm
 let E':Mem:=fun v c=>E v c\/∃ off m len cap,off+m<=cs.length/\v=slcAs base off len cap/\c=(cs.drop off).take m
 have hrow:∀ off m len cap,off+m<=cs.length->RowAt w (slcAs base off len cap) ((cs.drop off).take m)/\
   ((cs.drop off).take m≠[]->∃ a,base=some a/\a.spot=none/\y.live=true):=by
  intro off m len cap hle
  cases base with
  | none=>
   have h0:cs=[]:=hnil rfl
   subst h0
   exact ⟨.inl (by simp),fun h=>by simp at h⟩
  | some a=>
   obtain ⟨h1,vs',h2,h3⟩:=hbox.share
   have :vs'=cs:=by
    have:=hval ρ
    rw [show ({ y with own:=false }:Box).cells=y.row.cells from rfl,this] at h2
    cases h2;rfl
   subst this
   simp only [Bool.false_eq_true,if_false] at h3
   constructor
   ·right
    refine ⟨a.add off,len,cap,rfl,by rw [add_eq h1],fun i x hx=>?_⟩
    rw [add_eq h1]
    simp only
    have hi:i<m:=by
     rcases Nat.lt_or_ge i m with q|q
     ·exact q
     ·rw [List.getElem?_eq_none (by simp;omega)] at hx;cases hx
    rw [List.getElem?_take_of_lt hi,List.getElem?_drop] at hx
    rw [Nat.add_assoc]
    exact h3 _ _ hx
   ·intro hne
    refine ⟨a,rfl,h1,?_⟩
    simp only [Box.live,Bool.or_eq_true]
    right
    cases hc:y.cells with
    | nil=>
     have h2:=hval []
     rw [show y.row.cells=[] from hc] at h2
     simp only [SV.denL,Option.some.injEq] at h2
     subst h2;simp at hne
    | cons=>rfl
 have hR':Rel w0 mu (bx.set b { y with own:=false }) E' ρ w:=hshare.addE (fun v c g=>by
   rcases g with g|⟨off,m,len,cap,hle,rfl,rfl⟩
   ·exact hR.hold v c g
   ·exact (hrow off m len cap hle).1) (fun v c g hne=>by
   rcases g with g|⟨off,m,len,cap,hle,rfl,rfl⟩
   ·exact .inl g
   ·right
    obtain ⟨a,rfl,h1,hl⟩:=(hrow off m len cap hle).2 hne
    intro j b' c' g1 g2 g3
    have hj:b≠j:=by
     rintro rfl
     rw [List.getElem?_set_self hi] at g1
     simp only [Option.some.injEq] at g1;subst g1
     simp at g2
    rw [List.getElem?_set_ne hj] at g1
    have:=(hR.sep j b' c' g1 g2 g3).2.1 b y a hj hy hl hρ
    simp only [slcAs,Option.map_some,blk,add_eq h1]
    intro e;simp only [Option.some.injEq] at e;exact this e) (fun v c g hne=>by
   rcases g with g|⟨off,m,len,cap,hle,rfl,rfl⟩
   ·exact hR.src _ _ g hne
   ·obtain ⟨a,rfl,h1,hl⟩:=(hrow off m len cap hle).2 hne
    exact .inl ⟨a.block,by simp only [slcAs,Option.map_some,blk,add_eq h1],hR.bsrc b y a hy hl hρ⟩)
 exact ⟨base,E',hρ,fun _ _ g=>.inl g,⟨hnil,fun off m len cap hle=>.inr ⟨off,m,len,cap,hle,rfl,rfl⟩⟩,hR'.subst hρ⟩
def pubB (K:KT):KT:=fun s bx E=>pubW 16 [s] bx E fun ss bx2 E2=>match ss with
 | [s']=>K s' bx2 E2
 | _=>False
theorem CallSem.pubB (h:CallSem P f args bx E (pubB K)):CallSem P f args bx E K:=by
 refine fun w0 mu ρ w vs hR hv=>?_
 refine (h w0 mu ρ w vs hR hv).mono fun e w' hp=>?_
 obtain ⟨v,s,bx',E',ρ',rfl,hpre,hs,hR',hK⟩:=hp
 obtain ⟨ss,bx2,E2,h5,h6,h7⟩:=pubW_sound 16 [s] bx' E' [v] hK hR' (by simp only [SV.denL,hs])
 split at h7
 case h_2=>exact h7.elim
 rename_i s'
 refine ⟨v,s',bx2,E2,ρ',rfl,hpre,?_,h6,h7⟩
 simp only [SV.denL] at h5
 split at h5
 ·rename_i x ys e1 e2
  simp only [Option.some.injEq,List.cons.injEq] at e2 h5
  rw [e1,h5.1]
 ·cases h5
end Go.Sx
namespace Go.Sx
open Go
end Go.Sx
namespace Go.Sx
open Go
variable {bx:List Box} {f:FuncId} {E:Mem} {P:Program} {K:KT} {n i p:Nat} {e T:TypeId} {r vs:List Value}
theorem overlaps_sem {fn : Func} (hf : P.funcs[f]? = some fn) (h1 : (fn.name == "runtime.NumGoroutine") = false) (h2 : fn.body.isNone = true) (h3 : Extern.findNext fn = none) {tS tR : TypeId}
  (h4:Extern.find fn=some (Extern.SlicesOverlaps.overlaps #[tS,tS] #[tR])) (ht:P.underlying tS=some (.slice e)) {i:TypeInfo} (hi:P.info? e=some i)
  {b b' off cap off' n' cap':Nat} {y y':Box} (hb:bx[b]? =some y) (hb':bx[b']? =some y') (ho:y.own=true) (ho':y'.own=true) (hne:b≠b') (htot:0<y'.total)
  (h:K (.raw (.bool false)) bx E):CallSem P f [.slc b off n cap,.slc b' off' n' cap'] bx E K:=by
 intro w0 mu ρ w vs hR hd
 simp only [SV.denL,SV.den] at hd
 split at hd
 case h_2=>cases hd
 rename_i v us hv hus
 split at hus
 case h_2=>cases hus
 rename_i v' us' hv' hus'
 simp only [Option.some.injEq] at hd hus hus'
 subst hus';subst hus;subst hd
 have hz:∀ w,(Go.sizeOf e).run P w= .ok i.size w:=fun w=>run_sizeOf' hi w
 have hrun:(Extern.SlicesOverlaps.overlaps #[tS,tS] #[tR] #[v,v']).run P w= .ok (.bool false) w:=by
  have hnone:∀ a b la ca lb cb,(a=none\/b=none)->(Extern.SlicesOverlaps.overlaps #[tS,tS] #[tR] #[.slice a la ca,.slice b lb cb]).run P w= .ok (.bool false) w:=by
   intro a b la ca lb cb hab
   have hdef:Extern.SlicesOverlaps.overlaps #[tS,tS] #[tR] #[.slice a la ca,.slice b lb cb]=(do
     let some t := (#[tS, tS] : Array TypeId)[0]? | stuck "slices.overlaps: no parameter types"
     let .slice elem ← underlying t | stuck "slices.overlaps: slice type expected"
     let size ← sizeOf elem
     match a,b with
     | some a,some b=>
      if la=0\/lb=0\/size=0 then pure (Value.bool false)
      else if a.block !=b.block&&(← frozen a)&&(← frozen b) then unsupported .addressObserved
      else do
       if a.block !=b.block then do
        noView a;noView b
        if ← mayBeOne a b then return Value.bool ((← choose (.extern "sameAddr.stringBytes" 2)) == 1)
       pure (Value.bool (a.block==b.block&&a.off<b.off+lb*size&&b.off<a.off+la*size))
     | _,_=>pure (Value.bool false)):=rfl
   cases a with
   | none=>rw [hdef];simp [run_underlying ht,hz]
   | some a=>
    cases b with
    | none=>rw [hdef];simp [run_underlying ht,hz]
    | some b=>rcases hab with h|h<;>cases h
  rcases slcDen_some hv with ⟨c,hc,rfl⟩|⟨_,_,_,_,rfl⟩
  ·rcases slcDen_some hv' with ⟨c',hc',rfl⟩|⟨_,_,_,_,rfl⟩
   ·obtain ⟨hsp,ws,hw,k⟩:=hR.box b _ _ hb hc
    obtain ⟨hsp',ws',hw',k'⟩:=hR.box b' _ _ hb' hc'
    rw [if_pos ho] at k
    rw [if_pos ho'] at k'
    obtain ⟨hoff,junk,hheap,hl⟩:=k
    obtain ⟨hoff',junk',hheap',hl'⟩:=k'
    have hblk:=(hR.sep b' _ c' hb' ho' hc').2.1 b y c hne hb (by simp [Box.live,ho]) hc
    rw [add_eq hsp,add_eq hsp']
    refine Lib.run_overlaps_apart w tS tR e ht i.size hz _ _ n cap n' cap' hblk y.elem y'.elem (ws++junk).length (ws'++junk').length ?_ ?_ (by rw [hl'];omega) ?_ ?_
    ·simp [World.shape?,hheap]
    ·simp [World.shape?,hheap']
    ·simp [World.frozen?,hheap]
    ·simp [World.frozen?,hheap]
   ·exact hnone _ _ _ _ _ _ (.inr rfl)
  ·rcases slcDen_some hv' with ⟨c',hc',rfl⟩|⟨_,_,_,_,rfl⟩
   ·exact hnone _ _ _ _ _ _ (.inl rfl)
   ·exact hnone _ _ _ _ _ _ (.inl rfl)
 have hcall:(callFunc f [v,v'].toArray).run P w= .ok (.value (.bool false)) w:=by
  unfold callFunc
  have hr':(Extern.SlicesOverlaps.overlaps #[tS,tS] #[tR] [v,v'].toArray).run P w=_:=hrun
  simp only [Sem.run_bind,run_program,Result.andThen_ok,hf,h1,h2,h3,h4,Bool.false_eq_true,if_false,if_true,run_mark,Sem.run_pure,hr']
 exact .inr ⟨_,_,hcall,_,_,_,E,ρ,rfl,List.prefix_refl _,rfl,hR,h⟩
abbrev RowR (α:Type):=Mem->α->List Value->Prop
structure RowOK {α:Type} (k:Nat) (R:RowR α):Prop where
 mono:∀ {E E':Mem} {x:α} {r:List Value},Mem.le E E'->R E x r->R E' x r
 len:∀ {E:Mem} {x:α} {r:List Value},R E x r->r.length=k
 one:∀ {E:Mem} {x:α} {r:List Value},R E x r->∀ v∈r,v.oneCell'=true
 pos:0<k
def SLr {α:Type} (R:RowR α) (E:Mem) (rs:List (List Value)) (xs:List α):Prop:=rs.length=xs.length/\∀ (i:Nat) r x,rs[i]? =some r->xs[i]? =some x->R E x r
def SL {α:Type} (R:RowR α) (E:Mem) (b:Option Addr) (n c:Nat) (xs:List α):Prop:=
 ∃ rs,SLr R E rs xs/\xs.length=n/\n<=c/\(n=0\/E (.slice b n c) rs.flatten)/\(b=none->n=0)
section
variable {α:Type} {k:Nat} {R:RowR α} {E E':Mem} {rs rt:List (List Value)} {xs ys:List α} {b b':Option Addr} {n c:Nat}
theorem SLr.mono (ok:RowOK k R) (h:SLr R E rs xs) (he:Mem.le E E'):SLr R E' rs xs:=⟨h.1,fun i r x h1 h2=>ok.mono he (h.2 i r x h1 h2)⟩
theorem SLr.nil:SLr R E [] []:=⟨rfl,fun i r x h=>by simp at h⟩
theorem SLr.app (h:SLr R E rs xs) (q:SLr R E rt ys):SLr R E (rs++rt) (xs++ys):=by
 refine ⟨by simp [h.1,q.1],fun i r m g1 g2=>?_⟩
 have hl:=h.1
 by_cases hi:i<rs.length
 ·rw [List.getElem?_append_left hi] at g1
  rw [List.getElem?_append_left (by omega)] at g2
  exact h.2 i r m g1 g2
 ·rw [List.getElem?_append_right (by omega)] at g1
  rw [List.getElem?_append_right (by omega),← hl] at g2
  exact q.2 _ r m g1 g2
theorem SLr.one {x:α} (h:R E x r):SLr R E [r] [x]:=⟨rfl,fun i r' x' g1 g2=>by
 cases i with
 | zero=>simp at g1 g2;subst g1;subst g2;exact h
 | succ i=>simp at g1⟩
theorem SLr.snoc {x:α} (h:SLr R E rs xs) (q:R E x r):SLr R E (rs++[r]) (xs++[x]):=h.app (.one q)
theorem SLr.drop (h:SLr R E rs xs) (i:Nat):SLr R E (rs.drop i) (xs.drop i):=⟨by simp [h.1],fun j r x g1 g2=>by
 rw [List.getElem?_drop] at g1 g2;exact h.2 _ r x g1 g2⟩
theorem SLr.take (h:SLr R E rs xs) (i:Nat):SLr R E (rs.take i) (xs.take i):=⟨by simp [h.1],fun j r x g1 g2=>by
 rw [List.getElem?_take] at g1 g2
 split at g1
 ·rename_i hj;rw [if_pos hj] at g2;exact h.2 _ r x g1 g2
 ·cases g1⟩
theorem SLr.set {x:α} (h:SLr R E rs xs) (i:Nat) (q:R E x r):SLr R E (rs.set i r) (xs.set i x):=⟨by simp [h.1],fun j r' x' g1 g2=>by
 rw [List.getElem?_set] at g1 g2
 by_cases hij:i=j
 ·subst hij
  rw [if_pos rfl] at g1 g2
  have hl:=h.1
  by_cases hi:i<rs.length
  ·rw [if_pos hi] at g1;rw [if_pos (by omega)] at g2;cases g1;cases g2;exact q
  ·rw [if_neg hi] at g1;cases g1
 ·rw [if_neg hij] at g1 g2;exact h.2 _ _ _ g1 g2⟩
theorem flat_len:∀ {rs:List (List Value)},(∀ r∈rs,r.length=k)->rs.flatten.length=rs.length*k
 | [],_=>by simp
 | r::rs,h=>by
  rw [List.flatten_cons,List.length_append,h r (by simp),flat_len (rs:=rs) (fun r hr=>h r (by simp [hr])),List.length_cons,Nat.add_mul];omega
theorem flat_drop:∀ {rs:List (List Value)},(∀ r∈rs,r.length=k)->∀ i,rs.flatten.drop (i*k)=(rs.drop i).flatten
 | [],_,i=>by simp
 | r::rs,h,0=>by simp
 | r::rs,h,i+1=>by
  rw [List.flatten_cons,Nat.add_mul,Nat.one_mul,List.drop_append,List.drop_eq_nil_of_le (by rw [h r (by simp)];omega),List.nil_append,h r (by simp),Nat.add_sub_cancel,flat_drop (rs:=rs) (fun r hr=>h r (by simp [hr])),List.drop_succ_cons]
theorem flat_take:∀ {rs:List (List Value)},(∀ r∈rs,r.length=k)->∀ i,rs.flatten.take (i*k)=(rs.take i).flatten
 | [],_,i=>by simp
 | r::rs,h,0=>by simp
 | r::rs,h,i+1=>by
  rw [List.flatten_cons,Nat.add_mul,Nat.one_mul,List.take_append,List.take_of_length_le (by rw [h r (by simp)];omega),h r (by simp),Nat.add_sub_cancel,flat_take (rs:=rs) (fun r hr=>h r (by simp [hr])),List.take_succ_cons,List.flatten_cons]
theorem SLr.lens (ok:RowOK k R) (h:SLr R E rs xs):∀ r∈rs,r.length=k:=fun r hr=>by
 obtain ⟨i,hi,rfl⟩:=List.getElem_of_mem hr
 have hl:=h.1
 exact ok.len (h.2 i _ _ (List.getElem?_eq_getElem hi) (List.getElem?_eq_getElem (by omega)))
theorem SLr.flat (ok:RowOK k R) (h:SLr R E rs xs):rs.flatten.length=xs.length*k:=by rw [flat_len (h.lens ok),h.1]
theorem SLr.ones (ok:RowOK k R) (h:SLr R E rs xs):∀ v:Value,List.Mem v rs.flatten->v.oneCell'=true:=fun v hv=>by
 obtain ⟨r,hr,hv⟩:=List.mem_flatten.1 hv
 obtain ⟨i,hi,rfl⟩:=List.getElem_of_mem hr
 have hl:=h.1
 exact ok.one (h.2 i _ _ (List.getElem?_eq_getElem hi) (List.getElem?_eq_getElem (by omega))) v hv
theorem SLr.get (ok:RowOK k R) (h:SLr R E rs xs) {x:α} (hx:xs[i]? =some x):∃ r,rs[i]? =some r/\R E x r/\(rs.flatten.drop (i*k)).take k=r:=by
 have hi:i<xs.length:=(List.getElem?_eq_some_iff.1 hx).1
 have hl:=h.1
 have hr:=List.getElem?_eq_getElem (l:=rs) (i:=i) (by omega)
 refine ⟨_,hr,h.2 i _ x hr hx,?_⟩
 rw [flat_drop (h.lens ok),List.drop_eq_getElem_cons (by omega),List.flatten_cons,List.take_append_of_le_length (by rw [h.lens ok _ (List.getElem_mem _)];exact Nat.le_refl _),List.take_of_length_le (by rw [h.lens ok _ (List.getElem_mem _)];exact Nat.le_refl _)]
theorem SL.mono (ok:RowOK k R) (h:SL R E b n c xs) (he:Mem.le E E'):SL R E' b n c xs:=
 let ⟨rs,h1,h2,h3,h4,h5⟩:=h;⟨rs,h1.mono ok he,h2,h3,h4.imp_right (he _ _),h5⟩
theorem SL.nil:SL R E none 0 0 []:=⟨[],SLr.nil,rfl,Nat.le_refl _,.inl rfl,fun _=>rfl⟩
theorem SL.len (h:SL R E b n c xs):xs.length=n:=by obtain ⟨rs,h1,h2,_⟩:=h;exact h2
theorem SL.none (h:SL R E none n c xs):xs=[]:=by
 obtain ⟨rs,h1,h2,h3,h4,h5⟩:=h
 exact List.eq_nil_of_length_eq_zero (by rw [h2];exact h5 rfl)
theorem SL.win (ok:RowOK k R) {base:Option Addr} (h:WinE E base vs) (e:vs=rs.flatten) (hr:SLr R E rs xs) (hn:xs.length=n) (hc:n<=c):SL R E (base.map fun x=>x.add 0) n c xs:=by
 subst e
 have hl:rs.flatten.length=n*k:=by rw [hr.flat ok,hn]
 have:=h.2 0 rs.flatten.length n c (by simp)
 simp only [List.drop_zero] at this
 rw [List.take_of_length_le (Nat.le_refl _)] at this
 refine ⟨rs,hr,hn,hc,.inr this,fun e=>?_⟩
 cases base with
 | none=>
  have h0:=h.1 rfl
  rw [h0] at hl
  have hk:=ok.pos
  rcases Nat.eq_zero_or_pos n with hz|hz
  ·exact hz
  ·have:=Nat.mul_pos hz hk
   simp only [List.length_nil] at hl
   omega
 | some a=>cases e
theorem SL.src (ok:RowOK k R) (h:SL R E b n c xs):∃ rs,SLr R E rs xs/\(rs.flatten=[]\/E (.slice b n c) rs.flatten)/\n*k<=rs.flatten.length/\(∀ x:Value,List.Mem x rs.flatten->x.oneCell'=true)/\rs.length=n:=by
 obtain ⟨rs,h1,h2,h3,h4,h5⟩:=h
 have hl:rs.length=n:=by rw [h1.1,h2]
 refine ⟨rs,h1,?_,by rw [h1.flat ok,h2];exact Nat.le_refl _,h1.ones ok,hl⟩
 rcases h4 with rfl|h4
 ·exact .inl (by rw [List.length_eq_zero_iff.1 hl];rfl)
 ·exact .inr h4
theorem SL.ne (ok:RowOK k R) (h:SL R E b n c xs) (hi:i<n):∃ cs,E (.slice b n c) cs/\(cs=[]->False):=by
 obtain ⟨rs,h1,h2,h3,h4,h5⟩:=h
 refine ⟨_,h4.resolve_left (by omega),fun e=>?_⟩
 have hl:=h1.flat ok
 rw [e,h2] at hl
 have:=ok.pos
 have:=Nat.mul_pos (show 0<n by omega) this
 simp at hl;omega
theorem loadW_row (hu:(match P.underlying T with |some (.struct _)=>true|_=>false)=true) (hi:(P.info? T).map (·.size)=some k) {cs:List SV} {off:Nat} {r:List SV} (hr:(cs.drop off).take k=r) (hl:r.length=k):loadW P T cs off=some (.agg r):=by
 unfold loadW
 split at hu
 ·rename_i fs hfs
  rw [hfs]
  cases hinf:P.info? T with
  | none=>rw [hinf] at hi;cases hi
  | some inf=>
   rw [hinf] at hi
   simp only [Option.map_some,Option.some.injEq] at hi
   simp only [hi,hr,hl,if_true]
 ·cases hu
theorem SL.load (ok:RowOK k R) (h:SL R E b n c xs) {x:α} (hx:xs[i]? =some x):∃ cs r,E (.slice b n c) cs/\(cs.drop (i*k)).take k=r/\r.length=k/\R E x r:=by
 obtain ⟨rs,g1,g2,g3,g4,g5⟩:=h
 have hi:i<xs.length:=(List.getElem?_eq_some_iff.1 hx).1
 obtain ⟨r,_,h2,h3⟩:=g1.get ok hx
 exact ⟨_,r,g4.resolve_left (by omega),h3,ok.len h2,h2⟩
theorem SL.loadE (ok:RowOK k R) (h:SL R E b n c xs) (hu:(match P.underlying T with |some (.struct _)=>true|_=>false)=true) (hs:(P.info? T).map (·.size)=some k) {x:α} (hx:xs[i]? =some x):
  ∃ r,R E x r/\LoadE P E T (.slice b n c) (i*k) (.agg (r.map .raw)):=by
 obtain ⟨cs,r,h1,h2,h3,h4⟩:=h.load ok hx
 exact ⟨r,h4,cs,h1,loadW_row hu hs (by rw [← List.map_drop,← List.map_take,h2]) (by rw [List.length_map,h3])⟩
theorem SL.loadC (ok:RowOK k R) (h:SL R E b n c xs) {d:TypeDesc} (hu:P.underlying T=some d) (hd:isAggD d=false) {j:Nat} {x:α} (hx:xs[i]? =some x) (hj:j<k):
  ∃ r v,R E x r/\r[j]? =some v/\LoadE P E T (.slice b n c) (i*k+j) (.raw v):=by
 obtain ⟨cs,r,h1,h2,h3,h4⟩:=h.load ok hx
 have hv:r[j]? =some r[j]:=List.getElem?_eq_getElem (by omega)
 refine ⟨r,r[j],h4,hv,cs,h1,?_⟩
 have hc:(cs.map SV.raw)[i*k+j]? =some (.raw r[j]):=by
  rw [List.getElem?_map]
  have :cs[i*k+j]? =some r[j]:=by
   rw [← hv,← h2,List.getElem?_take,if_pos hj,List.getElem?_drop]
  rw [this];rfl
 unfold loadW
 rw [hu]
 cases d<;>simp_all [isAggD]
theorem loadV_cell {d:TypeDesc} (hu:P.underlying T=some d) (hd:isAggD d=false) {v:Value} (h:vs[p]? =some v):LoadV P T vs p (.raw v):=by
 unfold LoadV loadW
 rw [hu]
 cases d<;>simp_all [isAggD]
theorem loadV_row (hu:(match P.underlying T with |some (.struct _)=>true|_=>false)=true) (hs:(P.info? T).map (·.size)=some k) (hr:(vs.drop p).take k=r) (hl:r.length=k):LoadV P T vs p (.agg (r.map .raw)):=
 loadW_row hu hs (by rw [← List.map_drop,← List.map_take,hr]) (by rw [List.length_map,hl])
theorem layV_row (hrs:∀ r∈rs,r.length=k) (hi:i<rs.length) (hl:r.length=k):layV rs.flatten (i*k) r=(rs.set i r).flatten:=by
 unfold layV
 rw [flat_take hrs,hl,show i*k+k=(i+1)*k by rw [Nat.add_mul];omega,flat_drop hrs,List.set_eq_take_append_cons_drop,if_pos hi,List.flatten_append,List.flatten_cons,List.append_assoc]
theorem take_get' {l:List α} {x:α} (h:l[i]? =some x):l.take (i+1)=l.take i++[x]:=by
 obtain ⟨h1,h2⟩:=List.getElem?_eq_some_iff.1 h
 rw [List.take_succ_eq_append_getElem h1,h2]
end
end Go.Sx
namespace Go.Sx
open Go
variable {w w0:World} {bx:List Box} {i p n:Nat} {mu:Fm} {E:Mem} {ρ:Env} {us:List Value} {row:Row} {f:FuncId} {P:Program} {K:KT} {e:TypeId} {args:List SV}
theorem Rel.reden (h:Rel w0 mu bx E ρ w) {b:Box} {r:Row} (hb:bx[i]? =some b)
  (hr:SV.denL ρ r.cells=SV.denL ρ b.cells):Rel w0 mu (bx.set i { b with row:=r }) E ρ w:=by
 have hi:i<bx.length:=get_lt hb
 obtain ⟨oa,hρ⟩:∃ oa,ρ[i]? =some oa:=⟨_,List.getElem?_eq_getElem (by rw [h.len];exact hi)⟩
 have hbox:=h.box i b oa hb hρ
 have hd:∃ vs,SV.denL ρ b.cells=some vs:=by
  cases oa with
  | none=>exact ⟨[],by rw [hbox.1];rfl⟩
  | some a=>obtain ⟨_,vs,h2,_⟩:=hbox;exact ⟨vs,h2⟩
 obtain ⟨vs,hd⟩:=hd
 have hd2:SV.denL ρ r.cells=some vs:=by rw [hr,hd]
 have hl:r.cells.length=b.cells.length:=by rw [← denL_length hd,← denL_length hd2]
 have hlive:({ b with row:=r }:Box).live=b.live:=by
  simp only [Box.live,Box.cells] at hl ⊢
  congr 2
  rcases h1:r.cells with _|⟨x,xs⟩<;>rcases h2:b.row.cells with _|⟨y,ys⟩<;>simp_all
 have key:∀ {j:Nat} {b':Box},(bx.set i { b with row:=r })[j]? =some b'->∃ b2,bx[j]? =some b2/\b2.own=b'.own/\b2.live=b'.live:=by
  intro j b' h1
  by_cases hj:i=j
  ·subst hj
   rw [List.getElem?_set_self hi] at h1
   simp only [Option.some.injEq] at h1;subst h1
   exact ⟨b,hb,rfl,hlive.symm⟩
  ·rw [List.getElem?_set_ne hj] at h1;exact ⟨b',h1,rfl,rfl⟩
 refine ⟨h.keep,by simpa using h.len,fun j b' oa' h1 h2=>?_,fun j b' a h1 ho h2=>?_,h.hold,fun j b' a h1 hv h2=>?_,h.src⟩
 ·by_cases hj:i=j
  ·subst hj
   rw [List.getElem?_set_self hi] at h1
   simp only [Option.some.injEq] at h1;subst h1
   rw [hρ] at h2;cases h2
   cases oa with
   | none=>
    refine ⟨?_,hbox.2⟩
    have :vs=[]:=by
     have:=hd
     rw [hbox.1] at this
     simp only [SV.denL,Option.some.injEq] at this;exact this.symm
    rw [this] at hd2
    exact List.eq_nil_of_length_eq_zero (denL_length hd2).symm
   | some a=>
    obtain ⟨h3,us,h4,h5⟩:=hbox
    have h4':=h4
    rw [hd] at h4';cases h4'
    exact ⟨h3,vs,hd2,h5⟩
  ·rw [List.getElem?_set_ne hj] at h1
   exact h.box j b' oa' h1 h2
 ·obtain ⟨b2,k1,k2,k3⟩:=key h1
  obtain ⟨t1,t2,t3⟩:=h.sep j b2 a k1 (by rw [k2];exact ho) h2
  refine ⟨t1,fun m b3 a3 hm m1 m2 m3=>?_,t3⟩
  obtain ⟨b4,q1,q2,q3⟩:=key m1
  exact t2 m b4 a3 hm q1 (by rw [q3];exact m2) m3
 ·obtain ⟨b2,k1,k2,k3⟩:=key h1
  exact h.bsrc j b2 a k1 (by rw [k3];exact hv) h2
def Cl (us:List Value) (row r q:Row):Prop:=∀ ρ,SV.denL ρ row.cells=some us->SV.denL ρ r.cells=SV.denL ρ q.cells
def rowLay (r:Row) (off:Nat) (ws:List Value):Row:=match r with
 | .lst l=>.lst (lay l off (ws.map .raw))
 | .vals vs=>.vals (layV vs off ws)
theorem denL_lay {l pc:List SV} {ws:List Value} (h:SV.denL ρ l=some us) (hp:SV.denL ρ pc=some ws) (off:Nat):SV.denL ρ (lay l off pc)=some (layV us off ws):=by
 have hl:=denL_length hp
 unfold lay layV
 rw [hl]
 exact denL_append (denL_append (denL_take h off) hp) (denL_drop h _)
theorem Cl.id:Cl us row (.vals us) row:=fun ρ h=>by
 rw [h];exact denL_raw us
theorem Cl.layV (off:Nat) (ws:List Value):Cl us row (.vals (layV us off ws)) (rowLay row off ws):=fun ρ h=>by
 rw [show (Row.vals (Go.Sx.layV us off ws)).cells=(Go.Sx.layV us off ws).map .raw from rfl,denL_raw]
 cases row with
 | lst l=>exact (denL_lay h (denL_raw ws) off).symm
 | vals vs=>
  have :vs=us:=by
   rw [show (Row.vals vs).cells=vs.map .raw from rfl,denL_raw] at h;exact Option.some.inj h
  subst this
  exact (denL_raw _).symm
theorem Cl.lay {us:List Value} {l:List SV} (off:Nat) (pc:List SV):Cl us (.lst l) (.lst (lay (us.map .raw) off pc)) (.lst (lay l off pc)):=fun ρ h=>by
 cases hp:SV.denL ρ pc with
 | some ws=>
  show SV.denL ρ (Sx.lay (us.map .raw) off pc)=SV.denL ρ (Sx.lay l off pc)
  rw [denL_lay (denL_raw us) hp];exact (denL_lay h hp off).symm
 | none=>
  have bad:∀ (a c:List SV) (x y:List Value),SV.denL ρ a=some x->SV.denL ρ c=some y->SV.denL ρ (a++pc++c)=none:=by
   intro a
   induction a with
   | nil=>
    intro c x y _ hc
    rw [List.nil_append]
    clear h
    induction pc with
    | nil=>simp [SV.denL] at hp
    | cons p pc ih=>
     simp only [SV.denL] at hp
     rw [List.cons_append]
     simp only [SV.denL]
     cases h1:SV.den ρ p with
     | none=>rfl
     | some v=>
      rw [h1] at hp
      cases h2:SV.denL ρ pc with
      | none=>rw [ih h2]
      | some ws=>rw [h2] at hp;cases hp
   | cons s a ih=>
    intro c x y ha hc
    simp only [SV.denL] at ha
    split at ha
    ·rename_i v ws h1 h2
     rw [List.cons_append,List.cons_append]
     simp only [SV.denL,h1,ih c ws y h2 hc]
    ·cases ha
  exact (bad _ _ _ _ (denL_take (denL_raw us) off) (denL_drop (denL_raw us) _)).trans (bad _ _ _ _ (denL_take h off) (denL_drop h _)).symm
theorem CallSem.opened {tot:Nat} {o:Bool} (hb:bx[p]? =some ⟨e,row,tot,o⟩) (r0:List Value->Row) (h0:∀ us,(r0 us).cells=us.map .raw)
  (h:∀ us:List Value,us.length=row.cells.length->(∀ (i:Nat) v,row.cells[i]? =some (.raw v)->us[i]? =some v)->
   CallSem P f args (bx.set p ⟨e,r0 us,tot,o⟩) E fun s bx' E'=>∃ r q,(bx'[p]? =some ⟨e,r,tot,o⟩/\Cl us row r q)/\K s (bx'.set p ⟨e,q,tot,o⟩) E'):CallSem P f args bx E K:=by
 intro w0 mu ρ w vs hR hv
 have hi:p<bx.length:=get_lt hb
 obtain ⟨oa,hρ⟩:∃ oa,ρ[p]? =some oa:=⟨_,List.getElem?_eq_getElem (by rw [hR.len];exact hi)⟩
 have hbox:=hR.box p _ oa hb hρ
 have hd:∃ us,SV.denL ρ row.cells=some us:=by
  cases oa with
  | none=>exact ⟨[],by rw [show row.cells=[] from hbox.1];rfl⟩
  | some a=>obtain ⟨_,us,h2,_⟩:=hbox;exact ⟨us,h2⟩
 obtain ⟨us,hd⟩:=hd
 have hR2:=hR.reden (r:=r0 us) hb (by rw [h0,denL_raw];exact hd.symm)
 refine (h us (denL_length hd) (fun i v hv=>?_) w0 mu ρ w vs hR2 hv).mono fun e' w' hp=>?_
 ·obtain ⟨v',g1,g2⟩:=denL_get hd hv
  simp only [SV.den,Option.some.injEq] at g2;subst g2;exact g1
 ·obtain ⟨v,s,bx',E',ρ',rfl,hpre,hs,hR',r,q,⟨g1,g2⟩,hK⟩:=hp
  refine ⟨v,s,_,E',ρ',rfl,hpre,hs,?_,hK⟩
  have:=hR'.reden (r:=q) g1 (g2 ρ' (SV.denL_mono hpre _ hd)).symm
  exact this
theorem CallSem.pubAt
  (h:CallSem P f args bx E fun s bx' E'=>∃ b y cs,(bx'[b]? =some y/\y.row.val=some cs)/\∀ base E'',Mem.le E' E''->WinE E'' base cs->K (s.subst b base) ((bx'.set b { y with own:=false }).map (Box.subst b base)) E''):CallSem P f args bx E K:=by
 refine fun w0 mu ρ w vs hR hv=>?_
 refine (h w0 mu ρ w vs hR hv).mono fun e w' hp=>?_
 obtain ⟨v,s,bx',E',ρ',rfl,hpre,hs,hR',b,y,cs,⟨g1,g2⟩,hK⟩:=hp
 obtain ⟨base,E'',hρ,hle,hw,hR2⟩:=hR'.pub g1 g2
 exact ⟨v,_,_,E'',ρ',rfl,hpre,subst_den hρ s hs,hR2,hK base E'' hle hw⟩
theorem setAll_over {p:Nat} {X:Box}:∀ (σ:List Nat) (bx bs:List Box),(∃ i,σ[i]? =some p/\i<bs.length)->setAll (bx.set p X) σ bs=setAll bx σ bs
 | [],_,_,⟨i,h,_⟩=>by simp at h
 | k::σ,bx,[],⟨i,_,h⟩=>by simp at h
 | k::σ,bx,b::bs,⟨i,h1,h2⟩=>by
  simp only [setAll]
  by_cases hk:k=p
  ·subst hk;rw [List.set_set]
  ·rw [List.set_comm _ _ (Ne.symm hk)]
   refine setAll_over σ _ bs ?_
   cases i with
   | zero=>simp at h1;exact absurd h1 hk
   | succ i=>exact ⟨i,by simpa using h1,by simpa using h2⟩
theorem set_app_over {α:Type} {l t:List α} {x y:α} (h:p<l.length):(l.set p x++t).set p y=l.set p y++t:=by
 rw [List.set_append_left _ _ (by simpa using h),List.set_set]
theorem CallSem.handO {args':List SV} {bxs:List Box} {σ:List Nat} {k:Nat} {t:Nat} (r0:List Value->Row) (h0:∀ us,(r0 us).cells=us.map .raw)
  (hb:bx[p]? =some ⟨e,row,t,true⟩) (hk:σ[k]? =some p) (hn:σ.Nodup) (hl:bxs.length=σ.length)
  (hbx:∀ (i:Nat) (b:Box),i≠k->bxs[i]? =some b->b.own=true/\∃ j:Nat,σ[i]? =some j/\bx[j]? =some (b.ren σ bx.length)) (ha:args=SV.renL σ bx.length args')
  (h:∀ us:List Value,us.length=row.cells.length->(∀ (i:Nat) v,row.cells[i]? =some (.raw v)->us[i]? =some v)->
   CallSem P f args' (bxs.set k ⟨e,r0 us,t,true⟩) E (cloK σ.length fun s bs' E'=>∃ r q,(bs'[k]? =some ⟨e,r,t,true⟩/\Cl us row (r.ren σ bx.length) q)/\K (s.ren σ bx.length) ((merge σ bx bs').set p ⟨e,q,t,true⟩) E')):CallSem P f args bx E K:=by
 refine CallSem.opened hb r0 h0 fun us h1 h2=>?_
 have hp:p<bx.length:=get_lt hb
 have hkl:k<bxs.length:=by rw [hl];exact get_lt hk
 have hlen:(bx.set p ⟨e,r0 us,t,true⟩).length=bx.length:=by simp
 have hkk:=h us h1 h2
 rw [← hl,show bxs.length=(bxs.set k ⟨e,r0 us,t,true⟩).length by simp] at hkk
 refine frame (bxs:=bxs.set k ⟨e,r0 us,t,true⟩) ⟨hn,by simpa using hl,fun i b hib=>?_⟩ (by rw [hlen];exact ha) hkk.clo ?_
 ·by_cases hi:i=k
  ·subst hi
   rw [List.getElem?_set_self hkl] at hib
   simp only [Option.some.injEq] at hib;subst hib
   refine ⟨rfl,p,hk,?_⟩
   rw [List.getElem?_set_self hp]
   have :(r0 us).ren σ (bx.set p ⟨e,r0 us,t,true⟩).length=r0 us:=by
    have h3:=h0 us
    cases hr:r0 us with
    | lst l=>
     rw [hr] at h3
     simp only [Row.cells] at h3;subst h3
     simp only [Row.ren,renL_raw]
    | vals vs=>rfl
   simp only [Box.ren,this]
  ·rw [List.getElem?_set_ne (Ne.symm hi)] at hib
   obtain ⟨g1,j,g2,g3⟩:=hbx i b hi hib
   refine ⟨g1,j,g2,?_⟩
   rw [List.getElem?_set_ne ?_,hlen];exact g3
   rintro rfl
   exact hi ((List.getElem?_inj (get_lt hk) hn).1 (hk.trans g2.symm)).symm
 ·rintro s bs' E' ⟨r,q,⟨g1,g2⟩,hK⟩
  rw [hlen]
  have gt:(bs'.take σ.length)[k]? =some ⟨e,r,t,true⟩:=by rw [List.getElem?_take_of_lt (get_lt hk)];exact g1
  have hm:merge σ (bx.set p ⟨e,r0 us,t,true⟩) bs'=merge σ bx bs':=by
   unfold merge
   rw [setAll_over σ bx _ ⟨k,hk,by rw [List.length_map];exact get_lt gt⟩,hlen]
  rw [hm]
  refine ⟨_,q,⟨?_,g2⟩,hK⟩
  unfold merge
  have hsa:=setAll_at σ bx ((bs'.take σ.length).map (Box.ren σ bx.length)) k p _ hn hk hp (by rw [List.getElem?_map,gt];rfl)
  rw [List.getElem?_append_left (by rw [setAll_length];exact hp)]
  exact hsa
theorem CallSem.hand {args':List SV} {bxs:List Box} {σ:List Nat} (hp:Part σ bx bxs) (ha:args=SV.renL σ bx.length args')
  (h:CallSem P f args' bxs E (cloK σ.length fun s bs' E'=>K (s.ren σ bx.length) (merge σ bx bs') E')):CallSem P f args bx E K:=by
 rw [← hp.len] at h
 exact frame hp ha h.clo fun _ _ _ g=>g
theorem CallSem.mono {K':KT} (h:CallSem P f args bx E K) (hk:∀ s bx' E',K s bx' E'->K' s bx' E'):CallSem P f args bx E K':=by
 intro w0 mu ρ w vs hR hv
 refine (h w0 mu ρ w vs hR hv).mono fun e w' hp=>?_
 obtain ⟨v,s,bx',E',ρ',rfl,hpre,hs,hR',hK⟩:=hp
 exact ⟨v,s,bx',E',ρ',rfl,hpre,hs,hR',hk _ _ _ hK⟩
theorem CallSem.clo_mono {K':KT} (h:CallSem P f args bx E (cloK n K)) (hk:∀ s bx' E',K s bx' E'->K' s bx' E'):CallSem P f args bx E (cloK n K'):=
 h.mono fun _ _ _ ⟨τ,s',bx',E',h1,h2⟩=>⟨τ,s',bx',E',h1,hk _ _ _ h2⟩
end Go.Sx
namespace Go.Sx
open Go Go.Sx
set_option maxRecDepth 100000
variable {P:Program} {callW:CallT} {all:Array Oper}
variable {ρ0:Env} {w w0:World} {mu:Fm} {n0 n:Nat}
def PubS (F:St->Prop) (S:St):Prop:=F S\/∃ b y cs,(S.bx[b]? =some y/\y.row.val=some cs)/\∀ (base:Option Addr) (E':Mem),Mem.le S.E E'->WinE E' base cs->F ⟨S.fr.map (Option.map (SV.subst b base)),(S.bx.set b { y with own:=false }).map (Box.subst b base),E'⟩
theorem Lift.pubS {F:St->Prop} {a:Act} (h:Lift w0 mu ρ0 (PubS F) a w):Lift w0 mu ρ0 F a w:=by
 obtain ⟨hd,S,ρ,hp,hR,hF,h⟩:=h
 rcases h with h|⟨b,y,cs,⟨g1,g2⟩,hK⟩
 ·exact ⟨hd,S,ρ,hp,hR,hF,h⟩
 ·obtain ⟨base,E',hρ,hle,hw,hR2⟩:=hR.pub g1 g2
  refine ⟨hd,_,ρ,hp,hR2,⟨by rw [List.length_map];exact hF.1,fun i s hs=>?_⟩,hK base E' hle hw⟩
  rw [List.getElem?_map] at hs
  cases q:S.fr[i]? with
  | none=>rw [q] at hs;cases hs
  | some o=>
   rw [q] at hs
   cases o with
   | none=>cases hs
   | some s'=>
    simp only [Option.map_some,Option.some.injEq] at hs
    subst hs
    obtain ⟨v,h1,h2⟩:=hF.2 i s' q
    exact ⟨v,h1,subst_den hρ s' h2⟩
theorem famAny {Ω:Option Rc} (hcall:CallOK Ω P callW) {w0:World} {mu:Fm} {ρ0:Env} (hom:mu.om=Ω/\okE Ω ρ0) {fam:Array Bool->St->Prop} {K:St->Prop}
  (hstep:∀ (L:Array Bool) (i:Nat) (o:Oper) (S:St),all[i]? =some o->i∈Region.ready .any all L->fam L S->stepW P callW all o S (PubS (fam (L.setIfInBounds i true))))
  (hfin:∀ (L:Array Bool) (S:St),Region.ready .any all L=[]->fam L S->K S):
  ∀ (n:Nat) (L:Array Bool),(∃ U:List Nat,(∀ k,L.getD k true=false->k∈U)/\U.length<=n)->∀ (a:Act) (w:World),Lift w0 mu ρ0 (fam L) a w->
   wpAnyIn Fence.wide 0 P .any all (fun e a w=>match e with | .normal=>Lift w0 mu ρ0 K a w|_=>False) n L a w
 | 0,L,hU,a,w,h=>by
  obtain ⟨U,h1,h2⟩:=hU
  have hU0:U=[]:=List.eq_nil_of_length_eq_zero (by omega)
  subst hU0
  have hr:Region.ready .any all L=[]:=by
   cases q:Region.ready .any all L with
   | nil=>rfl
   | cons i l=>exact absurd (h1 i (ready_unlisted (ops:=all) (by rw [q];exact List.mem_cons_self))) (by simp)
  obtain ⟨hd,S,ρ,hp,hR,hF,hf⟩:=h
  exact ⟨hr,hd,S,ρ,hp,hR,hF,hfin L S hr hf⟩
 | n+1,L,hU,a,w,h=>by
  refine ⟨fun hr=>?_,fun i hi=>?_⟩
  ·obtain ⟨hd,S,ρ,hp,hR,hF,hf⟩:=h
   exact ⟨hd,S,ρ,hp,hR,hF,hfin L S hr hf⟩
  ·have hiu:=ready_unlisted hi
   have hU':∃ U:List Nat,(∀ k,(L.setIfInBounds i true).getD k true=false->k∈U)/\U.length<=n:=by
    obtain ⟨U,h1,h2⟩:=hU
    have hiU:=h1 i hiu
    have hpos:0<U.length:=List.length_pos_of_mem hiU
    refine ⟨U.erase i,fun k hk=>?_,?_⟩
    ·rw [getD_set] at hk
     simp only [Bool.or_eq_false_iff,decide_eq_false_iff_not] at hk
     exact (List.mem_erase_of_ne (Ne.symm hk.2)).2 (h1 k hk.1)
    ·rw [List.length_erase_of_mem hiU];omega
   have hnext:∀ a' w',Lift w0 mu ρ0 (PubS (fam (L.setIfInBounds i true))) a' w'->wpAnyIn Fence.wide 0 P .any all (fun e a w=>match e with | .normal=>Lift w0 mu ρ0 K a w|_=>False) n (L.setIfInBounds i true) a' w':=
    fun a' w' hl=>famAny hcall hom hstep hfin n _ hU' a' w' hl.pubS
   unfold wpOpIn
   cases ho:all[i]? with
   | none=>
    obtain ⟨_,o,ho',_⟩:=mem_ready.1 hi
    rw [ho] at ho';cases ho'
   | some o=>
    dsimp only
    obtain ⟨hd,S,ρ,hp,hR,hF,hf⟩:=h
    have hst:=stepW_sound (P:=P) (all:=all) (Q:=fun e a w=>match e with | .normal=>Lift w0 mu ρ0 K a w|_=>False) hcall (o:=o) (K:=PubS (fam (L.setIfInBounds i true))) (w0:=w0) (mu:=mu) (ρ0:=ρ0) (a:=a) (w:=w) (ro:=none) hom ⟨hd,S,ρ,hp,hR,hF,hstep L i o S ho hi hf⟩
    split
    ·rename_i hw
     rw [if_pos hw] at hst
     exact Oper.wpIn_mono hnext hst
    ·rename_i hw
     rw [if_neg hw] at hst
     exact ⟨fun _ _=>trivial,hnext _ _ hst⟩
theorem CutP_fam {Ω:Option Rc} (hcall:CallOK Ω P callW) (hm:P.follows .mixedOrders=true) {id:Nat} {y:Code} {Q:Ex->St->Prop} {S0:St} (fam:Array Bool->St->Prop)
  (h0:fam (Array.replicate all.size false) S0)
  (hstep:∀ (L:Array Bool) (i:Nat) (o:Oper) (S:St),all[i]? =some o->i∈Region.ready .any all L->fam L S->stepW P callW all o S (PubS (fam (L.setIfInBounds i true))))
  (hfin:∀ (L:Array Bool) (S:St),Region.ready .any all L=[]->fam L S->CutP P Ω n0 y Q S):CutP P Ω n0 (.seq (.region id all true) y) Q S0 where
 out w0 mu ρ0 a w hn hl ho:=by
  obtain ⟨hd,S,ρ,hp,hR,hF,e⟩:=hl
  subst e
  have h1:(Code.region id all true).wpIn Fence.wide 0 P (fun e a w=>match e with | .normal=>Lift w0 mu ρ0 (fun S'=>CutP P Ω n0 y Q S') a w|_=>False) a w:=by
   refine wpIn_region_any hm ?_
   exact famAny hcall ho hstep hfin all.size (Array.replicate all.size false) ⟨List.range all.size,fun k hk=>by
    rcases Nat.lt_or_ge k all.size with q|q
    ·exact List.mem_range.2 q
    ·simp [Nat.not_lt.2 q] at hk,by simp⟩ a _ ⟨hd,S,ρ,hp,hR.drew _,hF,h0⟩
  refine wpIn_seq (Code.wpIn_mono (fun e a' w' x=>?_) h1)
  cases e with
  | normal=>
   obtain ⟨hd',S',ρ',hp',hR',hF',hc⟩:=x
   exact hc.out w0 mu ρ0 a' w' hn ⟨hd',S',ρ',hp',hR',hF',rfl⟩ ho
  | _=>exact x.elim
theorem Ct_fam {C:Cx} (hC:CxOK C) {fn:Func} {p:List Nat} {n0:Nat} {K:KT} {S0:St} {id:Nat} {all:Array Oper} (hs:sub (bodyOf fn) p= .seq (.region id all true) .ret) (fam:Array Bool->St->Prop)
  (h0:fam (Array.replicate all.size false) S0)
  (hstep:∀ (L:Array Bool) (i:Nat) (o:Oper) (S:St),all[i]? =some o->i∈Region.ready .any all L->fam L S->stepW C.P (callF C n) all o S (PubS (fam (L.setIfInBounds i true))))
  (hfin:∀ (L:Array Bool) (S:St),Region.ready .any all L=[]->fam L S->contN C.P (callN C n) C.muts { C.opt with base:=n0 } (bodyOf fn) p (bodyN C.P fn K) .ret S):Ct C n fn p n0 K S0:=by
 unfold Ct
 rw [hs]
 exact CutP_fam (callF_sound n hC) hC.wide fam h0 hstep fun L S h1 h2=>CutP_intro (un:={ C.opt with base:=n0 }) (callF_sound n hC) hC.wide (inl:=C.muts) (hfin L S h1 h2)
end Go.Sx
