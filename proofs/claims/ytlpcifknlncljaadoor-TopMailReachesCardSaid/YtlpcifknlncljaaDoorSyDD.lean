/- The symbolic evaluator: a part of it; generic over programs. Conditions: none. -/
import Derived.Test.YtlpcifknlncljaaDoorSyM
import Derived.ProofKit
import Derived.OpenShut
import Derived.ChangeOld
import Derived.Carry
import Derived.ChangeArms
import Derived.IntWalk
import Derived.Lib.MakeNoZero
import Derived.Lib.Overlaps
namespace Go.Sx
open Go
def setPs:List Nat->List SV->List (Option SV)->List (Option SV)
 | t::ps,s::ss,fr=>setPs ps ss (fr.set t (some s))
 | _,_,fr=>fr
def RoundW (P:Program) (callW:CallT) (inl:Op->Bool) (un:Opt) (fr:List (Option SV)) (ps:List Nat) (assign body:Code) (rest:List SV) (bx:List Box) (E:Mem) (K:KT):Prop:=
 codeW P callW inl { un with rnd:=true,base:=bx.length,cuts:=[] } assign (fun e S'=>match e with
  | .normal=>codeW P callW inl { un with rnd:=true,base:=bx.length,cuts:=[] } body (fun e S'=>match e with
   | .normal=>K (.raw (.bool true)) S'.bx S'.E
   | .exit _=>False
   | .ret=>False) S'
  | .exit _=>False
  | .ret=>False) ⟨setPs ps rest fr,bx,E⟩
def RoundN (P:Program) (callW:CallT) (inl:Op->Bool) (un:Opt) (fr:List (Option SV)) (ps:List Nat) (assign body:Code) (rest:List SV) (bx:List Box) (E:Mem) (K:KT):Prop:=
 nSt ⟨setPs ps rest fr,bx,E⟩ (codeN P callW inl { un with rnd:=true,base:=bx.length,cuts:=[] } assign (fun e S'=>match e with
  | .normal=>codeN P callW inl { un with rnd:=true,base:=bx.length,cuts:=[] } body (fun e S'=>match e with
   | .normal=>K (.raw (.bool true)) S'.bx S'.E
   | .exit _=>False
   | .ret=>False) S'
  | .exit _=>False
  | .ret=>False))
theorem RoundN_eq:RoundN=RoundW:=by
 funext P callW inl un fr ps assign body rest bx E K
 simp only [RoundN,RoundW,nSt_eq,codeN_eq]
structure RcOK (c:Rc) (fr:List (Option SV)) (ps:List Nat) (assign body:Code) (q:List Box->Mem->Prop) (Ω:Option Rc:=none):Prop where
 q:c.q=q
 ps:c.r.params.toList=ps
 assign:c.r.assign=assign
 body:c.r.body=body
 fr:FrRel c.ρ fr c.r.tmps
 up:c.up=Ω.map Rc.base
theorem setPs_rel {ρ:Env}:∀ (ps:List Nat) (ss:List SV) (vs:List Value) (fr:List (Option SV)) (tmps:Array Value),SV.denL ρ ss=some vs->ps.length=ss.length->FrRel ρ fr tmps->
  FrRel ρ (setPs ps ss fr) ((ps.zip vs).foldl (fun tmps (x:Nat×Value)=>tmps.setIfInBounds x.1 x.2) tmps)
 | [],[],vs,fr,tmps,h,_,hF=>by simpa [setPs] using hF
 | t::ps,s::ss,vs,fr,tmps,h,hl,hF=>by
  simp only [SV.denL] at h
  split at h
  ·rename_i v ws h1 h2
   simp only [Option.some.injEq] at h;subst h
   exact setPs_rel ps ss ws _ _ h2 (by simpa using hl) (hF.set t h1)
  ·cases h
 | [],_::_,_,_,_,_,h,_=>by simp at h
 | _::_,[],_,_,_,_,h,_=>by simp at h
theorem Rel.swap {w1 w3:World} {m:List Nat} {E0:Mem} {om om':Option Rc} {ds ds':List Deferred} {bx:List Box} {E:Mem} {ρ:Env} {l:Nat} {o o1:Obj} (h:Rel (w1.putObj l o1) ⟨m,E0,om,ds⟩ bx E ρ w3)
  (h1:w1.heap[l]? =some o) (h3:w3.heap[l]? =some o1) (ho1:Obj.flat o1=true):Rel w1 ⟨m,E0,om',ds'⟩ bx E ρ (w3.putObj l o):=by
 have hk:=h.keep
 have hl3:l<w3.heap.size:=(Array.getElem?_eq_some_iff.1 h3).1
 refine ⟨⟨hk.os,hk.tape,hk.output,by have:=hk.size;simpa using this,fun k g1 g2=>?_⟩,h.len,fun i b oa g1 g2=>(h.box i b oa g1 g2).of_block fun a ha hl'=>?_,?_,fun v cs hE=>(h.hold v cs hE).of_block fun b hne hb=>?_,?_,?_⟩
 ·by_cases hkl:k=l
  ·subst hkl
   rw [World.putObj_heap_same hl3,h1]
  ·rw [World.putObj_heap_other hkl,hk.block k (by simpa using g1) g2,World.putObj_heap_other hkl]
 ·subst ha
  exact World.putObj_heap_other ((h.box i b _ g1 g2).flat hl' h3 ho1)
 ·intro i b a g1 g2 g3
  have:=h.sep i b a g1 g2 g3
  simpa using this
 ·refine World.putObj_heap_other ?_
  rintro rfl
  exact (h.hold v cs hE).flat hne h3 ho1 hb
 ·intro i b a g1 g2 g3
  have:=h.bsrc i b a g1 g2 g3
  simpa using this
 ·intro v cs g1 g2
  have:=h.src v cs g1 g2
  simpa using this
theorem Rel.herePut {w0 w:World} {mu:Fm} {bx:List Box} {E:Mem} {ρ:Env} {om:Option Rc} {ds:List Deferred} (h:Rel w0 mu bx E ρ w) {l:Nat} {o:Obj} (hw:w.heap[l]? =some o) (ho:Obj.flat o=true) (o':Obj):
  Rel (w.putObj l o') ⟨lvB bx ρ,E,om,ds⟩ bx E ρ (w.putObj l o'):=
 ⟨Keep.refl _ _,h.len,fun i b oa h1 h2=>(h.box i b oa h1 h2).of_block fun a ha hl'=>by
   subst ha;exact World.putObj_heap_other ((h.box i b _ h1 h2).flat hl' hw ho),
  fun i b a h1 ho h2=>⟨.inr (lvB_mem h1 h2 (by simp [Box.live,ho])),(h.sep i b a h1 ho h2).2⟩,
  fun v cs hE=>(h.hold v cs hE).of_block fun b hne hb=>World.putObj_heap_other (by rintro rfl;exact (h.hold v cs hE).flat hne hw ho hb),
  fun i b a h1 hl h2=>.inr (lvB_mem h1 h2 hl),fun v cs g hne=>.inr ⟨v,cs,g,hne,rfl⟩⟩
theorem up_ok {c:Rc} {Ω:Option Rc} (hup:c.up=Ω.map Rc.base) (hup0:∀ c0,Ω=some c0->c0.up=none) {w0 w w':World} {mu:Fm} {ρ:Env} {bx:List Box} {E:Mem} (hO:okP w0 mu c) (hE:c.ρ<+:ρ) (hR:Rel w0 mu bx E ρ w)
  (hw:∀ l,l≠c.l->w'.heap[l]? =w.heap[l]?) (ds:List Deferred):okE Ω ρ/\okO w' ⟨lvB bx ρ,E,Ω,ds⟩:=by
 cases Ω with
 | none=>exact ⟨trivial,trivial⟩
 | some c0=>
  have h0:=hup0 c0 rfl
  obtain ⟨⟨a1,a2,a3⟩,a4,a5⟩:=hO c0.base hup
  have hlp:c0.l<w0.heap.size:=(Array.getElem?_eq_some_iff.1 a1).1
  refine ⟨a5.trans hE,?_,a2,fun hg=>?_,fun p hp=>?_⟩
  ·show w'.heap[c0.l]? =_
   rw [hw c0.l a4,hR.keep.block c0.l hlp a3];exact a1
  ·obtain ⟨j,b,ad,q1,q2,q3,q4⟩:=lvB_of hg
   rcases hR.bsrc j b ad q1 q3 q2 with q|q
   ·rw [q4] at q;omega
   ·rw [q4] at q;exact a3 q
  ·rw [h0] at hp;cases hp
section
variable {P:Program} {callW:CallT}
theorem round_sound {c:Rc} {fr:List (Option SV)} {ps:List Nat} {assign body:Code} {q0:List Box->Mem->Prop} {un:Opt} (hc:RcOK c fr ps assign body q0 un.om) (hup0:∀ c0,un.om=some c0->c0.up=none) (hcall:CallOK un.om P callW) (hm:P.follows .mixedOrders=true) {inl:Op->Bool}
  {rest:List SV} {bx:List Box} {E:Mem} {K:KT} (hps:ps.length=rest.length) (h:RoundW P callW inl un fr ps assign body rest bx E K):
  YieldSem (some c) P (.raw (.func (.yield c.l) #[] #[])::rest) bx E K:=by
 refine ⟨c.l,#[],#[],rest,rfl,fun w0 mu ρ w vs hΩ hR hd=>?_⟩
 obtain ⟨⟨hom,hE⟩,hO⟩:=hΩ
 unfold okO at hO
 rw [hom] at hO
 obtain ⟨hl,⟨hst,hpd⟩,hlm,hP⟩:=hO
 obtain ⟨k1,k2⟩:=up_ok hc.up hup0 hP hE hR (fun _ _=>rfl) []
 have hl0:c.l<w0.heap.size:=(Array.getElem?_eq_some_iff.1 hl).1
 have hlw:w.heap[c.l]? =some (.loop c.r):=by rw [hR.keep.block c.l hl0 hlm];exact hl
 have hvl:=denL_length hd
 have hsz:(#[]++vs.toArray:Array Value).size=c.r.params.size:=by
  have:=congrArg List.length hc.ps
  simp only [Array.length_toList] at this
  simp;omega
 refine ⟨_,_,_,_,run_yield hlw hsz,?_⟩
 have hfold:(c.r.params.zip (#[]++vs.toArray)).foldl (fun tmps (x:Tmp×Value)=>tmps.setIfInBounds x.1 x.2) c.r.tmps=(ps.zip vs).foldl (fun tmps (x:Nat×Value)=>tmps.setIfInBounds x.1 x.2) c.r.tmps:=by
  rw [← Array.foldl_toList,Array.toList_zip,hc.ps];simp
 have hF0:FrRel ρ (setPs ps rest fr) ((ps.zip vs).foldl (fun tmps (x:Nat×Value)=>tmps.setIfInBounds x.1 x.2) c.r.tmps):=setPs_rel ps rest vs fr _ hd hps (hc.fr.mono hE)
 rw [hc.assign,hc.body]
 refine roundIn_of_wpIn trivial ?_
 have h1:=codeW_rnd (P:=P) (callW:=callW) (un:={ un with rnd:=true,base:=bx.length,cuts:=[] }) (inl:=inl) (ro:=some c.l) hcall hm rfl assign _ w ⟨lvB bx ρ,E,un.om,[]⟩ ρ
  { tmps:=(ps.zip vs).foldl (fun tmps (x:Nat×Value)=>tmps.setIfInBounds x.1 x.2) c.r.tmps,defers:=[] } w (Nat.le_of_eq hR.len) ⟨rfl,k1⟩ ⟨⟨rfl,k2⟩,_,ρ,List.prefix_refl _,hR.here,hF0,h⟩
 refine Code.wpIn_mono (fun e a1 w1 he=>?_) (hfold ▸ h1)
 cases e with
 | exit _=>obtain ⟨_,_,_,_,_,_,_,_,_,x⟩:=he;exact x.elim
 | ret=>obtain ⟨_,_,_,_,_,_,_,_,_,x⟩:=he;exact x.elim
 | goto _=>exact he.elim
 | panic _=>exact he.elim
 | outgrown=>exact he.elim
 | normal=>
 obtain ⟨w2,mu2,hB,hd1,S1,ρ1,hp1,hR1,hF1,hbody⟩:=he
 have hR1:=hB.back _ _ _ _ hR1
 have hl1:w1.heap[c.l]? =some (.loop c.r):=by
  rw [hR1.keep.block c.l (Array.getElem?_eq_some_iff.1 hlw).1 (lvB_flat hR hlw rfl)];exact hlw
 have hC1:=hR.compose hR1
 refine ⟨_,run_beginRound hl1 hst,?_⟩
 have hbusy:(w1.putObj c.l (.loop { c.r with state:=.busy })).heap[c.l]? =some (.loop { c.r with state:=.busy }):=World.putObj_heap_same (Array.getElem?_eq_some_iff.1 hl1).1
 have hRb:Rel (w1.putObj c.l (.loop { c.r with state:=.busy })) ⟨lvB S1.bx ρ1,S1.E,un.om,mu2.ds⟩ S1.bx S1.E ρ1 (w1.putObj c.l (.loop { c.r with state:=.busy })):=hR1.herePut hl1 rfl _
 obtain ⟨k3,k4⟩:=up_ok (w':=w1.putObj c.l (.loop { c.r with state:=.busy })) hc.up hup0 hP (hE.trans hp1) hC1 (fun l hl=>World.putObj_heap_other hl) mu2.ds
 have h2:=codeW_rnd (P:=P) (callW:=callW) (un:={ un with rnd:=true,base:=bx.length,cuts:=[] }) (inl:=inl) (ro:=some c.l) hcall hm rfl body _ _ ⟨lvB S1.bx ρ1,S1.E,un.om,mu2.ds⟩ ρ
  a1 _ (Nat.le_of_eq hR.len) ⟨rfl,k1⟩ ⟨⟨hd1.1,k4⟩,S1,ρ1,hp1,hRb,hF1,hbody⟩
 refine Code.wpIn_mono (fun e a2 w3 he=>?_) h2
 cases e with
 | exit _=>obtain ⟨_,_,_,_,_,_,_,_,_,x⟩:=he;exact x.elim
 | ret=>obtain ⟨_,_,_,_,_,_,_,_,_,x⟩:=he;exact x.elim
 | goto _=>exact he.elim
 | panic _=>exact he.elim
 | outgrown=>exact he.elim
 | normal=>
 obtain ⟨w4,mu4,hB2,hd2,S2,ρ2,hp2,hR2,hF2,hK⟩:=he
 have hR2:=hB2.back _ _ _ _ hR2
 have hl3:w3.heap[c.l]? =some (.loop { c.r with state:=.busy }):=by
  rw [hR2.keep.block c.l (Array.getElem?_eq_some_iff.1 hbusy).1 (lvB_flat (hR1.herePut (om:=none) (ds:=[]) hl1 rfl _) hbusy rfl)];exact hbusy
 refine ⟨_,_,run_endRound none hl3,.bool true,.raw (.bool true),S2.bx,S2.E,ρ2,rfl,hp2,rfl,?_,hK⟩
 have hre:({ ({ c.r with state:=.busy }:Loop) with state:=if (none:Option Code).isNone then .ready else .done,pending:=none }:Loop)=c.r:=by
  have :c.r={ c.r with state:=.ready,pending:=none }:=by rw [← hst,← hpd]
  rw [this];rfl
 rw [hre]
 exact hC1.compose (Rel.swap (om':=none) (ds':=[]) hR2 hl1 hl3 rfl)
def RoundQ (P:Program) (callW:CallT) (inl:Op->Bool) (un:Opt) (fr:List (Option SV)) (ps:List Nat) (assign body:Code) (rest:List SV) (bx:List Box) (E:Mem) (q:List Box->Mem->Prop):Prop:=
 codeW P callW inl { un with om:=none,rnd:=true,base:=bx.length,cuts:=[] } assign (fun e S'=>match e with
  | .normal=>codeW P callW inl { un with om:=none,rnd:=true,base:=bx.length,cuts:=[] } body (fun e S'=>match e with
   | .ret=>q S'.bx S'.E
   | .exit _=>False
   | .normal=>False) S'
  | .exit _=>False
  | .ret=>False) ⟨setPs ps rest fr,bx,E⟩
def RoundQN (P:Program) (callW:CallT) (inl:Op->Bool) (un:Opt) (fr:List (Option SV)) (ps:List Nat) (assign body:Code) (rest:List SV) (bx:List Box) (E:Mem) (q:List Box->Mem->Prop):Prop:=
 nSt ⟨setPs ps rest fr,bx,E⟩ (codeN P callW inl { un with om:=none,rnd:=true,base:=bx.length,cuts:=[] } assign (fun e S'=>match e with
  | .normal=>codeN P callW inl { un with om:=none,rnd:=true,base:=bx.length,cuts:=[] } body (fun e S'=>match e with
   | .ret=>q S'.bx S'.E
   | .exit _=>False
   | .normal=>False) S'
  | .exit _=>False
  | .ret=>False))
theorem RoundQN_eq:RoundQN=RoundQ:=by
 funext P callW inl un fr ps assign body rest bx E K
 simp only [RoundQN,RoundQ,nSt_eq,codeN_eq]
theorem roundQ_sound {c:Rc} {fr:List (Option SV)} {ps:List Nat} {assign body:Code} {q0:List Box->Mem->Prop} (hc:RcOK c fr ps assign body q0) {un:Opt} (hcall:CallOK none P callW) (hm:P.follows .mixedOrders=true) {inl:Op->Bool}
  {rest:List SV} {bx:List Box} {E:Mem} (hps:ps.length=rest.length) (h:RoundQ P callW inl un fr ps assign body rest bx E c.q)
  {w0:World} {mu:Fm} {ρ:Env} {w:World} {vs:List Value} (hΩ:okR (some c) w0 mu ρ) (hR:Rel w0 mu bx E ρ w) (hd:SV.denL ρ rest=some vs):
  ∃ fn tmps assign body,(Instr.yield c.l (#[]++vs.toArray)).run P w= .ok (.round c.l fn tmps assign body) w/\RoundIn Fence.wide 0 P c.l fn tmps assign body w fun e w'=>
   ∃ bx' E' ρ',e= .returned (.bool false)/\ρ<+:ρ'/\Rel (w0.putObj c.l (.loop c.stop)) mu bx' E' ρ' w'/\c.q bx' E':=by
 obtain ⟨⟨hom,hE⟩,hO⟩:=hΩ
 unfold okO at hO
 rw [hom] at hO
 obtain ⟨hl,⟨hst,hpd⟩,hlm,_⟩:=hO
 have hl0:c.l<w0.heap.size:=(Array.getElem?_eq_some_iff.1 hl).1
 have hlw:w.heap[c.l]? =some (.loop c.r):=by rw [hR.keep.block c.l hl0 hlm];exact hl
 have hvl:=denL_length hd
 have hsz:(#[]++vs.toArray:Array Value).size=c.r.params.size:=by
  have:=congrArg List.length hc.ps
  simp only [Array.length_toList] at this
  simp;omega
 refine ⟨_,_,_,_,run_yield hlw hsz,?_⟩
 have hfold:(c.r.params.zip (#[]++vs.toArray)).foldl (fun tmps (x:Tmp×Value)=>tmps.setIfInBounds x.1 x.2) c.r.tmps=(ps.zip vs).foldl (fun tmps (x:Nat×Value)=>tmps.setIfInBounds x.1 x.2) c.r.tmps:=by
  rw [← Array.foldl_toList,Array.toList_zip,hc.ps];simp
 have hF0:FrRel ρ (setPs ps rest fr) ((ps.zip vs).foldl (fun tmps (x:Nat×Value)=>tmps.setIfInBounds x.1 x.2) c.r.tmps):=setPs_rel ps rest vs fr _ hd hps (hc.fr.mono hE)
 rw [hc.assign,hc.body]
 refine roundIn_of_wpIn trivial ?_
 have h1:=codeW_sound (P:=P) (callW:=callW) (un:={ un with om:=none,rnd:=true,base:=bx.length,cuts:=[] }) (inl:=inl) (ro:=some c.l) hcall hm (fun e=>by cases e) assign _ w ⟨lvB bx ρ,E,none,[]⟩ ρ
  { tmps:=(ps.zip vs).foldl (fun tmps (x:Nat×Value)=>tmps.setIfInBounds x.1 x.2) c.r.tmps,defers:=[] } w (Nat.le_of_eq hR.len) ⟨rfl,trivial⟩ ⟨⟨rfl,trivial⟩,_,ρ,List.prefix_refl _,hR.here,hF0,h⟩
 refine Code.wpIn_mono (fun e a1 w1 he=>?_) (hfold ▸ h1)
 cases e with
 | exit _=>obtain ⟨_,_,_,_,_,_,_,_,_,x⟩:=he;exact x.elim
 | ret=>
  rcases he with ⟨_,_,_,_,_,_,_,_,_,x⟩|⟨_,q,_⟩
  ·exact x.elim
  ·cases q
 | goto _=>exact he.elim
 | panic _=>exact he.elim
 | outgrown=>exact he.elim
 | normal=>
 obtain ⟨w2,mu2,hB,hd1,S1,ρ1,hp1,hR1,hF1,hbody⟩:=he
 have hR1:=hB.back _ _ _ _ hR1
 have hl1:w1.heap[c.l]? =some (.loop c.r):=by
  rw [hR1.keep.block c.l (Array.getElem?_eq_some_iff.1 hlw).1 (lvB_flat hR hlw rfl)];exact hlw
 have hC1:=hR.compose hR1
 refine ⟨_,run_beginRound hl1 hst,?_⟩
 have hbusy:(w1.putObj c.l (.loop { c.r with state:=.busy })).heap[c.l]? =some (.loop { c.r with state:=.busy }):=World.putObj_heap_same (Array.getElem?_eq_some_iff.1 hl1).1
 have hRb:Rel (w1.putObj c.l (.loop { c.r with state:=.busy })) ⟨lvB S1.bx ρ1,S1.E,none,mu2.ds⟩ S1.bx S1.E ρ1 (w1.putObj c.l (.loop { c.r with state:=.busy })):=hR1.herePut hl1 rfl _
 have h2:=codeW_sound (P:=P) (callW:=callW) (un:={ un with om:=none,rnd:=true,base:=bx.length,cuts:=[] }) (inl:=inl) (ro:=some c.l) hcall hm (fun e=>by cases e) body _ _ ⟨lvB S1.bx ρ1,S1.E,none,mu2.ds⟩ ρ
  a1 _ (Nat.le_of_eq hR.len) ⟨rfl,trivial⟩ ⟨⟨hd1.1,trivial⟩,S1,ρ1,hp1,hRb,hF1,hbody⟩
 refine Code.wpIn_mono (fun e a2 w3 he=>?_) h2
 cases e with
 | exit _=>obtain ⟨_,_,_,_,_,_,_,_,_,x⟩:=he;exact x.elim
 | normal=>obtain ⟨_,_,_,_,_,_,_,_,_,x⟩:=he;exact x.elim
 | goto _=>exact he.elim
 | panic _=>exact he.elim
 | outgrown=>exact he.elim
 | ret=>
 rcases he with he|⟨_,q,_⟩
 case inr=>cases q
 obtain ⟨w4,mu4,hB2,hd2,S2,ρ2,hp2,hR2,hF2,hK⟩:=he
 have hR2:=hB2.back _ _ _ _ hR2
 have hl3:w3.heap[c.l]? =some (.loop { c.r with state:=.busy }):=by
  rw [hR2.keep.block c.l (Array.getElem?_eq_some_iff.1 hbusy).1 (lvB_flat (hR1.herePut (om:=none) (ds:=[]) hl1 rfl _) hbusy rfl)];exact hbusy
 refine ⟨_,_,run_endRound (some .ret) hl3,S2.bx,S2.E,ρ2,rfl,hp2,?_,hK⟩
 have hre:({ ({ c.r with state:=.busy }:Loop) with state:=if (some Code.ret).isNone then .ready else .done,pending:=some .ret }:Loop)=c.stop:=rfl
 rw [hre]
 have h3:=hC1.compose (Rel.swap (om':=none) (ds':=[]) hR2 hl1 hl3 rfl)
 have hlw3:c.l<w3.heap.size:=(Array.getElem?_eq_some_iff.1 hl3).1
 have h4:=h3.putBoth (l:=c.l) (o:=.loop c.r) hl0 (World.putObj_heap_same hlw3) rfl (.loop c.stop)
 rw [show (w3.putObj c.l (.loop c.r)).putObj c.l (.loop c.stop)=w3.putObj c.l (.loop c.stop) from by simp [World.putObj]] at h4
 exact h4
def quitArgs (S:St) (o:Oper):Option (Nat×List SV):=
 match o.guard,o.op with
 | none,.call c=>match c.callee,opds S c.args.toList with
  | .value f,some args=>match opd S f with
   | some (.raw (.func (.yield l) m b))=>match m.toList,b.toList with
    | [],[]=>some (l,args)
    | _,_=>none
   | _=>none
  | _,_=>none
 | _,_=>none
theorem quitArgs_spec {S:St} {o:Oper} {l:Nat} {args:List SV} (h:quitArgs S o=some (l,args)):o.guard=none/\∃ c f,o.op= .call c/\c.callee= .value f/\opds S c.args.toList=some args/\opd S f=some (.raw (.func (.yield l) #[] #[])):=by
 unfold quitArgs at h
 split at h
 case h_2=>cases h
 rename_i c h1 h2
 split at h
 case h_2=>cases h
 rename_i f args' h3 h4
 split at h
 case h_2=>cases h
 rename_i l' m b h5
 split at h
 case h_2=>cases h
 rename_i h6 h7
 simp only [Option.some.injEq,Prod.mk.injEq] at h
 obtain ⟨rfl,rfl⟩:=h
 have e6:m= #[]:=by rw [← Array.toList_inj];exact h6
 have e7:b= #[]:=by rw [← Array.toList_inj];exact h7
 subst e6;subst e7
 exact ⟨h1,c,f,h2,h3,h4,h5⟩
def quitW (P:Program) (callW:CallT) (all:Array Oper) (R:Nat->List SV->St->Prop):List Oper->St->Prop
 | [],_=>False
 | o::r,S=>match r with
  | []=>match quitArgs S o with
   | some (l,args)=>R l args S
   | none=>False
  | o2::r2=>stepW P callW all o S fun S'=>quitW P callW all R (o2::r2) S'
def quitN (P:Program) (callW:CallT) (all:Array Oper) (R:Nat->List SV->St->Prop):List Oper->St->Prop
 | [],_=>False
 | o::r,S=>match r with
  | []=>match quitArgs S o with
   | some (l,args)=>R l args S
   | none=>False
  | o2::r2=>stepN P callW all o S fun S'=>quitN P callW all R (o2::r2) S'
theorem quitN_eq (P:Program) (callW:CallT) (all:Array Oper) (R:Nat->List SV->St->Prop):∀ (l:List Oper) (S:St),quitN P callW all R l S=quitW P callW all R l S
 | [],_=>rfl
 | [o],_=>rfl
 | o::o2::r,S=>by
  simp only [quitN,quitW,stepN_eq]
  congr 1
  funext S'
  exact quitN_eq P callW all R (o2::r) S'
theorem rangeFunc_sound {Ω:Option Rc} {n0:Nat} {g:Operand} {ps:Array Tmp} {assign body:Code} {Q:Ex->St->Prop} {S:St} {gf:FuncId} {first caps:List SV}
  (hg:opd S g=some (.clo gf first caps))
  (hsem:∀ c:Rc,RcOK c S.fr ps.toList assign body (fun bx E=>Q .ret { S with bx:=bx,E:=E }) Ω->CallSemO (some c) P gf (first++[.raw (.func (.yield c.l) #[] #[])]++caps) S.bx S.E fun _ bx E=>Q .normal { S with bx:=bx,E:=E }):
  CutP P Ω n0 (.rangeFunc g ps assign body) Q S:=by
 refine ⟨fun w0 mu ρ0 a w hn hl hom=>?_⟩
 obtain ⟨⟨hd,hO⟩,S',ρ,hp,hR,hF,rfl⟩:=hl
 have hp':=hp
 have eg:=opd_den hF hg
 simp only [SV.den] at eg
 split at eg
 case h_2=>cases eg
 rename_i us vs e1 e2
 simp only [Option.some.injEq] at eg
 refine wpIn_rangeFunc fun fn' _=>?_
 obtain ⟨D,hD⟩:∃ D,D=w.heap.size:=⟨_,rfl⟩
 obtain ⟨r,hr⟩:∃ r:Loop,r={ state:=.ready,pending:=none,fn:=fn',tmps:=a.tmps,params:=ps,assign:=assign,body:=body,defers:=D }:=⟨_,rfl⟩
 obtain ⟨wb,hwb⟩:∃ wb,wb=(w.alloc (.deferred (some []))).alloc (.loop r):=⟨_,rfl⟩
 have hDa:(w.alloc (.deferred (some []))).heap.size=D+1:=by rw [hD];simp [World.size_alloc]
 have hlb:wb.heap[D+1]? =some (.loop r):=by
  have:=World.alloc_heap_new (w.alloc (.deferred (some []))) (.loop r)
  rwa [hDa,← hwb] at this
 have hDb:wb.heap[D]? =some (.deferred (some [])):=by
  have h1:=World.alloc_heap_new w (.deferred (some []))
  rw [hwb,heap_alloc_old _ _ D (by rw [hDa];omega),hD];exact h1
 have hszb:wb.heap.size=D+2:=by rw [hwb,World.size_alloc,hDa]
 have hRb:Rel w0 mu S'.bx S'.E ρ wb:=by rw [hwb];exact (hR.grow (Keep.alloc [] w _)).grow (Keep.alloc [] _ _)
 have hw0:w0.heap.size<=D:=by rw [hD];exact hR.keep.size
 have hrp:r.state= .ready/\r.pending=none:=by rw [hr];exact ⟨rfl,rfl⟩
 obtain ⟨hen,hcalls⟩:=hsem ⟨D+1,r,ρ,fun bx E=>Q .ret { S' with bx:=bx,E:=E },Ω.map Rc.base⟩ ⟨rfl,by rw [hr],by rw [hr],by rw [hr],by rw [hr];exact hF,rfl⟩
 have hnl:∀ k,D<=k->k ∉ lvB S'.bx ρ:=by
  intro k hk hg
  obtain ⟨j,b,ad,q1,q2,q3,rfl⟩:=lvB_of hg
  have:=(hR.box j b _ q1 q2).lt q3
  omega
 have hPP:okP wb ⟨lvB S'.bx ρ,S'.E,some ⟨D+1,r,ρ,fun bx E=>Q .ret { S' with bx:=bx,E:=E },Ω.map Rc.base⟩,[]⟩ ⟨D+1,r,ρ,fun bx E=>Q .ret { S' with bx:=bx,E:=E },Ω.map Rc.base⟩:=fun p hp=>by
  cases hΩ:Ω with
  | none=>rw [hΩ] at hp;cases hp
  | some c0=>
   rw [hΩ] at hp hom
   cases hp
   unfold okO at hO
   rw [hom.1] at hO
   obtain ⟨a1,a2,a3,_⟩:=hO
   have hlp:c0.l<w0.heap.size:=(Array.getElem?_eq_some_iff.1 a1).1
   refine ⟨⟨?_,a2,fun hg=>?_⟩,by show c0.l≠D+1;omega,hom.2.trans hp'⟩
   ·show wb.heap[c0.l]? =_
    rw [hRb.keep.block c0.l hlp a3];exact a1
   ·obtain ⟨j,b,ad,q1,q2,q3,q4⟩:=lvB_of hg
    have q4:ad.block=c0.l:=q4
    rcases hR.bsrc j b ad q1 q3 q2 with q|q
    ·rw [q4] at q;omega
    ·rw [q4] at q;exact a3 q
 have hcall:=hcalls wb ⟨lvB S'.bx ρ,S'.E,some ⟨D+1,r,ρ,fun bx E=>Q .ret { S' with bx:=bx,E:=E },Ω.map Rc.base⟩,[]⟩ ρ wb (us++[Value.func (.yield (D+1)) #[] #[]]++vs) ⟨⟨rfl,List.prefix_refl _⟩,hlb,hrp,hnl (D+1) (by omega),hPP⟩ hRb.here
  (denL_append (denL_append e1 (by simp [SV.denL,SV.den])) e2)
 have hinv:(invoke (.fn (.func gf) vs.toArray) (us.toArray++ #[Value.func (.yield (D+1)) #[] #[]])).run P wb= .ok (.enter gf (us++[Value.func (.yield (D+1)) #[] #[]]++vs).toArray) wb:=by
  have:=hen.run (us++[Value.func (.yield (D+1)) #[] #[]]++vs).toArray wb
  rw [← this]
  simp only [invoke]
  congr 2
  simp
 have hres:(resolve a.eval (rangeCall g (D+1)) 0).run P wb= .ok { target:=.fn (.func gf) vs.toArray,args:=us.toArray++ #[Value.func (.yield (D+1)) #[] #[]] } wb:=by
  have hev:a.eval (.const (.func (.yield (D+1)) #[] #[]))= .func (.yield (D+1)) #[] #[]:=rfl
  simp only [resolve,← eg,Deferred.ofValue,Sem.run_pure,List.map_toArray,List.map_cons,List.map_nil,hev]
 refine ⟨D+1,[{ target:=.collected D,args:=#[] }],wb,_,wb,gf,_,wb,?_,hres,fun _ _=>trivial,hinv,(fun e=>by cases e),callsIn_wide.2 (hcall.mono ?_)⟩
 ·rw [hwb,hr,hD];exact run_enterLoop_outer fn' a.tmps ps assign body
 have fin:∀ (bx':List Box) (E':Mem) (ρ':Env) (w4:World),ρ<+:ρ'->Rel w0 mu bx' E' ρ' w4->w4.heap[D]? =some (.deferred (some []))->∀ K:St->Prop,K { S' with bx:=bx',E:=E' }->LiftR w0 mu ρ0 K { a with defers:=[{ target:=.collected D,args:=#[] }]++a.defers } w4:=by
  intro bx' E' ρ' w4 hp' hR4 hD4 K hK
  have hDm:D ∉ lvB bx' ρ':=lvB_flat hR4 hD4 rfl
  have hlv:∀ g,g∈lvB bx' ρ'->w0.heap.size<=g\/g∈mu.mu:=fun g hg=>by
   obtain ⟨j,b,ad,q1,q2,q3,rfl⟩:=lvB_of hg
   exact hR4.bsrc j b ad q1 q3 q2
  refine ⟨w4,⟨lvB bx' ρ',E',mu.om,{ target:=.collected D,args:=#[] }::mu.ds⟩,⟨rfl,fun bx E ρ w x=>hR4.compose x,fun c o bx E ρ w hc hO x=>?_,fun hO=>okO.at hO hR4.keep hlv,hR4.keep.size,fun hdd=>?_,fun d hdm=>?_⟩,⟨?_,?_⟩,{ S' with bx:=bx',E:=E' },ρ',hp.trans hp',hR4.here,hF.mono hp',hK⟩
  ·unfold okO at hO
   rw [hc] at hO
   obtain ⟨g1,g2,g3,_⟩:=hO
   have g0:c.l<w0.heap.size:=(Array.getElem?_eq_some_iff.1 g1).1
   have g4:w4.heap[c.l]? =some (.loop c.r):=by rw [hR4.keep.block c.l g0 g3];exact g1
   exact (hR4.putBoth g0 g4 rfl (.loop o)).compose x
  ·refine ⟨List.nodup_cons.2 ⟨fun hm'=>?_,hdd.1⟩,fun d hdm=>?_⟩
   ·obtain ⟨D',q1,q2,_⟩:=hdd.2 _ hm'
    cases q1
    have:=(Array.getElem?_eq_some_iff.1 q2).1
    omega
   ·rcases List.mem_cons.1 hdm with rfl|hdm
    ·exact ⟨D,rfl,hD4,hDm⟩
    ·obtain ⟨D',q1,q2,q3⟩:=hdd.2 _ hdm
     have hD':w4.heap[D']? =some (.deferred (some [])):=by rw [hR4.keep.block D' (Array.getElem?_eq_some_iff.1 q2).1 q3];exact q2
     exact ⟨D',q1,hD',lvB_flat hR4 hD' rfl⟩
  ·rcases List.mem_cons.1 hdm with rfl|hdm
   ·exact .inr ⟨D,rfl,hw0⟩
   ·exact .inl hdm
  ·show [({ target:=.collected D,args:=#[] }:Deferred)]++a.defers=_
   rw [hd];rfl
  ·exact okO.at hO hR4.keep hlv
 rintro e w3 (⟨v,s,bx',E',ρ',rfl,hp',hs,hR3,hK⟩|⟨c,hc,v,bx',E',ρ',rfl,hp',hR3,hK⟩)
 ·have hl3:w3.heap[D+1]? =some (.loop r):=by rw [hR3.keep.block (D+1) (by omega) (hnl _ (by omega))];exact hlb
  have hD3:w3.heap[D]? =some (.deferred (some [])):=by rw [hR3.keep.block D (by omega) (hnl _ (by omega))];exact hDb
  have hR4:=(hRb.compose hR3).putObj hl3 rfl (by omega) (.loop { r with state:=.exhausted })
  have hend:(Instr.endLoop (D+1)).run P w3= .ok none (w3.putObj (D+1) (.loop { r with state:=.exhausted })):=by
   have:=run_endLoop (P:=P) hl3 (by rw [hrp.1];intro e;cases e)
   rw [this,hrp.2]
  exact ⟨none,_,hend,fin bx' E' ρ' _ hp' hR4 (by rw [World.putObj_heap_other (by omega)];exact hD3) _ hK⟩
 ·cases hc
  obtain ⟨st,hst⟩:∃ st,st=(Rc.stop ⟨D+1,r,ρ,fun bx E=>Q .ret { S' with bx:=bx,E:=E },Ω.map Rc.base⟩):=⟨_,rfl⟩
  have hst2:st.state= .done/\st.pending=some .ret:=by rw [hst];exact ⟨rfl,rfl⟩
  rw [← hst] at hR3
  have hsl:(wb.putObj (D+1) (.loop st)).heap[D+1]? =some (.loop st):=World.putObj_heap_same (by omega)
  have hl3:w3.heap[D+1]? =some (.loop st):=by rw [hR3.keep.block (D+1) (by rw [World.putObj_size];omega) (hnl (D+1) (Nat.le_succ D))];exact hsl
  have hD3:w3.heap[D]? =some (.deferred (some [])):=by rw [hR3.keep.block D (by rw [World.putObj_size];omega) (hnl D (Nat.le_refl D)),World.putObj_heap_other (Nat.ne_of_lt (Nat.lt_succ_self D))];exact hDb
  have hR4:=((hRb.putObj hlb rfl (Nat.le_succ_of_le hw0) (.loop st)).compose hR3).putObj hl3 rfl (Nat.le_succ_of_le hw0) (.loop { st with state:=.exhausted })
  have hend:(Instr.endLoop (D+1)).run P w3= .ok (some .ret) (w3.putObj (D+1) (.loop { st with state:=.exhausted })):=by
   have:=run_endLoop (P:=P) hl3 (by rw [hst2.1];intro e;cases e)
   rw [this,hst2.2]
  exact ⟨some .ret,_,hend,wpIn_ret (.inl (fin bx' E' ρ' _ hp' hR4 (by rw [World.putObj_heap_other (by omega)];exact hD3) (Q .ret) hK))⟩
end
def Pn (C:Cx) (n:Nat) (fn:Func) (p:List Nat) (n0:Nat) (K:KT) (S:St):Prop:=
 nSt S (contN C.P (callN C n) C.muts { C.opt with base:=n0 } (bodyOf fn) p (bodyN C.P fn K) .normal)
structure Cn (C:Cx) (n:Nat) (fn:Func) (p:List Nat) (n0:Nat) (K:KT) (S:St):Prop where
 out:contN C.P (callN C n) C.muts { C.opt with base:=n0 } (bodyOf fn) p (bodyN C.P fn K) .normal S
theorem Cn_intro {C:Cx} {n:Nat} {fn:Func} {p:List Nat} {n0:Nat} {K:KT} {S:St} (h:Pn C n fn p n0 K S):Cn C n fn p n0 K S:=by
 unfold Pn at h
 rw [nSt_eq] at h
 exact ⟨h⟩
def Cx.inY (C' C:Cx) (n:Nat) (c:Rc) (fr:List (Option SV)) (ps:List Nat) (assign body:Code):Cx:=
 { C' with opt:={ C'.opt with om:=some c },tabY:=fun args bx E K=>match args with
  | .raw (.func (.yield l) m b)::rest=>match m.toList,b.toList with
   | [],[]=>l=c.l/\cond (ps.length==rest.length) (RoundN C.P (callN C n) C.muts C.opt fr ps assign body rest bx E K) False
   | _,_=>False
  | _=>False }
theorem CxOK.inY2 {C' C:Cx} (hC':CxOK C') (hC:CxOK C) (hP:C.P=C'.P:=by rfl) (hup:∀ c0,C.opt.om=some c0->c0.up=none) (n:Nat) {c:Rc} {fr:List (Option SV)} {ps:List Nat} {assign body:Code} {q0:List Box->Mem->Prop} (hc:RcOK c fr ps assign body q0 C.opt.om):
  CxOK (Cx.inY C' C n c fr ps assign body):=by
 refine ⟨hC'.tab,hC'.wide,hC'.inl,hC'.tabB,fun c2 args bx E K h1 h2=>?_⟩
 simp only [Cx.inY,Option.some.injEq] at h1
 subst h1
 simp only [Cx.inY] at h2
 split at h2
 case h_2=>exact h2.elim
 rename_i l m b rest
 split at h2
 case h_2=>exact h2.elim
 rename_i hm hb
 obtain ⟨rfl,h2⟩:=h2
 cases hl:ps.length==rest.length with
 | false=>rw [hl] at h2;exact h2.elim
 | true=>
  rw [hl] at h2
  simp only [cond] at h2
  have hl:ps.length=rest.length:=by simpa using hl
  rw [RoundN_eq,callN_eq] at h2
  have em:m= #[]:=by rw [← Array.toList_inj];exact hm
  have eb:b= #[]:=by rw [← Array.toList_inj];exact hb
  subst em;subst eb
  have hcall:=callF_sound n hC
  have:=round_sound (un:=C.opt) hc hup hcall hC.wide hl h2
  rw [hP] at this
  exact this
theorem CxOK.four {C:Cx} (h1:TabOK C.P C.tab) (h2:C.P.follows .mixedOrders=true) (h3:∀ f fn,C.inl f=true->C.P.funcs[f]? =some fn->okFn fn) (h4:∀ f args bx E K,C.tabB f args bx E K->CallSem C.P f args bx E K) (ho:C.opt.om=none:=by rfl):CxOK C:=
 ⟨h1,h2,h3,h4,fun c args bx E K h=>by rw [ho] at h;cases h⟩
def PnR (C:Cx) (n:Nat) (fn:Func) (p:List Nat) (n0:Nat) (K:KT) (S:St):Prop:=
 nSt S (contN C.P (callN C n) C.muts { C.opt with base:=n0 } (bodyOf fn) p (bodyN C.P fn K) .ret)
structure CnR (C:Cx) (n:Nat) (fn:Func) (p:List Nat) (n0:Nat) (K:KT) (S:St):Prop where
 out:contN C.P (callN C n) C.muts { C.opt with base:=n0 } (bodyOf fn) p (bodyN C.P fn K) .ret S
theorem Rf {C:Cx} {n:Nat} {fn:Func} {p:List Nat} {n0:Nat} {K:KT} {S:St} {g:Operand} {ps:Array Tmp} {assign body:Code} {gf:FuncId} {gfn:Func} {first caps:List SV} {Cy:Rc->Cx} {m:Nat}
  (hcode:sub (bodyOf fn) p= .rangeFunc g ps assign body) (hg:opd S g=some (.clo gf first caps)) (hf:C.P.funcs[gf]? =some gfn) (hok:okFn gfn)
  (hCy:∀ c q,RcOK c S.fr ps.toList assign body q C.opt.om->CxOK (Cy c)) (hP:∀ c,(Cy c).P=C.P) (hom:∀ c,(Cy c).opt.om=some c)
  (h:∀ c:Rc,CxOK (Cy c)->RcOK c S.fr ps.toList assign body (fun bx E=>contN C.P (callN C n) C.muts { C.opt with base:=n0 } (bodyOf fn) p (bodyN C.P fn K) .ret { S with bx:=bx,E:=E }) C.opt.om->EntB (Cy c) m gfn (first++[.raw (.func (.yield c.l) #[] #[])]++caps) S.bx S.E fun _ bx E=>Cn C n fn p n0 K { S with bx:=bx,E:=E }):Ct C n fn p n0 K S:=by
 unfold Ct
 rw [hcode]
 refine rangeFunc_sound hg fun c hc=>?_
 have:=EntB.semO (hCy c _ hc) (by rw [hP];exact hf) hok (h c (hCy c _ hc) hc)
 rw [hP,hom] at this
 refine ⟨this.1,fun w0 mu ρ w vs h1 h2 h3=>(this.2 w0 mu ρ w vs h1 h2 h3).mono ?_⟩
 rintro e w' (⟨v,s,bx',E',ρ',e1,e2,e3,e4,e5⟩|he)
 ·exact .inl ⟨v,s,bx',E',ρ',e1,e2,e3,e4,e5.out⟩
 ·exact .inr he
def isRf:Code->Bool
 | .rangeFunc .. =>true
 | _=>false
def rfG:Code->Operand
 | .rangeFunc g _ _ _=>g
 | _=>.tmp 0
def rfPs:Code->Array Tmp
 | .rangeFunc _ ps _ _=>ps
 | _=>#[]
def rfA:Code->Code
 | .rangeFunc _ _ a _=>a
 | _=>.skip
def rfB:Code->Code
 | .rangeFunc _ _ _ b=>b
 | _=>.skip
def YCx (C' C:Cx) (n:Nat) (fr:List (Option SV)) (x:Code) (c:Rc):Cx:=Cx.inY C' C n c fr (rfPs x).toList (rfA x) (rfB x)
abbrev RcX (C:Cx) (n:Nat) (fn:Func) (p:List Nat) (n0:Nat) (K:KT) (S:St) (c:Rc):Prop:=
 RcOK c S.fr (rfPs (sub (bodyOf fn) p)).toList (rfA (sub (bodyOf fn) p)) (rfB (sub (bodyOf fn) p)) (fun bx E=>contN C.P (callN C n) C.muts { C.opt with base:=n0 } (bodyOf fn) p (bodyN C.P fn K) .ret { S with bx:=bx,E:=E }) C.opt.om
theorem RfN {C C':Cx} (hC:CxOK C) (hC':CxOK C') {n m:Nat} {fn:Func} {p:List Nat} {n0:Nat} {K:KT} {S:St} {gf:FuncId} {gfn:Func} {first caps:List SV}
  (hx:isRf (sub (bodyOf fn) p)=true) (hg:opd S (rfG (sub (bodyOf fn) p))=some (.clo gf first caps)) (hf:C.P.funcs[gf]? =some gfn) (hok:okFn gfn)
  (h:∀ c:Rc,CxOK (YCx C' C n S.fr (sub (bodyOf fn) p) c)->RcX C n fn p n0 K S c->EntB (YCx C' C n S.fr (sub (bodyOf fn) p) c) m gfn (first++[.raw (.func (.yield c.l) #[] #[])]++caps) S.bx S.E fun _ bx E=>Cn C n fn p n0 K { S with bx:=bx,E:=E })
  (hup:∀ c0,C.opt.om=some c0->c0.up=none) (hP:C.P=C'.P:=by rfl):Ct C n fn p n0 K S:=by
 obtain ⟨x,e⟩:∃ x,x=sub (bodyOf fn) p:=⟨_,rfl⟩
 unfold RcX at h
 rw [← e] at hx hg h
 cases x with
 | rangeFunc g ps assign body=>
  exact Rf (Cy:=YCx C' C n S.fr (.rangeFunc g ps assign body)) e.symm hg hf hok (fun c q hc=>CxOK.inY2 hC' hC hP hup n hc) (fun c=>hP.symm) (fun c=>rfl) h
 | _=>cases hx
theorem RfQ {C C':Cx} (hC:CxOK C) (hC':CxOK C') {n m:Nat} {fn:Func} {p:List Nat} {n0:Nat} {K:KT} {S:St} {gf:FuncId} {gfn:Func} {first caps:List SV}
  (hx:isRf (sub (bodyOf fn) p)=true) (hg:opd S (rfG (sub (bodyOf fn) p))=some (.clo gf first caps)) (hf:C.P.funcs[gf]? =some gfn) (hok:okFn gfn)
  (h:∀ c:Rc,CxOK (YCx C' C n S.fr (sub (bodyOf fn) p) c)->RcX C n fn p n0 K S c->EntB (YCx C' C n S.fr (sub (bodyOf fn) p) c) m gfn (first++[.raw (.func (.yield c.l) #[] #[])]++caps) S.bx S.E fun _ bx E=>Cn C n fn p n0 K { S with bx:=bx,E:=E })
  (hP:C.P=C'.P:=by rfl) (hom:C.opt.om=none:=by rfl):Ct C n fn p n0 K S:=RfN hC hC' hx hg hf hok h (fun c0 h=>by rw [hom] at h;cases h) hP
theorem RfY {C C':Cx} (hC:CxOK C) (hC':CxOK C') {n m:Nat} {fn:Func} {p:List Nat} {n0:Nat} {K:KT} {S:St} {gf:FuncId} {gfn:Func} {first caps:List SV}
  (hx:isRf (sub (bodyOf fn) p)=true) (hg:opd S (rfG (sub (bodyOf fn) p))=some (.clo gf first caps)) (hf:C.P.funcs[gf]? =some gfn) (hok:okFn gfn)
  (h:∀ c:Rc,CxOK (YCx C' C n S.fr (sub (bodyOf fn) p) c)->EntB (YCx C' C n S.fr (sub (bodyOf fn) p) c) m gfn (first++[.raw (.func (.yield c.l) #[] #[])]++caps) S.bx S.E fun _ bx E=>Cn C n fn p n0 K { S with bx:=bx,E:=E })
  (hP:C.P=C'.P:=by rfl) (hom:C.opt.om=none:=by rfl):Ct C n fn p n0 K S:=
 RfQ hC hC' hx hg hf hok (fun c hc _=>h c hc) hP hom
end Go.Sx
namespace Go.Sx
open Go.RowKit (Below)
open Go.ChangeShapes
def Shp (P:Program) (W:World):Nat->TypeId->List Value->Prop
 | 0,_,_=>True
 | n+1,T,cs=>
  match P.underlying T with
  | some (.int k)=>∃ z:Int,cs=[.int k z]/\(Lit.int k z).wf=true
  | some .bool=>∃ b:Bool,cs=[.bool b]
  | some .string=>∃ s:ByteArray,cs=[.string s]/\s.size<=maxLen
  | some (.slice e)=>∃ (base:Option Addr) (len cap:Nat) (rows:List (List Value)),cs=[.slice base len cap]/\len<=cap/\cap<=maxLen/\(base=none->cap=0)/\rows.length=cap/\
    RowAt W (.slice base len cap) rows.flatten/\∀ r∈rows,r.length=P.cellsOf e/\Shp P W n e r
  | some (.struct fs)=>cs.length=P.cellsOf T/\∀ f∈fs.toList,Shp P W n f.type ((cs.drop f.offset).take (P.cellsOf f.type))
  | some (.array k e)=>cs.length=P.cellsOf T/\∀ i,i<k->Shp P W n e ((cs.drop (i*P.cellsOf e)).take (P.cellsOf e))
  | _=>True
section
variable {H:Type} {enc:TypeId×Value->H} {P:Program} {W:World} {base b0:Nat} {held:Bool}
theorem cells?_get {a:Addr} {n:Nat} {r:List Value} (h:W.cells? base a n=some r):r.length=n/\∀ i x,r[i]? =some x->W.cell? (a.add i)=some x:=by
 unfold World.cells? at h
 split at h
 case isFalse=>cases h
 have hl:=mapM_some_length h
 simp at hl
 refine ⟨hl,fun i x hx=>?_⟩
 have hi:i<n:=by
  rw [← hl]
  rcases Nat.lt_or_ge i r.length with h'|h'
  ·exact h'
  ·rw [List.getElem?_eq_none h'] at hx;cases hx
 rw [mapM_some_get h i i (by simp [hi]),hx]
theorem add_two (a:Addr) (i j:Nat):(a.add i).add j=a.add (i+j):=by
 cases a with
 | mk b o s=>
  unfold Addr.add
  split<;>split<;>simp_all<;>omega
theorem spot_of_cell {a:Addr} {x:Value} (h:W.cell? a=some x):a.spot=none:=by
 unfold World.cell? at h
 split at h
 ·split at h
  ·cases h
  ·rename_i hs;simpa using hs
 ·cases h
theorem flatten_get {m:Nat}:∀ {rows:List (List Value)} (_:∀ r∈rows,r.length=m) {i:Nat} {x:Value},rows.flatten[i]? =some x->∃ r j,rows[i / m]? =some r/\j=i % m/\r[j]? =some x
 | [],_,i,x,h=>by simp at h
 | r::rows,hm,i,x,h=>by
  have hr:r.length=m:=hm r (by simp)
  rw [List.flatten_cons] at h
  by_cases hi:i<m
  ·rw [List.getElem?_append_left (by omega)] at h
   exact ⟨r,i,by rw [Nat.div_eq_of_lt hi];rfl,(Nat.mod_eq_of_lt hi).symm,h⟩
  ·rw [List.getElem?_append_right (by omega),hr] at h
   obtain ⟨r',j,h1,h2,h3⟩:=flatten_get (fun r h=>hm r (by simp [h])) h
   have hm0:0<m:=by
    rcases Nat.eq_zero_or_pos m with e|e
    ·subst e
     exfalso
     have hz:rows.flatten=[]:=by
      rw [List.flatten_eq_nil_iff]
      intro q hq
      exact List.eq_nil_of_length_eq_zero (hm q (by simp [hq]))
     rw [hz] at h
     simp at h
    ·exact e
   refine ⟨r',j,?_,?_,h3⟩
   ·rw [Nat.div_eq_sub_div hm0 (by omega),List.getElem?_cons_succ];exact h1
   ·rw [h2];exact (Nat.mod_eq_sub_mod (by omega)).symm
theorem trod_shp:∀ (n fuel:Nat) (T:TypeId) (cs:List Value) (x:DataW H×List MemPlace),DataW.trod enc P W base (fun _=>true) held fuel T cs=some x->Shp P W n T cs
 | 0,_,_,_,_,_=>trivial
 | n+1,fuel,T,cs,x,h=>by
  unfold Shp
  split
  ·rename_i k ht
   obtain ⟨z,h1,_,h2⟩:=DataW.trod_int ht h
   exact ⟨z,h1,h2⟩
  ·rename_i ht
   obtain ⟨b,h1,_⟩:=DataW.trod_bool ht h
   exact ⟨b,h1⟩
  ·rename_i ht
   obtain ⟨s,h1,_,h2⟩:=DataW.trod_string ht h
   exact ⟨s,h1,h2⟩
  ·rename_i e ht
   rcases DataW.trod_slice ht h with ⟨h1,_⟩|⟨a,len,cap,elems,rest,m,_,h1,_,hb,hl,hm,hlen,hel,hsp,_⟩
   ·exact ⟨none,0,0,[],h1,Nat.le_refl _,Nat.zero_le _,fun _=>rfl,rfl,.inl rfl,by simp⟩
   ·obtain ⟨hrl,hre⟩:=hsp rfl
    have each:∀ i,i<cap->∃ r,W.cells? base (a.add (i*P.cellsOf e)) (P.cellsOf e)=some r/\∃ y,DataW.trod enc P W base (fun _=>true) held m e r=some y:=by
     intro i hi
     have :∃ y,(W.cells? base (a.add (i*P.cellsOf e)) (P.cellsOf e)).bind (DataW.trod enc P W base (fun _=>true) held m e)=some y:=by
      by_cases hi2:i<len
      ·exact ⟨_,by rw [hel i hi2,List.getElem?_eq_getElem (by omega)]⟩
      ·obtain ⟨j,rfl⟩:∃ j,i=len+j:=⟨i-len,by omega⟩
       exact ⟨_,by rw [hre j (by omega),List.getElem?_eq_getElem (by omega)]⟩
     obtain ⟨y,hy⟩:=this
     simp only [Option.bind_eq_some_iff] at hy
     obtain ⟨r,h2,h3⟩:=hy
     exact ⟨r,h2,y,h3⟩
    let row (i:Nat):List Value:=(W.cells? base (a.add (i*P.cellsOf e)) (P.cellsOf e)).getD []
    have hrow:∀ r∈(List.range cap).map row,r.length=P.cellsOf e/\∃ i,i<cap/\W.cells? base (a.add (i*P.cellsOf e)) (P.cellsOf e)=some r:=by
     intro r hr
     obtain ⟨i,hi,rfl⟩:=List.mem_map.mp hr
     simp at hi
     obtain ⟨r,h2,_⟩:=each i hi
     have :row i=r:=by simp only [row,h2,Option.getD_some]
     rw [this]
     exact ⟨(cells?_get h2).1,i,hi,h2⟩
    refine ⟨some a,len,cap,(List.range cap).map row,h1,hl,hm,(fun h=>by cases h),by simp,?_,?_⟩
    ·have hcell:∀ i x,((List.range cap).map row).flatten[i]? =some x->W.cell? (a.add i)=some x:=by
      intro i x hx
      obtain ⟨r,j,h2,h3,h4⟩:=flatten_get (m:=P.cellsOf e) (fun r hr=>(hrow r hr).1) hx
      have hi:i / P.cellsOf e<cap:=by
       rcases Nat.lt_or_ge (i / P.cellsOf e) cap with h'|h'
       ·exact h'
       ·rw [List.getElem?_eq_none (by simpa using h')] at h2;cases h2
      obtain ⟨r',h5,_⟩:=each _ hi
      have :r=r':=by
       simp [hi] at h2
       rw [← h2]
       simp only [row,h5,Option.getD_some]
      subst this
      have:=(cells?_get h5).2 j x h4
      rw [add_two,h3] at this
      rw [show i / P.cellsOf e*P.cellsOf e+i % P.cellsOf e=i by rw [Nat.mul_comm];exact Nat.div_add_mod i _] at this
      exact this
     rcases hf:((List.range cap).map row).flatten with _|⟨x,xs⟩
     ·exact .inl rfl
     ·rw [← hf]
      have h0:=hcell 0 x (by rw [hf];rfl)
      have hs:a.spot=none:=by
       have:=spot_of_cell h0
       cases a with
       | mk b o s=>
        unfold Addr.add at this
        split at this<;>simp_all
      exact .inr ⟨a,len,cap,rfl,hs,fun i x hx=>by rw [← add_eq hs];exact hcell i x hx⟩
    ·intro r hr
     obtain ⟨h2,i,hi,h3⟩:=hrow r hr
     obtain ⟨r',h4,y,h5⟩:=each i hi
     rw [h3] at h4;cases h4
     exact ⟨h2,trod_shp n m e r y h5⟩
  ·rename_i fs ht
   obtain ⟨xs,m,_,_,hl,hlen,hf⟩:=DataW.trod_struct ht h
   refine ⟨hl,fun f hfm=>?_⟩
   obtain ⟨i,hi,he⟩:=List.getElem_of_mem hfm
   have hi':i<fs.size:=by simpa using hi
   have:=hf i f (by rw [Array.getElem?_eq_getElem hi'];simpa using he)
   rw [List.getElem?_eq_getElem (by omega)] at this
   exact trod_shp n m _ _ _ this
  ·rename_i k e ht
   obtain ⟨xs,m,_,_,hl,hlen,hf⟩:=DataW.trod_array ht h
   refine ⟨hl,fun i hi=>?_⟩
   have:=hf i hi
   rw [List.getElem?_eq_getElem (by omega)] at this
   exact trod_shp n m _ _ _ this
  ·trivial
def opn (P:Program) (W:World):Nat->TypeId->(List Value->Prop)->Prop
 | 0,_,_=>False
 | n+1,T,K=>
  match P.underlying T with
  | some (.int k)=>∀ z:Int,(Lit.int k z).wf=true->K [.int k z]
  | some .bool=>∀ b:Bool,K [.bool b]
  | some .string=>∀ s:ByteArray,s.size<=maxLen->K [.string s]
  | some (.slice e)=>match P.underlying e with
   | some (.int k)=>∀ (base:Option Addr) (len cap:Nat) (zs:List Int),len<=cap->cap<=maxLen->(base=none->cap=0)->zs.length=cap->(∀ z∈zs,(Lit.int k z).wf=true)->
     RowAt W (.slice base len cap) (zs.map (.int k))->K [.slice base len cap]
   | _=>∀ (base:Option Addr) (len cap:Nat) (rows:List (List Value)),len<=cap->cap<=maxLen->(base=none->cap=0)->rows.length=cap->
     RowAt W (.slice base len cap) rows.flatten->(∀ r∈rows,r.length=P.cellsOf e/\Shp P W 12 e r)->K [.slice base len cap]
  | some (.struct fs)=>flds (fun t=>opn P W n t) 0 (P.cellsOf T) fs.toList K
  | some (.array k e)=>if P.cellsOf T=k*P.cellsOf e then elts (fun t=>opn P W n t) e k K else False
  | _=>∀ cs,K cs
where
 flds (r:TypeId->(List Value->Prop)->Prop):Nat->Nat->List Field->(List Value->Prop)->Prop
  | off,tot,[],K=>if off=tot then K [] else False
  | off,tot,f::fs,K=>if f.offset=off then r f.type fun c=>flds r (off+P.cellsOf f.type) tot fs fun cs=>K (c++cs) else False
 elts (r:TypeId->(List Value->Prop)->Prop) (e:TypeId):Nat->(List Value->Prop)->Prop
  | 0,K=>K []
  | k+1,K=>r e fun c=>elts r e k fun cs=>K (c++cs)
theorem ints_of_rows {W:World} {e:TypeId} {k:IntKind} (he:P.underlying e=some (.int k)):∀ {rows:List (List Value)} (_:∀ r∈rows,Shp P W 1 e r),∃ zs:List Int,rows.flatten=zs.map (.int k)/\zs.length=rows.length/\∀ z∈zs,(Lit.int k z).wf=true
 | [],_=>⟨[],rfl,rfl,by simp⟩
 | r::rows,h=>by
  obtain ⟨zs,h1,h2,h3⟩:=ints_of_rows he (rows:=rows) (fun r hr=>h r (by simp [hr]))
  have:=h r (by simp)
  simp only [Shp,he] at this
  obtain ⟨z,rfl,hz⟩:=this
  exact ⟨z::zs,by simp [h1],by simp [h2],fun y hy=>by
   rcases List.mem_cons.mp hy with rfl|hy
   ·exact hz
   ·exact h3 y hy⟩
theorem flds_sound {n:Nat} {cs:List Value} (ih:∀ T K c,opn P W n T K->(∀ m,Shp P W m T c)->K c):∀ (fs:List Field) (off:Nat) (K:List Value->Prop),
  (∀ f∈fs,∀ m,Shp P W m f.type ((cs.drop f.offset).take (P.cellsOf f.type)))->opn.flds P (fun t=>opn P W n t) off cs.length fs K->K (cs.drop off)
 | [],off,K,_,h=>by
  simp only [opn.flds] at h
  split at h
  ·subst_vars;simpa using h
  ·exact h.elim
 | f::fs,off,K,hs,h=>by
  simp only [opn.flds] at h
  split at h
  case isFalse=>exact h.elim
  rename_i ho
  subst ho
  have h1:=ih _ _ _ h (hs f (by simp))
  have h2:=flds_sound ih fs _ _ (fun g hg=>hs g (by simp [hg])) h1
  rw [← List.drop_drop,List.take_append_drop] at h2
  exact h2
theorem elts_sound {n:Nat} {e:TypeId} {cs:List Value} (ih:∀ T K c,opn P W n T K->(∀ m,Shp P W m T c)->K c):∀ (k i:Nat) (K:List Value->Prop),
  cs.length=(i+k)*P.cellsOf e->(∀ j,j<k->∀ m,Shp P W m e ((cs.drop ((i+j)*P.cellsOf e)).take (P.cellsOf e)))->opn.elts (fun t=>opn P W n t) e k K->K (cs.drop (i*P.cellsOf e))
 | 0,i,K,hl,_,h=>by
  simp only [opn.elts] at h
  rw [List.drop_eq_nil_of_le (by rw [hl];simp)];exact h
 | k+1,i,K,hl,hs,h=>by
  simp only [opn.elts] at h
  have h1:=ih _ _ _ h (hs 0 (by omega))
  have h2:=elts_sound ih k (i+1) _ (by rw [hl];congr 1;omega) (fun j hj=>by have:=hs (j+1) (by omega);rwa [show i+(j+1)=i+1+j by omega] at this) h1
  rw [Nat.add_zero,Nat.add_mul,Nat.one_mul,← List.drop_drop,List.take_append_drop] at h2
  exact h2
theorem opn_sound:∀ (n:Nat) (T:TypeId) (K:List Value->Prop) (cs:List Value),opn P W n T K->(∀ m,Shp P W m T cs)->K cs
 | 0,_,_,_,h,_=>h.elim
 | n+1,T,K,cs,h,hs=>by
  obtain ⟨k0,hk0⟩:∃ k0,k0=12:=⟨_,rfl⟩
  have h0:=hs (k0+1)
  unfold opn at h
  try rw [← hk0] at h
  simp only [Shp] at h0
  split at h
  ·rename_i k ht
   simp only [ht] at h0
   obtain ⟨z,rfl,hz⟩:=h0;exact h z hz
  ·rename_i ht
   simp only [ht] at h0
   obtain ⟨z,rfl⟩:=h0;exact h z
  ·rename_i ht
   simp only [ht] at h0
   obtain ⟨z,rfl,hz⟩:=h0;exact h z hz
  ·rename_i e ht
   simp only [ht] at h0
   obtain ⟨base,len,cap,rows,rfl,h1,h2,h3,h4,h5,h6⟩:=h0
   split at h
   ·rename_i k he
    subst hk0
    obtain ⟨zs,g1,g2,g3⟩:=ints_of_rows (W:=W) he (rows:=rows) (fun r hr=>by
     have :Shp P W (11+1) e r:=(h6 r hr).2
     unfold Shp at this ⊢
     rw [he] at this ⊢
     exact this)
    rw [g1] at h5
    exact h base len cap zs h1 h2 h3 (by omega) g3 h5
   ·subst hk0;exact h base len cap rows h1 h2 h3 h4 h5 h6
  ·rename_i fs ht
   simp only [ht] at h0
   rw [← h0.1] at h
   have:=flds_sound (cs:=cs) (opn_sound n) fs.toList 0 K (fun f hf m=>by
    have:=hs (m+1)
    simp only [Shp,ht] at this
    exact this.2 f hf) h
   simpa using this
  ·rename_i k e ht
   simp only [ht] at h0
   split at h
   case isFalse=>exact h.elim
   rename_i hsz
   have:=elts_sound (cs:=cs) (opn_sound n) k 0 K (by rw [h0.1,hsz];simp) (fun j hj m=>by
    have:=hs (m+1)
    simp only [Shp,ht] at this
    rw [Nat.zero_add]
    exact this.2 j hj) h
   simpa using this
  ·exact h cs
def opnAll (P:Program) (W:World):List TypeId->(List SV->Prop)->Prop
 | [],K=>K []
 | T::Ts,K=>
  match P.underlying T with
  | some (.struct _)|some (.array ..)=>opn P W 12 T fun cs=>opnAll P W Ts fun ss=>K (.agg (cs.map .raw)::ss)
  | some .bool|some (.int _)|some .string|some (.slice _)=>opn P W 12 T fun cs=>match cs with
   | [v]=>opnAll P W Ts fun ss=>K (.raw v::ss)
   | _=>False
  | _=>∀ v,opnAll P W Ts fun ss=>K (.raw v::ss)
theorem valL_raws:∀ (cs:List Value),SV.valL (cs.map .raw)=some cs
 | []=>rfl
 | c::cs=>by simp [SV.valL,SV.val,valL_raws cs]
theorem opnAll_sound:∀ {Ts:List TypeId} {vs:List Value} {ds:List (DataW H)} {ps:List MemPlace} {K:List SV->Prop},DataW.TrodAll enc P W base (fun _=>true) held Ts vs ds ps->
  (∀ (j:Nat) t v,Ts[j]? =some t->vs[j]? =some v->Value.okWide P W .any b0 t v)->opnAll P W Ts K->∃ ss,SV.valL ss=some vs/\K ss
 | [],vs,ds,ps,K,h,_,hk=>by
  obtain ⟨rfl,rfl,rfl⟩:=trodAll_nil h
  exact ⟨[],rfl,hk⟩
 | T::Ts,vs,ds,ps,K,h,hok,hk=>by
  obtain ⟨v,vs,d,ds,p,q,rfl,rfl,rfl,⟨fuel,h1⟩,h2⟩:=trodAll_cons h
  have hshp:∀ m,Shp P W m T v.cells.toList:=fun m=>trod_shp m _ _ _ _ h1
  have hv:=hok 0 T v rfl rfl
  have hrest:∀ K',opnAll P W Ts K'->∃ ss,SV.valL ss=some vs/\K' ss:=fun K' hk'=>opnAll_sound h2 (fun j t v ht hv=>hok (j+1) t v (by simpa using ht) (by simpa using hv)) hk'
  have hagg:(∃ cs,v= .agg cs)->(opn P W 12 T fun cs=>opnAll P W Ts fun ss=>K (.agg (cs.map .raw)::ss))->∃ ss,SV.valL ss=some (v::vs)/\K ss:=by
   rintro ⟨cs,rfl⟩ hk
   have:=opn_sound 12 T _ _ hk hshp
   obtain ⟨ss,h3,h4⟩:=hrest _ this
   exact ⟨_,by simp [SV.valL,SV.val,valL_raws,h3,Value.cells],h4⟩
  have hone:v.cells= #[v]->(opn P W 12 T fun cs=>match cs with
   | [v]=>opnAll P W Ts fun ss=>K (.raw v::ss)
   | _=>False)->∃ ss,SV.valL ss=some (v::vs)/\K ss:=by
   intro hc hk
   have:=opn_sound 12 T _ _ hk hshp
   rw [hc] at this
   obtain ⟨ss,h3,h4⟩:=hrest _ this
   exact ⟨_,by simp [SV.valL,SV.val,h3],h4⟩
  simp only [opnAll] at hk
  simp only [Value.okWide] at hv
  split at hk
  ·rename_i fs ht
   simp only [ht] at hv
   exact hagg ⟨_,hv.choose_spec.1⟩ hk
  ·rename_i n e ht
   simp only [ht] at hv
   exact hagg ⟨_,hv.choose_spec.1⟩ hk
  ·rename_i ht
   simp only [ht,Cell.okWide,Cell.ok] at hv
   refine hone ?_ hk
   clear hk hone hagg hrest hshp h1 h2 hok
   cases v<;>simp_all [Value.cells]
  ·rename_i k ht
   simp only [ht,Cell.okWide,Cell.ok] at hv
   refine hone ?_ hk
   clear hk hone hagg hrest hshp h1 h2 hok
   cases v<;>simp_all [Value.cells]
  ·rename_i ht
   simp only [ht,Cell.okWide,Cell.ok] at hv
   refine hone ?_ hk
   clear hk hone hagg hrest hshp h1 h2 hok
   cases v<;>simp_all [Value.cells]
  ·rename_i e ht
   simp only [ht,Cell.okWide,Cell.ok] at hv
   refine hone ?_ hk
   clear hk hone hagg hrest hshp h1 h2 hok
   cases v<;>simp_all [Value.cells]
  ·obtain ⟨ss,h3,h4⟩:=hrest _ (hk v)
   exact ⟨_,by simp [SV.valL,SV.val,h3],h4⟩
theorem trodAll_below {W':World} (hl:laidOutB P=true) (hb:Below W.heap.size W W'):∀ {Ts:List TypeId} {vs:List Value} {ds:List (DataW H)} {ps:List MemPlace},(Ts.all fun t=>P.readableRec t&&decide (t<P.types.size))=true->
  DataW.TrodAll enc P W 0 (fun _=>true) true Ts vs ds ps->DataW.TrodAll enc P W' 0 (fun b=>decide (b<W.heap.size)) true Ts vs ds ps
 | [],vs,ds,ps,_,h=>by
  obtain ⟨rfl,rfl,rfl⟩:=trodAll_nil h
  exact trodAll_mk0
 | T::Ts,vs,ds,ps,hr,h=>by
  obtain ⟨v,vs,d,ds,p,q,rfl,rfl,rfl,h1,h2⟩:=trodAll_cons h
  simp only [List.all_cons,Bool.and_eq_true,decide_eq_true_eq] at hr
  have lt:∀ x∈p,x.block<W.heap.size:=by obtain ⟨m,hm⟩:=h1;exact DataW.trod_lt m _ _ _ hm
  exact trodAll_cons_mk (Below.trod hl hr.1.1 hr.1.2 h1 hb lt) (trodAll_below hl hb (by simpa using hr.2) h2)
theorem trodAll_len:∀ {Ts:List TypeId} {vs:List Value} {ds:List (DataW H)} {ps:List MemPlace} {sp:Nat->Bool},DataW.TrodAll enc P W base sp held Ts vs ds ps->ds.length=Ts.length
 | [],_,_,_,_,h=>by obtain ⟨_,rfl,_⟩:=trodAll_nil h;rfl
 | T::Ts,_,_,_,_,h=>by obtain ⟨_,_,_,_,_,_,_,rfl,_,_,h2⟩:=trodAll_cons h;simp [trodAll_len h2]
end
end Go.Sx
namespace Go.Sx
abbrev I (n:Int):SV:=.raw (.int .i64 n)
abbrev B (b:Bool):SV:=.raw (.bool b)
abbrev L (b:Option Addr) (l c:Nat):SV:=.raw (.slice b l c)
theorem wrap_i64 {x:Int} (h: -9223372036854775808<=x/\x<=9223372036854775807):IntKind.wrap .i64 x=x:=Go.IntWalk.i64_in x h
def okInlB (P:Program) (l:List FuncId):Bool:=l.all fun f=>match P.funcs[f]? with
 | some fn => !(fn.name == "runtime.NumGoroutine") && !fn.body.isNone
 | none=>true
theorem okInl {P:Program} {l:List FuncId} (h:okInlB P l=true) (f:FuncId) (fn:Func) (hf:(fun f=>l.contains f) f=true) (hfn:P.funcs[f]? =some fn):okFn fn:=by
 have hm:f∈l:=by simpa using hf
 have:=List.all_eq_true.mp h f hm
 rw [hfn] at this
 simpa [okFn] using this
def weakFr:List (Option SV)->List (Option SV)->Prop
 | [],[]=>True
 | _::xs,none::ys=>weakFr xs ys
 | some x::xs,some y::ys=>x=y/\weakFr xs ys
 | _,_=>False
def Ints (k:IntKind) (E:Mem) (b:Option Addr) (l c:Nat) (zs:List Int):Prop:=E (.slice b l c) (zs.map (.int k))/\l<=zs.length/\zs.length<=maxLen
theorem Ints.ne {k:IntKind} {E:Mem} {b:Option Addr} {l c:Nat} {zs:List Int} (h:Ints k E b l c zs) {i:Nat} (hi:i<l):∃ cs,E (.slice b l c) cs/\(cs=[]->False):=
 ⟨_,h.1,fun e=>by have:=congrArg List.length e;have:=h.2.1;simp at *;subst_vars;simp at *;omega⟩
theorem Ints.load {k:IntKind} {E:Mem} {b:Option Addr} {l c:Nat} {zs:List Int} (h:Ints k E b l c zs) {P:Program} {T:TypeId} (ht:P.underlying T=some (.int k)) {i:Nat} (hi:i<l):LoadE P E T (.slice b l c) (i*1) (.raw (.int k (zs.getD i 0))):=
 ⟨_,h.1,by
  have hl:i<zs.length:=Nat.lt_of_lt_of_le hi h.2.1
  unfold loadW
  rw [ht]
  simp [hl]⟩
def dI (x:SV) (k:Int->Prop):Prop:=match x with
 | .raw (.int .i64 n)=>k n
 | _=>False
theorem dI_elim {x:SV} {k:Int->Prop} (h:dI x k):∃ n,x=I n/\k n:=by
 unfold dI at h;split at h
 ·exact ⟨_,rfl,h⟩
 ·exact h.elim
def dN (q:IntKind) (x:SV) (k:Int->Prop):Prop:=match x with
 | .raw (.int q' n)=>q'=q/\k n
 | _=>False
theorem dN_elim {q:IntKind} {x:SV} {k:Int->Prop} (h:dN q x k):∃ n,x= .raw (.int q n)/\k n:=by
 unfold dN at h;split at h
 ·obtain ⟨rfl,h⟩:=h;exact ⟨_,rfl,h⟩
 ·exact h.elim
def dB (x:SV) (k:Bool->Prop):Prop:=match x with
 | .raw (.bool n)=>k n
 | _=>False
theorem dB_elim {x:SV} {k:Bool->Prop} (h:dB x k):∃ n,x=B n/\k n:=by
 unfold dB at h;split at h
 ·exact ⟨_,rfl,h⟩
 ·exact h.elim
def dS (x:SV) (k:Option Addr->Nat->Nat->Prop):Prop:=match x with
 | .raw (.slice b l c)=>k b l c
 | _=>False
theorem dS_elim {x:SV} {k:Option Addr->Nat->Nat->Prop} (h:dS x k):∃ b l c,x=L b l c/\k b l c:=by
 unfold dS at h;split at h
 ·exact ⟨_,_,_,rfl,h⟩
 ·exact h.elim
def dC (x:SV) (k:List SV->Prop):Prop:=match asCells x with
 | some l=>k l
 | none=>False
theorem dC_elim {x:SV} {k:List SV->Prop} (h:dC x k):∃ l,asCells x=some l/\k l:=by
 unfold dC at h;split at h
 ·exact ⟨_,by assumption,h⟩
 ·exact h.elim
theorem asCells_val {x:SV} {l:List SV} (h:asCells x=some l):x.val=SV.val (.agg l):=by
 unfold asCells at h
 split at h
 ·simp only [Option.some.injEq] at h;subst h;rfl
 ·rename_i cs
  simp only [Option.some.injEq] at h;subst h
  simp only [SV.val,valL_raws,Option.map_some]
 ·cases h
theorem TabSem.congr {P:Program} {f:FuncId} {args args':List SV} {E:Mem} {K:SV->Mem->Prop} (e:SV.valL args=SV.valL args') (h:TabSem P f args' E K):TabSem P f args E K:=
 ⟨h.1,let ⟨vs,h1,h2⟩:=h.2;⟨vs,e.trans h1,h2⟩⟩
theorem valL_cons {x y:SV} {l m:List SV} (h:x.val=y.val) (h':SV.valL l=SV.valL m):SV.valL (x::l)=SV.valL (y::m):=by
 simp only [SV.valL,h,h']
def Hyp (p:Prop):Prop:=p
def d0 (l:List SV) (k:Prop):Prop:=match l with
 | []=>k
 | _=>False
theorem d0_elim {l:List SV} {k:Prop} (h:d0 l k):l=[]/\k:=by
 unfold d0 at h;split at h
 ·exact ⟨rfl,h⟩
 ·exact h.elim
def d1 (l:List SV) (k:SV->Prop):Prop:=match l with
 | [a0]=>k a0
 | _=>False
theorem d1_elim {l:List SV} {k:SV->Prop} (h:d1 l k):∃ a0,l=[a0]/\k a0:=by
 unfold d1 at h;split at h
 ·exact ⟨_,rfl,h⟩
 ·exact h.elim
def d2 (l:List SV) (k:SV->SV->Prop):Prop:=match l with
 | [a0,a1]=>k a0 a1
 | _=>False
theorem d2_elim {l:List SV} {k:SV->SV->Prop} (h:d2 l k):∃ a0 a1,l=[a0,a1]/\k a0 a1:=by
 unfold d2 at h;split at h
 ·exact ⟨_,_,rfl,h⟩
 ·exact h.elim
def d4 (l:List SV) (k:SV->SV->SV->SV->Prop):Prop:=match l with
 | [a0,a1,a2,a3]=>k a0 a1 a2 a3
 | _=>False
theorem d4_elim {l:List SV} {k:SV->SV->SV->SV->Prop} (h:d4 l k):∃ a0 a1 a2 a3,l=[a0,a1,a2,a3]/\k a0 a1 a2 a3:=by
 unfold d4 at h;split at h
 ·exact ⟨_,_,_,_,rfl,h⟩
 ·exact h.elim
def d5 (l:List SV) (k:SV->SV->SV->SV->SV->Prop):Prop:=match l with
 | [a0,a1,a2,a3,a4]=>k a0 a1 a2 a3 a4
 | _=>False
theorem d5_elim {l:List SV} {k:SV->SV->SV->SV->SV->Prop} (h:d5 l k):∃ a0 a1 a2 a3 a4,l=[a0,a1,a2,a3,a4]/\k a0 a1 a2 a3 a4:=by
 unfold d5 at h;split at h
 ·exact ⟨_,_,_,_,_,rfl,h⟩
 ·exact h.elim
def d8 (l:List SV) (k:SV->SV->SV->SV->SV->SV->SV->SV->Prop):Prop:=match l with
 | [a0,a1,a2,a3,a4,a5,a6,a7]=>k a0 a1 a2 a3 a4 a5 a6 a7
 | _=>False
theorem d8_elim {l:List SV} {k:SV->SV->SV->SV->SV->SV->SV->SV->Prop} (h:d8 l k):∃ a0 a1 a2 a3 a4 a5 a6 a7,l=[a0,a1,a2,a3,a4,a5,a6,a7]/\k a0 a1 a2 a3 a4 a5 a6 a7:=by
 unfold d8 at h;split at h
 ·exact ⟨_,_,_,_,_,_,_,_,rfl,h⟩
 ·exact h.elim
inductive AlikeT where
 | l
 | n (a b:AlikeT)
def Alike:AlikeT->Prop->Prop
 | .l,p=>p
 | .n a b,p=>Alike a p/\Alike b p
theorem alike {p:Prop} (h:p):∀ {t:AlikeT},Alike t p
 | .l=>h
 | .n _ _=>⟨alike h,alike h⟩
end Go.Sx
namespace Go.Sx
open Go
theorem Lp_re {C:Cx} {n:Nat} {fn:Func} {p:List Nat} {n0:Nat} {K:KT} {S T:St} (τ:Tau) (h:Lp C n fn p n0 K T) (hw:S.wk n0 τ T):Lp C n fn p n0 K S:=Lp_wk τ hw h
theorem Ct_re {C:Cx} {n:Nat} {fn:Func} {p:List Nat} {n0:Nat} {K:KT} {S T:St} (τ:Tau) (h:Ct C n fn p n0 K T) (hw:S.wk n0 τ T):Ct C n fn p n0 K S:=Ct_wk τ hw h
end Go.Sx
namespace Go.Sx
open Go
def cloK (n0:Nat) (K:KT):KT:=fun s bx E=>∃ τ s' bx' E',St.wk n0 τ ⟨[some s],bx,E⟩ ⟨[some s'],bx',E'⟩/\K s' bx' E'
theorem Lift_wk {n0:Nat} {τ:Tau} {S T:St} (hw:S.wk n0 τ T) {w0:World} {mu:Fm} {ρ0:Env} {a:Act} {w:World} (hn:ρ0.length<=n0)
  (h:Lift w0 mu ρ0 (fun S'=>S'=S) a w):Lift w0 mu ρ0 (fun S'=>S'=T) a w:=
 (AtP_wk (n0:=n0) (Φ:=fun w0 mu ρ0 a w=>Lift w0 mu ρ0 (fun S'=>S'=T) a w) hw ⟨fun _ _ _ _ _ _ h=>h⟩).out w0 mu ρ0 a w hn h
theorem CallSem.clo {P:Program} {f:FuncId} {args:List SV} {bx:List Box} {E:Mem} {K:KT} (h:CallSem P f args bx E (cloK bx.length K)):CallSem P f args bx E K:=by
 refine fun w0 mu ρ w vs hR hv=>?_
 refine (h w0 mu ρ w vs hR hv).mono fun e w' hp=>?_
 obtain ⟨v,s,bx',E',ρ',rfl,hpre,hs,hR',τ,s',bx'',E'',hw,hK⟩:=hp
 have hl:Lift w0 ⟨mu.mu,mu.E0,none,[]⟩ ρ (fun S'=>S'=(⟨[some s],bx',E'⟩:St)) { tmps:=#[v],defers:=[] } w':=
  ⟨⟨rfl,trivial⟩,_,ρ',hpre,Rel.cast (mu:=mu) rfl rfl hR',⟨rfl,fun i t ht=>by
   match i,ht with
   | 0,ht=>simp at ht;subst ht;exact ⟨v,rfl,hs⟩⟩,rfl⟩
 obtain ⟨_,_,ρ2,hp2,hR2,hF2,rfl⟩:=Lift_wk hw (by rw [hR.len];exact Nat.le_refl _) hl
 obtain ⟨v2,h1,h2⟩:=hF2.2 0 s' rfl
 simp at h1;subst h1
 exact ⟨v,s',bx'',E'',ρ2,rfl,hp2,h2,Rel.cast (mu:=⟨mu.mu,mu.E0,none,[]⟩) rfl rfl hR2,hK⟩
theorem cloK_intro {n0:Nat} {K:KT} (τ:Tau) {s s':SV} {bx bx':List Box} {E E':Mem} (h:K s' bx' E') (hw:St.wk n0 τ ⟨[some s],bx,E⟩ ⟨[some s'],bx',E'⟩):cloK n0 K s bx E:=⟨τ,s',bx',E',hw,h⟩
end Go.Sx
namespace Go.Sx
open Go
def pubB (K:KT):KT:=fun s bx E=>pubW 16 [s] bx E fun ss bx2 E2=>match ss with
 | [s']=>K s' bx2 E2
 | _=>False
theorem CallSem.pubB {P:Program} {f:FuncId} {args:List SV} {bx:List Box} {E:Mem} {K:KT} (h:CallSem P f args bx E (pubB K)):CallSem P f args bx E K:=by
 refine fun w0 mu ρ w vs hR hv=>?_
 refine (h w0 mu ρ w vs hR hv).mono fun e w' hp=>?_
 obtain ⟨v,s,bx',E',ρ',rfl,hpre,hs,hR',hK⟩:=hp
 obtain ⟨ss,bx2,E2,h5,h6,h7⟩:=pubW_sound 16 [s] bx' E' [v] hK hR' (by simp only [SV.denL,hs])
 split at h7
 case h_2=>exact h7.elim
 rename_i s'
 refine ⟨v,s',bx2,E2,ρ',rfl,hpre,?_,h6,h7⟩
 simp only [SV.denL] at h5
 split at h5
 ·rename_i x ys e1 e2
  simp only [Option.some.injEq,List.cons.injEq] at e2 h5
  rw [e1,h5.1]
 ·cases h5
end Go.Sx
namespace Go.Sx
open Go
end Go.Sx
namespace Go.Sx
open Go
abbrev RowR (α:Type):=Mem->α->List Value->Prop
structure RowOK {α:Type} (k:Nat) (R:RowR α):Prop where
 mono:∀ {E E':Mem} {x:α} {r:List Value},Mem.le E E'->R E x r->R E' x r
 len:∀ {E:Mem} {x:α} {r:List Value},R E x r->r.length=k
 one:∀ {E:Mem} {x:α} {r:List Value},R E x r->∀ v∈r,v.oneCell'=true
 pos:0<k
def SLr {α:Type} (R:RowR α) (E:Mem) (rs:List (List Value)) (xs:List α):Prop:=rs.length=xs.length/\∀ (i:Nat) r x,rs[i]? =some r->xs[i]? =some x->R E x r
def SL {α:Type} (R:RowR α) (E:Mem) (b:Option Addr) (n c:Nat) (xs:List α):Prop:=
 ∃ rs,SLr R E rs xs/\xs.length=n/\n<=c/\(n=0\/E (.slice b n c) rs.flatten)/\(b=none->n=0)
section
variable {α:Type} {k:Nat} {R:RowR α} {E E':Mem} {rs rt:List (List Value)} {xs ys:List α} {b b':Option Addr} {n c:Nat}
theorem SLr.mono (ok:RowOK k R) (h:SLr R E rs xs) (he:Mem.le E E'):SLr R E' rs xs:=⟨h.1,fun i r x h1 h2=>ok.mono he (h.2 i r x h1 h2)⟩
theorem SLr.nil:SLr R E [] []:=⟨rfl,fun i r x h=>by simp at h⟩
theorem SLr.drop (h:SLr R E rs xs) (i:Nat):SLr R E (rs.drop i) (xs.drop i):=⟨by simp [h.1],fun j r x g1 g2=>by
 rw [List.getElem?_drop] at g1 g2;exact h.2 _ r x g1 g2⟩
theorem SLr.take (h:SLr R E rs xs) (i:Nat):SLr R E (rs.take i) (xs.take i):=⟨by simp [h.1],fun j r x g1 g2=>by
 rw [List.getElem?_take] at g1 g2
 split at g1
 ·rename_i hj;rw [if_pos hj] at g2;exact h.2 _ r x g1 g2
 ·cases g1⟩
theorem flat_len:∀ {rs:List (List Value)},(∀ r∈rs,r.length=k)->rs.flatten.length=rs.length*k
 | [],_=>by simp
 | r::rs,h=>by
  rw [List.flatten_cons,List.length_append,h r (by simp),flat_len (rs:=rs) (fun r hr=>h r (by simp [hr])),List.length_cons,Nat.add_mul];omega
theorem flat_drop:∀ {rs:List (List Value)},(∀ r∈rs,r.length=k)->∀ i,rs.flatten.drop (i*k)=(rs.drop i).flatten
 | [],_,i=>by simp
 | r::rs,h,0=>by simp
 | r::rs,h,i+1=>by
  rw [List.flatten_cons,Nat.add_mul,Nat.one_mul,List.drop_append,List.drop_eq_nil_of_le (by rw [h r (by simp)];omega),List.nil_append,h r (by simp),Nat.add_sub_cancel,flat_drop (rs:=rs) (fun r hr=>h r (by simp [hr])),List.drop_succ_cons]
theorem flat_take:∀ {rs:List (List Value)},(∀ r∈rs,r.length=k)->∀ i,rs.flatten.take (i*k)=(rs.take i).flatten
 | [],_,i=>by simp
 | r::rs,h,0=>by simp
 | r::rs,h,i+1=>by
  rw [List.flatten_cons,Nat.add_mul,Nat.one_mul,List.take_append,List.take_of_length_le (by rw [h r (by simp)];omega),h r (by simp),Nat.add_sub_cancel,flat_take (rs:=rs) (fun r hr=>h r (by simp [hr])),List.take_succ_cons,List.flatten_cons]
theorem SLr.lens (ok:RowOK k R) (h:SLr R E rs xs):∀ r∈rs,r.length=k:=fun r hr=>by
 obtain ⟨i,hi,rfl⟩:=List.getElem_of_mem hr
 have hl:=h.1
 exact ok.len (h.2 i _ _ (List.getElem?_eq_getElem hi) (List.getElem?_eq_getElem (by omega)))
theorem SLr.flat (ok:RowOK k R) (h:SLr R E rs xs):rs.flatten.length=xs.length*k:=by rw [flat_len (h.lens ok),h.1]
theorem SLr.ones (ok:RowOK k R) (h:SLr R E rs xs):∀ v:Value,List.Mem v rs.flatten->v.oneCell'=true:=fun v hv=>by
 obtain ⟨r,hr,hv⟩:=List.mem_flatten.1 hv
 obtain ⟨i,hi,rfl⟩:=List.getElem_of_mem hr
 have hl:=h.1
 exact ok.one (h.2 i _ _ (List.getElem?_eq_getElem hi) (List.getElem?_eq_getElem (by omega))) v hv
theorem SLr.get (ok:RowOK k R) (h:SLr R E rs xs) {i:Nat} {x:α} (hx:xs[i]? =some x):∃ r,rs[i]? =some r/\R E x r/\(rs.flatten.drop (i*k)).take k=r:=by
 have hi:i<xs.length:=(List.getElem?_eq_some_iff.1 hx).1
 have hl:=h.1
 have hr:=List.getElem?_eq_getElem (l:=rs) (i:=i) (by omega)
 refine ⟨_,hr,h.2 i _ x hr hx,?_⟩
 rw [flat_drop (h.lens ok),List.drop_eq_getElem_cons (by omega),List.flatten_cons,List.take_append_of_le_length (by rw [h.lens ok _ (List.getElem_mem _)];exact Nat.le_refl _),List.take_of_length_le (by rw [h.lens ok _ (List.getElem_mem _)];exact Nat.le_refl _)]
theorem SL.mono (ok:RowOK k R) (h:SL R E b n c xs) (he:Mem.le E E'):SL R E' b n c xs:=
 let ⟨rs,h1,h2,h3,h4,h5⟩:=h;⟨rs,h1.mono ok he,h2,h3,h4.imp_right (he _ _),h5⟩
theorem SL.nil:SL R E none 0 0 []:=⟨[],SLr.nil,rfl,Nat.le_refl _,.inl rfl,fun _=>rfl⟩
theorem SL.len (h:SL R E b n c xs):xs.length=n:=by obtain ⟨rs,h1,h2,_⟩:=h;exact h2
theorem SL.cap (h:SL R E b n c xs):n<=c:=by obtain ⟨rs,h1,h2,h3,_⟩:=h;exact h3
theorem SL.none (h:SL R E none n c xs):xs=[]:=by
 obtain ⟨rs,h1,h2,h3,h4,h5⟩:=h
 exact List.eq_nil_of_length_eq_zero (by rw [h2];exact h5 rfl)
theorem SL.win (ok:RowOK k R) {base:Option Addr} {vs:List Value} (h:WinE E base vs) (e:vs=rs.flatten) (hr:SLr R E rs xs) (hn:xs.length=n) (hc:n<=c):SL R E (base.map fun x=>x.add 0) n c xs:=by
 subst e
 have hl:rs.flatten.length=n*k:=by rw [hr.flat ok,hn]
 have:=h.2 0 rs.flatten.length n c (by simp)
 simp only [List.drop_zero] at this
 rw [List.take_of_length_le (Nat.le_refl _)] at this
 refine ⟨rs,hr,hn,hc,.inr this,fun e=>?_⟩
 cases base with
 | none=>
  have h0:=h.1 rfl
  rw [h0] at hl
  have hk:=ok.pos
  rcases Nat.eq_zero_or_pos n with hz|hz
  ·exact hz
  ·have:=Nat.mul_pos hz hk
   simp only [List.length_nil] at hl
   omega
 | some a=>cases e
theorem SL.src (ok:RowOK k R) (h:SL R E b n c xs):∃ rs,SLr R E rs xs/\(rs.flatten=[]\/E (.slice b n c) rs.flatten)/\n*k<=rs.flatten.length/\(∀ x:Value,List.Mem x rs.flatten->x.oneCell'=true)/\rs.length=n:=by
 obtain ⟨rs,h1,h2,h3,h4,h5⟩:=h
 have hl:rs.length=n:=by rw [h1.1,h2]
 refine ⟨rs,h1,?_,by rw [h1.flat ok,h2];exact Nat.le_refl _,h1.ones ok,hl⟩
 rcases h4 with rfl|h4
 ·exact .inl (by rw [List.length_eq_zero_iff.1 hl];rfl)
 ·exact .inr h4
theorem SL.ne (ok:RowOK k R) (h:SL R E b n c xs) {i:Nat} (hi:i<n):∃ cs,E (.slice b n c) cs/\(cs=[]->False):=by
 obtain ⟨rs,h1,h2,h3,h4,h5⟩:=h
 refine ⟨_,h4.resolve_left (by omega),fun e=>?_⟩
 have hl:=h1.flat ok
 rw [e,h2] at hl
 have:=ok.pos
 have:=Nat.mul_pos (show 0<n by omega) this
 simp at hl;omega
theorem SL.sub (ok:RowOK k R) {lo hi:Nat} (h:SL R E b n c xs) (he:Mem.le E E')
  (hF:∀ cs,E (.slice b n c) cs->E' (.slice b' (hi-lo) (c-lo)) (List.take ((hi-lo)*k) (List.drop (lo*k) cs))) (hN:b'.isNone=b.isNone) (h1:lo<=hi) (h2:hi<=n):SL R E' b' (hi-lo) (c-lo) ((xs.drop lo).take (hi-lo)):=by
 obtain ⟨rs,g1,g2,g3,g4,g5⟩:=h
 refine ⟨(rs.drop lo).take (hi-lo),((g1.mono ok he).drop lo).take _,by rw [List.length_take,List.length_drop,g2];omega,by omega,?_,fun e=>?_⟩
 ·rcases g4 with g4|g4
  ·exact .inl (by omega)
  ·refine .inr ?_
   have:=hF _ g4
   rw [flat_drop (g1.lens ok),flat_take (fun r hr=>g1.lens ok r (List.drop_subset _ _ hr))] at this
   exact this
 ·have:=g5 (by cases b with |none=>rfl|some x=>rw [e] at hN;cases hN)
  omega
theorem loadW_row {P:Program} {T:TypeId} (hu:(match P.underlying T with |some (.struct _)=>true|_=>false)=true) (hi:(P.info? T).map (·.size)=some k) {cs:List SV} {off:Nat} {r:List SV} (hr:(cs.drop off).take k=r) (hl:r.length=k):loadW P T cs off=some (.agg r):=by
 unfold loadW
 split at hu
 ·rename_i fs hfs
  rw [hfs]
  cases hinf:P.info? T with
  | none=>rw [hinf] at hi;cases hi
  | some inf=>
   rw [hinf] at hi
   simp only [Option.map_some,Option.some.injEq] at hi
   simp only [hi,hr,hl,if_true]
 ·cases hu
theorem SL.load (ok:RowOK k R) (h:SL R E b n c xs) {i:Nat} {x:α} (hx:xs[i]? =some x):∃ cs r,E (.slice b n c) cs/\(cs.drop (i*k)).take k=r/\r.length=k/\R E x r:=by
 obtain ⟨rs,g1,g2,g3,g4,g5⟩:=h
 have hi:i<xs.length:=(List.getElem?_eq_some_iff.1 hx).1
 obtain ⟨r,_,h2,h3⟩:=g1.get ok hx
 exact ⟨_,r,g4.resolve_left (by omega),h3,ok.len h2,h2⟩
theorem SL.loadE (ok:RowOK k R) (h:SL R E b n c xs) {P:Program} {T:TypeId} (hu:(match P.underlying T with |some (.struct _)=>true|_=>false)=true) (hs:(P.info? T).map (·.size)=some k) {i:Nat} {x:α} (hx:xs[i]? =some x):
  ∃ r,R E x r/\LoadE P E T (.slice b n c) (i*k) (.agg (r.map .raw)):=by
 obtain ⟨cs,r,h1,h2,h3,h4⟩:=h.load ok hx
 exact ⟨r,h4,cs,h1,loadW_row hu hs (by rw [← List.map_drop,← List.map_take,h2]) (by rw [List.length_map,h3])⟩
theorem SL.loadC (ok:RowOK k R) (h:SL R E b n c xs) {P:Program} {T:TypeId} {d:TypeDesc} (hu:P.underlying T=some d) (hd:isAggD d=false) {i j:Nat} {x:α} (hx:xs[i]? =some x) (hj:j<k):
  ∃ r v,R E x r/\r[j]? =some v/\LoadE P E T (.slice b n c) (i*k+j) (.raw v):=by
 obtain ⟨cs,r,h1,h2,h3,h4⟩:=h.load ok hx
 have hv:r[j]? =some r[j]:=List.getElem?_eq_getElem (by omega)
 refine ⟨r,r[j],h4,hv,cs,h1,?_⟩
 have hc:(cs.map SV.raw)[i*k+j]? =some (.raw r[j]):=by
  rw [List.getElem?_map]
  have :cs[i*k+j]? =some r[j]:=by
   rw [← hv,← h2,List.getElem?_take,if_pos hj,List.getElem?_drop]
  rw [this];rfl
 unfold loadW
 rw [hu]
 cases d<;>simp_all [isAggD]
theorem loadV_cell {P:Program} {T:TypeId} {d:TypeDesc} (hu:P.underlying T=some d) (hd:isAggD d=false) {vs:List Value} {p:Nat} {v:Value} (h:vs[p]? =some v):LoadV P T vs p (.raw v):=by
 unfold LoadV loadW
 rw [hu]
 cases d<;>simp_all [isAggD]
theorem take_get' {l:List α} {i:Nat} {x:α} (h:l[i]? =some x):l.take (i+1)=l.take i++[x]:=by
 obtain ⟨h1,h2⟩:=List.getElem?_eq_some_iff.1 h
 rw [List.take_succ_eq_append_getElem h1,h2]
end
end Go.Sx
namespace Go.Sx
open Go
theorem CallSem.hand {P:Program} {f:FuncId} {args args':List SV} {bx bxs:List Box} {E:Mem} {K:KT} {σ:List Nat} (hp:Part σ bx bxs) (ha:args=SV.renL σ bx.length args')
  (h:CallSem P f args' bxs E (cloK σ.length fun s bs' E'=>K (s.ren σ bx.length) (merge σ bx bs') E')):CallSem P f args bx E K:=by
 rw [← hp.len] at h
 exact frame hp ha h.clo fun _ _ _ g=>g
end Go.Sx
namespace Go.Sx
open Go Go.Sx
set_option maxRecDepth 100000
variable {P:Program} {callW:CallT} {all:Array Oper}
end Go.Sx
namespace Go.Sx
open Go
section
variable {P:Program} {callW:CallT}
theorem quitT_sound {c:Rc} {all:Array Oper} (hcall:CallOK (some c) P callW) {w0:World} {mu:Fm} {ρ0:Env} (hom:mu.om=some c/\okE (some c) ρ0) {R:Nat->List SV->St->Prop} {t:Nat}
  (hRd:∀ l rest S ρ w vs,R l rest S->ρ0<+:ρ->Rel w0 mu S.bx S.E ρ w->SV.denL ρ rest=some vs->okO w0 mu->l=c.l/\t<S.fr.length/\∃ fn tmps assign body,(Instr.yield c.l (#[]++vs.toArray)).run P w= .ok (.round c.l fn tmps assign body) w/\RoundIn Fence.wide 0 P c.l fn tmps assign body w fun e w'=>
   ∃ bx' E' ρ',e= .returned (.bool false)/\ρ<+:ρ'/\Rel (w0.putObj c.l (.loop c.stop)) mu bx' E' ρ' w'/\c.q bx' E'):
  ∀ (l:List Oper) (a:Act) (w:World),l.getLast?.map (·.dst)=some (some t)->Lift w0 mu ρ0 (fun S=>quitW P callW all R l S) a w->wpListIn Fence.wide 0 P all (fun e a w=>match e with | .normal=>LiftX w0 mu ρ0 a w/\a.tmps[t]? =some (.bool false)|_=>False) l a w
 | [],a,w,_,h=>h.no fun S x=>x
 | [o],a,w,hl,h=>by
  obtain ⟨hd,S,ρ,hp,hR,hF,h⟩:=h
  simp only [quitW] at h
  split at h
  case h_2=>exact h.elim
  rename_i l args hq
  obtain ⟨hg,cl,f,ho,hf,hargs,hy⟩:=quitArgs_spec hq
  have ea:=opds_den hF hargs
  have eg:=opd_den hF hy
  simp only [SV.den,Option.some.injEq] at eg
  obtain ⟨rfl,ht,fn',tmps,assign,body,hyr,hround⟩:=hRd l args S ρ w _ h hp hR ea hd.2
  have hargs':cl.args.map a.eval=(cl.args.toList.map a.eval).toArray:=by apply Array.ext';simp
  have hdst:o.dst=some t:=by simpa using hl
  have hrun:(execOp a.eval o).run P w= .ok (.round c.l fn' tmps assign body) w:=by
   rw [← hyr]
   obtain ⟨dst,op,type,pos,after,guard⟩:=o
   simp only at ho
   subst ho
   show Sem.run P (do let d ← resolve a.eval cl type;invoke d.target d.args) w=_
   simp only [resolve,hf,← eg,Deferred.ofValue,Sem.run_bind,Sem.run_pure,Result.andThen_ok,invoke,hargs']
  simp only [wpListIn,Region.wanted,hg,if_true]
  refine wpInW (ro:=none) (fun cc e=>by rw [ho] at e;cases e) ?_
  rw [hrun]
  refine ⟨(fun q=>by cases q),RoundIn.mono hround fun e w' he=>?_⟩
  obtain ⟨bx',E',ρ',rfl,h1,h2,h3⟩:=he
  refine ⟨⟨c,hom.1,hd.2,w0,mu,Base.refl _ _,by rw [put_defers];exact hd.1,bx',E',ρ',hp.trans h1,h2,h3⟩,?_⟩
  have hts:t<a.tmps.size:=by rw [← hF.1];exact ht
  simp [Act.put,hdst,hts]
 | o::o2::r,a,w,hl,h=>by
  have hl':(o2::r).getLast?.map (·.dst)=some (some t):=by rwa [List.getLast?_cons_cons] at hl
  have:=stepW_sound (ro:=none) (Q:=fun e a w=>match e with | .normal=>LiftX w0 mu ρ0 a w/\a.tmps[t]? =some (.bool false)|_=>False) hcall (o:=o) (K:=fun S'=>quitW P callW all R (o2::r) S') hom h
  show if Region.wanted o (yielded all a.tmps) then o.wpIn Fence.wide 0 P a w (wpListIn Fence.wide 0 P all _ (o2::r)) _ else (∀ f,o.about P w a.eval=some f->Fence.wide.fn f)/\wpListIn Fence.wide 0 P all _ (o2::r) (a.put o.dst undef) w
  split
  ·rename_i hw
   rw [if_pos hw] at this
   exact Oper.wpIn_mono (fun a w h=>quitT_sound hcall hom hRd (o2::r) a w hl' h) this
  ·rename_i hw
   rw [if_neg hw] at this
   exact ⟨fun _ _=>trivial,quitT_sound hcall hom hRd (o2::r) _ _ hl' this⟩
theorem quitF_sound {un:Opt} {c:Rc} (hun:un.om=some c) (hcall:CallOK un.om P callW) (hm:P.follows .mixedOrders=true) {inl:Op->Bool} {f:FuncId} {fn:Func} (hf:P.funcs[f]? =some fn) (hok:okFn fn)
  {A x y:Code} {id k t:Nat} {ops:Array Oper} (hb:fn.body=some (.seq A (.block k (.loop (.seq (.seq (.region id ops false) (.cond (.tmp t) x (.exit k))) y))))) (hres:fn.results.toList=[]) (hlast:ops.toList.getLast?.map (·.dst)=some (some t))
  {R:Nat->List SV->St->Prop}
  (hRd:∀ l rest S w0 mu ρ w vs,R l rest S->okR (some c) w0 mu ρ->Rel w0 mu S.bx S.E ρ w->SV.denL ρ rest=some vs->l=c.l/\t<S.fr.length/\∃ fn tmps assign body,(Instr.yield c.l (#[]++vs.toArray)).run P w= .ok (.round c.l fn tmps assign body) w/\RoundIn Fence.wide 0 P c.l fn tmps assign body w fun e w'=>
   ∃ bx' E' ρ',e= .returned (.bool false)/\ρ<+:ρ'/\Rel (w0.putObj c.l (.loop c.stop)) mu bx' E' ρ' w'/\c.q bx' E')
  {args:List SV} {bx:List Box} {E:Mem} {K:KT} (hle:args.length<=fn.ntmps) (hbase:un.base=bx.length)
  (h:codeW P callW inl un A (fun e S'=>match e with | .normal=>quitW P callW ops R ops.toList S'|_=>False) { fr:=args.map some++List.replicate (fn.ntmps-args.length) none,bx:=bx,E:=E }):CallSemO un.om P f args bx E K:=by
 refine ⟨⟨fn,hf,hok.1,hok.2⟩,?_⟩
 intro w0 mu0 ρ w vs hΩ hR hd
 have hR:=Rel.cast (mu:=mu0) (mu':=⟨mu0.mu,mu0.E0,mu0.om,[]⟩) rfl rfl hR
 have hpost:∀ e w',CallPost w0 ⟨mu0.mu,mu0.E0,mu0.om,[]⟩ ρ K e w'\/QuitPost mu0.om w0 ⟨mu0.mu,mu0.E0,mu0.om,[]⟩ ρ e w'->CallPost w0 mu0 ρ K e w'\/QuitPost un.om w0 mu0 ρ e w':=by
  rintro e w' (⟨v,s,bx',E',ρ',rfl,h1,h2,h3,h4⟩|⟨c,q,v,bx',E',ρ',rfl,h1,h2,h3⟩)
  ·exact .inl ⟨v,s,bx',E',ρ',rfl,h1,h2,Rel.cast (mu:=⟨mu0.mu,mu0.E0,mu0.om,[]⟩) rfl rfl h3,h4⟩
  ·exact .inr ⟨c,hΩ.1.1 ▸ q,v,bx',E',ρ',rfl,h1,Rel.cast (mu:=⟨mu0.mu,mu0.E0,mu0.om,[]⟩) rfl rfl h2,h3⟩
 refine Calls.mono ?_ hpost
 have hO:okO w0 ⟨mu0.mu,mu0.E0,mu0.om,[]⟩:=hΩ.2
 have hom:=hΩ.1
 generalize hmu:(⟨mu0.mu,mu0.E0,mu0.om,[]⟩:Fm)=mu at *
 have hds:mu.ds=[]:=by rw [← hmu]
 have hmo:mu0.om=mu.om:=by rw [← hmu]
 rw [hmo]
 have hom':mu.om=un.om/\okE un.om ρ:=by rw [← hmu];exact hom
 have hrs:mu.om.isSome=true->fn.results.toList=[]:=fun _=>hres
 refine (callsIn_wide (n:=0)).1 (callsIn_of_wp_marks hf hb trivial ?_)
 refine wpIn_seq (Code.wpIn_mono (fun e a' w' hq=>?_) (codeW_sound (ro:=none) (inl:=inl) (un:=un) hcall hm (fun _=>rfl) A _ w0 mu ρ _ w (by rw [hbase];exact Nat.le_of_eq hR.len) hom' ⟨⟨hds.symm,hO⟩,_,ρ,List.prefix_refl _,hR,?_,h⟩))
 case refine_2=>
   have hl:=denL_length hd
   refine ⟨by simp;omega,fun i s hs=>?_⟩
   simp only at hs ⊢
   by_cases hi:i<args.length
   ·rw [List.getElem?_append_left (by simpa using hi),List.getElem?_map] at hs
    cases hai:args[i]? with
    | none=>rw [hai] at hs;cases hs
    | some s'=>
     rw [hai] at hs
     simp only [Option.map_some,Option.some.injEq] at hs;subst hs
     obtain ⟨v,h1,h2⟩:=denL_get hd hai
     exact ⟨v,by rw [Array.getElem?_append_left (by simp;omega)];simpa using h1,h2⟩
   ·rw [List.getElem?_append_right (by simpa using Nat.le_of_not_lt hi)] at hs
    have:=List.mem_of_getElem? hs
    simp at this
 cases e with
 | normal=>
  obtain ⟨w1,mu1,hB,hl⟩:=hq
  have ho1:mu1.om=some c/\okE (some c) ρ:=⟨(hB.om.trans hom'.1).trans hun,by rw [← hun];exact hom'.2⟩
  refine wpIn_block (LoopLfp.wp (LoopLfp.fold (wpIn_seq (wpIn_seq (Code.wpIn_mono (fun e a2 w2 x=>?_) (wpIn_region_list (quitT_sound (t:=t) (by rw [← hun];exact hcall) ho1 (fun l rest S ρ' w vs h1 hp h2 h3 h4=>hRd l rest S w1 mu1 ρ' w vs h1 ⟨⟨ho1.1,ho1.2.mono hp⟩,h4⟩ h2 h3) ops.toList a' w' hlast hl)))))))
  cases e with
  | normal=>
   obtain ⟨x1,x2⟩:=x
   refine wpIn_cond_false (by simp [Act.eval,Array.getD_eq_getD_getElem?,x2]) (wpIn_exit ?_)
   show Exit.inBlock k _ (.exit k) a2 w2
   simp only [Exit.inBlock,if_true]
   have:=bodyQ_sound (P:=P) (fn:=fn) (K:=K) hds hrs .ret a2 w2 (.inr (LiftX.base hB hO x1))
   exact this
  | _=>exact x.elim
 | ret=>
  rcases hq with hq|hq
  ·obtain ⟨_,_,_,hq⟩:=hq
   exact hq.no fun _ z=>z
  ·exact bodyQ_sound (P:=P) (fn:=fn) (K:=K) hds hrs .ret a' w' (.inr hq)
 | exit i=>
  obtain ⟨_,_,_,hq⟩:=hq
  exact hq.no fun _ z=>z
 | _=>exact hq.elim
end
def Pf (C' C:Cx) (n m:Nat) (fn:Func) (p:List Nat) (n0:Nat) (K:KT) (S:St) (A:Code) (ops:Array Oper) (t nt:Nat) (args:List SV) (c:Rc):Prop:=
 codeN (YCx C' C n S.fr (sub (bodyOf fn) p) c).P (callN (YCx C' C n S.fr (sub (bodyOf fn) p) c) m) (YCx C' C n S.fr (sub (bodyOf fn) p) c).muts { (YCx C' C n S.fr (sub (bodyOf fn) p) c).opt with base:=S.bx.length,rnd:=false } A
  (fun e S'=>match e with
   | .normal=>quitN (YCx C' C n S.fr (sub (bodyOf fn) p) c).P (callN (YCx C' C n S.fr (sub (bodyOf fn) p) c) m) ops (fun l rest T=>(l=c.l/\t<T.fr.length)/\cond ((rfPs (sub (bodyOf fn) p)).toList.length==rest.length)
     (RoundQN C.P (callN C n) C.muts C.opt S.fr (rfPs (sub (bodyOf fn) p)).toList (rfA (sub (bodyOf fn) p)) (rfB (sub (bodyOf fn) p)) rest T.bx T.E fun bx E=>contN C.P (callN C n) C.muts { C.opt with base:=n0 } (bodyOf fn) p (bodyN C.P fn K) .ret { S with bx:=bx,E:=E }) False) ops.toList S'
   | _=>False) { fr:=args.map some++List.replicate (nt-args.length) none,bx:=S.bx,E:=S.E }
theorem Ct_first {C' C:Cx} (hC:CxOK C) (hC':CxOK C') {n m:Nat} {fn:Func} {p:List Nat} {n0:Nat} {K:KT} {S:St} {gf:FuncId} {gfn:Func} {first caps:List SV} {A x y:Code} {id k t:Nat} {ops:Array Oper}
  (hx:isRf (sub (bodyOf fn) p)=true) (hg:opd S (rfG (sub (bodyOf fn) p))=some (.clo gf first caps)) (hf:C.P.funcs[gf]? =some gfn) (hok:okFn gfn)
  (hb:gfn.body=some (.seq A (.block k (.loop (.seq (.seq (.region id ops false) (.cond (.tmp t) x (.exit k))) y))))) (hres:gfn.results.toList=[]) (hlast:ops.toList.getLast?.map (·.dst)=some (some t)) (hle:first.length+1+caps.length<=gfn.ntmps)
  (h:∀ c:Rc,Pf C' C n m fn p n0 K S A ops t gfn.ntmps (first++[.raw (.func (.yield c.l) #[] #[])]++caps) c)
  (hP:C.P=C'.P:=by rfl) (hom:C.opt.om=none:=by rfl):Ct C n fn p n0 K S:=by
 unfold Pf at h
 obtain ⟨z,e⟩:∃ z,z=sub (bodyOf fn) p:=⟨_,rfl⟩
 rw [← e] at hx hg h
 cases z with
 | rangeFunc g ps assign body=>
  unfold Ct
  rw [← e]
  refine rangeFunc_sound hg fun c hc=>?_
  have hY:CxOK (YCx C' C n S.fr (.rangeFunc g ps assign body) c):=CxOK.inY2 hC' hC hP (fun c0 q=>by rw [hom] at q;cases q) n hc
  have hcall:=callF_sound m hY
  have hcall2:=callF_sound n hC
  rw [hom] at hcall2 hc
  have h1:=h c
  rw [codeN_eq,callN_eq] at h1
  simp only [quitN_eq] at h1
  have hP2:(YCx C' C n S.fr (.rangeFunc g ps assign body) c).P=C.P:=hP.symm
  have key:=quitF_sound (P:=(YCx C' C n S.fr (.rangeFunc g ps assign body) c).P) (un:={ (YCx C' C n S.fr (.rangeFunc g ps assign body) c).opt with base:=S.bx.length,rnd:=false }) (c:=c) rfl hcall hY.wide (f:=gf) (by rw [hP2];exact hf) hok hb hres hlast (K:=fun _ bx E=>Cn C n fn p n0 K { S with bx:=bx,E:=E })
   (fun l rest T w0 mu ρ w vs hR ho hrel hd=>by
    obtain ⟨⟨rfl,ht⟩,hR⟩:=hR
    cases hl:(rfPs (.rangeFunc g ps assign body)).toList.length==rest.length with
    | false=>rw [hl] at hR;exact hR.elim
    | true=>
     rw [hl] at hR
     simp only [cond] at hR
     have hq:=hc.q
     simp only [RoundQN_eq,callN_eq,contN_eq,bodyN_eq] at hR hq
     rw [← hq,← hP2] at hR
     rw [← hP2] at hcall2
     exact ⟨rfl,ht,roundQ_sound hc hcall2 hY.wide (by have:=eq_of_beq hl;exact this) hR ho hrel hd⟩) (by simp;omega) rfl h1
  rw [hP2] at key
  refine ⟨key.1,fun w0 mu ρ w vs h1 h2 h3=>(key.2 w0 mu ρ w vs h1 h2 h3).mono ?_⟩
  rintro e w' (⟨v,s,bx',E',ρ',e1,e2,e3,e4,e5⟩|he)
  ·exact .inl ⟨v,s,bx',E',ρ',e1,e2,e3,e4,e5.out⟩
  ·exact .inr he
 | _=>cases hx
end Go.Sx
namespace Go.Sx
open Go
set_option linter.unusedVariables false
theorem CallPost.clo {w0:World} {mu:Fm} {ρ:Env} {n0:Nat} {K:KT} {e:Ending} {w':World} (hn:ρ.length<=n0) (hp:CallPost w0 mu ρ (cloK n0 K) e w'):CallPost w0 mu ρ K e w':=by
 obtain ⟨v,s,bx',E',ρ',rfl,hpre,hs,hR',τ,s',bx'',E'',hw,hK⟩:=hp
 have hl:Lift w0 ⟨mu.mu,mu.E0,none,[]⟩ ρ (fun S'=>S'=(⟨[some s],bx',E'⟩:St)) { tmps:=#[v],defers:=[] } w':=
  ⟨⟨rfl,trivial⟩,_,ρ',hpre,Rel.cast (mu:=mu) rfl rfl hR',⟨rfl,fun i t ht=>by
   match i,ht with
   | 0,ht=>simp at ht;subst ht;exact ⟨v,rfl,hs⟩⟩,rfl⟩
 obtain ⟨_,_,ρ2,hp2,hR2,hF2,rfl⟩:=Lift_wk hw hn hl
 obtain ⟨v2,h1,h2⟩:=hF2.2 0 s' rfl
 simp at h1;subst h1
 exact ⟨v,s',bx'',E'',ρ2,rfl,hp2,h2,Rel.cast (mu:=⟨mu.mu,mu.E0,none,[]⟩) rfl rfl hR2,hK⟩
theorem YieldSem.clo {Ω:Option Rc} {P:Program} {args:List SV} {bx:List Box} {E:Mem} {K:KT} (h:YieldSem Ω P args bx E (cloK bx.length K)):YieldSem Ω P args bx E K:=by
 obtain ⟨l,m,b,rest,e,h⟩:=h
 refine ⟨l,m,b,rest,e,fun w0 mu ρ w vs hΩ hR hd=>?_⟩
 obtain ⟨fn,tmps,assign,body,h1,h2⟩:=h w0 mu ρ w vs hΩ hR hd
 exact ⟨fn,tmps,assign,body,h1,h2.mono fun e w' hp=>hp.clo (by rw [hR.len];exact Nat.le_refl _)⟩
def Cx.inT (C':Cx) (T:List SV->List Box->Mem->KT->Prop) (c:Rc):Cx:=
 { C' with opt:={ C'.opt with om:=some c },tabY:=fun args bx E K=>match args with
  | .raw (.func (.yield l) m b)::rest=>match m.toList,b.toList with
   | [],[]=>l=c.l/\T rest bx E K
   | _,_=>False
  | _=>False }
def RnF (C:Cx) (n:Nat) (fn:Func) (q:List Nat) (fr:List (Option SV)) (rest:List SV) (bx:List Box) (E:Mem) (K:KT):Prop:=
 RoundN C.P (callN C n) C.muts C.opt fr (rfPs (sub (bodyOf fn) q)).toList (rfA (sub (bodyOf fn) q)) (rfB (sub (bodyOf fn) q)) rest bx E K
theorem CxOK.inT {C' C:Cx} (hC':CxOK C') (hC:CxOK C) (hP:C.P=C'.P) (hom:C.opt.om=none) {n:Nat} {fn:Func} {q:List Nat} {fr:List (Option SV)} {T:List SV->List Box->Mem->KT->Prop}
  (hT:∀ rest bx E K,T rest bx E K->(rfPs (sub (bodyOf fn) q)).toList.length=rest.length/\RnF C n fn q fr rest bx E (cloK bx.length K))
  {c:Rc} {q0:List Box->Mem->Prop} (hc:RcOK c fr (rfPs (sub (bodyOf fn) q)).toList (rfA (sub (bodyOf fn) q)) (rfB (sub (bodyOf fn) q)) q0):
  CxOK (Cx.inT C' T c):=by
 refine ⟨hC'.tab,hC'.wide,hC'.inl,hC'.tabB,fun c2 args bx E K h1 h2=>?_⟩
 simp only [Cx.inT,Option.some.injEq] at h1
 subst h1
 simp only [Cx.inT] at h2
 split at h2
 case h_2=>exact h2.elim
 rename_i l m b rest
 split at h2
 case h_2=>exact h2.elim
 rename_i hm hb
 obtain ⟨rfl,h2⟩:=h2
 have em:m= #[]:=by rw [← Array.toList_inj];exact hm
 have eb:b= #[]:=by rw [← Array.toList_inj];exact hb
 subst em;subst eb
 obtain ⟨hl,h2⟩:=hT rest bx E K h2
 unfold RnF at h2
 rw [RoundN_eq,callN_eq] at h2
 have hcall:=callF_sound n hC
 have:=round_sound (un:=C.opt) (by rw [hom];exact hc) (fun c0 h=>by rw [hom] at h;cases h) hcall hC.wide hl h2
 rw [hP] at this
 exact this.clo
theorem RfT {C C':Cx} (hC:CxOK C) (hC':CxOK C') {n m:Nat} {fn:Func} {p:List Nat} {n0:Nat} {K:KT} {S:St} {gf:FuncId} {gfn:Func} {first caps:List SV} {T:List SV->List Box->Mem->KT->Prop}
  (hx:isRf (sub (bodyOf fn) p)=true) (hg:opd S (rfG (sub (bodyOf fn) p))=some (.clo gf first caps)) (hf:C.P.funcs[gf]? =some gfn) (hok:okFn gfn)
  (hT:∀ rest bx E K,T rest bx E K->(rfPs (sub (bodyOf fn) p)).toList.length=rest.length/\RnF C n fn p S.fr rest bx E (cloK bx.length K))
  (h:∀ c:Rc,CxOK (Cx.inT C' T c)->EntB (Cx.inT C' T c) m gfn (first++[.raw (.func (.yield c.l) #[] #[])]++caps) S.bx S.E fun _ bx E=>Cn C n fn p n0 K { S with bx:=bx,E:=E })
  (hP:C.P=C'.P:=by rfl) (hom:C.opt.om=none:=by rfl):Ct C n fn p n0 K S:=by
 have hY:∀ (c:Rc) q,RcOK c S.fr (rfPs (sub (bodyOf fn) p)).toList (rfA (sub (bodyOf fn) p)) (rfB (sub (bodyOf fn) p)) q C.opt.om->CxOK (Cx.inT C' T c):=fun c q hc=>CxOK.inT hC' hC hP hom hT (by rw [hom] at hc;exact hc)
 obtain ⟨x,e⟩:∃ x,x=sub (bodyOf fn) p:=⟨_,rfl⟩
 rw [← e] at hx hg hY
 cases x with
 | rangeFunc g ps assign body=>exact Rf (Cy:=Cx.inT C' T) e.symm hg hf hok hY (fun c=>hP.symm) (fun c=>rfl) fun c hc _=>h c hc
 | _=>cases hx
def roundE (K:KT):Ex->St->Prop:=fun e S'=>match e with
 | .normal=>K (.raw (.bool true)) S'.bx S'.E
 | .exit _=>False
 | .ret=>False
def Lr (C:Cx) (n:Nat) (fn:Func) (q p:List Nat) (n0:Nat) (K:KT) (S:St):Prop:=
 LoopR C.P C.opt.om n0 (sub (rfB (sub (bodyOf fn) q)) (p++[0])) (contN C.P (callN C n) C.muts { C.opt with rnd:=true,base:=n0,cuts:=[] } (rfB (sub (bodyOf fn) q)) p (roundE K)) S
def Rr (C:Cx) (n:Nat) (fn:Func) (q p:List Nat) (n0:Nat) (K:KT) (S:St):Prop:=
 codeN C.P (callN C n) C.muts { C.opt with rnd:=true,base:=n0,cuts:=[] } (sub (rfB (sub (bodyOf fn) q)) (p++[0])) (fun e S'=>match e with
  | .normal=>nSt (S'.forget (dropOf C.opt (sub (rfB (sub (bodyOf fn) q)) (p++[0])))) (Lr C n fn q p n0 K)
  | .exit id=>contN C.P (callN C n) C.muts { C.opt with rnd:=true,base:=n0,cuts:=[] } (rfB (sub (bodyOf fn) q)) p (roundE K) (.exit id) S'
  | .ret=>contN C.P (callN C n) C.muts { C.opt with rnd:=true,base:=n0,cuts:=[] } (rfB (sub (bodyOf fn) q)) p (roundE K) .ret S') S
theorem Lr_ind {C:Cx} (hC:CxOK C) {n:Nat} {fn:Func} {q p:List Nat} {n0:Nat} {K:KT} {ι:Type} (Sh:ι->St) (μ:ι->Nat)
  (h:∀ i,(∀ j,μ j<μ i->Lr C n fn q p n0 K (Sh j))->Rr C n fn q p n0 K (Sh i)):∀ i,Lr C n fn q p n0 K (Sh i):=by
 simp only [Lr,Rr,contN_eq,callN_eq,codeN_eq,nSt_eq] at h ⊢
 exact LoopR_ind (callF_sound n hC) hC.wide (un:={ C.opt with rnd:=true,base:=n0,cuts:=[] }) rfl (inl:=C.muts) Sh μ h
theorem Lr_re {C:Cx} {n:Nat} {fn:Func} {q p:List Nat} {n0:Nat} {K:KT} {S T:St} (τ:Tau) (h:Lr C n fn q p n0 K T) (hw:S.wk n0 τ T):Lr C n fn q p n0 K S:=LoopR_wk hw h
end Go.Sx
