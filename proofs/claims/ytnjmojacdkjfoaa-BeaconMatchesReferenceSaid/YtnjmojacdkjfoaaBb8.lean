/- Walks and plain laws. Conditions: none. -/
import Derived.Test.YtnjmojacdkjfoaaProg
import Derived.Test.YtnjmojacdkjfoaaSyBB
namespace Go.Proofs.Ytnjmojacdkjfoaa.BeaconOwn
open Go Go.Sx
set_option maxRecDepth 100000
set_option maxHeartbeats 4000000
set_option linter.all false
variable {E:Mem} {K:SV->Mem->Prop}
variable {E:Mem} {f:FuncId} {fn:Func} {n tot cap m k l c i off t e j p o w:Nat} {bx:List aR} {u a1 d a lo hi v e1:Int} {Q KK:KT} {zs ws:Li} {b:Oa} {us gF:Lv} {bad:Bool} {x y:Value} {row:Row} {rest:List SV} {q:IntKind} {s0:Int×Int} {xs:Ll}
abbrev WI (x:Int):Int:=IntKind.wrap .i64 x
abbrev NI (n:Nat):Int:=(n:Int)
abbrev U8 (x:Int):Value:=.int .u8 x
abbrev vI:Int->Value:=Value.int .i64
abbrev vU:Int->Value:=Value.int .u64
abbrev VS (b:Oa) (l c:Nat):Value:=.slice b l c
abbrev nn (k:Nat):List (Option SV):=List.replicate k none
abbrev nE (E:Mem) (b:Oa) (l c:Nat):Prop:=∃ cs:Lv,E (.slice b l c) cs/\(cs=[]->False)
abbrev cE (t:List (Option SV)):List (Option SV):=none::none::t
abbrev cL (t:List (Option SV)):List (Option SV):=none::none::none::none::t
abbrev cQ (t:List (Option SV)):List (Option SV):=none::none::none::none::none::none::none::none::t
abbrev bL (t:List (Option SV)):List (Option SV):=none::none::none::none::none::none::none::none::none::none::none::none::none::none::none::none::t
abbrev ai (t:List (Option SV)):List (Option SV):=none::none::none::none::none::none::none::none::none::none::none::none::none::none::none::none::none::none::none::none::none::none::none::none::none::none::none::none::none::none::none::none::t
abbrev oI (x:Int):Option SV:=some (.raw (.int .i64 x))
abbrev oB (x:Bool):Option SV:=some (.raw (.bool x))
abbrev oL (b:Oa) (l c:Nat):Option SV:=some (.raw (.slice b l c))
abbrev oc (b o:Nat):Option SV:=some (.loc b o)
abbrev os (b o l c:Nat):Option SV:=some (.bH b o l c)
abbrev oU:Option SV:=some (.raw (.tuple #[]))
abbrev dw:bp:=.n .l .l
theorem bn:Mem.le E E:=Mem.le_refl E
theorem bq {F G:Mem} (h:Mem.le E F) (k:Mem.le F G):Mem.le E G:=Mem.le_trans h k
theorem dO {p q:Prop} (h:q) (e:p=q:=by kernel_rfl):p:=e.mpr h
theorem nK {C:Cx} (hC:bX C) (hf:C.P.funcs[f]? =some fn) {args:List SV} {vs:Lv} {K:SV->Mem->Prop}
  (hv:SV.fY args=some vs) (h:mm C n fn args E K) (hok:yb fn:=by exact ⟨by kernel_rfl,by kernel_rfl⟩) (ho:C.opt.om=none:=by rfl):gy C.P f args E K:=mm.sem hC hf hok hv h ho
theorem jE {C:Cx} (hC:bX C) (hf:C.P.funcs[f]? =some fn) {args:List SV} {K:KT}
  (h:ej C n fn args bx E K) (hok:yb fn:=by exact ⟨by kernel_rfl,by kernel_rfl⟩) (ho:C.opt.om=none:=by rfl):aj C.P f args bx E K:=ej.sem hC hf hok h ho
def Gt:List Nat->Bool
 | []=>true
 | x::l=> !l.contains x&&Gt l
theorem zE:∀ {l:List Nat},Gt l=true->l.Nodup
 | [],_=>List.nodup_nil
 | x::l,h=>by simp only [Gt,Bool.and_eq_true,Bool.not_eq_true',List.contains_eq_mem,decide_eq_false_iff_not] at h;exact List.nodup_cons.2 ⟨h.1,zE h.2⟩
theorem wkG {n0:Nat} {τ:vK} {S T:St} (hE:Mem.le T.E S.E) (h1:n0<=S.bx.length:=by first|(simp;done)|(simp [St.xL];done)) (h2:n0<=τ.length:=by first|(simp;done)|(simp [St.xL];done))
  (h3:∀ j,j<n0->τ[j]? =some (some j):=by decide) (h4:T.bx.length=τ.length:=by rfl)
  (h5:BU τ S.bx.length S.fr T.fr:=by repeat' first|exact True.intro|refine And.intro (Or.inl rfl) ?_|refine And.intro (Or.inr ⟨rfl,rfl⟩) ?_)
  (h6:Gm τ S.bx.length S.bx 0 T.bx:=by repeat' first|exact True.intro|exact rfl|exact Or.inl rfl|fail|refine And.intro ?_ ?_)
  (h7:Gt (ij τ T.bx)=true:=by kernel_rfl):S.wk n0 τ T:=⟨⟨h1,h2,h3⟩,h4,h5,h6,zE h7,hE⟩
theorem cl {n0:Nat} {τ:vK} {S T:St} (hE:Mem.le T.E S.E) (h1:n0<=S.bx.length:=by first|(simp;done)|(simp [St.xL];done)) (h2:n0<=τ.length:=by first|(simp;done)|(simp [St.xL];done))
  (h3:∀ j,j<n0->τ[j]? =some (some j):=by decide) (h4:T.bx.length=τ.length:=by rfl)
  (h5:BU τ S.bx.length S.fr T.fr:=by repeat' first|exact True.intro|refine And.intro (Or.inl rfl) ?_|refine And.intro (Or.inr ⟨rfl,rfl⟩) ?_)
  (h6:Gm τ S.bx.length S.bx 0 T.bx:=by repeat' first|exact True.intro|exact rfl|exact Or.inl rfl|exact Or.inr ⟨rfl,rfl⟩|refine And.intro ?_ ?_|exact Nat.le_of_ble_eq_true rfl)
  (h7:Gt (ij τ T.bx)=true:=by kernel_rfl):S.wk n0 τ T:=⟨⟨h1,h2,h3⟩,h4,h5,h6,zE h7,hE⟩
theorem ah {c:Bool} {p q:Prop} (h1:c=true->p) (h0:c=false->q):bif c then p else q:=by cases c;exact h0 rfl;exact h1 rfl
def ji (n:Int):Int:=if n<0 then -2*n-1 else 2*n
def jk:Nat->Int->Li
 | 0,u=>[u]
 | k+1,u=>if u<128 then [u] else (u % 128+128)::jk k (u / 128)
def bD (u:Int):Li:=jk 9 u
abbrev vB (l:Li):Lv:=l.map (.int .u8)
abbrev cI:aR:=⟨5,.ae [],0,false⟩
noncomputable def W0:Cx:={ P:=Try.prog,inl:=λf=>List.contains [82,83,81] f,jN:=λ_ _ _ _=>False,kH:=λ_=>false,eY:=λ_ _ _ _ _=>False,opt:={ cq:=1,carry:=[0,1] },eo:=dM }
theorem Gu:bX W0:=bX.four (λ_ _ _ _ h=>h.elim) (by kernel_rfl) (dN (by kernel_rfl)) (λ_ _ _ _ _ h=>h.elim)
theorem s31 {n:Int} (hn: -10000000000000<=n/\n<=10000000000000) (h:K (I (ji n)) E):mm W0 6 Try.f80 [I n] E K:=by
 refine dO (?_:bif decide (n<(0:Int)) then Mem.le E E/\K (I (WI (WI ((-2:Int)*n)-(1:Int)))) E else Mem.le E E/\K (I (WI ((2:Int)*n))) E);delta WI;unfold ji at h;refine ah (λh1=>?_) (λh1=>?_)
 ·rw [if_pos (by simpa using h1)] at h;rw [wrap_i64 (x:= -2*n) (by omega),wrap_i64 (by omega)];exact ⟨bn,h⟩
 ·rw [if_neg (by simpa using h1)] at h;rw [wrap_i64 (by omega)];exact ⟨bn,h⟩
theorem C8:∀ (k k':Nat) (u:Int),0<=u->u<128 ^ (k+1)->u<128 ^ (k'+1)->jk k u=jk k' u
 | 0,0,_,_,_,_=>rfl
 | 0,k+1,u,_,h,_=>by simp only [jk];rw [if_pos (by simpa using h)]
 | k+1,0,u,_,_,h=>by simp only [jk];rw [if_pos (by simpa using h)]
 | k+1,k'+1,u,h0,h1,h2=>by
  simp only [jk];by_cases h:u<128
  ·rw [if_pos h,if_pos h]
  ·rw [if_neg h,if_neg h,C8 k k' (u / 128) (by omega) (by rw [Int.pow_succ] at h1;omega) (by rw [Int.pow_succ] at h2;omega)]
theorem qn (h:u<128):bD u=[u]:=by unfold bD jk;rw [if_pos h]
theorem qo (h:¬ u<128) (h1:u<1152921504606846976):bD u=(u % 128+128)::bD (u / 128):=by unfold bD;rw [show jk 9 u=(u % 128+128)::jk 8 (u / 128) from by unfold jk;rw [if_neg h];rfl];rw [C8 8 9 (u / 128) (by omega) (by simp;omega) (by simp;omega)]
theorem wR:∀ (k:Nat) (u:Int),1<=(jk k u).length/\(jk k u).length<=k+1
 | 0,u=>by simp [jk]
 | k+1,u=>by
  have:=wR k (u / 128);simp only [jk];split
  ·simp
  ·simp;omega
theorem yG:∀ (k:Nat) (u:Int),0<=u->u<128 ^ (k+1)->∀ z∈jk k u,0<=z/\z<=255
 | 0,u,h0,h1,z,hz=>by simp only [jk,List.mem_singleton] at hz;subst hz;simp at h1;omega
 | k+1,u,h0,h1,z,hz=>by
  simp only [jk] at hz;split at hz
  ·simp only [List.mem_singleton] at hz;subst hz;omega
  ·rcases List.mem_cons.1 hz with rfl|hz
   ·omega
   ·exact yG k (u / 128) (by omega) (by rw [Int.pow_succ] at h1;omega) z hz
theorem Gv (h0:0<=u) (h1:u<1152921504606846976):∀ z∈bD u,0<=z/\z<=255:=yG 9 u h0 (by simp;omega)
theorem qL (u:Int):1<=(bD u).length/\(bD u).length<=10:=wR 9 u
theorem JZ {x:Int} (h:0<=x/\x<=255):IntKind.wrap .u8 x=x:=by rw [show IntKind.wrap .u8 x=x % 256 from rfl];omega
theorem C9 (h0:0<=u):IntKind.wrap .u8 (IntKind.wrap .i64 (Int.tmod u 128+128))=u % 128+128:=by rw [Int.tmod_eq_emod_of_nonneg h0,wrap_i64 (by omega),JZ (by omega)]
theorem C':Int.fdiv u 128=u / 128:=Int.fdiv_eq_ediv_of_nonneg _ (by omega)
def NN (u:Int) (m cap tot:Nat) (l:Li) (E:Mem):St:=⟨[os 1 0 m cap,oI u]++nn 19,[cI,⟨5,.vals (vB l),tot,true⟩],E⟩
structure Qc (full l:Li) (m cap tot:Nat) (u:Int):Prop where
 u0:0<=u
 u1:u<1152921504606846976
 len:l.length=m
 mc:m<=cap
 ct:cap<=tot
 full:l++bD u=full
theorem Q8 {full l:Li} (hP:Qc full l m cap tot u) (hf:full.length<=1000010)
  (hQ:∀ cap' aa:Nat,full.length<=cap'->cap'<=aa->∀ x:SV,Q (.bH 3 0 full.length cap') [cI,cI,⟨5,.ae [x],1,true⟩,⟨5,.vals (vB full),aa,true⟩] E)
  (ih:∀ (l:Li) (m cap tot:Nat) (u':Int),u'<u->Qc full l m cap tot u'->Lp W0 6 Try.f79 [1,0,0] 1 Q (NN u' m cap tot l E)):jO W0 6 Try.f79 [1,0,0] 1 Q (NN u m cap tot l E):=by
 obtain ⟨h0,h1,hlen,Q9,TV,hfull⟩:=hP;refine dO (?_:bif decide (u>=(128:Int)) then ((128:Int)=(0:Int)->False)/\m*1<=List.length (Row.cells (Row.vals (vB l)))/\cap*1<=tot/\m<=cap/\cU ((m+1)*1<=140737488355328) (∀ (cap' aa:Nat),m+1<=cap'->cap'*1<=aa->Lp W0 6 Try.f79 [1,0,0] 1 Q { fr:=some (SV.bH 3 0 (m+1) cap')::oI (Int.fdiv u 128)::bL (cE (none::[])),bx:=[(⟨5,.ae [],0,false⟩:aR),⟨5,.ae [],0,false⟩,⟨5,.ae [SV.raw (U8 (IntKind.wrap IntKind.u8 (WI (Int.tmod u (128:Int)+(128:Int)))))],1,true⟩,⟨5,.vals (List.take (m*1) (vB l)++[U8 (IntKind.wrap IntKind.u8 (WI (Int.tmod u (128:Int)+(128:Int))))]),aa,true⟩],E:=E:St }) else m*1<=List.length (Row.cells (Row.vals (vB l)))/\cap*1<=tot/\m<=cap/\cU ((m+1)*1<=140737488355328) (∀ (cap' aa:Nat),m+1<=cap'->cap'*1<=aa->Q (SV.bH 3 0 (m+1) cap') [⟨5,.ae [],0,false⟩,⟨5,.ae [],0,false⟩,⟨5,.ae [SV.raw (U8 (IntKind.wrap IntKind.u8 u))],1,true⟩,⟨5,.vals (List.take (m*1) (vB l)++[U8 (IntKind.wrap IntKind.u8 u)]),aa,true⟩] E));delta WI U8 cE bL;have hl:(Row.cells (Row.vals (vB l))).length=m:=by simp [Row.cells,hlen]
 have hlf:l.length+(bD u).length=full.length:=by rw [← hfull];simp
 have Nc:=qL u;have xM:List.take (m*1) (vB l)=vB l:=List.take_of_length_le (by simp [hlen]);refine ah (λhu=>?_) (λhu=>?_)
 ·have hu:128<=u:=by simpa using hu
  refine ⟨by omega,by omega,by omega,Q9,af (by omega) ?_⟩;intro cap' aa g1 g2;have hst:=qo (show ¬ u<128 by omega) h1;rw [C9 h0,C',xM,← List.map_singleton (f:=Value.int .u8),← List.map_append];exact bz [some 0,some 3] (ih (l++[u % 128+128]) (m+1) cap' aa (u / 128) (by omega) ⟨by omega,by omega,by simp [hlen],g1,by omega,by rw [← hfull,hst];simp⟩) ⟨⟨by simp,by simp,λj h=>(by have e:j=0:=(by omega);subst e;rfl)⟩,rfl,(by repeat' first|exact True.intro|refine And.intro (Or.inl rfl) ?_),(by repeat' first|exact True.intro|exact rfl|exact Or.inl rfl|exact Nat.succ_pos _|refine And.intro ?_ ?_),(List.pairwise_singleton _ _),bn⟩
 ·have hu:u<128:=by simpa using hu
  have hst:=qn hu;refine ⟨by omega,by omega,Q9,af (by omega) ?_⟩;intro cap' aa g1 g2;rw [hst] at hfull hlf;have e:m+1=full.length:=by simp at hlf;omega
  rw [JZ (by omega),xM,← List.map_singleton (f:=Value.int .u8),← List.map_append,hfull,e];exact hQ cap' aa (by omega) (by omega) _
theorem b29 {l:Li} (hn:l.length=n) (hnc:n<=cap) (TV:cap<=tot) (hsz:n<=1000000) (h0:0<=u) (h1:u<1152921504606846976)
  (hQ:∀ s bx,(∃ cap' aa:Nat,n+(bD u).length<=cap'/\cap'<=aa/\∃ τ,St.wk 1 τ ⟨[some s],bx,E⟩ ⟨[os 1 0 (n+(bD u).length) cap'],[cI,⟨5,.vals (vB (l++bD u)),aa,true⟩],E⟩)->Q s bx E):
  ej W0 6 Try.f79 [.bH 0 0 n cap,I u] [⟨5,.vals (vB l),tot,true⟩] E Q:=by
 refine dO (?_:bif decide (u>=(128:Int)) then ((128:Int)=(0:Int)->False)/\n*1<=List.length (Row.cells (Row.vals (vB l)))/\cap*1<=tot/\n<=cap/\cU ((n+1)*1<=140737488355328) (∀ (cap' aa:Nat),n+1<=cap'->cap'*1<=aa->Lp W0 6 Try.f79 [1,0,0] 1 Q { fr:=some (SV.bH 2 0 (n+1) cap')::oI (Int.fdiv u 128)::none::none::oL none 0 0::bL [],bx:=[(⟨5,.ae [],0,false⟩:aR),⟨5,.ae [SV.raw (U8 (IntKind.wrap IntKind.u8 (WI (Int.tmod u (128:Int)+(128:Int)))))],1,true⟩,⟨5,.vals (List.take (n*1) (vB l)++[U8 (IntKind.wrap IntKind.u8 (WI (Int.tmod u (128:Int)+(128:Int))))]),aa,true⟩],E:=E:St }) else n*1<=List.length (Row.cells (Row.vals (vB l)))/\cap*1<=tot/\n<=cap/\cU ((n+1)*1<=140737488355328) (∀ (cap' aa:Nat),n+1<=cap'->cap'*1<=aa->Q (SV.bH 2 0 (n+1) cap') [⟨5,.ae [],0,false⟩,⟨5,.ae [SV.raw (U8 (IntKind.wrap IntKind.u8 u))],1,true⟩,⟨5,.vals (List.take (n*1) (vB l)++[U8 (IntKind.wrap IntKind.u8 u)]),aa,true⟩] E));delta WI U8 bL;have hl:(Row.cells (Row.vals (vB l))).length=n:=by simp [Row.cells,hn]
 have Nc:=qL u;have xM:List.take (n*1) (vB l)=vB l:=List.take_of_length_le (by simp [hn]);refine ah (λhu=>?_) (λhu=>?_)
 ·have hu:128<=u:=by simpa using hu
  refine ⟨by omega,by omega,by omega,hnc,af (by omega) ?_⟩;intro cap' aa g1 g2;have hst:=qo (show ¬ u<128 by omega) h1;rw [C9 h0,C',xM,← List.map_singleton (f:=Value.int .u8),← List.map_append];have key:=cu Gu (n:=6) (fn:=Try.f79) (p:=[1,0,0]) (n0:=1) (K:=Q) (λx:{x:Int×Nat×Nat×Nat×Li//Qc (l++bD u) x.2.2.2.2 x.2.1 x.2.2.1 x.2.2.2.1 x.1}=>NN x.1.1 x.1.2.1 x.1.2.2.1 x.1.2.2.2.1 x.1.2.2.2.2 E) (λx=>x.1.1.toNat) (by
   rintro ⟨⟨u',m,c,t,l'⟩,hP⟩ ih;refine Q8 hP (by simp;omega) ?_ (λl2 m2 c2 t2 u2 hlt Ra=>ih ⟨⟨u2,m2,c2,t2,l2⟩,Ra⟩ ?_)
   ·intro cap' aa g1 g2 x;refine hQ _ _ ⟨cap',aa,by simpa [hn] using g1,g2,[some 0,some 3],?_⟩;rw [show (l++bD u).length=n+(bD u).length by simp [hn]];exact ⟨⟨by simp,by simp,λj h=>(by have e:j=0:=(by omega);subst e;rfl)⟩,rfl,(by repeat' first|exact True.intro|refine And.intro (Or.inl rfl) ?_),(by repeat' first|exact True.intro|exact rfl|exact Or.inl rfl|exact Nat.succ_pos _|refine And.intro ?_ ?_),(List.pairwise_singleton _ _),bn⟩
   ·have h0':0<=u2:=Ra.u0;have Vy:u2<u':=hlt;show u2.toNat<u'.toNat;omega)
  exact bz [some 0,some 2] (key ⟨⟨u / 128,n+1,cap',aa,l++[u % 128+128]⟩,⟨by show 0<=u / 128;omega,by show u / 128<_;omega,by simp [hn],g1,by show cap'<=aa;omega,by rw [hst];simp⟩⟩) ⟨⟨by simp,by simp,λj h=>(by have e:j=0:=(by omega);subst e;rfl)⟩,rfl,(by repeat' first|exact True.intro|refine And.intro (Or.inl rfl) ?_),(by repeat' first|exact True.intro|exact rfl|exact Or.inl rfl|exact Nat.succ_pos _|refine And.intro ?_ ?_),(List.pairwise_singleton _ _),bn⟩
 ·have hu:u<128:=by simpa using hu
  have hst:=qn hu;refine ⟨by omega,by omega,hnc,af (by omega) ?_⟩;intro cap' aa g1 g2;rw [JZ (by omega),xM,← List.map_singleton (f:=Value.int .u8),← List.map_append];rw [hst] at hQ;exact hQ _ _ ⟨cap',aa,g1,by omega,[some 0,some 2],⟨⟨by simp,by simp,λj h=>(by have e:j=0:=(by omega);subst e;rfl)⟩,rfl,(by repeat' first|exact True.intro|refine And.intro (Or.inl rfl) ?_),(by repeat' first|exact True.intro|exact rfl|exact Or.inl rfl|exact Nat.succ_pos _|refine And.intro ?_ ?_),(List.pairwise_singleton _ _),bn⟩⟩
def Gw (u:Int) (m cap tot:Nat) (l:Li) (E:Mem):St:=⟨[os 0 0 m cap,oI u]++nn 19,[⟨5,.vals (vB l),tot,true⟩],E⟩
theorem NO {full l:Li} (hP:Qc full l m cap tot u) (hf:full.length<=1000010)
  (hQ:∀ cap' aa:Nat,full.length<=cap'->cap'<=aa->∀ x:SV,Q (.bH 2 0 full.length cap') [cI,⟨5,.ae [x],1,true⟩,⟨5,.vals (vB full),aa,true⟩] E)
  (ih:∀ (l:Li) (m cap tot:Nat) (u':Int),u'<u->Qc full l m cap tot u'->Lp W0 6 Try.f79 [1,0,0] 0 Q (Gw u' m cap tot l E)):jO W0 6 Try.f79 [1,0,0] 0 Q (Gw u m cap tot l E):=by
 obtain ⟨h0,h1,hlen,Q9,TV,hfull⟩:=hP;refine dO (?_:bif decide (u>=(128:Int)) then ((128:Int)=(0:Int)->False)/\m*1<=List.length (Row.cells (Row.vals (vB l)))/\cap*1<=tot/\m<=cap/\cU ((m+1)*1<=140737488355328) (∀ (cap' aa:Nat),m+1<=cap'->cap'*1<=aa->Lp W0 6 Try.f79 [1,0,0] 0 Q { fr:=some (SV.bH 2 0 (m+1) cap')::oI (Int.fdiv u 128)::bL (cE (none::[])),bx:=[(⟨5,.ae [],0,false⟩:aR),⟨5,.ae [SV.raw (U8 (IntKind.wrap IntKind.u8 (WI (Int.tmod u (128:Int)+(128:Int)))))],1,true⟩,⟨5,.vals (List.take (m*1) (vB l)++[U8 (IntKind.wrap IntKind.u8 (WI (Int.tmod u (128:Int)+(128:Int))))]),aa,true⟩],E:=E:St }) else m*1<=List.length (Row.cells (Row.vals (vB l)))/\cap*1<=tot/\m<=cap/\cU ((m+1)*1<=140737488355328) (∀ (cap' aa:Nat),m+1<=cap'->cap'*1<=aa->Q (SV.bH 2 0 (m+1) cap') [⟨5,.ae [],0,false⟩,⟨5,.ae [SV.raw (U8 (IntKind.wrap IntKind.u8 u))],1,true⟩,⟨5,.vals (List.take (m*1) (vB l)++[U8 (IntKind.wrap IntKind.u8 u)]),aa,true⟩] E));delta WI U8 cE bL;have hl:(Row.cells (Row.vals (vB l))).length=m:=by simp [Row.cells,hlen]
 have hlf:l.length+(bD u).length=full.length:=by rw [← hfull];simp
 have Nc:=qL u;have xM:List.take (m*1) (vB l)=vB l:=List.take_of_length_le (by simp [hlen]);refine ah (λhu=>?_) (λhu=>?_)
 ·have hu:128<=u:=by simpa using hu
  refine ⟨by omega,by omega,by omega,Q9,af (by omega) ?_⟩;intro cap' aa g1 g2;have hst:=qo (show ¬ u<128 by omega) h1;rw [C9 h0,C',xM,← List.map_singleton (f:=Value.int .u8),← List.map_append];exact bz [some 2] (ih (l++[u % 128+128]) (m+1) cap' aa (u / 128) (by omega) ⟨by omega,by omega,by simp [hlen],g1,by omega,by rw [← hfull,hst];simp⟩) ⟨⟨by simp,by simp,λj h=>absurd h (Nat.not_lt_zero _)⟩,rfl,(by repeat' first|exact True.intro|refine And.intro (Or.inl rfl) ?_),(by repeat' first|exact True.intro|exact rfl|exact Or.inl rfl|exact Nat.succ_pos _|refine And.intro ?_ ?_),(List.pairwise_singleton _ _),bn⟩
 ·have hu:u<128:=by simpa using hu
  have hst:=qn hu;refine ⟨by omega,by omega,Q9,af (by omega) ?_⟩;intro cap' aa g1 g2;rw [hst] at hfull hlf;have e:m+1=full.length:=by simp at hlf;omega
  rw [JZ (by omega),xM,← List.map_singleton (f:=Value.int .u8),← List.map_append,hfull,e];exact hQ cap' aa (by omega) (by omega) _
theorem Vz (h0:0<=u) (h1:u<1152921504606846976)
  (hQ:∀ s bx,(∃ cap' aa:Nat,(bD u).length<=cap'/\cap'<=aa/\∃ τ,St.wk 0 τ ⟨[some s],bx,E⟩ ⟨[os 0 0 (bD u).length cap'],[⟨5,.vals (vB (bD u)),aa,true⟩],E⟩)->Q s bx E):
  ej W0 6 Try.f79 [.raw (.slice none 0 0),I u] [] E Q:=by
 refine dO (?_:bif decide (u>=(128:Int)) then ((128:Int)=(0:Int)->False)/\∀ (cap' aa:Nat),1<=cap'->cap'*1<=aa->Lp W0 6 Try.f79 [1,0,0] 0 Q { fr:=some (SV.bH 1 0 1 cap')::oI (Int.fdiv u 128)::none::none::oL none 0 0::bL [],bx:=[(⟨5,.ae [SV.raw (U8 (IntKind.wrap IntKind.u8 (WI (Int.tmod u (128:Int)+(128:Int)))))],1,true⟩:aR),⟨5,.ae [SV.raw (U8 (IntKind.wrap IntKind.u8 (WI (Int.tmod u (128:Int)+(128:Int)))))],aa,true⟩],E:=E:St } else ∀ (cap' aa:Nat),1<=cap'->cap'*1<=aa->Q (SV.bH 1 0 1 cap') [⟨5,.ae [SV.raw (U8 (IntKind.wrap IntKind.u8 u))],1,true⟩,⟨5,.ae [SV.raw (U8 (IntKind.wrap IntKind.u8 u))],aa,true⟩] E);delta WI U8 bL;have Nc:=qL u;refine ah (λhu=>?_) (λhu=>?_)
 ·have hu:128<=u:=by simpa using hu
  refine ⟨by omega,?_⟩;intro cap' aa g1 g2;have hst:=qo (show ¬ u<128 by omega) h1;rw [C9 h0,C'];have key:=cu Gu (n:=6) (fn:=Try.f79) (p:=[1,0,0]) (n0:=0) (K:=Q) (λx:{x:Int×Nat×Nat×Nat×Li//Qc (bD u) x.2.2.2.2 x.2.1 x.2.2.1 x.2.2.2.1 x.1}=>Gw x.1.1 x.1.2.1 x.1.2.2.1 x.1.2.2.2.1 x.1.2.2.2.2 E) (λx=>x.1.1.toNat) (by
   rintro ⟨⟨u',m,c,t,l'⟩,hP⟩ ih;refine NO hP (by omega) ?_ (λl2 m2 c2 t2 u2 hlt Ra=>ih ⟨⟨u2,m2,c2,t2,l2⟩,Ra⟩ ?_)
   ·intro cap' aa g1 g2 x;exact hQ _ _ ⟨cap',aa,g1,g2,[some 2],⟨⟨by simp,by simp,λj h=>absurd h (Nat.not_lt_zero _)⟩,rfl,(by repeat' first|exact True.intro|refine And.intro (Or.inl rfl) ?_),(by repeat' first|exact True.intro|exact rfl|exact Or.inl rfl|exact Nat.succ_pos _|refine And.intro ?_ ?_),(List.pairwise_singleton _ _),bn⟩⟩
   ·have h0':0<=u2:=Ra.u0;have Vy:u2<u':=hlt;show u2.toNat<u'.toNat;omega)
  exact bz [some 1] (key ⟨⟨u / 128,1,cap',aa,[u % 128+128]⟩,⟨by show 0<=u / 128;omega,by show u / 128<_;omega,rfl,g1,by show cap'<=aa;omega,by rw [hst];rfl⟩⟩) ⟨⟨by simp,by simp,λj h=>absurd h (Nat.not_lt_zero _)⟩,rfl,(by repeat' first|exact True.intro|refine And.intro (Or.inl rfl) ?_),(by repeat' first|exact True.intro|exact rfl|exact Or.inl rfl|exact Nat.succ_pos _|refine And.intro ?_ ?_),(List.pairwise_singleton _ _),bn⟩
 ·have hu:u<128:=by simpa using hu
  have hst:=qn hu;intro cap' aa g1 g2;rw [JZ (by omega)];rw [hst] at hQ;exact hQ _ _ ⟨cap',aa,g1,by omega,[some 1],⟨⟨by simp,by simp,λj h=>absurd h (Nat.not_lt_zero _)⟩,rfl,(by repeat' first|exact True.intro|refine And.intro (Or.inl rfl) ?_),(by repeat' first|exact True.intro|exact rfl|exact Or.inl rfl|exact Nat.succ_pos _|refine And.intro ?_ ?_),(List.pairwise_singleton _ _),bn⟩⟩
noncomputable def NP:FuncId->List SV->Mem->(SV->Mem->Prop)->Prop:=λf args E K=>match f with
 | 80=>d1 args λx0=>dI x0 λa1=>(-10000000000000<=a1/\a1<=10000000000000)/\(K (I (ji a1)) E)
 | _=>False
theorem J0:jm Try.prog NP:=by
 intro f args E K h;unfold NP at h;split at h
 ·replace h:=fO h;obtain ⟨x0,rfl,h⟩:=h;replace h:=bQ h;obtain ⟨a1,rfl,h⟩:=h;obtain ⟨g0,h⟩:=h;exact gy.congr (fH rfl rfl) (nK Gu Try.func80 rfl (s31 g0 h))
 ·exact h.elim
noncomputable def Gx:cK:=λf args bx E K=>match f with
 | 79=>d2 args λx0 x1=>dI x1 λu=>(0<=u/\u<1152921504606846976)/\(match x0 with
  | .raw (.slice none 0 0)=>∀ cap' aa:Nat,(bD u).length<=cap'->cap'<=aa->K (.bH bx.length 0 (bD u).length cap') (bx++[⟨5,.vals (vB (bD u)),aa,true⟩]) E
  | .bH b 0 n cap=>match bx[b]? with
   | some ⟨e,.vals vs,tot,true⟩=>∃ l:Li,(e=5/\vs=vB l/\l.length=n/\n<=cap/\cap<=tot/\n<=1000000)/\
     ∀ cap' aa:Nat,n+(bD u).length<=cap'->cap'<=aa->K (.bH bx.length 0 (n+(bD u).length) cap') (bx.set b cI++[⟨5,.vals (vB (l++bD u)),aa,true⟩]) E
   | _=>False
  | _=>False)
 | _=>False
theorem Gy:∀ f args bx E K,Gx f args bx E K->aj Try.prog f args bx E K:=by
 intro f args bx E K h;unfold Gx at h;split at h;case h_2=>exact h.elim
 obtain ⟨x0,x1,rfl,h⟩:=ck h;obtain ⟨u,rfl,h⟩:=bQ h;obtain ⟨⟨h0,h1⟩,h⟩:=h;split at h
 ·refine aj.Vv (Q2:=[.slice none 0 0,.int .i64 u]) rfl (jE Gu Try.func79 (Vz h0 h1 ?_));rintro s bA ⟨cap',aa,g1,g2,τ,hw⟩;exact aq τ ⟨_,cap',5,_,aa,rfl,rfl,h cap' aa g1 g2⟩ hw
 ·rename_i b n cap;split at h;case h_2=>exact h.elim
  rename_i e vs tot hb;obtain ⟨l,⟨rfl,rfl,hl,hnc,TV,hsz⟩,h⟩:=h;refine aj.Q1 (rest:=[I u]) (gF:=[.int .i64 u]) hb rfl (jE Gu Try.func79 (b29 hl hnc TV hsz h0 h1 ?_));rintro s bA ⟨cap',aa,g1,g2,τ,hw⟩;exact aq τ ⟨_,cap',_,aa,rfl,rfl,h cap' aa g1 g2⟩ hw
 ·exact h.elim
def gl (n:Int):Prop:= -10000000000000<=n/\n<=10000000000000
instance (n:Int):Decidable (gl n):=inferInstanceAs (Decidable (_/\_))
def Eh (zs:Li) (n:Int):Li×Int:=if gl n then (zs++bD (ji n),0) else ([],3)
theorem AP {n:Int} (h:gl n):0<=ji n/\ji n<1152921504606846976:=by unfold gl at h;unfold ji;split<;>omega
noncomputable def AQ (k:Nat):FuncId->List SV->Mem->(SV->Mem->Prop)->Prop:=λf args E K=>match f with
 | 98=>d1 args λx0=>dI x0 λu=>(0<=u/\u<128 ^ (k+1)/\u<1152921504606846976)/\(∀ (b':Oa) (l' c':Nat) (ys:Li) (E':Mem),Mem.le E E'->Hyp (jk k u=ys)->Bs E' b' l' c' ys->K (L b' l' c') E')
 | _=>False
noncomputable def W44 (k:Nat):Cx:={ P:=Try.prog,inl:=λf=>List.contains [] f,jN:=AQ k,kH:=λ_=>false,eY:=λ_ _ _ _ _=>False,opt:={ cq:=0,carry:=[] },eo:=dM }
theorem s44 (h0:0<=u) (h1:u<128 ^ (k+1+1)) (h2:u<1152921504606846976) (hk:k<=9) (h:∀ (b':Oa) (l' c':Nat) (ys:Li) (E':Mem),Mem.le E E'->Hyp (jk (k+1) u=ys)->Bs E' b' l' c' ys->K (L b' l' c') E'):
  mm (W44 k) 6 Try.f98 [I u] E K:=by
 refine dO (?_:bif decide (u<(128:Int)) then ∀ (base:Oa) (E':Mem),Mem.le E E'->gD E' base [U8 (IntKind.wrap IntKind.u8 u)]->Mem.le E E'/\K (L (Option.map (λ(x:Addr)=>Addr.add x 0) base) 1 1) E' else ((128:Int)=(0:Int)->False)/\∀ (cap' aa:Nat),1<=cap'->cap'*1<=aa->((128:Int)=(0:Int)->False)/\((0:Int)<=WI (Int.tdiv u 128)/\WI (Int.tdiv u 128)<(128:Int) ^ (k+1)/\WI (Int.tdiv u 128)<(1152921504606846976:Int))/\∀ (b':Oa) (l' c':Nat) (ys:Li) (E':Mem),Mem.le E E'->Hyp (jk k (WI (Int.tdiv u 128))=ys)->Bs E' b' l' c' ys->Mem.le E E'/\∃ (cs:Lv),(cs=[]\/E' (VS b' l' c') cs)/\l'*1<=List.length cs/\(∀ (x:Value),List.Mem x cs->Value.oneCell' x=true)/\1<=1/\cap'*1<=aa/\1<=cap'/\cU ((1+l')*1<=140737488355328) (∀ (cap' aa:Nat),1+l'<=cap'->cap'*1<=aa->∀ (base:Oa) (cP:Mem),Mem.le E' cP->gD cP base (U8 (IntKind.wrap IntKind.u8 (WI ((128:Int)+Int.tmod u 128)))::(List.take (l'*1) cs))->Mem.le E cP/\K (L (Option.map (λ(x:Addr)=>Addr.add x 0) base) (1+l') cap') cP));delta WI U8 VS;refine ah (λhu=>?_) (λhu=>?_)
 ·have hu:u<128:=by simpa using hu
  intro base E' hE hW;refine ⟨hE,h _ _ _ [u] E' hE (by show jk (k+1) u=_;unfold jk;rw [if_pos hu]) (Bs.win hW (by rw [JZ (by omega)];rfl) rfl (Nat.le_refl _) (by intro z hz;rw [List.mem_singleton] at hz;omega))⟩
 ·have hu:¬ u<128:=by simpa using hu
  refine ⟨by omega,λsE tT a1 a2=>⟨by omega,?_⟩⟩;have hq:IntKind.wrap .i64 (Int.tdiv u 128)=u / 128:=by rw [Int.tdiv_eq_ediv_of_nonneg h0,wrap_i64 (by omega)]
  rw [hq];refine ⟨⟨by omega,by rw [Int.pow_succ] at h1;omega,by omega⟩,?_⟩;intro b' l' c' ys E' hE hy hB;have hB:Bs E' b' l' c' ys:=hB;obtain ⟨s1,s2,s3⟩:=hB.src;have hlen:=hB.2.1;have Nc:=wR k (u / 128);have hy:jk k (u / 128)=ys:=hy;rw [hy] at Nc;refine ⟨hE,_,s1,s2,s3,Nat.le_refl _,a2,a1,af ?_ ?_⟩
  ·omega
  intro vr xY a3 a4 base E2 Eu hW;refine ⟨bq hE Eu,h _ _ _ ((u % 128+128)::ys) E2 (bq hE Eu) (by show jk (k+1) u=_;unfold jk;rw [if_neg hu,hy]) (Bs.win hW ?_ (by simp [hlen];omega) a3 ?_)⟩
  ·rw [List.take_of_length_le (by simp [hlen]),Int.tmod_eq_emod_of_nonneg h0,wrap_i64 (by omega),JZ (by omega),Int.add_comm];rfl
  ·intro z hz;rcases List.mem_cons.1 hz with rfl|hz
   ·omega
   ·exact hB.2.2.2.1 z hz
noncomputable def Rb:Cx:={ P:=Try.prog,inl:=λf=>List.contains [] f,jN:=λ_ _ _ _=>False,kH:=λ_=>false,eY:=λ_ _ _ _ _=>False,opt:={ cq:=0,carry:=[] },eo:=dM }
theorem NQ:bX Rb:=bX.four (λ_ _ _ _ h=>h.elim) (by kernel_rfl) (dN (by kernel_rfl)) (λ_ _ _ _ _ h=>h.elim)
theorem VA (h0:0<=u) (h1:u<128) (h:∀ (b':Oa) (l' c':Nat) (ys:Li) (E':Mem),Mem.le E E'->Hyp (jk 0 u=ys)->Bs E' b' l' c' ys->K (L b' l' c') E'):
  mm Rb 6 Try.f98 [I u] E K:=by
 refine dO (?_:bif decide (u<(128:Int)) then ∀ (base:Oa) (E':Mem),Mem.le E E'->gD E' base [Value.int IntKind.u8 (IntKind.wrap IntKind.u8 u)]->Mem.le E E'/\K (L (Option.map (λ(x:Addr)=>Addr.add x 0) base) 1 1) E' else ((128:Int)=(0:Int)->False)/\∀ (cap' aa:Nat),1<=cap'->cap'*1<=aa->((128:Int)=(0:Int)->False)/\False);refine ah (λhu=>?_) (λhu=>absurd h1 (by simpa using hu));intro base E' hE hW;exact ⟨hE,h _ _ _ [u] E' hE rfl (Bs.win hW (by rw [JZ (by omega)];rfl) rfl (Nat.le_refl _) (by intro z hz;rw [List.mem_singleton] at hz;omega))⟩
theorem AR:∀ k:Nat,k<=10->jm Try.prog (AQ k)
 | 0,_=>by
  intro f args E K h;unfold AQ at h;split at h;case h_2=>exact h.elim
  obtain ⟨x0,rfl,h⟩:=fO h;obtain ⟨u,rfl,h⟩:=bQ h;obtain ⟨⟨h0,h1,h2⟩,h⟩:=h;exact nK NQ Try.func98 rfl (VA h0 (by simpa using h1) h)
 | k+1,hk=>by
  intro f args E K h;unfold AQ at h;split at h;case h_2=>exact h.elim
  obtain ⟨x0,rfl,h⟩:=fO h;obtain ⟨u,rfl,h⟩:=bQ h;obtain ⟨⟨h0,h1,h2⟩,h⟩:=h;have ok:bX (W44 k):=bX.four (AR k (by omega)) (by kernel_rfl) (dN (by kernel_rfl)) (λ_ _ _ _ _ h=>h.elim);exact nK ok Try.func98 rfl (s44 h0 h1 h2 (by omega) h)
noncomputable def W4:Cx:={ P:=Try.prog,inl:=λf=>List.contains [] f,jN:=AQ 9,kH:=λ_=>false,eY:=λ_ _ _ _ _=>False,opt:={ cq:=0,carry:=[] },eo:=dM }
theorem VB:bX W4:=bX.four (AR 9 (by omega)) (by kernel_rfl) (dN (by kernel_rfl)) (λ_ _ _ _ _ h=>h.elim)
theorem s34 (h0:gl a1) (h:∀ (b':Oa) (l' c':Nat) (ys:Li) (E':Mem),Mem.le E E'->Hyp (bD (ji a1)=ys)->Bs E' b' l' c' ys->K (L b' l' c') E'):
  mm W4 6 Try.f73 [I a1] E K:=by
 refine dO (?_:bif decide (a1<(0:Int)) then ((0:Int)<=WI (WI ((-2:Int)*a1)-(1:Int))/\WI (WI ((-2:Int)*a1)-(1:Int))<(1180591620717411303424:Int)/\WI (WI ((-2:Int)*a1)-(1:Int))<(1152921504606846976:Int))/\∀ (b':Oa) (l' c':Nat) (ys:Li) (E':Mem),Mem.le E E'->Hyp (jk 9 (WI (WI ((-2:Int)*a1)-(1:Int)))=ys)->Bs E' b' l' c' ys->Mem.le E E'/\Mem.le E E'/\K (L b' l' c') E' else ((0:Int)<=WI ((2:Int)*a1)/\WI ((2:Int)*a1)<(1180591620717411303424:Int)/\WI ((2:Int)*a1)<(1152921504606846976:Int))/\∀ (b':Oa) (l' c':Nat) (ys:Li) (E':Mem),Mem.le E E'->Hyp (jk 9 (WI ((2:Int)*a1))=ys)->Bs E' b' l' c' ys->Mem.le E E'/\Mem.le E E'/\K (L b' l' c') E');delta WI;have hn:=h0;have hz:=AP hn;have hn': -10000000000000<=a1/\a1<=10000000000000:=hn;refine ah (λh1=>?_) (λh1=>?_)
 ·have h1:a1<0:=by simpa using h1
  have e:ji a1= -2*a1-1:=by unfold ji;rw [if_pos h1]
  rw [wrap_i64 (x:= -2*a1) (by omega),wrap_i64 (by omega)];rw [e] at hz h;exact ⟨⟨hz.1,by have:=hz.2;simp;omega,hz.2⟩,λb' l' c' ys E' hE hy hB=>⟨hE,hE,h b' l' c' ys E' hE hy hB⟩⟩
 ·have h1:¬ a1<0:=by simpa using h1
  have e:ji a1=2*a1:=by unfold ji;rw [if_neg h1]
  rw [wrap_i64 (by omega)];rw [e] at hz h;exact ⟨⟨hz.1,by have:=hz.2;simp;omega,hz.2⟩,λb' l' c' ys E' hE hy hB=>⟨hE,hE,h b' l' c' ys E' hE hy hB⟩⟩
theorem FF (h:zs.length<=l):List.take (l*1) (vB zs)=vB zs:=List.take_of_length_le (by simp;omega)
theorem Qd (h:Bs E b l c zs):∀ z∈zs,0<=z/\z<=255:=h.2.2.2.1
def jd (v:Int):Int:=if v % 2=1 then -((v+1) / 2) else v / 2
def Bo (a:Int) (ws:Li):Nat->Nat->Int->Int×Int×Int
 | 0,_,_=>(0,0,3)
 | k+1,i,u=>if ws.length<=i then (0,0,11) else
   if 128<=ws.getD i 0 then (if k=0 then (0,0,3) else Bo a ws k (i+1) (u+(ws.getD i 0-128)*128 ^ i))
   else if gl (jd (u+ws.getD i 0*128 ^ i))/\(0<ws.getD i 0\/i=0) then (jd (u+ws.getD i 0*128 ^ i),a+i+1,0) else (0,0,3)
def rd (zs:Li) (a:Int):Int×Int×Int:=if a<0\/a>zs.length then (0,0,1) else Bo a (zs.drop a.toNat) 7 0 0
theorem NR {u d s:Nat} (hu:u<2 ^ s) (h:u+d*2 ^ s<4611686018427387904):(BitVec.ofInt 64 (u:Int)|||BitVec.ofInt 64 ((d:Int)*2 ^ s)).toNat=u+d*2 ^ s:=by
 have hd:(d:Int)*2 ^ s=((d*2 ^ s:Nat):Int):=by simp
 rw [BitVec.toNat_or,hd,BitVec.ofInt_natCast,BitVec.ofInt_natCast,BitVec.toNat_ofNat,BitVec.toNat_ofNat,Nat.mod_eq_of_lt (by omega),Nat.mod_eq_of_lt (by omega)];rw [Nat.or_comm,Nat.mul_comm d,← Nat.two_pow_add_eq_or_of_lt hu];omega
theorem orW (hi:i<=6) (hu:0<=u/\u<128 ^ i) (hd:0<=d/\d<128):
  IntKind.wrap .i64 (((BitVec.ofInt (IntKind.bits .i64) u|||BitVec.ofInt (IntKind.bits .i64) (IntKind.wrap .i64 (d*2 ^ min (Int.toNat (IntKind.wrap .i64 (7*(i:Int)))) (IntKind.bits .i64)))).toNat:Nat):Int)=u+d*128 ^ i/\0<=u+d*128 ^ i/\u+d*128 ^ i<128 ^ (i+1):=by
 obtain ⟨u',rfl⟩:∃ k:Nat,u=k:=⟨u.toNat,by omega⟩;obtain ⟨d',rfl⟩:∃ k:Nat,d=k:=⟨d.toNat,by omega⟩;obtain ⟨h0,h1⟩:=hu;obtain ⟨h2,h3⟩:=hd;rw [show IntKind.bits .i64=64 from rfl];have key:∀ (s p:Nat),p=2 ^ s->s<=42->(u':Int)<p->IntKind.wrap .i64 (((BitVec.ofInt 64 (u':Int)|||BitVec.ofInt 64 (IntKind.wrap .i64 ((d':Int)*2 ^ min (Int.toNat (IntKind.wrap .i64 (s:Int))) 64))).toNat:Nat):Int)=u'+d'*p:=by
  intro s p hp hs h1;have Q0:p<=4398046511104:=by rw [hp];have:=Nat.pow_le_pow_right (show 2>0 by omega) hs;simpa using this
  have hdp:d'*p<=127*4398046511104:=Nat.mul_le_mul (by omega) Q0;have e1:min (Int.toNat (IntKind.wrap .i64 (s:Int))) 64=s:=by rw [wrap_i64 (by omega)];omega
  rw [e1];have e2:(d':Int)*2 ^ s=((d'*p:Nat):Int):=by rw [hp];simp
  have:=NR (u:=u') (d:=d') (s:=s) (by rw [← hp];omega) (by rw [← hp];omega);rw [e2,wrap_i64 (x:=((d'*p:Nat):Int)) (by omega),← e2,this,← hp,wrap_i64 (by omega)];simp
 have hc:i=0\/i=1\/i=2\/i=3\/i=4\/i=5\/i=6:=by omega
 rcases hc with rfl|rfl|rfl|rfl|rfl|rfl|rfl
 ·exact ⟨(key 0 1 rfl (by omega) (by simpa using h1)).trans (by simp),by simp at h1 ⊢;omega,by simp at h1 ⊢;omega⟩
 ·exact ⟨(key 7 128 rfl (by omega) (by simpa using h1)).trans (by simp),by simp at h1 ⊢;omega,by simp at h1 ⊢;omega⟩
 ·exact ⟨(key 14 16384 rfl (by omega) (by simpa using h1)).trans (by simp),by simp at h1 ⊢;omega,by simp at h1 ⊢;omega⟩
 ·exact ⟨(key 21 2097152 rfl (by omega) (by simpa using h1)).trans (by simp),by simp at h1 ⊢;omega,by simp at h1 ⊢;omega⟩
 ·exact ⟨(key 28 268435456 rfl (by omega) (by simpa using h1)).trans (by simp),by simp at h1 ⊢;omega,by simp at h1 ⊢;omega⟩
 ·exact ⟨(key 35 34359738368 rfl (by omega) (by simpa using h1)).trans (by simp),by simp at h1 ⊢;omega,by simp at h1 ⊢;omega⟩
 ·exact ⟨(key 42 4398046511104 rfl (by omega) (by simpa using h1)).trans (by simp),by simp at h1 ⊢;omega,by simp at h1 ⊢;omega⟩
noncomputable def W8:Cx:={ P:=Try.prog,inl:=λf=>List.contains [] f,jN:=λ_ _ _ _=>False,kH:=λ_=>false,eY:=λ_ _ _ _ _=>False,opt:={ cq:=0,carry:=[] },eo:=dM }
theorem J1:bX W8:=bX.four (λ_ _ _ _ h=>h.elim) (by kernel_rfl) (dN (by kernel_rfl)) (λ_ _ _ _ _ h=>h.elim)
theorem s35 (h0:(0<=a1/\a1<1152921504606846976)) (h:K (I (jd a1)) E):
  mm W8 6 Try.f81 [I a1] E K:=by
 refine dO (?_:((2:Int)=(0:Int)->False)/\bif Int.tmod a1 (2:Int)==(1:Int) then ((2:Int)=(0:Int)->False)/\Mem.le E E/\K (I (WI (Int.tdiv (WI ((0:Int)-WI (a1+(1:Int)))) 2))) E else ((2:Int)=(0:Int)->False)/\Mem.le E E/\K (I (WI (Int.tdiv a1 2))) E);delta WI;obtain ⟨g0,g1⟩:=h0;rw [Int.tmod_eq_emod_of_nonneg g0];unfold jd at h;refine ⟨by omega,ah (λh1=>?_) (λh1=>?_)⟩
 ·have h1:a1 % 2=1:=by simpa using h1
  rw [if_pos h1] at h;rw [wrap_i64 (x:=a1+1) (by omega),wrap_i64 (x:=0-(a1+1)) (by omega),Int.zero_sub,Int.neg_tdiv,Int.tdiv_eq_ediv_of_nonneg (by omega),wrap_i64 (by omega)];exact ⟨by omega,bn,h⟩
 ·have h1:¬ a1 % 2=1:=by simpa using h1
  rw [if_neg h1] at h;rw [Int.tdiv_eq_ediv_of_nonneg (by omega),wrap_i64 (by omega)];exact ⟨by omega,bn,h⟩
theorem zF (h:K (B (decide (gl a1))) E):
  mm W8 6 Try.f82 [I a1] E K:=by
 refine dO (?_:bif decide (a1>=(-10000000000000:Int)) then Mem.le E E/\K (B (bif true then decide (a1<=(10000000000000:Int)) else false)) E else Mem.le E E/\K (B false) E);unfold gl at h;refine ah (λh1=>?_) (λh1=>?_)
 ·have h1: -10000000000000<=a1:=by simpa using h1
  exact ⟨bn,by simpa [h1] using h⟩
 ·have h1:¬ -10000000000000<=a1:=by simpa using h1
  exact ⟨bn,by simpa [h1] using h⟩
theorem s32 (h:K (B (decide (gl a1))) E):
  mm W8 6 Try.f100 [I a1] E K:=by
 refine dO (?_:bif decide (a1>=(-10000000000000:Int)) then Mem.le E E/\K (B (bif true then decide (a1<=(10000000000000:Int)) else false)) E else Mem.le E E/\K (B false) E);unfold gl at h;refine ah (λh1=>?_) (λh1=>?_)
 ·have h1: -10000000000000<=a1:=by simpa using h1
  exact ⟨bn,by simpa [h1] using h⟩
 ·have h1:¬ -10000000000000<=a1:=by simpa using h1
  exact ⟨bn,by simpa [h1] using h⟩
noncomputable def NS:FuncId->List SV->Mem->(SV->Mem->Prop)->Prop:=λf args E K=>match f with
 | 81=>d1 args λx0=>dI x0 λa1=>(0<=a1/\a1<1152921504606846976)/\(K (I (jd a1)) E)
 | 82=>d1 args λx0=>dI x0 λa1=>(K (B (decide (gl a1))) E)
 | 100=>d1 args λx0=>dI x0 λa1=>(K (B (decide (gl a1))) E)
 | _=>False
theorem J2:jm Try.prog NS:=by
 intro f args E K h;unfold NS at h;split at h
 ·replace h:=fO h;obtain ⟨x0,rfl,h⟩:=h;replace h:=bQ h;obtain ⟨a1,rfl,h⟩:=h;obtain ⟨g0,h⟩:=h;exact gy.congr (fH rfl rfl) (nK J1 Try.func81 rfl (s35 g0 h))
 ·replace h:=fO h;obtain ⟨x0,rfl,h⟩:=h;replace h:=bQ h;obtain ⟨a1,rfl,h⟩:=h;exact gy.congr (fH rfl rfl) (nK J1 Try.func82 rfl (zF h))
 ·replace h:=fO h;obtain ⟨x0,rfl,h⟩:=h;replace h:=bQ h;obtain ⟨a1,rfl,h⟩:=h;exact gy.congr (fH rfl rfl) (nK J1 Try.func100 rfl (s32 h))
 ·exact h.elim
noncomputable def W7:Cx:={ P:=Try.prog,inl:=λf=>List.contains [] f,jN:=NS,kH:=λ_=>false,eY:=λ_ _ _ _ _=>False,opt:={ cq:=0,carry:=[7,23] },eo:=dM }
theorem Rd:bX W7:=bX.four J2 (by kernel_rfl) (dN (by kernel_rfl)) (λ_ _ _ _ _ h=>h.elim)
def NT (b:Oa) (l c:Nat) (a:Int) (b2:Oa) (l2 c2:Nat) (i:Nat) (u:Int) (E:Mem):St:={ fr:=[oL b l c,oI a]++nn 5++[oI u]++nn 13++[oL b2 l2 c2,oI l2,oI i]++nn 47,bx:=[],E:=E }
structure I15 (E:Mem) (K:SV->Mem->Prop) (a:Int) (ws:Li) (l2 i:Nat) (u:Int):Prop where
 i6:i<=6
 il:i<=l2
 hu:0<=u/\u<128 ^ i
 h:∀ (n iu e:Int) (E':Mem),Mem.le E E'->Hyp (Bo a ws (7-i) i u=(n,iu,e))->K (.bB [I n,I iu,I e]) E'
theorem Re {E0:Mem} {b2:Oa} {l2 c2:Nat} (hB:Bs E b2 l2 c2 ws) (Qe:Mem.le E0 E) (hl:l2<=100000) (ha:0<=a/\a<=100000) (hi:i<=6) (hil:i<=l2) (hu:0<=u/\u<128 ^ i) (h:∀ (n iu e:Int) (E':Mem),Mem.le E E'->Hyp (Bo a ws (7-i) i u=(n,iu,e))->K (.bB [I n,I iu,I e]) E')
  (ih:∀ u',i<6->i<l2->0<=u'/\u'<128 ^ (i+1)->(∀ (n iu e:Int) (E':Mem),Mem.le E E'->Hyp (Bo a ws (7-(i+1)) (i+1) u'=(n,iu,e))->K (.bB [I n,I iu,I e]) E')->Lp W7 6 Try.f61 [1,1,1,0,1,0] 0 (aW E0 K) (NT b l c a b2 l2 c2 (i+1) u' E)):
  jO W7 6 Try.f61 [1,1,1,0,1,0] 0 (aW E0 K) (NT b l c a b2 l2 c2 i u E):=by
 refine dO (?_:bif decide ((NI i)<(NI l2)) then cU (0<=(NI i)/\(NI i)<(NI l2)) (nE E b2 l2 c2/\∃ (n:Int),bt W7.P E 5 (VS b2 l2 c2) (Int.toNat (NI i)*1) (SV.raw (U8 n))/\bif decide (n>=(128:Int)) then bif bif true then (NI i)==6 else false then Mem.le E0 E/\K (SV.bB [I 0,I 0,I 3]) E else bif decide (n>=(128:Int)) then cU ((0:Int)<=WI ((7:Int)*(NI i))) (Lp W7 6 Try.f61 [1,1,1,0,1,0] 0 (aW E0 K) { fr:=some (L b l c)::oI a::none::none::none::none::none::oI (WI (NI (BitVec.toNat (BitVec.ofInt (IntKind.bits IntKind.i64) u|||BitVec.ofInt (IntKind.bits IntKind.i64) (WI (WI (IntKind.wrap IntKind.u8 (n-(128:Int)))*(2:Int) ^ min (Int.toNat (WI ((7:Int)*(NI i)))) (IntKind.bits IntKind.i64)))))))::cQ (cL (none::(oL b2 l2 c2::oI (NI l2)::oI (WI ((NI i)+1))::ai (cQ (cL (cE (none::[]))))))),bx:=[],E:=E:St }) else cU ((0:Int)<=WI ((7:Int)*(NI i))) (((0:Int)<=WI (NI (BitVec.toNat (BitVec.ofInt (IntKind.bits IntKind.i64) u|||BitVec.ofInt (IntKind.bits IntKind.i64) (WI (WI n*(2:Int) ^ min (Int.toNat (WI ((7:Int)*(NI i)))) (IntKind.bits IntKind.i64))))))/\WI (NI (BitVec.toNat (BitVec.ofInt (IntKind.bits IntKind.i64) u|||BitVec.ofInt (IntKind.bits IntKind.i64) (WI (WI n*(2:Int) ^ min (Int.toNat (WI ((7:Int)*(NI i)))) (IntKind.bits IntKind.i64))))))<(1152921504606846976:Int))/\Mem.le E E/\Mem.le E E/\bif decide (gl (jd (WI (NI (BitVec.toNat (BitVec.ofInt (IntKind.bits IntKind.i64) u|||BitVec.ofInt (IntKind.bits IntKind.i64) (WI (WI n*(2:Int) ^ min (Int.toNat (WI ((7:Int)*(NI i)))) (IntKind.bits IntKind.i64))))))))) then bif decide (n>(0:Int)) then Mem.le E0 E/\K (SV.bB [I (jd (WI (NI (BitVec.toNat (BitVec.ofInt (IntKind.bits IntKind.i64) u|||BitVec.ofInt (IntKind.bits IntKind.i64) (WI (WI n*(2:Int) ^ min (Int.toNat (WI ((7:Int)*(NI i)))) (IntKind.bits IntKind.i64)))))))),I (WI (WI (a+(NI i))+(1:Int))),I 0]) E else bif bif true then bif false then true else (NI i)==0 else false then Mem.le E0 E/\K (SV.bB [I (jd (WI (NI (BitVec.toNat (BitVec.ofInt (IntKind.bits IntKind.i64) u|||BitVec.ofInt (IntKind.bits IntKind.i64) (WI (WI n*(2:Int) ^ min (Int.toNat (WI ((7:Int)*(NI i)))) (IntKind.bits IntKind.i64)))))))),I (WI (WI (a+(NI i))+(1:Int))),I 0]) E else Mem.le E0 E/\K (SV.bB [I 0,I 0,I 3]) E else Mem.le E0 E/\K (SV.bB [I 0,I 0,I 3]) E) else bif decide (n>=(128:Int)) then cU ((0:Int)<=WI ((7:Int)*(NI i))) (Lp W7 6 Try.f61 [1,1,1,0,1,0] 0 (aW E0 K) { fr:=some (L b l c)::oI a::none::none::none::none::none::oI (WI (NI (BitVec.toNat (BitVec.ofInt (IntKind.bits IntKind.i64) u|||BitVec.ofInt (IntKind.bits IntKind.i64) (WI (WI (IntKind.wrap IntKind.u8 (n-(128:Int)))*(2:Int) ^ min (Int.toNat (WI ((7:Int)*(NI i)))) (IntKind.bits IntKind.i64)))))))::cQ (cL (none::(oL b2 l2 c2::oI (NI l2)::oI (WI ((NI i)+1))::ai (cQ (cL (cE (none::[]))))))),bx:=[],E:=E:St }) else cU ((0:Int)<=WI ((7:Int)*(NI i))) (((0:Int)<=WI (NI (BitVec.toNat (BitVec.ofInt (IntKind.bits IntKind.i64) u|||BitVec.ofInt (IntKind.bits IntKind.i64) (WI (WI n*(2:Int) ^ min (Int.toNat (WI ((7:Int)*(NI i)))) (IntKind.bits IntKind.i64))))))/\WI (NI (BitVec.toNat (BitVec.ofInt (IntKind.bits IntKind.i64) u|||BitVec.ofInt (IntKind.bits IntKind.i64) (WI (WI n*(2:Int) ^ min (Int.toNat (WI ((7:Int)*(NI i)))) (IntKind.bits IntKind.i64))))))<(1152921504606846976:Int))/\Mem.le E E/\Mem.le E E/\bif decide (gl (jd (WI (NI (BitVec.toNat (BitVec.ofInt (IntKind.bits IntKind.i64) u|||BitVec.ofInt (IntKind.bits IntKind.i64) (WI (WI n*(2:Int) ^ min (Int.toNat (WI ((7:Int)*(NI i)))) (IntKind.bits IntKind.i64))))))))) then bif decide (n>(0:Int)) then Mem.le E0 E/\K (SV.bB [I (jd (WI (NI (BitVec.toNat (BitVec.ofInt (IntKind.bits IntKind.i64) u|||BitVec.ofInt (IntKind.bits IntKind.i64) (WI (WI n*(2:Int) ^ min (Int.toNat (WI ((7:Int)*(NI i)))) (IntKind.bits IntKind.i64)))))))),I (WI (WI (a+(NI i))+(1:Int))),I 0]) E else bif bif true then bif false then true else (NI i)==0 else false then Mem.le E0 E/\K (SV.bB [I (jd (WI (NI (BitVec.toNat (BitVec.ofInt (IntKind.bits IntKind.i64) u|||BitVec.ofInt (IntKind.bits IntKind.i64) (WI (WI n*(2:Int) ^ min (Int.toNat (WI ((7:Int)*(NI i)))) (IntKind.bits IntKind.i64)))))))),I (WI (WI (a+(NI i))+(1:Int))),I 0]) E else Mem.le E0 E/\K (SV.bB [I 0,I 0,I 3]) E else Mem.le E0 E/\K (SV.bB [I 0,I 0,I 3]) E)) else Mem.le E0 E/\K (SV.bB [I 0,I 0,I 11]) E);delta WI NI U8 VS cE cL cQ ai;have hlen:=hB.2.1;obtain ⟨k,hk⟩:∃ k,7-i=k+1:=⟨6-i,by omega⟩;have hk':7-(i+1)=k:=by omega
 rw [hk'] at ih;rw [hk] at h;have h7:IntKind.wrap .i64 (7*(i:Int))=7*i:=wrap_i64 (by omega);unfold Bo at h;refine ah (λhlt=>?_) (λhlt=>?_)
 ·have hlt:i<l2:=by simpa using hlt
  rw [if_neg (by omega)] at h;have hc:0<=ws.getD i 0/\ws.getD i 0<=255:=by refine Qd hB _ ?_;rw [List.getD_eq_getElem?_getD,List.getElem?_eq_getElem (by omega)];exact List.getElem_mem _
  refine af ⟨by omega,by omega⟩ ⟨hB.ne hlt,ws.getD i 0,hB.load rfl hlt,?_⟩;generalize ws.getD i 0=c1 at hc h ih;refine ah (λh1=>?_) (λh1=>?_)
  ·have h1:128<=c1:=by simpa using h1
   rw [if_pos h1] at h;refine ah (λh2=>?_) (λh2=>?_)
   ·have h2:i=6:=by simp at h2;omega
    rw [if_pos (by omega)] at h;exact ⟨Qe,h 0 0 3 E bn rfl⟩
   ·have h2:i<6:=by simp at h2;omega
    rw [if_neg (by omega)] at h;refine ah (λ_=>?_) (λh3=>absurd h1 (by simp at h3;omega));refine af (by rw [h7];omega) ?_;have ho:=orW hi hu (d:=c1-128) (by omega);have e1:IntKind.wrap .i64 (IntKind.wrap .u8 (c1-128))=c1-128:=by rw [JZ (by omega),wrap_i64 (by omega)]
    have e2:IntKind.wrap .i64 ((i:Int)+1)=((i+1:Nat):Int):=by rw [wrap_i64 (by omega)];simp
    rw [e1,ho.1,e2];exact qI (by repeat' first|exact True.intro|refine And.intro rfl ?_) (ih _ h2 hlt ho.2 h)
  ·have h1:¬ 128<=c1:=by simpa using h1
   rw [if_neg h1] at h;refine ah (λh3=>absurd h3 (by simp;omega)) (λ_=>?_);refine af (by rw [h7];omega) ?_;have ho:=orW hi hu (d:=c1) (by omega);have e1:IntKind.wrap .i64 c1=c1:=wrap_i64 (by omega);have e2:IntKind.wrap .i64 (IntKind.wrap .i64 (a+(i:Int))+1)=a+i+1:=by rw [wrap_i64 (x:=a+i) (by omega),wrap_i64 (by omega)]
   have hb:(128:Int) ^ (i+1)<=128 ^ 7:=by
    have:=Nat.pow_le_pow_right (show 128>0 by omega) (show i+1<=7 by omega)
    exact_mod_cast this
   simp only [e1,ho.1,e2];refine ⟨⟨ho.2.1,by have:=ho.2.2;simp at hb;omega⟩,bn,bn,?_⟩;refine ah (λh4=>?_) (λh4=>?_)
   ·have h4:gl (jd (u+c1*128 ^ i)):=by simpa using h4
    refine ah (λh5=>?_) (λh5=>?_)
    ·have h5:0<c1:=by simpa using h5
     rw [if_pos ⟨h4,.inl h5⟩] at h;exact ⟨Qe,h _ _ _ E bn rfl⟩
    ·have h5:¬ 0<c1:=by simpa using h5
     refine ah (λh6=>?_) (λh6=>?_)
     ·have h6:i=0:=by simp at h6;omega
      rw [if_pos ⟨h4,.inr h6⟩] at h;exact ⟨Qe,h _ _ _ E bn rfl⟩
     ·have h6:¬ i=0:=by simp at h6;omega
      rw [if_neg (by rintro ⟨_,q|q⟩;exact h5 q;exact h6 q)] at h;exact ⟨Qe,h _ _ _ E bn rfl⟩
   ·have h4:¬ gl (jd (u+c1*128 ^ i)):=by simpa using h4
    rw [if_neg (λq=>h4 q.1)] at h;exact ⟨Qe,h _ _ _ E bn rfl⟩
 ·have hlt:¬ i<l2:=by simpa using hlt
  rw [if_pos (by omega)] at h;exact ⟨Qe,h 0 0 11 E bn rfl⟩
theorem yd (hB:Bs E b l c zs) (hl:l<=100000) (h:∀ (n iu e:Int) (E':Mem),Mem.le E E'->Hyp (rd zs a=(n,iu,e))->K (.bB [I n,I iu,I e]) E'):mm W7 6 Try.f61 [L b l c,I a] E K:=by
 refine dO (?_:bif decide (a<(0:Int)) then Mem.le E E/\K (SV.bB [I 0,I 0,I 1]) E else bif bif false then true else decide (a>(NI l)) then Mem.le E E/\K (SV.bB [I 0,I 0,I 1]) E else cU (l<=c) (cU ((0:Int)<=a/\a<=(NI (toN none l))) (∀ (base':Oa) (E':Mem),Mem.le E E'->(∀ (cs:Lv),E (VS b l c) cs->E' (VS base' (toN none l-toN (some a) 0) (toN none c-toN (some a) 0)) (List.take ((toN none l-toN (some a) 0)*1) (List.drop (toN (some a) 0*1) cs)))->Option.isNone base'=Option.isNone b->Lp W7 6 Try.f61 [1,1,1,0,1,0] 0 (aW E K) { fr:=some (L b l c)::oI a::none::none::none::none::none::oI 0::none::none::none::oI a::oB (decide (a<(0:Int)))::oB false::oI a::oL b l c::oI (NI l)::oB (decide (a>(NI l)))::oB (bif false then true else decide (a>(NI l)))::oL b l c::oI a::oL base' (toN none l-toN (some a) 0) (toN none c-toN (some a) 0)::oI (NI (toN none l-toN (some a) 0))::oI 0::ai (cQ (cL (cE (none::[])))),bx:=[],E:=E':St })));delta NI VS cE cL cQ ai;have hlen:=hB.2.1;refine ah (λh1=>?_) (λh1=>?_)
 ·exact ⟨bn,h 0 0 1 E bn (by show rd zs a=_;unfold rd;rw [if_pos (.inl (by simpa using h1))])⟩
 ·have h1:¬ a<0:=by simpa using h1
  refine ah (λh2=>?_) (λh2=>?_)
  ·have h2:a>l:=by simpa using h2
   exact ⟨bn,h 0 0 1 E bn (by show rd zs a=_;unfold rd;rw [if_pos (.inr (by omega))])⟩
  ·have h2:a<=l:=by simpa using h2
   have hr:rd zs a=Bo a (zs.drop a.toNat) 7 0 0:=by unfold rd;rw [if_neg (by omega)]
   rw [hr] at h;refine af hB.2.2.1 (af ⟨by omega,h2⟩ ?_);intro b2 E' hE hF hN;have hB2:Bs E' b2 (l-a.toNat) (c-a.toNat) (zs.drop a.toNat):=by
    refine ⟨?_,by simp [hlen],by have:=hB.2.2.1;omega,λz hz=>Qd hB z (List.drop_subset _ _ hz),λe=>?_⟩
    ·rcases hB.1 with q|q
     ·exact .inl (by rw [q];simp)
     ·refine .inr ?_;have:=hF _ q;rw [Nat.mul_one,Nat.mul_one,← List.map_drop,List.take_of_length_le (by show _<=l-a.toNat;rw [List.length_map,List.length_drop,hlen];exact Nat.le_refl _)] at this;exact this
    ·have :zs=[]:=hB.2.2.2.2 (by cases b with |none=>rfl|some x=>rw [e] at hN;cases hN);rw [this];simp
   have key:=cu Rd (n:=6) (fn:=Try.f61) (p:=[1,1,1,0,1,0]) (n0:=0) (K:=aW E K) (λx:{x:Nat×Int//I15 E' K a (zs.drop a.toNat) (l-a.toNat) x.1 x.2}=>NT b l c a b2 (l-a.toNat) (c-a.toNat) x.1.1 x.1.2 E') (λx=>7-x.1.1) (by rintro ⟨⟨i,u⟩,hP⟩ ih;have hP:I15 E' K a (zs.drop a.toNat) (l-a.toNat) i u:=hP;have g6:=hP.i6;refine Re hB2 hE (by omega) (by omega) hP.i6 hP.il hP.hu hP.h (λu' q1 q2 q3 q4=>?_);exact ih ⟨⟨i+1,u'⟩,⟨q1,q2,q3,q4⟩⟩ (by show 7-(i+1)<7-i;omega))
   exact qI (by repeat' first|exact True.intro|refine And.intro rfl ?_) (key ⟨⟨0,0⟩,⟨by omega,by omega,by simp,λn e' e E2 Eu hy=>h n e' e E2 (bq hE Eu) hy⟩⟩)
def pM (ws:Li):Nat->Nat->Int
 | 0,_=>0
 | k+1,i=>if ws.length<=i then -1 else if ws.getD i 0<128 then i+1 else pM ws k (i+1)
noncomputable def W9:Cx:={ P:=Try.prog,inl:=λf=>List.contains [] f,jN:=λ_ _ _ _=>False,kH:=λ_=>false,eY:=λ_ _ _ _ _=>False,opt:={ cq:=0,carry:=[5] },eo:=dM }
theorem Rf:bX W9:=bX.four (λ_ _ _ _ h=>h.elim) (by kernel_rfl) (dN (by kernel_rfl)) (λ_ _ _ _ _ h=>h.elim)
def NU (b:Oa) (l c:Nat) (a:Int) (i:Nat) (E:Mem):St:={ fr:=[oL b l c,oI a,none,none,none,oI i]++nn 19,bx:=[],E:=E }
theorem Rg (hB:Bs E b l c zs) (hl:l<=100000) (ha:0<=a/\a<=l) (hi:i<=7) (h:∀ (n:Int),Hyp (pM (zs.drop a.toNat) (7-i) i=n)->K (I n) E)
  (ih:i<7->(∀ (n:Int),Hyp (pM (zs.drop a.toNat) (7-(i+1)) (i+1)=n)->K (I n) E)->Lp W9 6 Try.f99 [1,0,1,0] 0 (aW E K) (NU b l c a (i+1) E)):
  jO W9 6 Try.f99 [1,0,1,0] 0 (aW E K) (NU b l c a i E):=by
 refine dO (?_:bif decide ((NI i)<7) then bif decide (WI (a+(NI i))>=(NI l)) then Mem.le E E/\K (I (-1)) E else cU ((0:Int)<=WI (a+(NI i))/\WI (a+(NI i))<(NI l)) (nE E b l c/\∃ (n:Int),bt W9.P E 5 (VS b l c) (Int.toNat (WI (a+(NI i)))*1) (SV.raw (U8 n))/\bif decide (n<(128:Int)) then Mem.le E E/\K (I (WI ((NI i)+1))) E else Lp W9 6 Try.f99 [1,0,1,0] 0 (aW E K) { fr:=some (L b l c)::oI a::none::none::none::oI (WI ((NI i)+1))::bL (cE (none::[])),bx:=[],E:=E:St }) else Mem.le E E/\K (I 0) E);delta WI NI U8 VS cE bL;have hlen:=hB.2.1;refine ah (λh1=>?_) (λh1=>?_)
 ·have h1:i<7:=by simp at h1;omega
  obtain ⟨k,hk⟩:∃ k,7-i=k+1:=⟨6-i,by omega⟩;rw [show 7-(i+1)=k by omega] at ih;rw [hk] at h;have hw:IntKind.wrap .i64 (a+(i:Int))=a+i:=wrap_i64 (by omega);have Gi:IntKind.wrap .i64 ((i:Int)+1)=i+1:=wrap_i64 (by omega);rw [hw,Gi];unfold pM at h;have hd:(zs.drop a.toNat).length=l-a.toNat:=by rw [List.length_drop,hlen]
  refine ah (λh2=>?_) (λh2=>?_)
  ·rw [if_pos (by simp at h2;omega)] at h;exact ⟨bn,h _ rfl⟩
  ·have h2:a+i<l:=by simp at h2;omega
   rw [if_neg (by omega)] at h;have e1:(zs.drop a.toNat).getD i 0=zs.getD (a+i).toNat 0:=by rw [List.getD_eq_getElem?_getD,List.getD_eq_getElem?_getD,List.getElem?_drop];congr 2;omega
   rw [e1] at h;refine af ⟨by omega,h2⟩ ⟨hB.ne (i:=(a+i).toNat) (by omega),_,hB.load (i:=(a+i).toNat) rfl (by omega),?_⟩;refine ah (λh3=>?_) (λh3=>?_)
   ·rw [if_pos (by simpa using h3)] at h;exact ⟨bn,h _ rfl⟩
   ·rw [if_neg (by simpa using h3)] at h;exact qI (by repeat' first|exact True.intro|refine And.intro rfl ?_) (ih h1 h)
 ·have h1:¬ i<7:=by simp at h1;omega
  rw [show 7-i=0 by omega] at h;exact ⟨bn,h _ rfl⟩
theorem s36 (hB:Bs E b l c zs) (hl:l<=100000) (ha:0<=a/\a<=l) (h:∀ (n:Int),Hyp (pM (zs.drop a.toNat) 7 0=n)->K (I n) E):mm W9 6 Try.f99 [L b l c,I a] E K:=by
 refine dO (?_:Lp W9 6 Try.f99 [1,0,1,0] 0 (aW E K) { fr:=some (L b l c)::oI a::none::none::none::oI 0::bL (cE (none::[])),bx:=[],E:=E:St });delta cE bL;have key:=cu Rf (n:=6) (fn:=Try.f99) (p:=[1,0,1,0]) (n0:=0) (K:=aW E K) (λx:{x:Nat//x<=7/\(∀ (n:Int),Hyp (pM (zs.drop a.toNat) (7-x) x=n)->K (I n) E)}=>NU b l c a x.1 E) (λx=>7-x.1) (by rintro ⟨i,g1,g2⟩ ih;exact Rg hB hl ha g1 g2 (λq1 q2=>ih ⟨i+1,q1,q2⟩ (by have q1:i<7:=q1;show 7-(i+1)<7-i;omega)))
 exact qI (by repeat' first|exact True.intro|refine And.intro rfl ?_) (key ⟨0,by omega,h⟩)
noncomputable def NV:FuncId->List SV->Mem->(SV->Mem->Prop)->Prop:=λf args E K=>match f with
 | 99=>d2 args λx0 x1=>dS x0 λb1 l2 c3=>dI x1 λa4=>∃ (zs:Li),Bs E b1 l2 c3 zs/\l2<=100000/\(0<=a4/\a4<=l2)/\(∀ (n:Int),Hyp (pM (zs.drop a4.toNat) 7 0=n)->K (I n) E)
 | 100=>d1 args λx0=>dI x0 λa1=>(K (B (decide (gl a1))) E)
 | _=>False
theorem J3:jm Try.prog NV:=by
 intro f args E K h;unfold NV at h;split at h
 ·replace h:=ck h;obtain ⟨x0,x1,rfl,h⟩:=h;replace h:=eZ h;obtain ⟨b1,l2,c3,rfl,h⟩:=h;replace h:=bQ h;obtain ⟨a4,rfl,h⟩:=h;obtain ⟨zs,g0,g1,g2,h⟩:=h;exact gy.congr (fH rfl (fH rfl rfl)) (nK Rf Try.func99 rfl (s36 g0 g1 g2 h))
 ·replace h:=fO h;obtain ⟨x0,rfl,h⟩:=h;replace h:=bQ h;obtain ⟨a1,rfl,h⟩:=h;exact gy.congr (fH rfl rfl) (nK J1 Try.func100 rfl (s32 h))
 ·exact h.elim
noncomputable def WA:Cx:={ P:=Try.prog,inl:=λf=>List.contains [] f,jN:=NV,kH:=λ_=>false,eY:=λ_ _ _ _ _=>False,opt:={ cq:=0,carry:=[8,9] },eo:=dM }
theorem Rh:bX WA:=bX.four J3 (by kernel_rfl) (dN (by kernel_rfl)) (λ_ _ _ _ _ h=>h.elim)
def NW (b:Oa) (l c:Nat) (a:Int) (n u i:Int) (E:Mem):St:={ fr:=[oL b l c,oI a]++nn 5++[oI n,oI u,oI i]++nn 64,bx:=[],E:=E }
def BZ (ws:Li):Nat->Nat->Int
 | 0,_=>0
 | k+1,i=>ws.getD i 0 % 128+128*BZ ws k (i+1)
def nW (a:Int) (ws:Li) (v:Int) (m:Nat):Int×Int×Int:=if gl (jd v)/\(0<ws.getD (m-1) 0\/m=1) then (jd v,a+m,0) else (0,0,3)
theorem L1 (ws:Li):∀ (k i:Nat),0<=BZ ws k i/\BZ ws k i<128 ^ k
 | 0,i=>⟨Int.le_refl _,by simp [BZ]⟩
 | k+1,i=>by have:=L1 ws k (i+1);have h1:0<=ws.getD i 0 % 128/\ws.getD i 0 % 128<128:=⟨Int.emod_nonneg _ (by omega),Int.emod_lt_of_pos _ (by omega)⟩;show 0<=ws.getD i 0 % 128+128*BZ ws k (i+1)/\ws.getD i 0 % 128+128*BZ ws k (i+1)<128 ^ (k+1);rw [Int.pow_succ];omega
theorem Da (a:Int) {ws:Li} (hw:∀ z∈ws,0<=z/\z<=255):∀ (k i:Nat) (u:Int),i+k=7->
  (pM ws k i=0->Bo a ws k i u=(0,0,3))/\(pM ws k i= -1->Bo a ws k i u=(0,0,11))/\
  (pM ws k i≠0->pM ws k i≠ -1->∃ m:Nat,pM ws k i=m/\i<m/\m<=7/\m<=ws.length/\Bo a ws k i u=nW a ws (u+128 ^ i*BZ ws (m-i) i) m)
 | 0,i,u,h=>by simp [pM,Bo]
 | k+1,i,u,h=>by
  unfold pM Bo;by_cases h1:ws.length<=i
  ·rw [if_pos h1,if_pos h1];simp
  ·rw [if_neg h1,if_neg h1];have hc:0<=ws.getD i 0/\ws.getD i 0<=255:=by
    refine hw _ ?_;rw [List.getD_eq_getElem?_getD,List.getElem?_eq_getElem (by omega)];exact List.getElem_mem _
   by_cases h2:ws.getD i 0<128
   ·rw [if_pos h2,if_neg (by omega)];refine ⟨λe=>by omega,λe=>by omega,λ_ _=>⟨i+1,by simp,by omega,by omega,by omega,?_⟩⟩;have e1:BZ ws (i+1-i) i=ws.getD i 0:=by
     rw [show i+1-i=1 by omega];show ws.getD i 0 % 128+128*0=_;omega
    rw [e1];unfold nW;rw [show i+1-1=i by omega,Int.mul_comm];have e2:((0<ws.getD i 0\/i+1=1)↔(0<ws.getD i 0\/i=0)):=by simp
    simp only [e2];rw [show a+((i+1:Nat):Int)=a+i+1 by omega]
   ·rw [if_neg h2,if_pos (by omega)];obtain ⟨g1,g2,g3⟩:=Da a hw k (i+1) (u+(ws.getD i 0-128)*128 ^ i) (by omega);by_cases hk:k=0
    ·subst hk;rw [if_pos rfl];refine ⟨λ_=>rfl,λe=>?_,λe=>?_⟩
     ·exact absurd (show pM ws 0 (i+1)=0 from rfl) (by rw [e];omega)
     ·exact absurd (show pM ws 0 (i+1)=0 from rfl) e
    ·rw [if_neg hk];refine ⟨g1,g2,λe1 e2=>?_⟩;obtain ⟨m,q1,q2,q3,q4,q5⟩:=g3 e1 e2;refine ⟨m,q1,by omega,q3,q4,?_⟩;rw [q5];congr 1;have e3:m-i=(m-(i+1))+1:=by omega
     rw [e3];show _=u+128 ^ i*(ws.getD i 0 % 128+128*BZ ws (m-(i+1)) (i+1));rw [show ws.getD i 0 % 128=ws.getD i 0-128 by omega,Int.pow_succ,Int.mul_add,Int.mul_comm (128 ^ i) (ws.getD i 0-128),Int.mul_assoc];omega
theorem Ri (hB:Bs E b l c zs) (hl:l<=100000) (ha:0<=a/\a+m<=l) (hi:i<=m) (hn:1<=m/\m<=7) (hu:u=BZ (zs.drop a.toNat) (m-i) i) (h:∀ (n iu e:Int) (E':Mem),Mem.le E E'->Hyp (nW a (zs.drop a.toNat) (BZ (zs.drop a.toNat) m 0) m=(n,iu,e))->K (.bB [I n,I iu,I e]) E')
  (ih:1<=i->∀ u',u'=BZ (zs.drop a.toNat) (m-(i-1)) (i-1)->Lp WA 6 Try.f74 [1,1,1,1,1,1,0,1,0] 0 (aW E K) (NW b l c a m u' ((i:Int)-1-1) E)):
  jO WA 6 Try.f74 [1,1,1,1,1,1,0,1,0] 0 (aW E K) (NW b l c a m u (i-1:Int) E):=by
 refine dO (?_:bif decide ((NI i)-1>=(0:Int)) then cU ((0:Int)<=WI (a+((NI i)-1))/\WI (a+((NI i)-1))<(NI l)) (nE E b l c/\∃ (n:Int),bt WA.P E 5 (VS b l c) (Int.toNat (WI (a+((NI i)-1)))*1) (SV.raw (U8 n))/\((128:Int)=(0:Int)->False)/\Lp WA 6 Try.f74 [1,1,1,1,1,1,0,1,0] 0 (aW E K) { fr:=some (L b l c)::oI a::none::none::none::none::none::oI (NI m)::oI (WI (WI ((128:Int)*u)+Int.tmod (WI n) 128))::oI (WI ((NI i)-1-(1:Int)))::ai (ai []),bx:=[],E:=E:St }) else ((2:Int)=(0:Int)->False)/\((2:Int)=(0:Int)->False)/\bif Int.tmod u (2:Int)==(1:Int) then Mem.le E E/\bif !decide (gl (WI (WI ((0:Int)-WI (Int.tdiv u 2))-(1:Int)))) then Mem.le E E/\K (SV.bB [I 0,I 0,I 3]) E else bif decide ((NI m)>1) then cU ((0:Int)<=WI (WI (a+(NI m))-(1:Int))/\WI (WI (a+(NI m))-(1:Int))<(NI l)) (nE E b l c/\∃ (n:Int),bt WA.P E 5 (VS b l c) (Int.toNat (WI (WI (a+(NI m))-(1:Int)))*1) (SV.raw (U8 n))/\bif bif false then true else bif true then n==(0:Int) else false then Mem.le E E/\K (SV.bB [I 0,I 0,I 3]) E else Mem.le E E/\K (SV.bB [I (WI (WI ((0:Int)-WI (Int.tdiv u 2))-(1:Int))),I (WI (a+(NI m))),I 0]) E) else Mem.le E E/\K (SV.bB [I (WI (WI ((0:Int)-WI (Int.tdiv u 2))-(1:Int))),I (WI (a+(NI m))),I 0]) E else Mem.le E E/\bif !decide (gl (WI (Int.tdiv u 2))) then Mem.le E E/\K (SV.bB [I 0,I 0,I 3]) E else bif decide ((NI m)>1) then cU ((0:Int)<=WI (WI (a+(NI m))-(1:Int))/\WI (WI (a+(NI m))-(1:Int))<(NI l)) (nE E b l c/\∃ (n:Int),bt WA.P E 5 (VS b l c) (Int.toNat (WI (WI (a+(NI m))-(1:Int)))*1) (SV.raw (U8 n))/\bif bif false then true else bif true then n==(0:Int) else false then Mem.le E E/\K (SV.bB [I 0,I 0,I 3]) E else Mem.le E E/\K (SV.bB [I (WI (Int.tdiv u 2)),I (WI (a+(NI m))),I 0]) E) else Mem.le E E/\K (SV.bB [I (WI (Int.tdiv u 2)),I (WI (a+(NI m))),I 0]) E);delta WI NI U8 VS ai;have hlen:=hB.2.1;have hb:=L1 (zs.drop a.toNat) (m-i) i;have hp:(128:Int) ^ (m-i)<=128 ^ 7:=by
  have:=Nat.pow_le_pow_right (show 128>0 by omega) (show m-i<=7 by omega)
  exact_mod_cast this
 have hp:(128:Int) ^ (m-i)<=562949953421312:=by simpa using hp
 have hu0:0<=u/\u<562949953421312:=by rw [hu];omega
 refine ah (λh1=>?_) (λh1=>?_)
 ·have h1:1<=i:=by simp at h1;omega
  rw [wrap_i64 (x:=a+((i:Int)-1)) (by omega)];refine af ⟨by omega,by omega⟩ ⟨hB.ne (i:=(a+((i:Int)-1)).toNat) (by omega),_,hB.load (i:=(a+((i:Int)-1)).toNat) rfl (by omega),by omega,?_⟩;have e5:(zs.drop a.toNat).getD (i-1) 0=zs.getD (a+((i:Int)-1)).toNat 0:=by rw [List.getD_eq_getElem?_getD,List.getD_eq_getElem?_getD,List.getElem?_drop];congr 2;omega
  have hc:0<=zs.getD (a+((i:Int)-1)).toNat 0/\zs.getD (a+((i:Int)-1)).toNat 0<=255:=by refine Qd hB _ ?_;rw [List.getD_eq_getElem?_getD,List.getElem?_eq_getElem (by omega)];exact List.getElem_mem _
  generalize zs.getD (a+((i:Int)-1)).toNat 0=c1 at hc e5;rw [wrap_i64 (x:=c1) (by omega),Int.tmod_eq_emod_of_nonneg hc.1,wrap_i64 (x:=128*u) (by omega),wrap_i64 (x:=128*u+c1 % 128) (by omega),wrap_i64 (x:=(i:Int)-1-1) (by omega)];refine qI (by repeat' first|exact True.intro|refine And.intro rfl ?_) (ih h1 (128*u+c1 % 128) ?_)
  rw [show m-(i-1)=(m-i)+1 by omega];show _=(zs.drop a.toNat).getD (i-1) 0 % 128+128*BZ (zs.drop a.toNat) (m-i) (i-1+1);rw [e5,show i-1+1=i by omega,← hu];omega
 ·have h1:i=0:=by simp at h1;omega
  subst h1;rw [show m-0=m by omega] at hu;rw [← hu] at h;refine ⟨by omega,by omega,?_⟩;rw [Int.tmod_eq_emod_of_nonneg hu0.1,Int.tdiv_eq_ediv_of_nonneg hu0.1,wrap_i64 (x:=a+m) (by omega)];refine ah (λh2=>?_) (λh2=>?_)
  ·have h2:u % 2=1:=by simpa using h2
   have hz:IntKind.wrap .i64 (IntKind.wrap .i64 (0-IntKind.wrap .i64 (u / 2))-1)=jd u:=by rw [wrap_i64 (x:=u / 2) (by omega),wrap_i64 (x:=0-u / 2) (by omega),wrap_i64 (by omega)];unfold jd;rw [if_pos h2];omega
   rw [hz];refine ⟨bn,?_⟩;refine ah (λh3=>?_) (λh3=>?_)
   ·have h3:¬ gl (jd u):=by simpa using h3
    refine ⟨bn,h 0 0 3 E bn ?_⟩;show nW a _ _ m=_;unfold nW;rw [if_neg (λq=>h3 q.1)]
   ·have h3:gl (jd u):=by simpa using h3
    refine ah (λh4=>?_) (λh4=>?_)
    ·have h4:m>1:=by simp at h4;omega
     rw [wrap_i64 (x:=a+m-1) (by omega)];refine af ⟨by omega,by omega⟩ ⟨hB.ne (i:=(a+m-1).toNat) (by omega),_,hB.load (i:=(a+m-1).toNat) rfl (by omega),?_⟩;have e5:(zs.drop a.toNat).getD (m-1) 0=zs.getD (a+m-1).toNat 0:=by rw [List.getD_eq_getElem?_getD,List.getD_eq_getElem?_getD,List.getElem?_drop];congr 2;omega
     have hc:0<=zs.getD (a+m-1).toNat 0:=by refine (Qd hB _ ?_).1;rw [List.getD_eq_getElem?_getD,List.getElem?_eq_getElem (by omega)];exact List.getElem_mem _
     refine ah (λh5=>?_) (λh5=>?_)
     ·have h5:zs.getD (a+m-1).toNat 0=0:=by simpa using h5
      refine ⟨bn,h 0 0 3 E bn ?_⟩;show nW a _ _ m=_;unfold nW;rw [if_neg (by rw [e5,h5];rintro ⟨_,q|q⟩<;>omega)]
     ·have h5:¬ zs.getD (a+m-1).toNat 0=0:=by simpa using h5
      refine ⟨bn,h _ _ 0 E bn ?_⟩;show nW a _ _ m=_;unfold nW;rw [if_pos ⟨h3,.inl (by rw [e5];omega)⟩]
    ·have h4:m=1:=by simp at h4;omega
     refine ⟨bn,h _ _ 0 E bn ?_⟩;show nW a _ _ m=_;unfold nW;rw [if_pos ⟨h3,.inr h4⟩]
  ·have h2:¬ u % 2=1:=by simpa using h2
   have hz:IntKind.wrap .i64 (u / 2)=jd u:=by rw [wrap_i64 (x:=u / 2) (by omega)];unfold jd;rw [if_neg h2]
   rw [hz];refine ⟨bn,?_⟩;refine ah (λh3=>?_) (λh3=>?_)
   ·have h3:¬ gl (jd u):=by simpa using h3
    refine ⟨bn,h 0 0 3 E bn ?_⟩;show nW a _ _ m=_;unfold nW;rw [if_neg (λq=>h3 q.1)]
   ·have h3:gl (jd u):=by simpa using h3
    refine ah (λh4=>?_) (λh4=>?_)
    ·have h4:m>1:=by simp at h4;omega
     rw [wrap_i64 (x:=a+m-1) (by omega)];refine af ⟨by omega,by omega⟩ ⟨hB.ne (i:=(a+m-1).toNat) (by omega),_,hB.load (i:=(a+m-1).toNat) rfl (by omega),?_⟩;have e5:(zs.drop a.toNat).getD (m-1) 0=zs.getD (a+m-1).toNat 0:=by rw [List.getD_eq_getElem?_getD,List.getD_eq_getElem?_getD,List.getElem?_drop];congr 2;omega
     have hc:0<=zs.getD (a+m-1).toNat 0:=by refine (Qd hB _ ?_).1;rw [List.getD_eq_getElem?_getD,List.getElem?_eq_getElem (by omega)];exact List.getElem_mem _
     refine ah (λh5=>?_) (λh5=>?_)
     ·have h5:zs.getD (a+m-1).toNat 0=0:=by simpa using h5
      refine ⟨bn,h 0 0 3 E bn ?_⟩;show nW a _ _ m=_;unfold nW;rw [if_neg (by rw [e5,h5];rintro ⟨_,q|q⟩<;>omega)]
     ·have h5:¬ zs.getD (a+m-1).toNat 0=0:=by simpa using h5
      refine ⟨bn,h _ _ 0 E bn ?_⟩;show nW a _ _ m=_;unfold nW;rw [if_pos ⟨h3,.inl (by rw [e5];omega)⟩]
    ·have h4:m=1:=by simp at h4;omega
     refine ⟨bn,h _ _ 0 E bn ?_⟩;show nW a _ _ m=_;unfold nW;rw [if_pos ⟨h3,.inr h4⟩]
theorem ye (hB:Bs E b l c zs) (hl:l<=100000) (h:∀ (n iu e:Int) (E':Mem),Mem.le E E'->Hyp (rd zs a=(n,iu,e))->K (.bB [I n,I iu,I e]) E'):mm WA 6 Try.f74 [L b l c,I a] E K:=by
 refine dO (?_:bif decide (a<(0:Int)) then Mem.le E E/\K (SV.bB [I 0,I 0,I 1]) E else bif bif false then true else decide (a>(NI l)) then Mem.le E E/\K (SV.bB [I 0,I 0,I 1]) E else ∃ (zs:Li),Bs E b l c zs/\l<=100000/\((0:Int)<=a/\a<=(NI l))/\∀ (n:Int),Hyp (pM (List.drop (Int.toNat a) zs) 7 0=n)->Mem.le E E/\bif n==(0:Int) then Mem.le E E/\K (SV.bB [I 0,I 0,I 3]) E else bif decide (n<(0:Int)) then Mem.le E E/\K (SV.bB [I 0,I 0,I 11]) E else Lp WA 6 Try.f74 [1,1,1,1,1,1,0,1,0] 0 (aW E K) { fr:=some (L b l c)::oI a::none::none::oI 0::oI 0::oI 0::oI n::oI 0::oI (WI (n-(1:Int)))::none::none::oI a::oB (decide (a<(0:Int)))::oB false::oI a::oL b l c::oI (NI l)::oB (decide (a>(NI l)))::oB (bif false then true else decide (a>(NI l)))::oL b l c::oI a::oI n::oI n::oB (n==(0:Int))::oI n::oB (decide (n<(0:Int)))::oI n::oI (WI (n-(1:Int)))::ai (cQ (cL (none::[]))),bx:=[],E:=E:St });delta WI NI cL cQ ai;have hlen:=hB.2.1;refine ah (λh1=>?_) (λh1=>?_)
 ·exact ⟨bn,h 0 0 1 E bn (by show rd zs a=_;unfold rd;rw [if_pos (.inl (by simpa using h1))])⟩
 ·have h1:¬ a<0:=by simpa using h1
  refine ah (λh2=>?_) (λh2=>?_)
  ·have h2:a>l:=by simpa using h2
   exact ⟨bn,h 0 0 1 E bn (by show rd zs a=_;unfold rd;rw [if_pos (.inr (by omega))])⟩
  ·have h2:a<=l:=by simpa using h2
   have hr:rd zs a=Bo a (zs.drop a.toNat) 7 0 0:=by unfold rd;rw [if_neg (by omega)]
   rw [hr] at h;obtain ⟨r1,r2,r3⟩:=Da a (ws:=zs.drop a.toNat) (λz hz=>Qd hB z (List.drop_subset _ _ hz)) 7 0 0 rfl;refine ⟨zs,hB,hl,⟨by omega,h2⟩,λn hn=>⟨bn,?_⟩⟩;have hn:pM (zs.drop a.toNat) 7 0=n:=hn;rw [hn] at r1 r2 r3;refine ah (λh3=>?_) (λh3=>?_)
   ·have h3:n=0:=by simpa using h3
    exact ⟨bn,h 0 0 3 E bn (r1 h3)⟩
   ·have h3:¬ n=0:=by simpa using h3
    by_cases h4:n= -1
    ·refine ah (λh5=>?_) (λh5=>absurd h5 (by simp;omega));exact ⟨bn,h 0 0 11 E bn (r2 h4)⟩
    ·obtain ⟨m,q1,q2,q3,q4,q5⟩:=r3 h3 h4;rw [q5] at h;rw [List.length_drop,hlen] at q4;refine ah (λh5=>absurd h5 (by simp;omega)) (λh5=>?_);have key:=cu Rh (n:=6) (fn:=Try.f74) (p:=[1,1,1,1,1,1,0,1,0]) (n0:=0) (K:=aW E K) (λx:{x:Nat×Int//x.1<=m/\x.2=BZ (zs.drop a.toNat) (m-x.1) x.1}=>NW b l c a m x.1.2 (x.1.1-1:Int) E) (λx=>x.1.1) (by
      rintro ⟨⟨i,u⟩,g1,g2⟩ ih;have g1:i<=m:=g1;refine Ri hB hl (by omega) g1 ⟨by omega,q3⟩ g2 (λn e' e E2 Eu hy=>h n e' e E2 Eu (by rw [← hy];show nW _ _ (0+128 ^ 0*_) _=_;rw [Int.pow_zero,Int.one_mul,Int.zero_add];rfl)) (λq1 u' q2=>?_);have q1:1<=i:=q1;have:=ih ⟨⟨i-1,u'⟩,by show i-1<=m;omega,q2⟩ (by show i-1<i;omega);have e:((i-1:Nat):Int)=(i:Int)-1:=by omega
      simp only [e] at this;exact this)
     rw [q1,wrap_i64 (x:=(m:Int)-1) (by omega)];exact qI (by repeat' first|exact True.intro|refine And.intro rfl ?_) (key ⟨⟨m,0⟩,by show m<=m;omega,by show (0:Int)=BZ _ (m-m) m;rw [Nat.sub_self];rfl⟩)
structure bG (out:Li) (n cap tot:Nat):Prop where
 len:out.length=n
 nc:n<=cap
 ct:cap<=tot
def bM (o:Li×Bool) (v lo hi:Int):Li×Bool:=if v<lo\/v>hi\/o.2=true then (o.1,true) else (o.1++bD (ji v),false)
theorem wT {o:Li×Bool} (h:v<lo\/v>hi\/o.2=true):bM o v lo hi=(o.1,true):=if_pos h
theorem sQ {o:Li×Bool} {v lo hi:Int} (h:¬ (v<lo\/v>hi\/o.2=true)):bM o v lo hi=(o.1++bD (ji v),false):=if_neg h
theorem jI (u:Int):(bD u).length<=10:=(qL u).2
theorem wU (o:Li×Bool) (v lo hi:Int):(bM o v lo hi).1.length<=o.1.length+10:=by
 unfold bM;split
 ·simp
 ·have:=jI (ji v);simp;exact this
theorem Gz (zs:Li):∀ x:Value,List.Mem x (vB zs)->x.oneCell'=true:=λx hx=>by obtain ⟨z,_,rfl⟩:=List.mem_map.1 hx;rfl
noncomputable def X1:Cx:={ P:=Try.prog,inl:=λf=>List.contains [122,82,83] f,jN:=NP,kH:=λf=>f==79,eY:=Gx,opt:={ cq:=0,carry:=[] },eo:=(λo=>match o with | .call _=>true|o=>dM o) }
theorem NX:bX X1:=bX.four J0 (by kernel_rfl) (dN (by kernel_rfl)) Gy
theorem VC {out:Li} (W:bG out n cap tot) (hs:n<=1000000) (hb: -10000000000000<=lo/\hi<=10000000000000) (hv:us[off]? =some (.int .i64 v))
  (h:∀ (o':Li×Bool) (n' cap' aa:Nat),Hyp (bM (out,bad) v lo hi=o')->bG o'.1 n' cap' aa->KK (.bB []) [⟨76,.ae [.bH 3 0 n' cap',B o'.2],2,true⟩,cI,⟨e,.vals us,t,true⟩,⟨5,.vals (vB o'.1),aa,true⟩] E) (hQ:∀ s bA,bT 3 KK s bA E->Q s bA E):
  ej X1 6 Try.f120 [.loc 0 0,.loc 2 off,I lo,I hi] [⟨76,.ae [.bH 1 0 n cap,B bad],2,true⟩,⟨5,.vals (vB out),tot,true⟩,⟨e,.vals us,t,true⟩] E Q:=by
 refine dO (?_:∃ (n_1:Int),gA X1.P 3 us off (I n_1)/\bif decide (n_1<lo) then Q (SV.bB []) [⟨76,Row.ae [SV.bH 1 0 n cap,B true],2,true⟩,⟨5,Row.vals (vB out),tot,true⟩,⟨e,Row.vals us,t,true⟩] E else ∃ (n_2:Int),gA X1.P 3 us off (I n_2)/\bif bif false then true else decide (n_2>hi) then Q (SV.bB []) [⟨76,Row.ae [SV.bH 1 0 n cap,B true],2,true⟩,⟨5,Row.vals (vB out),tot,true⟩,⟨e,Row.vals us,t,true⟩] E else bif bif false then true else bad then Q (SV.bB []) [⟨76,Row.ae [SV.bH 1 0 n cap,B true],2,true⟩,⟨5,Row.vals (vB out),tot,true⟩,⟨e,Row.vals us,t,true⟩] E else ∃ (ep:Int),gA X1.P 3 us off (I ep)/\bif decide (ep>=(-10000000000000:Int)) then Mem.le E E/\bif !bif true then decide (ep<=(10000000000000:Int)) else false then Sx.Alike (bp.n (bp.n bp.l (bp.n bp.l dw)) bp.l) (Q (SV.bB []) [⟨76,Row.ae [L none 0 0,B bad],2,true⟩,⟨5,Row.vals (vB out),tot,true⟩,⟨e,Row.vals us,t,true⟩] E) else ∀ (r:Bool),(r=true->n=0/\cap=0)->bif r then ((-10000000000000:Int)<=ep/\ep<=(10000000000000:Int))/\Mem.le E E/\((0:Int)<=ji ep/\ji ep<(1152921504606846976:Int))/\∀ (cap' aa:Nat),List.length (bD (ji ep))<=cap'->cap'<=aa->Mem.le E E/\Sx.Alike (bp.n (bp.n bp.l (bp.n bp.l dw)) bp.l) (Q (SV.bB []) [⟨76,Row.ae [SV.bH 3 0 (List.length (bD (ji ep))) cap',B bad],2,true⟩,⟨5,Row.vals (vB out),tot,true⟩,⟨e,Row.vals us,t,true⟩,⟨5,Row.vals (vB (bD (ji ep))),aa,true⟩] E) else 0+n*1<=List.length (vB out)/\(∀ (x:Value),List.Mem x (vB out)->Value.oneCell' x=true)/\0<=0/\0<=0/\0<=0/\cU ((0+n)*1<=140737488355328) (∀ (cap' aa:Nat),0+n<=cap'->cap'*1<=aa->((-10000000000000:Int)<=ep/\ep<=(10000000000000:Int))/\Mem.le E E/\((0:Int)<=ji ep/\ji ep<(1152921504606846976:Int))/\∃ (l:Li),(5=5/\[]++List.take (n*1) (List.drop 0 (vB out))=vB l/\List.length l=0+n/\0+n<=cap'/\cap'<=aa/\0+n<=1000000)/\∀ (cap' aa:Nat),0+n+List.length (bD (ji ep))<=cap'->cap'<=aa->Sx.Alike (bp.n (bp.n bp.l (bp.n bp.l dw)) bp.l) (Q (SV.bB []) [⟨76,Row.ae [SV.bH 5 0 (0+n+List.length (bD (ji ep))) cap',B bad],2,true⟩,⟨5,Row.vals (vB out),tot,true⟩,⟨e,Row.vals us,t,true⟩,⟨5,Row.ae [],0,false⟩,⟨5,Row.ae [],0,false⟩,⟨5,Row.vals (vB (l++bD (ji ep))),aa,true⟩] E)) else Mem.le E E/\Sx.Alike (bp.n (bp.n bp.l (bp.n bp.l dw)) bp.l) (Q (SV.bB []) [⟨76,Row.ae [L none 0 0,B bad],2,true⟩,⟨5,Row.vals (vB out),tot,true⟩,⟨e,Row.vals us,t,true⟩] E));have hl:=ez (P:=X1.P) (T:=3) rfl rfl hv;have wV:v<lo\/v>hi\/bad=true->Q (.bB []) [⟨76,.ae [.bH 1 0 n cap,B true],2,true⟩,⟨5,.vals (vB out),tot,true⟩,⟨e,.vals us,t,true⟩] E:=λq=>hQ _ _ (aq (K:=KK) [some 0,some 1,some 2,some 1] (h (out,true) n cap tot (wT q) W) (cl bn));refine ⟨v,hl,ah (λg=>wV (.inl (by simpa using g))) (λg=>⟨v,hl,ah (λg2=>wV (.inr (.inl (by simpa using g2)))) (λg2=>ah (λg3=>wV (.inr (.inr (by simpa using g3)))) (λg3=>⟨v,hl,?_⟩))⟩)⟩;have g:¬ v<lo:=by simpa using g
 have g2:¬ v>hi:=by simpa using g2
 have g3:bad=false:=by simpa using g3
 subst g3;have hq:=@sQ (out,false) v lo hi (by rintro (q|q|q)<;>simp_all);have hz:=AP (n:=v) ⟨by omega,by omega⟩;have hd:=jI (ji v);refine ah (λg4=>⟨bn,ah (λg5=>?_) (λg5=>?_)⟩) (λg4=>?_)
 ·simp at g5;omega
 rotate_left
 ·simp at g4;omega
 obtain ⟨w1,w2,w3⟩:=W;intro r hr;refine ah (λg6=>?_) (λg6=>?_)
 ·obtain ⟨r1,r2⟩:=hr g6;subst r1;have lB:out=[]:=List.eq_nil_of_length_eq_zero w1;subst lB;refine ⟨⟨by omega,by omega⟩,bn,hz,λcap' aa c1 c2=>⟨bn,alike (by exact hQ _ _ (aq (K:=KK) [some 0,some 1,some 2,some 3] (h _ _ cap' aa hq ⟨rfl,by simpa using c1,c2⟩) (cl bn)))⟩⟩
 ·refine ⟨by simp;omega,Gz out,Nat.le_refl _,Nat.le_refl _,Nat.le_refl _,af (by omega) (λsE tT c1 c2=>⟨⟨by omega,by omega⟩,bn,hz,out,⟨rfl,by rw [List.drop_zero,FF (Nat.le_of_eq w1)];rfl,by omega,c1,by omega,by omega⟩,λcap' aa c3 c4=>alike (by exact hQ _ _ (aq (K:=KK) [some 0,some 1,some 2,some 5] (h _ _ cap' aa hq ⟨by simp;omega,c3,c4⟩) (cl bn)))⟩)⟩
theorem Rj {out:Li} (W:bG out n cap tot) (hs:n<=1000000) (hb: -10000000000000<=lo/\hi<=10000000000000) (hv:bt X1.P E 3 x off (I v))
  (h:∀ (o':Li×Bool) (n' cap' aa:Nat),Hyp (bM (out,bad) v lo hi=o')->bG o'.1 n' cap' aa->KK (.bB []) [⟨76,.ae [.bH 2 0 n' cap',B o'.2],2,true⟩,cI,⟨5,.vals (vB o'.1),aa,true⟩] E) (hQ:∀ s bA,bT 2 KK s bA E->Q s bA E):
  ej X1 6 Try.f120 [.loc 0 0,.rp x off,I lo,I hi] [⟨76,.ae [.bH 1 0 n cap,B bad],2,true⟩,⟨5,.vals (vB out),tot,true⟩] E Q:=by
 refine dO (?_:∃ (n_1:Int),bt X1.P E 3 x off (I n_1)/\bif decide (n_1<lo) then Q (SV.bB []) [⟨76,Row.ae [SV.bH 1 0 n cap,B true],2,true⟩,⟨5,Row.vals (vB out),tot,true⟩] E else ∃ (n_2:Int),bt X1.P E 3 x off (I n_2)/\bif bif false then true else decide (n_2>hi) then Q (SV.bB []) [⟨76,Row.ae [SV.bH 1 0 n cap,B true],2,true⟩,⟨5,Row.vals (vB out),tot,true⟩] E else bif bif false then true else bad then Q (SV.bB []) [⟨76,Row.ae [SV.bH 1 0 n cap,B true],2,true⟩,⟨5,Row.vals (vB out),tot,true⟩] E else ∃ (ep:Int),bt X1.P E 3 x off (I ep)/\bif decide (ep>=(-10000000000000:Int)) then Mem.le E E/\bif !bif true then decide (ep<=(10000000000000:Int)) else false then Sx.Alike (bp.n (bp.n bp.l (bp.n bp.l dw)) bp.l) (Q (SV.bB []) [⟨76,Row.ae [L none 0 0,B bad],2,true⟩,⟨5,Row.vals (vB out),tot,true⟩] E) else ∀ (r:Bool),(r=true->n=0/\cap=0)->bif r then ((-10000000000000:Int)<=ep/\ep<=(10000000000000:Int))/\Mem.le E E/\((0:Int)<=ji ep/\ji ep<(1152921504606846976:Int))/\∀ (cap' aa:Nat),List.length (bD (ji ep))<=cap'->cap'<=aa->Mem.le E E/\Sx.Alike (bp.n (bp.n bp.l (bp.n bp.l dw)) bp.l) (Q (SV.bB []) [⟨76,Row.ae [SV.bH 2 0 (List.length (bD (ji ep))) cap',B bad],2,true⟩,⟨5,Row.vals (vB out),tot,true⟩,⟨5,Row.vals (vB (bD (ji ep))),aa,true⟩] E) else 0+n*1<=List.length (vB out)/\(∀ (x:Value),List.Mem x (vB out)->Value.oneCell' x=true)/\0<=0/\0<=0/\0<=0/\cU ((0+n)*1<=140737488355328) (∀ (cap' aa:Nat),0+n<=cap'->cap'*1<=aa->((-10000000000000:Int)<=ep/\ep<=(10000000000000:Int))/\Mem.le E E/\((0:Int)<=ji ep/\ji ep<(1152921504606846976:Int))/\∃ (l:Li),(5=5/\[]++List.take (n*1) (List.drop 0 (vB out))=vB l/\List.length l=0+n/\0+n<=cap'/\cap'<=aa/\0+n<=1000000)/\∀ (cap' aa:Nat),0+n+List.length (bD (ji ep))<=cap'->cap'<=aa->Sx.Alike (bp.n (bp.n bp.l (bp.n bp.l dw)) bp.l) (Q (SV.bB []) [⟨76,Row.ae [SV.bH 4 0 (0+n+List.length (bD (ji ep))) cap',B bad],2,true⟩,⟨5,Row.vals (vB out),tot,true⟩,⟨5,Row.ae [],0,false⟩,⟨5,Row.ae [],0,false⟩,⟨5,Row.vals (vB (l++bD (ji ep))),aa,true⟩] E)) else Mem.le E E/\Sx.Alike (bp.n (bp.n bp.l (bp.n bp.l dw)) bp.l) (Q (SV.bB []) [⟨76,Row.ae [L none 0 0,B bad],2,true⟩,⟨5,Row.vals (vB out),tot,true⟩] E));have hl:=hv;have wV:v<lo\/v>hi\/bad=true->Q (.bB []) [⟨76,.ae [.bH 1 0 n cap,B true],2,true⟩,⟨5,.vals (vB out),tot,true⟩] E:=λq=>hQ _ _ (aq (K:=KK) [some 0,some 1,some 1] (h (out,true) n cap tot (wT q) W) (cl bn));refine ⟨v,hl,ah (λg=>wV (.inl (by simpa using g))) (λg=>⟨v,hl,ah (λg2=>wV (.inr (.inl (by simpa using g2)))) (λg2=>ah (λg3=>wV (.inr (.inr (by simpa using g3)))) (λg3=>⟨v,hl,?_⟩))⟩)⟩;have g:¬ v<lo:=by simpa using g
 have g2:¬ v>hi:=by simpa using g2
 have g3:bad=false:=by simpa using g3
 subst g3;have hq:=@sQ (out,false) v lo hi (by rintro (q|q|q)<;>simp_all);have hz:=AP (n:=v) ⟨by omega,by omega⟩;have hd:=jI (ji v);refine ah (λg4=>⟨bn,ah (λg5=>?_) (λg5=>?_)⟩) (λg4=>?_)
 ·simp at g5;omega
 rotate_left
 ·simp at g4;omega
 obtain ⟨w1,w2,w3⟩:=W;intro r hr;refine ah (λg6=>?_) (λg6=>?_)
 ·obtain ⟨r1,r2⟩:=hr g6;subst r1;have lB:out=[]:=List.eq_nil_of_length_eq_zero w1;subst lB;refine ⟨⟨by omega,by omega⟩,bn,hz,λcap' aa c1 c2=>⟨bn,alike (by exact hQ _ _ (aq (K:=KK) [some 0,some 1,some 2] (h _ _ cap' aa hq ⟨rfl,by simpa using c1,c2⟩) (cl bn)))⟩⟩
 ·refine ⟨by simp;omega,Gz out,Nat.le_refl _,Nat.le_refl _,Nat.le_refl _,af (by omega) (λsE tT c1 c2=>⟨⟨by omega,by omega⟩,bn,hz,out,⟨rfl,by rw [List.drop_zero,FF (Nat.le_of_eq w1)];rfl,by omega,c1,by omega,by omega⟩,λcap' aa c3 c4=>alike (by exact hQ _ _ (aq (K:=KK) [some 0,some 1,some 4] (h _ _ cap' aa hq ⟨by simp;omega,c3,c4⟩) (cl bn)))⟩)⟩
theorem Rk (hb: -10000000000000<=lo/\hi<=10000000000000) (hv:us[off]? =some (.int .i64 v))
  (h:∀ (o':Li×Bool) (n' cap' aa:Nat),Hyp (bM ([],bad) v lo hi=o')->bG o'.1 n' cap' aa->KK (.bB []) [⟨76,.ae [.bH 2 0 n' cap',B o'.2],2,true⟩,⟨e,.vals us,t,true⟩,⟨5,.vals (vB o'.1),aa,true⟩] E) (hQ:∀ s bA,bT 2 KK s bA E->Q s bA E):
  ej X1 6 Try.f120 [.loc 0 0,.loc 1 off,I lo,I hi] [⟨76,.ae [L none 0 0,B bad],2,true⟩,⟨e,.vals us,t,true⟩] E Q:=by
 refine dO (?_:∃ (n:Int),gA X1.P 3 us off (I n)/\bif decide (n<lo) then Q (SV.bB []) [⟨76,Row.ae [L none 0 0,B true],2,true⟩,⟨e,Row.vals us,t,true⟩] E else ∃ (n:Int),gA X1.P 3 us off (I n)/\bif bif false then true else decide (n>hi) then Q (SV.bB []) [⟨76,Row.ae [L none 0 0,B true],2,true⟩,⟨e,Row.vals us,t,true⟩] E else bif bif false then true else bad then Q (SV.bB []) [⟨76,Row.ae [L none 0 0,B true],2,true⟩,⟨e,Row.vals us,t,true⟩] E else ∃ (n:Int),gA X1.P 3 us off (I n)/\bif decide (n>=(-10000000000000:Int)) then Mem.le E E/\bif !bif true then decide (n<=(10000000000000:Int)) else false then Mem.le E E/\Sx.Alike (bp.n (bp.n bp.l (bp.n bp.l dw)) bp.l) (Q (SV.bB []) [⟨76,Row.ae [L none 0 0,B bad],2,true⟩,⟨e,Row.vals us,t,true⟩] E) else Mem.le E E/\((-10000000000000:Int)<=n/\n<=(10000000000000:Int))/\Mem.le E E/\((0:Int)<=ji n/\ji n<(1152921504606846976:Int))/\∀ (cap' aa:Nat),List.length (bD (ji n))<=cap'->cap'<=aa->Mem.le E E/\Mem.le E E/\Sx.Alike (bp.n (bp.n bp.l (bp.n bp.l dw)) bp.l) (Q (SV.bB []) [⟨76,Row.ae [SV.bH 2 0 (List.length (bD (ji n))) cap',B bad],2,true⟩,⟨e,Row.vals us,t,true⟩,⟨5,Row.vals (vB (bD (ji n))),aa,true⟩] E) else Mem.le E E/\Mem.le E E/\Sx.Alike (bp.n (bp.n bp.l (bp.n bp.l dw)) bp.l) (Q (SV.bB []) [⟨76,Row.ae [L none 0 0,B bad],2,true⟩,⟨e,Row.vals us,t,true⟩] E));have hl:=ez (P:=X1.P) (T:=3) rfl rfl hv;have wV:v<lo\/v>hi\/bad=true->Q (.bB []) [⟨76,.ae [L none 0 0,B true],2,true⟩,⟨e,.vals us,t,true⟩] E:=λq=>hQ _ _ (aq (K:=KK) [some 0,some 1,none] (h ([],true) 0 0 0 (wT q) ⟨rfl,Nat.le_refl _,Nat.le_refl _⟩) (cl bn));refine ⟨v,hl,ah (λg=>wV (.inl (by simpa using g))) (λg=>⟨v,hl,ah (λg2=>wV (.inr (.inl (by simpa using g2)))) (λg2=>ah (λg3=>wV (.inr (.inr (by simpa using g3)))) (λg3=>⟨v,hl,?_⟩))⟩)⟩;have g:¬ v<lo:=by simpa using g
 have g2:¬ v>hi:=by simpa using g2
 have g3:bad=false:=by simpa using g3
 subst g3;have hq:=@sQ ([],false) v lo hi (by rintro (q|q|q)<;>simp_all);have hz:=AP (n:=v) ⟨by omega,by omega⟩;have hd:=jI (ji v);refine ah (λg4=>⟨bn,ah (λg5=>?_) (λg5=>?_)⟩) (λg4=>?_)
 ·simp at g5;omega
 rotate_left
 ·simp at g4;omega
 refine ⟨bn,⟨by omega,by omega⟩,bn,hz,λcap' aa c1 c2=>⟨bn,bn,alike (by exact hQ _ _ (aq (K:=KK) [some 0,some 1,some 2] (h _ _ cap' aa hq ⟨rfl,by simpa using c1,c2⟩) (cl bn)))⟩⟩
noncomputable def X2:Cx:={ P:=Try.prog,inl:=λf=>List.contains [] f,jN:=λ_ _ _ _=>False,kH:=λ_=>false,eY:=λ_ _ _ _ _=>False,opt:={ cq:=0,carry:=[4] },eo:=(λo=>match o with | .call _=>true|o=>dM o) }
theorem B0:bX X2:=bX.four (λ_ _ _ _ h=>h.elim) (by kernel_rfl) (dN (by kernel_rfl)) (λ_ _ _ _ _ h=>h.elim)
def qS (o:Li×Bool) (v:Int):Li×Bool:=(o.1,o.2||v !=0)
def nH (o:Li×Bool) (zs:Li) (m:Int):Li×Bool:=(o.1++zs,o.2||(zs.length:Int) !=m)
def fQ (d:Int):Li:=[d / 72057594037927936 % 256,d / 281474976710656 % 256,d / 1099511627776 % 256,d / 4294967296 % 256,d / 16777216 % 256,d / 65536 % 256,d / 256 % 256,d % 256]
def my (o:Li×Bool) (d:Int):Li×Bool:=(o.1++fQ d,o.2)
theorem zG (d:Int) (h:j<8):(fQ d)[j]? =some (IntKind.wrap .u8 (Int.fdiv d (2 ^ min (Int.toNat (56-8*(j:Int))) 64))):=by
 have w:∀ x:Int,IntKind.wrap .u8 x=x % 256:=λ_=>rfl;rw [w];have :j=0\/j=1\/j=2\/j=3\/j=4\/j=5\/j=6\/j=7:=by omega
 rcases this with rfl|rfl|rfl|rfl|rfl|rfl|rfl|rfl
 all_goals
  simp only [fQ,List.getElem?_cons_zero,List.getElem?_cons_succ];rw [Int.fdiv_eq_ediv_of_nonneg _ (by decide)]
  try rfl
 simp
theorem kP (d:Int):(fQ d).length=8:=rfl
theorem Ev (d:Int):∀ z∈fQ d,0<=z/\z<=255:=by intro z hz;simp only [fQ,List.mem_cons,List.not_mem_nil,or_false] at hz;rcases hz with rfl|rfl|rfl|rfl|rfl|rfl|rfl|rfl<;>omega
theorem VD {out:Li} (hv:us[off]? =some (.int .i64 v))
  (h:KK (.bB []) [⟨76,.ae [.bH 1 0 n cap,B (qS (out,bad) v).2],2,true⟩,⟨5,.vals (vB out),tot,true⟩,⟨e,.vals us,t,true⟩] E) (hQ:∀ s bA,bT 3 KK s bA E->Q s bA E):
  ej X2 6 Try.f121 [.loc 0 0,.loc 2 off] [⟨76,.ae [.bH 1 0 n cap,B bad],2,true⟩,⟨5,.vals (vB out),tot,true⟩,⟨e,.vals us,t,true⟩] E Q:=by
 refine dO (?_:bif bad then Q (SV.bB []) [⟨76,Row.ae [SV.bH 1 0 n cap,B true],2,true⟩,⟨5,Row.vals (vB out),tot,true⟩,⟨e,Row.vals us,t,true⟩] E else ∃ (n_1:Int),gA X2.P 3 us off (I n_1)/\Q (SV.bB []) [⟨76,Row.ae [SV.bH 1 0 n cap,B (bif false then true else n_1 !=(0:Int))],2,true⟩,⟨5,Row.vals (vB out),tot,true⟩,⟨e,Row.vals us,t,true⟩] E);unfold qS at h;refine ah (λg=>?_) (λg=>⟨v,ez (P:=X2.P) (T:=3) rfl rfl hv,?_⟩)
 ·subst g;exact hQ _ _ (aq [some 0,some 1,some 2] h (cl bn))
 ·subst g;exact hQ _ _ (aq [some 0,some 1,some 2] h (cl bn))
def GA (out:Li) (bad:Bool) (n cap tot:Nat) (us:Lv) (e t off:Nat) (j:Nat) (E:Mem):St:=⟨[oc 0 0,oc 2 off,none,none,oI (56-8*(j:Int))]++nn 19,[⟨76,.ae [.bH 3 0 n cap,B bad],2,true⟩,cI,⟨e,.vals us,t,true⟩,⟨5,.vals (vB out),tot,true⟩],E⟩
theorem Rl {out:Li} {o0:Li} (hv:us[off]? =some (.int .u64 v)) (hj:j<=8) (W:bG out n cap tot) (ho:out=o0++(fQ v).take j) (hs:o0.length<=1000000)
  (h:∀ n' cap' aa:Nat,bG (o0++fQ v) n' cap' aa->KK (.bB []) [⟨76,.ae [.bH 3 0 n' cap',B bad],2,true⟩,cI,⟨e,.vals us,t,true⟩,⟨5,.vals (vB (o0++fQ v)),aa,true⟩] E) (hQ:∀ s bA,bT 3 KK s bA E->Q s bA E)
  (ih:∀ (out':Li) (n' cap' aa:Nat),j<8->bG out' n' cap' aa->out'=o0++(fQ v).take (j+1)->Lp X2 6 Try.f119 [1,0] 3 Q (GA out' bad n' cap' aa us e t off (j+1) E)):
  jO X2 6 Try.f119 [1,0] 3 Q (GA out bad n cap tot us e t off j E):=by
 refine dO (?_:bif decide ((56:Int)-(8:Int)*(NI j)>=0) then ∃ (n_1:Int),gA X2.P 32 us off (SV.raw (vU n_1))/\cU ((0:Int)<=(56:Int)-(8:Int)*(NI j)) (n*1<=List.length (Row.cells (Row.vals (vB out)))/\cap*1<=tot/\n<=cap/\cU ((n+1)*1<=140737488355328) (∀ (cap' aa:Nat),n+1<=cap'->cap'*1<=aa->Lp X2 6 Try.f119 [1,0] 3 Q { fr:=some (SV.loc 0 0)::oc 2 off::none::none::oI (WI ((56:Int)-(8:Int)*(NI j)-8))::bL (cE (none::[])),bx:=[(⟨76,.ae [SV.bH 5 0 (n+1) cap',B bad],2,true⟩:aR),⟨5,.ae [],0,false⟩,⟨e,Row.vals us,t,true⟩,⟨5,.ae [],0,false⟩,⟨5,.ae [SV.raw (U8 (IntKind.wrap IntKind.u8 (Int.fdiv n_1 ((2:Int) ^ min (Int.toNat ((56:Int)-(8:Int)*(NI j))) 64))))],1,true⟩,⟨5,.vals (List.take (n*1) (vB out)++[U8 (IntKind.wrap IntKind.u8 (Int.fdiv n_1 ((2:Int) ^ min (Int.toNat ((56:Int)-(8:Int)*(NI j))) (IntKind.bits IntKind.u64))))]),aa,true⟩],E:=E:St })) else Q (SV.bB []) [⟨76,.ae [SV.bH 3 0 n cap,B bad],2,true⟩,⟨5,.ae [],0,false⟩,⟨e,Row.vals us,t,true⟩,⟨5,.vals (vB out),tot,true⟩] E);delta WI NI U8 vU cE bL;obtain ⟨w1,w2,w3⟩:=W;have hl:out.length=o0.length+j:=by rw [ho,List.length_append,List.length_take,kP];omega
 have e0:((8*j:Nat):Int)=8*(j:Int):=by omega
 refine ah (λg=>?_) (λg=>?_)
 ·have g:j<8:=by simp at g;omega
  have wj:IntKind.wrap .i64 (56-8*(j:Int)-8)=56-8*((j+1:Nat):Int):=by rw [wrap_i64 (by omega)];omega
  refine ⟨v,ez (P:=X2.P) (T:=32) rfl rfl hv,af (by omega) ⟨by simp [Row.cells];omega,by omega,w2,af (by omega) λcap' aa c1 c2=>?_⟩⟩;have hd:=zG v g;rw [wj,FF (by omega),show vB out++[Value.int IntKind.u8 (IntKind.wrap IntKind.u8 (Int.fdiv v (2 ^ min (Int.toNat (56-8*(j:Int))) (IntKind.bits IntKind.u64))))]=vB (out++[IntKind.wrap IntKind.u8 (Int.fdiv v (2 ^ min (Int.toNat (56-8*(j:Int))) 64))]) by simp only [vB,List.map_append];rfl];refine bz [some 0,some 1,some 2,some 5] (ih (out++[IntKind.wrap IntKind.u8 (Int.fdiv v (2 ^ min (Int.toNat (56-8*(j:Int))) 64))]) (n+1) cap' aa g ⟨by simp;omega,c1,by omega⟩ ?_) (cl bn);obtain ⟨d1,d2⟩:=List.getElem?_eq_some_iff.1 hd;rw [ho,List.append_assoc,List.take_succ_eq_append_getElem d1,d2]
 ·have g:j=8:=by simp at g;omega
  subst g;rw [show (8:Nat)=(fQ v).length from rfl,List.take_length] at ho;subst ho;exact hQ _ _ (aq [some 0,some 1,some 2,some 3] (h n cap tot ⟨w1,w2,w3⟩) (cl bn))
theorem VE {out:Li} (hv:us[off]? =some (.int .u64 v)) (W:bG out n cap tot) (hs:n<=1000000)
  (h:∀ n' cap' aa:Nat,bG (my (out,bad) v).1 n' cap' aa->KK (.bB []) [⟨76,.ae [.bH 3 0 n' cap',B (my (out,bad) v).2],2,true⟩,cI,⟨e,.vals us,t,true⟩,⟨5,.vals (vB (my (out,bad) v).1),aa,true⟩] E) (hQ:∀ s bA,bT 3 KK s bA E->Q s bA E):
  ej X2 6 Try.f119 [.loc 0 0,.loc 2 off] [⟨76,.ae [.bH 1 0 n cap,B bad],2,true⟩,⟨5,.vals (vB out),tot,true⟩,⟨e,.vals us,t,true⟩] E Q:=by
 refine dO (?_:Lp X2 6 Try.f119 [1,0] 3 Q { fr:=some (SV.loc 0 0)::oc 2 off::none::none::oI 56::bL (cE (none::[])),bx:=[(⟨76,.ae [SV.bH 1 0 n cap,B bad],2,true⟩:aR),⟨5,.vals (vB out),tot,true⟩,⟨e,Row.vals us,t,true⟩],E:=E:St });delta cE bL;have key:=cu B0 (n:=6) (fn:=Try.f119) (p:=[1,0]) (n0:=3) (K:=Q) (λq:{q:Nat×Li×Nat×Nat×Nat//q.1<=8/\bG q.2.1 q.2.2.1 q.2.2.2.1 q.2.2.2.2/\q.2.1=out++(fQ v).take q.1}=>GA q.1.2.1 bad q.1.2.2.1 q.1.2.2.2.1 q.1.2.2.2.2 us e t off q.1.1 E) (λq=>8-q.1.1)
  (λq ih=>Rl hv q.2.1 q.2.2.1 q.2.2.2 (by rw [W.len];exact hs) h hQ λo' n' c' t' hj hW ho=>ih ⟨⟨q.1.1+1,o',n',c',t'⟩,hj,hW,ho⟩ (by show 8-(_+1)<8-_;omega))
 exact bz [some 0,some 1,some 2,some 1] (key ⟨⟨0,out,n,cap,tot⟩,Nat.zero_le _,W,by simp⟩) (cl bn)
theorem Rm {out:Li} (hv:bt X2.P E 3 x off (.raw (.int .i64 v)))
  (h:KK (.bB []) [⟨76,.ae [.bH 1 0 n cap,B (qS (out,bad) v).2],2,true⟩,⟨5,.vals (vB out),tot,true⟩] E) (hQ:∀ s bA,bT 2 KK s bA E->Q s bA E):
  ej X2 6 Try.f121 [.loc 0 0,.rp x off] [⟨76,.ae [.bH 1 0 n cap,B bad],2,true⟩,⟨5,.vals (vB out),tot,true⟩] E Q:=by
 refine dO (?_:bif bad then Q (SV.bB []) [⟨76,Row.ae [SV.bH 1 0 n cap,B true],2,true⟩,⟨5,Row.vals (vB out),tot,true⟩] E else ∃ (n_1:Int),bt X2.P E 3 x off (I n_1)/\Q (SV.bB []) [⟨76,Row.ae [SV.bH 1 0 n cap,B (bif false then true else n_1 !=(0:Int))],2,true⟩,⟨5,Row.vals (vB out),tot,true⟩] E);unfold qS at h;refine ah (λg=>?_) (λg=>⟨v,hv,?_⟩)
 ·subst g;exact hQ _ _ (aq [some 0,some 1] h (cl bn))
 ·subst g;exact hQ _ _ (aq [some 0,some 1] h (cl bn))
def B1 (out:Li) (bad:Bool) (n cap tot:Nat) (x:Value) (off:Nat) (j:Nat) (E:Mem):St:=⟨[oc 0 0,some (.rp x off),none,none,oI (56-8*(j:Int))]++nn 19,[⟨76,.ae [.bH 2 0 n cap,B bad],2,true⟩,cI,⟨5,.vals (vB out),tot,true⟩],E⟩
theorem NY {out:Li} {o0:Li} (hv:bt X2.P E 32 x off (.raw (.int .u64 v))) (hj:j<=8) (W:bG out n cap tot) (ho:out=o0++(fQ v).take j) (hs:o0.length<=1000000)
  (h:∀ n' cap' aa:Nat,bG (o0++fQ v) n' cap' aa->KK (.bB []) [⟨76,.ae [.bH 2 0 n' cap',B bad],2,true⟩,cI,⟨5,.vals (vB (o0++fQ v)),aa,true⟩] E) (hQ:∀ s bA,bT 2 KK s bA E->Q s bA E)
  (ih:∀ (out':Li) (n' cap' aa:Nat),j<8->bG out' n' cap' aa->out'=o0++(fQ v).take (j+1)->Lp X2 6 Try.f119 [1,0] 2 Q (B1 out' bad n' cap' aa x off (j+1) E)):
  jO X2 6 Try.f119 [1,0] 2 Q (B1 out bad n cap tot x off j E):=by
 refine dO (?_:bif decide ((56:Int)-(8:Int)*(NI j)>=0) then ∃ (n_1:Int),bt X2.P E 32 x off (SV.raw (vU n_1))/\cU ((0:Int)<=(56:Int)-(8:Int)*(NI j)) (n*1<=List.length (Row.cells (Row.vals (vB out)))/\cap*1<=tot/\n<=cap/\cU ((n+1)*1<=140737488355328) (∀ (cap' aa:Nat),n+1<=cap'->cap'*1<=aa->Lp X2 6 Try.f119 [1,0] 2 Q { fr:=some (SV.loc 0 0)::some (SV.rp x off)::none::none::oI (WI ((56:Int)-(8:Int)*(NI j)-8))::bL (cE (none::[])),bx:=[(⟨76,.ae [SV.bH 4 0 (n+1) cap',B bad],2,true⟩:aR),⟨5,.ae [],0,false⟩,⟨5,.ae [],0,false⟩,⟨5,.ae [SV.raw (U8 (IntKind.wrap IntKind.u8 (Int.fdiv n_1 ((2:Int) ^ min (Int.toNat ((56:Int)-(8:Int)*(NI j))) 64))))],1,true⟩,⟨5,.vals (List.take (n*1) (vB out)++[U8 (IntKind.wrap IntKind.u8 (Int.fdiv n_1 ((2:Int) ^ min (Int.toNat ((56:Int)-(8:Int)*(NI j))) (IntKind.bits IntKind.u64))))]),aa,true⟩],E:=E:St })) else Q (SV.bB []) [⟨76,.ae [SV.bH 2 0 n cap,B bad],2,true⟩,⟨5,.ae [],0,false⟩,⟨5,.vals (vB out),tot,true⟩] E);delta WI NI U8 vU cE bL;obtain ⟨w1,w2,w3⟩:=W;have hl:out.length=o0.length+j:=by rw [ho,List.length_append,List.length_take,kP];omega
 have e0:((8*j:Nat):Int)=8*(j:Int):=by omega
 refine ah (λg=>?_) (λg=>?_)
 ·have g:j<8:=by simp at g;omega
  have wj:IntKind.wrap .i64 (56-8*(j:Int)-8)=56-8*((j+1:Nat):Int):=by rw [wrap_i64 (by omega)];omega
  refine ⟨v,hv,af (by omega) ⟨by simp [Row.cells];omega,by omega,w2,af (by omega) λcap' aa c1 c2=>?_⟩⟩;have hd:=zG v g;rw [wj,FF (by omega),show vB out++[Value.int IntKind.u8 (IntKind.wrap IntKind.u8 (Int.fdiv v (2 ^ min (Int.toNat (56-8*(j:Int))) (IntKind.bits IntKind.u64))))]=vB (out++[IntKind.wrap IntKind.u8 (Int.fdiv v (2 ^ min (Int.toNat (56-8*(j:Int))) 64))]) by simp only [vB,List.map_append];rfl];refine bz [some 0,some 1,some 4] (ih (out++[IntKind.wrap IntKind.u8 (Int.fdiv v (2 ^ min (Int.toNat (56-8*(j:Int))) 64))]) (n+1) cap' aa g ⟨by simp;omega,c1,by omega⟩ ?_) (cl bn);obtain ⟨d1,d2⟩:=List.getElem?_eq_some_iff.1 hd;rw [ho,List.append_assoc,List.take_succ_eq_append_getElem d1,d2]
 ·have g:j=8:=by simp at g;omega
  subst g;rw [show (8:Nat)=(fQ v).length from rfl,List.take_length] at ho;subst ho;exact hQ _ _ (aq [some 0,some 1,some 2] (h n cap tot ⟨w1,w2,w3⟩) (cl bn))
theorem Rn {out:Li} (hv:bt X2.P E 32 x off (.raw (.int .u64 v))) (W:bG out n cap tot) (hs:n<=1000000)
  (h:∀ n' cap' aa:Nat,bG (my (out,bad) v).1 n' cap' aa->KK (.bB []) [⟨76,.ae [.bH 2 0 n' cap',B (my (out,bad) v).2],2,true⟩,cI,⟨5,.vals (vB (my (out,bad) v).1),aa,true⟩] E) (hQ:∀ s bA,bT 2 KK s bA E->Q s bA E):
  ej X2 6 Try.f119 [.loc 0 0,.rp x off] [⟨76,.ae [.bH 1 0 n cap,B bad],2,true⟩,⟨5,.vals (vB out),tot,true⟩] E Q:=by
 refine dO (?_:Lp X2 6 Try.f119 [1,0] 2 Q { fr:=some (SV.loc 0 0)::some (SV.rp x off)::none::none::oI 56::bL (cE (none::[])),bx:=[(⟨76,.ae [SV.bH 1 0 n cap,B bad],2,true⟩:aR),⟨5,.vals (vB out),tot,true⟩],E:=E:St });delta cE bL;have key:=cu B0 (n:=6) (fn:=Try.f119) (p:=[1,0]) (n0:=2) (K:=Q) (λq:{q:Nat×Li×Nat×Nat×Nat//q.1<=8/\bG q.2.1 q.2.2.1 q.2.2.2.1 q.2.2.2.2/\q.2.1=out++(fQ v).take q.1}=>B1 q.1.2.1 bad q.1.2.2.1 q.1.2.2.2.1 q.1.2.2.2.2 x off q.1.1 E) (λq=>8-q.1.1)
  (λq ih=>NY hv q.2.1 q.2.2.1 q.2.2.2 (by rw [W.len];exact hs) h hQ λo' n' c' t' hj hW ho=>ih ⟨⟨q.1.1+1,o',n',c',t'⟩,hj,hW,ho⟩ (by show 8-(_+1)<8-_;omega))
 exact bz [some 0,some 1,some 1] (key ⟨⟨0,out,n,cap,tot⟩,Nat.zero_le _,W,by simp⟩) (cl bn)
theorem VF {out:Li} {m:Int} (hv:us[off]? =some (.slice b l c)) (hB:Bs E b l c zs) (hl:l<=1000000) (W:bG out n cap tot) (hs:n<=1000000)
  (h:∀ n' cap' aa:Nat,bG (nH (out,bad) zs m).1 n' cap' aa->KK (.bB []) [⟨76,.ae [.bH 3 0 n' cap',B (nH (out,bad) zs m).2],2,true⟩,cI,⟨e,.vals us,t,true⟩,⟨5,.vals (vB (nH (out,bad) zs m).1),aa,true⟩] E) (hQ:∀ s bA,bT 3 KK s bA E->Q s bA E):
  ej X2 6 Try.f118 [.loc 0 0,.loc 2 off,I m] [⟨76,.ae [.bH 1 0 n cap,B bad],2,true⟩,⟨5,.vals (vB out),tot,true⟩,⟨e,.vals us,t,true⟩] E Q:=by
 refine dO (?_:bif bad then ∃ (base:Oa) (len:Nat) (cC:Nat),gA X2.P 35 us off (L base len cC)/\∃ (cs:Lv),(cs=[]\/E (Value.slice base len cC) cs)/\len*1<=List.length cs/\(∀ (x:Value),List.Mem x cs->Value.oneCell' x=true)/\n*1<=List.length (Row.cells (Row.vals (vB out)))/\cap*1<=tot/\n<=cap/\cU ((n+len)*1<=140737488355328) (∀ (cap' aa:Nat),n+len<=cap'->cap'*1<=aa->Q (SV.bB []) [⟨76,Row.ae [SV.bH 3 0 (n+len) cap',B true],2,true⟩,⟨5,Row.ae [],0,false⟩,⟨e,Row.vals us,t,true⟩,⟨5,Row.vals (List.take (n*1) (vB out)++List.take (len*1) cs),aa,true⟩] E) else ∃ (base:Oa) (len:Nat) (cC:Nat),gA X2.P 35 us off (L base len cC)/\∃ (base:Oa) (cJ:Nat) (cM:Nat),gA X2.P 35 us off (L base cJ cM)/\∃ (cs:Lv),(cs=[]\/E (Value.slice base cJ cM) cs)/\cJ*1<=List.length cs/\(∀ (x:Value),List.Mem x cs->Value.oneCell' x=true)/\n*1<=List.length (Row.cells (Row.vals (vB out)))/\cap*1<=tot/\n<=cap/\cU ((n+cJ)*1<=140737488355328) (∀ (cap' aa:Nat),n+cJ<=cap'->cap'*1<=aa->Q (SV.bB []) [⟨76,Row.ae [SV.bH 3 0 (n+cJ) cap',B (bif false then true else (↑len:Int) !=m)],2,true⟩,⟨5,Row.ae [],0,false⟩,⟨e,Row.vals us,t,true⟩,⟨5,Row.vals (List.take (n*1) (vB out)++List.take (cJ*1) cs),aa,true⟩] E));obtain ⟨w1,w2,w3⟩:=W;have hz:=hB.2.1;obtain ⟨t1,t2,t3⟩:=hB.src;have ld:gA X2.P 35 us off (L b l c):=ez rfl rfl hv;have fin:∀ (cap' aa:Nat),n+l<=cap'->cap'*1<=aa->Q (.bB []) [⟨76,.ae [.bH 3 0 (n+l) cap',B (bad||(l:Int) !=m)],2,true⟩,cI,⟨e,.vals us,t,true⟩,⟨5,.vals (List.take (n*1) (vB out)++List.take (l*1) (vB zs)),aa,true⟩] E:=λcap' aa c1 c2=>by rw [FF (by omega),FF (by omega),show vB out++vB zs=vB (out++zs) by simp];have:=h (n+l) cap' aa ⟨by unfold nH;simp;omega,c1,by omega⟩;unfold nH at this;rw [hz] at this;exact hQ _ _ (aq [some 0,some 1,some 2,some 3] this (cl bn))
 refine ah (λg=>?_) (λg=>?_)
 ·subst g;exact ⟨b,l,c,ld,_,t1,t2,t3,by simp [Row.cells];omega,by omega,w2,af (by omega) fin⟩
 ·subst g;exact ⟨b,l,c,ld,b,l,c,ld,_,t1,t2,t3,by simp [Row.cells];omega,by omega,w2,af (by omega) fin⟩
theorem gK {l:List aR} {x:aR} (h:l[p]? =some x):l.set p x=l:=by
 apply List.ext_getElem?;intro i;by_cases hi:p=i
 ·subst hi;rw [List.getElem?_set_self (List.getElem?_eq_some_iff.1 h).1,h]
 ·rw [List.getElem?_set_ne hi]
abbrev yf (bx:List aR) (w o:Nat) (o':Li×Bool) (n' cap' aa:Nat):List aR:=(bx.set w ⟨76,.ae [.bH bx.length 0 n' cap',B o'.2],2,true⟩).set o cI++[⟨5,.vals (vB o'.1),aa,true⟩]
abbrev bxN (bx:List aR) (w:Nat) (o':Li×Bool) (n' cap' aa:Nat):List aR:=bx.set w ⟨76,.ae [.bH bx.length 0 n' cap',B o'.2],2,true⟩++[⟨5,.vals (vB o'.1),aa,true⟩]
structure GC (bx:List aR) (w o:Nat) (out:Li) (bad:Bool) (n cap tot:Nat):Prop where
 hw:bx[w]? =some ⟨76,.ae [.bH o 0 n cap,B bad],2,true⟩
 ho:bx[o]? =some ⟨5,.vals (vB out),tot,true⟩
 ok:bG out n cap tot
 sz:n<=1000000
theorem GC.ne {out:Li} (h:GC bx w o out bad n cap tot):w≠o:=by
 rintro rfl;have:=h.hw.symm.trans h.ho
 cases this
structure GD (bx:List aR) (p off:Nat) (e:TypeId) (row:Row) (t:Nat) (v:Value):Prop where
 hp:bx[p]? =some ⟨e,row,t,true⟩
 hv:row.cells[off]? =some (.raw v)
 nb:∀ b,v≠.bool b
 nu:∀ z,v≠.int .u8 z
theorem GD.J4 {e:TypeId} {v:Value} {s:SV} (h:GD bx p off e row t v) (hs:∀ u,s= .raw u->∃ a l c,u= .slice a l c) (hn:∀ a l c,v≠.slice a l c) (hw:bx[w]? =some ⟨76,.ae [s,B bad],2,true⟩):w≠p:=by
 rintro rfl;have e1:=hw.symm.trans h.hp;simp only [Option.some.injEq,aR.mk.injEq] at e1;obtain ⟨-,e2, -⟩:=e1;have hv:=h.hv;rw [← e2] at hv;simp only [Row.cells] at hv
 match off,hv with
 | 0,hv=>
  simp at hv;obtain ⟨a,l,c,q⟩:=hs v hv;exact hn a l c q
 | 1,hv=>simp at hv;exact h.nb _ hv.symm
 | n+2,hv=>simp at hv
theorem GD.VG {e:TypeId} {v:Value} {out:Li} (h:GD bx p off e row t v) (ho:bx[o]? =some ⟨5,.vals (vB out),tot,true⟩):o≠p:=by rintro rfl;have e1:=ho.symm.trans h.hp;simp only [Option.some.injEq,aR.mk.injEq] at e1;obtain ⟨-,e2, -⟩:=e1;have hv:=h.hv;rw [← e2] at hv;simp only [Row.cells,List.map_map,List.getElem?_map,Option.map_eq_some_iff] at hv;obtain ⟨z,_,q⟩:=hv;simp at q;exact h.nu z q.symm
theorem zH {out:Li} {e:TypeId} {v:Value} {K:KT} (W:GC bx w o out bad n cap tot) (H:GD bx p off e row t v) (hne:w≠p) (hr:SV.fY rest=some gF)
    (h:∀ us:Lv,us[off]? =some v->aj Try.prog f (.loc 0 0::.loc 2 off::rest) [⟨76,.ae [.bH 1 0 n cap,B bad],2,true⟩,⟨5,.vals (vB out),tot,true⟩,⟨e,.vals us,t,true⟩] E (bT 3 λs bs E'=>s= .bB []/\
      ((∃ (o':Li×Bool) (n' cap' aa:Nat),bs=[⟨76,.ae [.bH 3 0 n' cap',B o'.2],2,true⟩,cI,⟨e,.vals us,t,true⟩,⟨5,.vals (vB o'.1),aa,true⟩]/\K (.bB []) (yf bx w o o' n' cap' aa) E')\/
       (∃ b',bs=[⟨76,.ae [.bH 1 0 n cap,B b'],2,true⟩,⟨5,.vals (vB out),tot,true⟩,⟨e,.vals us,t,true⟩]/\K (.bB []) (bx.set w ⟨76,.ae [.bH o 0 n cap,B b'],2,true⟩) E')))):
    aj Try.prog f (.loc w 0::.loc p off::rest) bx E K:=by
  have h1:=W.ne;have h3:=H.VG W.ho;refine aj.ry (args':=.loc 0 0::.loc 2 off::rest) (σ:=[w,o,p]) (pH:=[⟨76,.ae [.bH 1 0 n cap,B bad],2,true⟩,⟨5,.vals (vB out),tot,true⟩,cI]) (k:=2) .vals (λ_=>rfl) H.hp rfl (by simp [h1,hne,h3]) rfl (λi b hi hb=>?_) ?_ (λus _ h2=>?_)
  · match i,hb with
    | 0,hb=>
      simp only [List.getElem?_cons_zero,Option.some.injEq] at hb;subst hb;exact ⟨rfl,w,rfl,by simpa [aR.cD,Row.cD,SV.dL,SV.cD,dW] using W.hw⟩
    | 1,hb=>
      simp only [List.getElem?_cons_succ,List.getElem?_cons_zero,Option.some.injEq] at hb;subst hb;exact ⟨rfl,o,rfl,by simpa [aR.cD,Row.cD,SV.dL,SV.cD,dW] using W.ho⟩
    | 2,hb=>exact absurd rfl hi
    | j+3,hb=>simp at hb
  · simp only [SV.dL,SV.cD,dW,List.getElem?_cons_zero,List.getElem?_cons_succ,fZ _ _ _ hr]
  · have hp:=(List.getElem?_eq_some_iff.1 H.hp).1
    refine aj.nV (h us (h2 off v H.hv)) ?_;rintro s bs E' ⟨rfl,⟨o',n',cap',aa,rfl,hK⟩|⟨b',rfl,hK⟩⟩
    · refine ⟨.vals us,row,⟨rfl,Cl.id⟩,?_⟩
      simp only [SV.cD,SV.dL,merge,fj,List.take,List.drop,List.map,List.length_cons,List.length_nil,aR.cD,Row.cD,dW,List.getElem?_cons_zero,List.getElem?_cons_succ];rw [fP (by simpa using hp),gK (by rw [List.getElem?_set_ne h3,List.getElem?_set_ne hne];exact H.hp)];simpa using hK
    · refine ⟨.vals us,row,⟨rfl,Cl.id⟩,?_⟩
      simp only [SV.cD,SV.dL,merge,fj,List.take,List.drop,List.map,List.length_cons,List.length_nil,aR.cD,Row.cD,dW,List.getElem?_cons_zero,List.getElem?_cons_succ];rw [fP (by simpa using hp),gK (x:=⟨e,row,t,true⟩) (by rw [List.getElem?_set_ne h3,List.getElem?_set_ne hne];exact H.hp),gK (p:=o) (by rw [List.getElem?_set_ne h1];exact W.ho)];simpa using hK
theorem zI {out:Li} {K:KT} (W:GC bx w o out bad n cap tot) (hr:SV.fY rest=some gF)
    (h:aj Try.prog f (.loc 0 0::.rp y off::rest) [⟨76,.ae [.bH 1 0 n cap,B bad],2,true⟩,⟨5,.vals (vB out),tot,true⟩] E (bT 2 λs bs E'=>s= .bB []/\
      ((∃ (o':Li×Bool) (n' cap' aa:Nat),bs=[⟨76,.ae [.bH 2 0 n' cap',B o'.2],2,true⟩,cI,⟨5,.vals (vB o'.1),aa,true⟩]/\K (.bB []) (yf bx w o o' n' cap' aa) E')\/
       (∃ b',bs=[⟨76,.ae [.bH 1 0 n cap,B b'],2,true⟩,⟨5,.vals (vB out),tot,true⟩]/\K (.bB []) (bx.set w ⟨76,.ae [.bH o 0 n cap,B b'],2,true⟩) E')))):
    aj Try.prog f (.loc w 0::.rp y off::rest) bx E K:=by
  have h1:=W.ne;refine aj.hand (σ:=[w,o]) (pH:=[⟨76,.ae [.bH 1 0 n cap,B bad],2,true⟩,⟨5,.vals (vB out),tot,true⟩]) ⟨by simp [h1],rfl,λi b hb=>?_⟩ (args':=.loc 0 0::.rp y off::rest) ?_ (aj.nV h ?_)
  · match i,hb with
    | 0,hb=>
      simp only [List.getElem?_cons_zero,Option.some.injEq] at hb;subst hb;exact ⟨rfl,w,rfl,by simpa [aR.cD,Row.cD,SV.dL,SV.cD,dW] using W.hw⟩
    | 1,hb=>
      simp only [List.getElem?_cons_succ,List.getElem?_cons_zero,Option.some.injEq] at hb;subst hb;exact ⟨rfl,o,rfl,by simpa [aR.cD,Row.cD,SV.dL,SV.cD,dW] using W.ho⟩
    | j+2,hb=>simp at hb
  · simp only [SV.dL,SV.cD,dW,List.getElem?_cons_zero,List.getElem?_cons_succ,fZ _ _ _ hr]
  · rintro s bs E' ⟨rfl,⟨o',n',cap',aa,rfl,hK⟩|⟨b',rfl,hK⟩⟩
    · simp only [SV.cD,SV.dL,merge,fj,List.take,List.drop,List.map,List.length_cons,List.length_nil,aR.cD,Row.cD,dW,List.getElem?_cons_zero,List.getElem?_cons_succ]
      simpa using hK
    · simp only [SV.cD,SV.dL,merge,fj,List.take,List.drop,List.map,List.length_cons,List.length_nil,aR.cD,Row.cD,dW,List.getElem?_cons_zero,List.getElem?_cons_succ]
      rw [gK (p:=o) (by rw [List.getElem?_set_ne h1];exact W.ho)];simpa using hK
theorem J5 {e:TypeId} {v:Value} {K:KT} (hw:bx[w]? =some ⟨76,.ae [L none 0 0,B bad],2,true⟩) (H:GD bx p off e row t v) (hne:w≠p) (hr:SV.fY rest=some gF)
  (h:∀ us:Lv,us[off]? =some v->aj Try.prog f (.loc 0 0::.loc 1 off::rest) [⟨76,.ae [L none 0 0,B bad],2,true⟩,⟨e,.vals us,t,true⟩] E (bT 2 λs bs E'=>s= .bB []/\
   (∃ (o':Li×Bool) (n' cap' aa:Nat),bs=[⟨76,.ae [.bH 2 0 n' cap',B o'.2],2,true⟩,⟨e,.vals us,t,true⟩,⟨5,.vals (vB o'.1),aa,true⟩]/\K (.bB []) (bxN bx w o' n' cap' aa) E'))):
  aj Try.prog f (.loc w 0::.loc p off::rest) bx E K:=by
 refine aj.ry (args':=.loc 0 0::.loc 1 off::rest) (σ:=[w,p]) (pH:=[⟨76,.ae [L none 0 0,B bad],2,true⟩,cI]) (k:=1) .vals (λ_=>rfl) H.hp rfl (by simp [hne]) rfl (λi b hi hb=>?_) ?_ (λus _ h2=>?_)
 ·match i,hb with
  | 0,hb=>
   simp only [List.getElem?_cons_zero,Option.some.injEq] at hb;subst hb;exact ⟨rfl,w,rfl,by simpa [aR.cD,Row.cD,SV.dL,SV.cD,dW] using hw⟩
  | 1,hb=>exact absurd rfl hi
  | j+2,hb=>simp at hb
 ·simp only [SV.dL,SV.cD,dW,List.getElem?_cons_zero,List.getElem?_cons_succ,fZ _ _ _ hr]
 ·have hp:=(List.getElem?_eq_some_iff.1 H.hp).1;refine aj.nV (h us (h2 off v H.hv)) ?_;rintro s bs E' ⟨rfl,o',n',cap',aa,rfl,hK⟩;refine ⟨.vals us,row,⟨rfl,Cl.id⟩,?_⟩;simp only [SV.cD,SV.dL,merge,fj,List.take,List.drop,List.map,List.length_cons,List.length_nil,aR.cD,Row.cD,dW,List.getElem?_cons_zero,List.getElem?_cons_succ];rw [fP (by simpa using hp),gK (by rw [List.getElem?_set_ne hne];exact H.hp)];simpa using hK
def wS (bx:List aR) (x:SV) (kn:Nat->Bool->Prop) (k:Nat->Nat->Li->Bool->Nat->Nat->Prop):Prop:=match x with
 | .loc w 0=>match bx[w]? with
  | some ⟨e,.ae [s,.raw (.bool bad)],t,true⟩=>match s with
   | .bH o 0 n cap=>match bx[o]? with
    | some ⟨e5,.vals vs,tot,true⟩=>∃ out,((e=76/\t=2/\e5=5/\vs=vB out)/\bG out n cap tot/\n<=1000000)/\k w o out bad n cap
    | _=>False
   | .raw (.slice none 0 0)=>(e=76/\t=2)/\kn w bad
   | _=>False
  | _=>False
 | _=>False
theorem qM {x:SV} {kn:Nat->Bool->Prop} {k:Nat->Nat->Li->Bool->Nat->Nat->Prop} (h:wS bx x kn k):
  (∃ w o out bad n cap tot,x= .loc w 0/\GC bx w o out bad n cap tot/\k w o out bad n cap)\/(∃ w bad,x= .loc w 0/\bx[w]? =some ⟨76,.ae [L none 0 0,B bad],2,true⟩/\kn w bad):=by
 unfold wS at h;split at h;case h_2=>exact h.elim
 rename_i w;split at h;case h_2=>exact h.elim
 rename_i e s bad t hw;split at h
 ·rename_i o n cap;split at h;case h_2=>exact h.elim
  rename_i e5 vs tot ho;obtain ⟨out,⟨⟨rfl,rfl,rfl,rfl⟩,h1,h2⟩,hk⟩:=h;exact .inl ⟨w,o,out,bad,n,cap,tot,rfl,⟨hw,ho,h1,h2⟩,hk⟩
 ·obtain ⟨⟨rfl,rfl⟩,hk⟩:=h;exact .inr ⟨w,bad,rfl,hw,hk⟩
 ·exact h.elim
def Qf (q:IntKind) (T:TypeId) (bx:List aR) (E:Mem) (x:SV) (k:Int->Prop):Prop:=match x with
 | .loc p off=>match bx[p]? with
  | some ⟨_,r,_,true⟩=>match r with
   | .ae cells=>match cells[off]? with
    | some (.raw (.int q' v))=>q'=q/\k v
    | _=>False
   | .vals vs=>∃ v,vs[off]? =some (.int q v)/\k v
  | _=>False
 | .rp y off=>∃ v,bt Try.prog E T y off (.raw (.int q v))/\k v
 | _=>False
theorem sR (hq:q≠.u8) {T:TypeId} {x:SV} {k:Int->Prop} (h:Qf q T bx E x k):
  ∃ v,k v/\((∃ p off e row t,x= .loc p off/\GD bx p off e row t (.int q v))\/(∃ y off,x= .rp y off/\bt Try.prog E T y off (.raw (.int q v)))):=by
 have nu:∀ v z,Value.int q v≠.int .u8 z:=λv z e=>by cases e;exact hq rfl
 unfold Qf at h;split at h
 ·rename_i p off;split at h;case h_2=>exact h.elim
  rename_i e r t hp;split at h
  ·rename_i cells;split at h;case h_2=>exact h.elim
   rename_i q' v hc;obtain ⟨rfl,hk⟩:=h;exact ⟨v,hk,.inl ⟨p,off,e,_,t,rfl,hp,hc,λb e=>(by cases e),nu v⟩⟩
  ·rename_i vs;obtain ⟨v,hv,hk⟩:=h;exact ⟨v,hk,.inl ⟨p,off,e,_,t,rfl,hp,by simp [Row.cells,hv],λb e=>(by cases e),nu v⟩⟩
 ·rename_i y off;obtain ⟨v,hv,hk⟩:=h;exact ⟨v,hk,.inr ⟨y,off,rfl,hv⟩⟩
 ·exact h.elim
def VH (bx:List aR) (E:Mem) (x:SV) (k:Li->Prop):Prop:=match x with
 | .loc p off=>match bx[p]? with
  | some ⟨_,.ae cells,_,true⟩=>match cells[off]? with
   | some (.raw (.slice b l c))=>∃ zs,(Bs E b l c zs/\l<=1000000)/\k zs
   | _=>False
  | _=>False
 | _=>False
theorem GF {x:SV} {k:Li->Prop} (h:VH bx E x k):
  ∃ p off e cells t b l c zs,x= .loc p off/\GD bx p off e (.ae cells) t (.slice b l c)/\Bs E b l c zs/\l<=1000000/\k zs:=by
 unfold VH at h;split at h;case h_2=>exact h.elim
 rename_i p off;split at h;case h_2=>exact h.elim
 rename_i e cells t hp;split at h;case h_2=>exact h.elim
 rename_i b l c hc;obtain ⟨zs,⟨h1,h2⟩,hk⟩:=h;exact ⟨p,off,e,cells,t,b,l,c,zs,rfl,⟨hp,hc,λb e=>(by cases e),λz e=>(by cases e)⟩,h1,h2,hk⟩
noncomputable def yH:cK:=λf args bx E K=>match f with
 | 120=>d4 args λx0 x1 x2 x3=>dI x2 λlo=>dI x3 λhi=>(-10000000000000<=lo/\hi<=10000000000000)/\wS bx x0
   (λw bad=>(match x1 with | .loc _ _=>True|_=>False)/\Qf .i64 3 bx E x1 λv=>∀ (o':Li×Bool) (n' cap' aa:Nat),Hyp (bM ([],bad) v lo hi=o')->bG o'.1 n' cap' aa->K (.bB []) (bxN bx w o' n' cap' aa) E)
   (λw o out bad _ _=>Qf .i64 3 bx E x1 λv=>∀ (o':Li×Bool) (n' cap' aa:Nat),Hyp (bM (out,bad) v lo hi=o')->bG o'.1 n' cap' aa->K (.bB []) (yf bx w o o' n' cap' aa) E)
 | 121=>d2 args λx0 x1=>wS bx x0 (λ_ _=>False) (λw o out bad n cap=>Qf .i64 3 bx E x1 λv=>K (.bB []) (bx.set w ⟨76,.ae [.bH o 0 n cap,B (bad||v !=0)],2,true⟩) E)
 | 119=>d2 args λx0 x1=>wS bx x0 (λ_ _=>False) (λw o out bad _ _=>Qf .u64 32 bx E x1 λv=>∀ (o':Li×Bool) (n' cap' aa:Nat),Hyp (my (out,bad) v=o')->bG o'.1 n' cap' aa->K (.bB []) (yf bx w o o' n' cap' aa) E)
 | 118=>d3 args λx0 x1 x2=>dI x2 λm=>wS bx x0 (λ_ _=>False) (λw o out bad _ _=>VH bx E x1 λzs=>∀ (o':Li×Bool) (n' cap' aa:Nat),Hyp (nH (out,bad) zs m=o')->bG o'.1 n' cap' aa->K (.bB []) (yf bx w o o' n' cap' aa) E)
 | _=>False
theorem sU:∀ f args bx E K,yH f args bx E K->aj Try.prog f args bx E K:=by
 intro f args bx E K h;unfold yH at h;split at h
 ·obtain ⟨x0,x1,x2,x3,rfl,h1⟩:=ik h;obtain ⟨lo,rfl,h2⟩:=bQ h1;obtain ⟨hi,rfl,hb,h3⟩:=bQ h2;clear h h1 h2;rcases qM h3 with ⟨w,o,out,bad,n,cap,tot,rfl,W,h4⟩|⟨w,bad,rfl,hw,hx,h4⟩
  ·obtain ⟨v,hk,⟨p,off,e,row,t,rfl,H⟩|⟨y,off,rfl,hl⟩⟩:=sR (by decide) h4
   ·refine zH (rest:=[I lo,I hi]) (gF:=[.int .i64 lo,.int .i64 hi]) W H (H.J4 (λu e=>by cases e) (λ_ _ _ e=>by cases e) W.hw) rfl λus iX=>?_;exact jE NX Try.func120 (VC W.ok W.sz hb iX (λo' n' cap' aa q r=>⟨rfl,.inl ⟨o',n',cap',aa,rfl,hk o' n' cap' aa q r⟩⟩) (λ_ _ q=>q))
   ·refine zI (rest:=[I lo,I hi]) (gF:=[.int .i64 lo,.int .i64 hi]) W rfl ?_;exact jE NX Try.func120 (Rj W.ok W.sz hb hl (λo' n' cap' aa q r=>⟨rfl,.inl ⟨o',n',cap',aa,rfl,hk o' n' cap' aa q r⟩⟩) (λ_ _ q=>q))
  ·obtain ⟨v,hk,⟨p,off,e,row,t,rfl,H⟩|⟨y,off,rfl,hl⟩⟩:=sR (by decide) h4
   ·refine J5 (rest:=[I lo,I hi]) (gF:=[.int .i64 lo,.int .i64 hi]) hw H (H.J4 (λu e=>by cases e;exact ⟨_,_,_,rfl⟩) (λ_ _ _ e=>by cases e) hw) rfl λus iX=>?_;exact jE NX Try.func120 (Rk hb iX (λo' n' cap' aa q r=>⟨rfl,o',n',cap',aa,rfl,hk o' n' cap' aa q r⟩) (λ_ _ q=>q))
   ·exact hx.elim
 ·obtain ⟨x0,x1,rfl,h1⟩:=ck h;rcases qM h1 with ⟨w,o,out,bad,n,cap,tot,rfl,W,h4⟩|⟨w,bad,rfl,hw,hx⟩
  ·obtain ⟨v,hk,⟨p,off,e,row,t,rfl,H⟩|⟨y,off,rfl,hl⟩⟩:=sR (by decide) h4
   ·refine zH (rest:=[]) (gF:=[]) W H (H.J4 (λu e=>by cases e) (λ_ _ _ e=>by cases e) W.hw) rfl λus iX=>?_;exact jE B0 Try.func121 (VD iX ⟨rfl,.inr ⟨_,rfl,hk⟩⟩ (λ_ _ q=>q))
   ·refine zI (rest:=[]) (gF:=[]) W rfl ?_;exact jE B0 Try.func121 (Rm hl ⟨rfl,.inr ⟨_,rfl,hk⟩⟩ (λ_ _ q=>q))
  ·exact hx.elim
 ·obtain ⟨x0,x1,rfl,h1⟩:=ck h;rcases qM h1 with ⟨w,o,out,bad,n,cap,tot,rfl,W,h4⟩|⟨w,bad,rfl,hw,hx⟩
  ·obtain ⟨v,hk,⟨p,off,e,row,t,rfl,H⟩|⟨y,off,rfl,hl⟩⟩:=sR (by decide) h4
   ·refine zH (rest:=[]) (gF:=[]) W H (H.J4 (λu e=>by cases e) (λ_ _ _ e=>by cases e) W.hw) rfl λus iX=>?_;exact jE B0 Try.func119 (VE iX W.ok W.sz (λn' cap' aa r=>⟨rfl,.inl ⟨_,n',cap',aa,rfl,hk _ n' cap' aa rfl r⟩⟩) (λ_ _ q=>q))
   ·refine zI (rest:=[]) (gF:=[]) W rfl ?_;exact jE B0 Try.func119 (Rn hl W.ok W.sz (λn' cap' aa r=>⟨rfl,.inl ⟨_,n',cap',aa,rfl,hk _ n' cap' aa rfl r⟩⟩) (λ_ _ q=>q))
  ·exact hx.elim
 ·obtain ⟨x0,x1,x2,rfl,h1⟩:=qJ h;obtain ⟨m,rfl,h2⟩:=bQ h1;rcases qM h2 with ⟨w,o,out,bad,n,cap,tot,rfl,W,h4⟩|⟨w,bad,rfl,hw,hx⟩
  ·obtain ⟨p,off,e,cells,t,b,l,c,zs,rfl,H,hB,hl,hk⟩:=GF h4;refine zH (rest:=[I m]) (gF:=[.int .i64 m]) W H ?_ rfl λus iX=>?_
   ·rintro rfl;have e1:=W.hw.symm.trans H.hp;simp only [Option.some.injEq,aR.mk.injEq,Row.ae.injEq] at e1;obtain ⟨-,rfl, -⟩:=e1;have hv:=H.hv;simp only [Row.cells] at hv
    match off,hv with
    | 0,hv=>simp at hv
    | 1,hv=>simp at hv
    | n+2,hv=>simp at hv
   ·exact jE B0 Try.func118 (VF iX hB hl W.ok W.sz (λn' cap' aa r=>⟨rfl,.inl ⟨_,n',cap',aa,rfl,hk _ n' cap' aa rfl r⟩⟩) (λ_ _ q=>q))
  ·exact hx.elim
 ·exact h.elim
def bJ (zs:Li) (s:Int×Int) (lo hi:Int):Int×(Int×Int):=
 if s.2≠0 then (lo,s) else match rd zs s.1 with
  | (v,e',er)=>if er≠0 then (lo,(s.1,er)) else if v<lo\/v>hi then (lo,(s.1,3)) else (v,(e',0))
def fD (zs:Li) (s:Int×Int) (m:Int):Li×(Int×Int):=
 if s.2≠0 then (List.replicate m.toNat 0,s) else if zs.length-s.1<m then (List.replicate m.toNat 0,(s.1,11)) else ((zs.drop s.1.toNat).take m.toNat,(s.1+m,0))
theorem Db {a:Int} {ws:Li}:∀ {k i:Nat} {u n e':Int},Bo a ws k i u=(n,e',0)->a+i<=e'/\e'<=a+ws.length
 | 0,i,u,n,e',h=>by simp [Bo] at h
 | k+1,i,u,n,e',h=>by
  unfold Bo at h;split at h
  ·simp at h
  ·split at h
   ·split at h
    ·simp at h
    ·have:=Db h;omega
   ·split at h
    ·simp only [Prod.mk.injEq] at h;omega
    ·simp at h
theorem GG {n e':Int} (h:rd zs a=(n,e',0)):0<=a/\a<=e'/\e'<=zs.length:=by
 unfold rd at h;split at h
 ·simp at h
 ·have:=Db h;rw [List.length_drop] at this;omega
theorem nX (h:off<us.length):bj (bj us off [x]) off [y]=bj us off [y]:=by
 unfold bj;have h1:(us.take off).length=off:=by rw [List.length_take];omega
 have e1:(us.take off++[x]++us.drop (off+1)).take off=us.take off:=by rw [List.append_assoc];exact List.take_left' h1
 have e2:(us.take off++[x]++us.drop (off+1)).drop (off+1)=us.drop (off+1):=by rw [List.drop_left' (by rw [List.length_append,h1];rfl)]
 simp only [List.length_cons,List.length_nil] at e1 e2 ⊢;rw [e1,e2]
theorem GH (h:off<us.length):(bj us off [x]).length=us.length:=by unfold bj;simp;omega
theorem GI (h:off<us.length):(bj us off [x])[off]? =some x:=by
 unfold bj;have h1:(us.take off).length=off:=by rw [List.length_take];omega
 rw [List.append_assoc,List.getElem?_append_right (by omega),h1,Nat.sub_self];rfl
noncomputable def GJ:FuncId->List SV->Mem->(SV->Mem->Prop)->Prop:=λf args E K=>match f with
 | 61=>d2 args λx0 x1=>dS x0 λb1 l2 c3=>dI x1 λa4=>∃ (zs:Li),Bs E b1 l2 c3 zs/\l2<=100000/\(∀ (n iu e:Int) (E':Mem),Mem.le E E'->Hyp (rd zs a4=(n,iu,e))->K (.bB [I n,I iu,I e]) E')
 | _=>False
theorem GK:jm Try.prog GJ:=by
 intro f args E K h;unfold GJ at h;split at h
 ·replace h:=ck h;obtain ⟨x0,x1,rfl,h⟩:=h;replace h:=eZ h;obtain ⟨b1,l2,c3,rfl,h⟩:=h;replace h:=bQ h;obtain ⟨a4,rfl,h⟩:=h;obtain ⟨zs,g0,g1,h⟩:=h;exact gy.congr (fH rfl (fH rfl rfl)) (nK Rd Try.func61 rfl (yd g0 g1 h))
 ·exact h.elim
noncomputable def X3:Cx:={ P:=Try.prog,inl:=λf=>List.contains [] f,jN:=GJ,kH:=λ_=>false,eY:=λ_ _ _ _ _=>False,opt:={ cq:=0,carry:=[] },eo:=(λo=>match o with | .call _=>true|o=>dM o) }
theorem Ro:bX X3:=bX.four GK (by kernel_rfl) (dN (by kernel_rfl)) (λ_ _ _ _ _ h=>h.elim)
theorem Bs.sub' {E':Mem} {b':Oa} {lo hi:Nat} (h:Bs E b l c zs)
  (hF:∀ cs,E (.slice b l c) cs->E' (.slice b' (hi-lo) (c-lo)) (List.take ((hi-lo)*1) (List.drop (lo*1) cs))) (hN:b'.isNone=b.isNone) (h1:lo<=hi) (h2:hi<=l):Bs E' b' (hi-lo) (c-lo) ((zs.drop lo).take (hi-lo)):=by
 have hlen:=h.2.1;refine ⟨?_,by rw [List.length_take,List.length_drop,hlen];omega,by have:=h.2.2.1;omega,λz hz=>h.2.2.2.1 z (List.drop_subset _ _ (List.take_subset _ _ hz)),λe=>?_⟩
 ·rcases h.1 with q|q
  ·exact .inl (by rw [q];simp)
  ·refine .inr ?_;have:=hF _ q;rw [Nat.mul_one,Nat.mul_one,← List.map_drop,← List.map_take] at this;exact this
 ·have :zs=[]:=h.2.2.2.2 (by cases b with |none=>rfl|some x=>rw [e] at hN;cases hN);rw [this];simp
theorem VI (hB:Bs E b l c zs) (hl:l<=100000) (ha:0<=a/\a<=l) (ho:off<us.length)
  (h:∀ (v:Int) (s':Int×Int) (E':Mem),Mem.le E E'->Hyp (bJ zs (a,e1) lo hi=(v,s'))->0<=s'.1/\s'.1<=l->KK (.bB []) [⟨81,.ae [L b l c,I s'.1,I s'.2],3,true⟩,⟨e,.vals (bj us off [.int .i64 v]),t,true⟩] E') (hQ:∀ s bA E',bT 2 KK s bA E'->Q s bA E'):
  ej X3 6 Try.f125 [.loc 0 0,.loc 1 off,I lo,I hi] [⟨81,.ae [L b l c,I a,I e1],3,true⟩,⟨e,.vals us,t,true⟩] E Q:=by
 refine dO (?_:off+1<=List.length us/\bif e1 !=(0:Int) then Q (SV.bB []) [⟨81,.ae [L b l c,I a,I e1],3,true⟩,⟨e,Row.vals (bj us off [vI lo]),t,true⟩] E else ∃ (zs:Li),Bs E b l c zs/\l<=100000/\∀ (n iu e_1:Int) (E':Mem),Mem.le E E'->Hyp (rd zs a=(n,iu,e_1))->Mem.le E E'/\Sx.Alike (bp.n (bp.n (bp.n bp.l dw) (bp.n dw (bp.n dw bp.l))) (bp.n (bp.n (bp.n bp.l dw) bp.l) (bp.n dw bp.l))) (bif e_1 !=(0:Int) then Q (SV.bB []) [⟨81,.ae [L b l c,I a,I e_1],3,true⟩,⟨e,Row.vals (bj us off [vI lo]),t,true⟩] E' else bif decide (n<lo) then Q (SV.bB []) [⟨81,.ae [L b l c,I a,I 3],3,true⟩,⟨e,Row.vals (bj us off [vI lo]),t,true⟩] E' else bif bif false then true else decide (n>hi) then Q (SV.bB []) [⟨81,.ae [L b l c,I a,I 3],3,true⟩,⟨e,Row.vals (bj us off [vI lo]),t,true⟩] E' else off+1<=List.length (bj us off [vI lo])/\Q (SV.bB []) [⟨81,.ae [L b l c,I iu,I e1],3,true⟩,⟨e,Row.vals (bj (bj us off [vI lo]) off [vI n]),t,true⟩] E'));delta vI;have hz:=hB.2.1;refine ⟨by omega,ah (λg=>?_) (λg=>⟨zs,hB,hl,λn iu er E' hE hy=>⟨hE,alike ?_⟩⟩)⟩
 ·have g:e1≠0:=by simpa using g
  exact hQ _ _ _ (aq [some 0,some 1] (h lo (a,e1) E bn (by show bJ zs (a,e1) lo hi=_;unfold bJ;exact if_pos g) ha) (cl bn))
 ·have g:e1=0:=by simpa using g
  subst g;have hy:rd zs a=(n,iu,er):=hy;have AS:bJ zs (a,0) lo hi=if er≠0 then (lo,(a,er)) else if n<lo\/n>hi then (lo,(a,3)) else (n,(iu,0)):=by unfold bJ;rw [if_neg (by simp)];simp only [hy]
  refine ah (λg=>?_) (λg=>ah (λg2=>?_) (λg2=>ah (λg3=>?_) (λg3=>⟨by rw [GH ho];omega,?_⟩)))
  ·have g:er≠0:=by simpa using g
   rw [if_pos g] at AS;exact hQ _ _ _ (aq [some 0,some 1] (h lo (a,er) E' hE AS ha) (cl bn))
  ·have g2:n<lo:=by simpa using g2
   rw [if_neg (by simpa using g),if_pos (.inl g2)] at AS;exact hQ _ _ _ (aq [some 0,some 1] (h lo (a,3) E' hE AS ha) (cl bn))
  ·have g3:n>hi:=by simpa using g3
   rw [if_neg (by simpa using g),if_pos (.inr g3)] at AS;exact hQ _ _ _ (aq [some 0,some 1] (h lo (a,3) E' hE AS ha) (cl bn))
  ·have g1:er=0:=by simpa using g
   have g2:¬ n<lo:=by simpa using g2
   have g3:¬ n>hi:=by simpa using g3
   subst g1;rw [if_neg (by simp),if_neg (by omega)] at AS;have he:=GG hy;rw [nX ho];exact hQ _ _ _ (aq [some 0,some 1] (h n (iu,0) E' hE AS ⟨by show 0<=iu;omega,by show iu<=l;omega⟩) (cl bn))
theorem VJ (ho:off<us.length) (h:KK (.bB []) [⟨81,.ae [L b l c,I a,I e1],3,true⟩,⟨e,.vals (bj us off [.int .i64 0]),t,true⟩] E) (hQ:∀ s bA E',bT 2 KK s bA E'->Q s bA E'):
  ej X3 6 Try.f126 [.loc 0 0,.loc 1 off] [⟨81,.ae [L b l c,I a,I e1],3,true⟩,⟨e,.vals us,t,true⟩] E Q:=by
 refine dO (?_:off+1<=List.length us/\Q (SV.bB []) [⟨81,Row.ae [L b l c,I a,I e1],3,true⟩,⟨e,Row.vals (bj us off [Value.int IntKind.i64 (0:Int)]),t,true⟩] E);exact ⟨by omega,hQ _ _ _ (aq [some 0,some 1] h (cl bn))⟩
noncomputable def X4:Cx:={ P:=Try.prog,inl:=λf=>List.contains [83] f,jN:=λ_ _ _ _=>False,kH:=λ_=>false,eY:=λ_ _ _ _ _=>False,opt:={ cq:=0,carry:=[] },eo:=(λo=>match o with | .call _=>true|o=>dM o) }
theorem VK:bX X4:=bX.four (λ_ _ _ _ h=>h.elim) (by kernel_rfl) (dN (by kernel_rfl)) (λ_ _ _ _ _ h=>h.elim)
theorem VL {m:Int} (hB:Bs E b l c zs) (hl:l<=100000) (ha:0<=a/\a<=l) (hm:1<=m/\m<=1000)
  (h:∀ (ys:Li) (s':Int×Int) (n cap tot:Nat) (E':Mem),Mem.le E E'->Hyp (fD zs (a,e1) m=(ys,s'))->0<=s'.1/\s'.1<=l->(n=m.toNat/\ys.length=n/\n<=cap/\∀ z∈ys,0<=z/\z<=255)->KK (.bH 1 0 n cap) [⟨81,.ae [L b l c,I s'.1,I s'.2],3,true⟩,⟨5,.vals (vB ys),tot,true⟩] E') (hQ:∀ s bA E',bT 1 KK s bA E'->Q s bA E'):
  ej X4 6 Try.f127 [.loc 0 0,I m] [⟨81,.ae [L b l c,I a,I e1],3,true⟩] E Q:=by
 refine dO (?_:bif e1==(0:Int) then Sx.Alike dw (bif bif true then decide (WI ((NI l)-a)<m) else false then cU ((0:Int)<=m/\m<=m) (cU (m*(1:Int)<=(140737488355328:Int)) (Q (SV.bH 1 0 (Int.toNat m) (Int.toNat m)) [⟨81,.ae [L b l c,I a,I 11],3,true⟩,⟨5,.vals (bW [U8 0] (Int.toNat m)),Int.toNat m*1,true⟩] E)) else bif e1 !=(0:Int) then cU ((0:Int)<=m/\m<=m) (cU (m*(1:Int)<=(140737488355328:Int)) (Q (SV.bH 1 0 (Int.toNat m) (Int.toNat m)) [⟨81,.ae [L b l c,I a,I e1],3,true⟩,⟨5,.vals (bW [U8 0] (Int.toNat m)),Int.toNat m*1,true⟩] E)) else cU (l<=c) (cU ((0:Int)<=WI (a+m)/\WI (a+m)<=(NI (toN none c))) (cU ((0:Int)<=WI (WI (a+m)-m)/\WI (WI (a+m)-m)<=(NI (toN (some (WI (a+m))) l))) (∀ (base':Oa) (E':Mem),Mem.le E E'->(∀ (cs:Lv),E (VS b l c) cs->E' (VS base' (toN (some (WI (a+m))) l-toN (some (WI (WI (a+m)-m))) 0) (toN none c-toN (some (WI (WI (a+m)-m))) 0)) (List.take ((toN (some (WI (a+m))) l-toN (some (WI (WI (a+m)-m))) 0)*1) (List.drop (toN (some (WI (WI (a+m)-m))) 0*1) cs)))->Option.isNone base'=Option.isNone b->bif Option.isNone base' then Mem.le E' E'/\Q (L none 0 0) [⟨81,.ae [L b l c,I (WI (a+m)),I e1],3,true⟩] E' else ∃ (cs:Lv),(cs=[]\/E' (VS base' (toN (some (WI (a+m))) l-toN (some (WI (WI (a+m)-m))) 0) (toN none c-toN (some (WI (WI (a+m)-m))) 0)) cs)/\(toN (some (WI (a+m))) l-toN (some (WI (WI (a+m)-m))) 0)*1<=List.length cs/\(∀ (x:Value),List.Mem x cs->Value.oneCell' x=true)/\0<=0/\0<=0/\0<=0/\cU ((0+(toN (some (WI (a+m))) l-toN (some (WI (WI (a+m)-m))) 0))*1<=140737488355328) (∀ (cap' aa:Nat),0+(toN (some (WI (a+m))) l-toN (some (WI (WI (a+m)-m))) 0)<=cap'->cap'*1<=aa->Mem.le E' E'/\Q (SV.bH 2 0 (0+(toN (some (WI (a+m))) l-toN (some (WI (WI (a+m)-m))) 0)) cap') [⟨81,.ae [L b l c,I (WI (a+m)),I e1],3,true⟩,⟨5,.ae [],0,false⟩,⟨5,.vals ([]++List.take ((toN (some (WI (a+m))) l-toN (some (WI (WI (a+m)-m))) 0)*1) cs),aa,true⟩] E'))))) else Sx.Alike dw (bif e1 !=(0:Int) then cU ((0:Int)<=m/\m<=m) (cU (m*(1:Int)<=(140737488355328:Int)) (Q (SV.bH 1 0 (Int.toNat m) (Int.toNat m)) [⟨81,.ae [L b l c,I a,I e1],3,true⟩,⟨5,.vals (bW [U8 0] (Int.toNat m)),Int.toNat m*1,true⟩] E)) else cU (l<=c) (cU ((0:Int)<=WI (a+m)/\WI (a+m)<=(NI (toN none c))) (cU ((0:Int)<=WI (WI (a+m)-m)/\WI (WI (a+m)-m)<=(NI (toN (some (WI (a+m))) l))) (∀ (base':Oa) (E':Mem),Mem.le E E'->(∀ (cs:Lv),E (VS b l c) cs->E' (VS base' (toN (some (WI (a+m))) l-toN (some (WI (WI (a+m)-m))) 0) (toN none c-toN (some (WI (WI (a+m)-m))) 0)) (List.take ((toN (some (WI (a+m))) l-toN (some (WI (WI (a+m)-m))) 0)*1) (List.drop (toN (some (WI (WI (a+m)-m))) 0*1) cs)))->Option.isNone base'=Option.isNone b->bif Option.isNone base' then Mem.le E' E'/\Q (L none 0 0) [⟨81,.ae [L b l c,I (WI (a+m)),I e1],3,true⟩] E' else ∃ (cs:Lv),(cs=[]\/E' (VS base' (toN (some (WI (a+m))) l-toN (some (WI (WI (a+m)-m))) 0) (toN none c-toN (some (WI (WI (a+m)-m))) 0)) cs)/\(toN (some (WI (a+m))) l-toN (some (WI (WI (a+m)-m))) 0)*1<=List.length cs/\(∀ (x:Value),List.Mem x cs->Value.oneCell' x=true)/\0<=0/\0<=0/\0<=0/\cU ((0+(toN (some (WI (a+m))) l-toN (some (WI (WI (a+m)-m))) 0))*1<=140737488355328) (∀ (cap' aa:Nat),0+(toN (some (WI (a+m))) l-toN (some (WI (WI (a+m)-m))) 0)<=cap'->cap'*1<=aa->Mem.le E' E'/\Q (SV.bH 2 0 (0+(toN (some (WI (a+m))) l-toN (some (WI (WI (a+m)-m))) 0)) cap') [⟨81,.ae [L b l c,I (WI (a+m)),I e1],3,true⟩,⟨5,.ae [],0,false⟩,⟨5,.vals ([]++List.take ((toN (some (WI (a+m))) l-toN (some (WI (WI (a+m)-m))) 0)*1) cs),aa,true⟩] E'))))));delta WI NI U8 VS;have hz:=hB.2.1;have hc:=hB.2.2.1;have z0:∀ n,bW [Value.int IntKind.u8 (0:Int)] n=vB (List.replicate n 0):=λn=>by
  unfold bW
  induction n with
  | zero=>rfl
  | succ n ih=>rw [List.replicate_succ,List.flatten_cons,ih,List.replicate_succ];rfl
 have r0:∀ n:Nat,∀ z∈List.replicate n (0:Int),0<=z/\z<=255:=λn z hz=>by have:=List.eq_of_mem_replicate hz;omega
 rw [z0,wrap_i64 (x:=(l:Int)-a) (by omega),wrap_i64 (x:=a+m) (by omega),wrap_i64 (x:=a+m-m) (by omega)];have bad:∀ s':Int×Int,fD zs (a,e1) m=(List.replicate m.toNat 0,s')->s'.1=a->cU (0<=m/\m<=m) (cU (m*1<=140737488355328) (Q (.bH 1 0 m.toNat m.toNat) [⟨81,.ae [L b l c,I a,I s'.2],3,true⟩,⟨5,.vals (vB (List.replicate m.toNat 0)),m.toNat*1,true⟩] E)):=λs' q q2=>by refine af (by omega) (af (by omega) ?_);have:=h _ s' m.toNat m.toNat (m.toNat*1) E bn q (by rw [q2];exact ha) ⟨rfl,by simp,Nat.le_refl _,r0 _⟩;rw [q2] at this;exact hQ _ _ _ (aq [some 0,some 1] this (cl bn))
 refine ah (λg=>?_) (λg=>?_)
 ·have g:e1=0:=by simpa using g
  subst g;have tk:fD zs (a,0) m=if zs.length-a<m then (List.replicate m.toNat 0,(a,11)) else ((zs.drop a.toNat).take m.toNat,(a+m,0)):=by unfold fD;rw [if_neg (by simp)]
  refine alike (ah (λg2=>?_) (λg2=>ah (λg3=>absurd g3 (by decide)) (λ_=>?_)))
  ·have g2:(l:Int)-a<m:=by simpa using g2
   exact bad (a,11) (by rw [tk,if_pos (by omega)]) rfl
  ·have g2:¬ (l:Int)-a<m:=by simpa using g2
   rw [if_neg (by omega)] at tk;have t1:toN (some (a+m)) l=a.toNat+m.toNat:=by show (a+m).toNat=_;omega
   have t2:toN (some (a+m-m)) 0=a.toNat:=by show (a+m-m).toNat=_;rw [Int.add_sub_cancel]
   have t3:toN none c=c:=rfl;rw [t1,t2,t3,show a.toNat+m.toNat-a.toNat=m.toNat by omega];refine af hc (af (by omega) (af (by omega) λb' E' hE hF hN=>?_));have B':Bs E' b' (a.toNat+m.toNat-a.toNat) (c-a.toNat) ((zs.drop a.toNat).take (a.toNat+m.toNat-a.toNat)):=Bs.sub' hB (by rw [show a.toNat+m.toNat-a.toNat=m.toNat by omega];exact hF) hN (by omega) (by omega);rw [show a.toNat+m.toNat-a.toNat=m.toNat by omega] at B';have bl:=B'.2.1;obtain ⟨s1,s2,s3⟩:=B'.src;refine ah (λg4=>?_) (λ_=>⟨_,s1,s2,s3,Nat.le_refl _,Nat.le_refl _,Nat.le_refl _,af (by omega) λcap' aa c1 c2=>?_⟩)
   ·have :(zs.drop a.toNat).take m.toNat=[]:=B'.2.2.2.2 (by simpa using g4);rw [this] at bl;simp at bl;omega
   ·refine ⟨bn,?_⟩;have:=h _ (a+m,0) (0+m.toNat) cap' aa E' hE tk ⟨by show 0<=a+m;omega,by show a+m<=l;omega⟩ ⟨by omega,by omega,c1,B'.2.2.2.1⟩;rw [List.nil_append,FF (by omega)];exact hQ _ _ _ (aq [some 0,some 2] this (cl bn))
 ·have g:e1≠0:=by simpa using g
  exact alike (ah (λ_=>bad (a,e1) (by unfold fD;rw [if_pos g]) rfl) (λg2=>absurd g2 (by simpa using g)))
abbrev cj (b:Oa) (l c:Nat) (s:Int×Int):aR:=⟨81,.ae [L b l c,I s.1,I s.2],3,true⟩
def rS (bx:List aR) (E:Mem) (x:SV) (k:Nat->Oa->Nat->Nat->Int×Int->Li->Prop):Prop:=match x with
 | .loc r 0=>match bx[r]? with
  | some ⟨e8,.ae [.raw (.slice b l c),.raw (.int q a),.raw (.int q' e)],t,true⟩=>∃ zs,((e8=81/\t=3/\q= .i64/\q'= .i64)/\Bs E b l c zs/\l<=100000/\0<=a/\a<=l)/\k r b l c (a,e) zs
  | _=>False
 | _=>False
theorem oK {x:SV} {k:Nat->Oa->Nat->Nat->Int×Int->Li->Prop} (h:rS bx E x k):
  ∃ r b l c s zs,x= .loc r 0/\bx[r]? =some (cj b l c s)/\Bs E b l c zs/\l<=100000/\(0<=s.1/\s.1<=l)/\k r b l c s zs:=by
 unfold rS at h;split at h;case h_2=>exact h.elim
 rename_i r;split at h;case h_2=>exact h.elim
 rename_i e8 b l c q a q' e t hr;obtain ⟨zs,⟨⟨rfl,rfl,rfl,rfl⟩,h1,h2,h3,h4⟩,hk⟩:=h;exact ⟨r,b,l,c,(a,e),zs,rfl,hr,h1,h2,⟨h3,h4⟩,hk⟩
def Rp (q:IntKind) (bx:List aR) (x:SV) (k:Nat->Int->(Lv->aR)->Prop):Prop:=match x with
 | .loc p off=>match bx[p]? with
  | some ⟨e,r,t,true⟩=>match r with
   | .ae cells=>match cells[off]? with
    | some (.raw (.int q' v))=>q'=q/\k p v (λws=>⟨e,.ae (lay cells off (ws.map .raw)),t,true⟩)
    | _=>False
   | .vals vs=>∃ v,vs[off]? =some (.int q v)/\k p v (λws=>⟨e,.vals (bj vs off ws),t,true⟩)
  | _=>False
 | _=>False
theorem wW (hq:q≠.u8) {x:SV} {k:Nat->Int->(Lv->aR)->Prop} (h:Rp q bx x k):
  ∃ p off e row t v,x= .loc p off/\GD bx p off e row t (.int q v)/\k p v (λws=>⟨e,tQ row off ws,t,true⟩):=by
 have nu:∀ v z,Value.int q v≠.int .u8 z:=λv z e=>by cases e;exact hq rfl
 unfold Rp at h;split at h;case h_2=>exact h.elim
 rename_i p off;split at h;case h_2=>exact h.elim
 rename_i e r t hp;split at h
 ·rename_i cells;split at h;case h_2=>exact h.elim
  rename_i q' v hc;obtain ⟨rfl,hk⟩:=h;exact ⟨p,off,e,_,t,v,rfl,⟨hp,hc,λb e=>(by cases e),nu v⟩,hk⟩
 ·rename_i vs;obtain ⟨v,hv,hk⟩:=h;exact ⟨p,off,e,_,t,v,rfl,⟨hp,by simp [Row.cells,hv],λb e=>(by cases e),nu v⟩,hk⟩
def VM (bx:List aR) (x:SV) (k:Nat->(SV->aR)->Prop):Prop:=match x with
 | .loc p off=>match bx[p]? with
  | some ⟨e,.ae cells,t,true⟩=>match cells[off]? with
   | some (.raw (.slice b l c))=>k p (λs=>⟨e,.ae (lay cells off [s]),t,true⟩)
   | _=>False
  | _=>False
 | _=>False
theorem GL {x:SV} {k:Nat->(SV->aR)->Prop} (h:VM bx x k):
  ∃ p off e cells t b l c,x= .loc p off/\GD bx p off e (.ae cells) t (.slice b l c)/\k p (λs=>⟨e,.ae (lay cells off [s]),t,true⟩):=by
 unfold VM at h;split at h;case h_2=>exact h.elim
 rename_i p off;split at h;case h_2=>exact h.elim
 rename_i e cells t hp;split at h;case h_2=>exact h.elim
 rename_i b l c hc;exact ⟨p,off,e,cells,t,b,l,c,rfl,⟨hp,hc,λb e=>(by cases e),λz e=>(by cases e)⟩,h⟩
theorem zJ {r:Nat} {e:TypeId} {v:Value} {K:KT} (FZ:bx[r]? =some (cj b l c s0)) (H:GD bx p off e row t v) (hne:r≠p) (hr:SV.fY rest=some gF)
  (h:∀ us:Lv,us[off]? =some v->aj Try.prog f (.loc 0 0::.loc 1 off::rest) [cj b l c s0,⟨e,.vals us,t,true⟩] E (bT 2 λs bs E'=>s= .bB []/\
   ∃ (s':Int×Int) (ws:Lv),bs=[cj b l c s',⟨e,.vals (bj us off ws),t,true⟩]/\K (.bB []) ((bx.set r (cj b l c s')).set p ⟨e,tQ row off ws,t,true⟩) E')):
  aj Try.prog f (.loc r 0::.loc p off::rest) bx E K:=by
 refine aj.ry (args':=.loc 0 0::.loc 1 off::rest) (σ:=[r,p]) (pH:=[cj b l c s0,cI]) (k:=1) .vals (λ_=>rfl) H.hp rfl (by simp [hne]) rfl (λi y hi hb=>?_) ?_ (λus _ h2=>?_)
 ·match i,hb with
  | 0,hb=>
   simp only [List.getElem?_cons_zero,Option.some.injEq] at hb;subst hb;exact ⟨rfl,r,rfl,by simpa [aR.cD,Row.cD,SV.dL,SV.cD,dW] using FZ⟩
  | 1,hb=>exact absurd rfl hi
  | j+2,hb=>simp at hb
 ·simp only [SV.dL,SV.cD,dW,List.getElem?_cons_zero,List.getElem?_cons_succ,fZ _ _ _ hr]
 ·have hp:=(List.getElem?_eq_some_iff.1 H.hp).1;refine aj.nV (h us (h2 off v H.hv)) ?_;rintro s bs E' ⟨rfl,s',ws,rfl,hK⟩;refine ⟨.vals (bj us off ws),tQ row off ws,⟨rfl,Cl.bj off ws⟩,?_⟩;simp only [SV.cD,SV.dL,merge,fj,List.take,List.drop,List.map,List.length_cons,List.length_nil,aR.cD,Row.cD,dW,List.getElem?_cons_zero,List.getElem?_cons_succ];rw [fP (by simpa using hp),List.append_nil];exact hK
noncomputable def B4:cK:=λf args bx E K=>match f with
 | 127=>d2 args λx0 x1=>dI x1 λm=>(1<=m/\m<=1000)/\rS bx E x0 λr b l c s zs=>∀ (ys:Li) (s':Int×Int) (b':Oa) (c':Nat) (E':Mem),Mem.le E E'->Hyp (fD zs s m=(ys,s'))->0<=s'.1/\s'.1<=l->Bs E' b' m.toNat c' ys->K (L b' m.toNat c') (bx.set r (cj b l c s')) E'
 | _=>False
theorem Ew:∀ f args bx E K,B4 f args bx E K->aj Try.prog f args bx E K:=by
 intro f args bx E K h;unfold B4 at h;split at h;case h_2=>exact h.elim
 obtain ⟨x0,x1,rfl,h1⟩:=ck h;obtain ⟨m,rfl,hm,h2⟩:=bQ h1;obtain ⟨r,b,l,c,s,zs,rfl,hr,hB,hl,ha,hk⟩:=oK h2;refine aj.hand (σ:=[r]) (pH:=[cj b l c s]) ⟨by simp,rfl,λi y hb=>?_⟩ (args':=[.loc 0 0,I m]) ?_ ?_
 ·match i,hb with
  | 0,hb=>
   simp only [List.getElem?_cons_zero,Option.some.injEq] at hb;subst hb;exact ⟨rfl,r,rfl,by simpa [aR.cD,Row.cD,SV.dL,SV.cD,dW] using hr⟩
  | j+1,hb=>simp at hb
 ·simp only [SV.dL,SV.cD,dW,List.getElem?_cons_zero,List.getElem?_cons_succ]
 refine aj.AK (aj.fM (jE VK Try.func127 (VL (KK:=AK (bT 1 λs bs' E'=>K (s.cD [r] bx.length) (merge [r] bx bs') E')) hB hl ha hm ?_ (λ_ _ _ q=>q))));intro ys s' n cap tot E' hE hq hs ⟨hn,hy,hc,hb⟩;refine same (q:=∀ (base:Oa) (E2:Mem),Mem.le E' E2->gD E2 base (vB ys)->bT 1 (λs bs' E'=>K (s.cD [r] bx.length) (merge [r] bx bs') E') (.raw (iP base 0 n cap)) [cj b l c s',⟨5,.vals (vB ys),tot,false⟩] E2) (by kernel_rfl) ?_;intro base E2 h3 h4;subst hn;have:=hk ys s' (base.map λx=>x.add 0) cap E2 (bq hE h3) hq hs (Bs.win h4 rfl hy hc hb);refine aq [some 0] (s':=L (base.map λx=>x.add 0) m.toNat cap) (bA:=[cj b l c s']) (E':=E2) ?_ (cl bn);simp only [SV.cD,SV.dL,merge,fj,List.take,List.drop,List.map,List.length_cons,List.length_nil,aR.cD,Row.cD,dW,List.getElem?_cons_zero,List.getElem?_cons_succ,List.append_nil];exact this
noncomputable def X5:Cx:={ P:=Try.prog,inl:=λf=>List.contains [] f,jN:=λ_ _ _ _=>False,kH:=λf=>f==127,eY:=B4,opt:={ cq:=0,carry:=[9] },eo:=(λo=>match o with | .call _=>true|o=>dM o) }
theorem NZ:bX X5:=bX.four (λ_ _ _ _ h=>h.elim) (by kernel_rfl) (dN (by kernel_rfl)) Ew
def gQ (d x:Int):Int:=IntKind.wrap .u64 (((BitVec.ofInt (IntKind.bits .u64) (IntKind.wrap .u64 (d*2 ^ min (Int.toNat 8) (IntKind.bits .u64)))|||BitVec.ofInt (IntKind.bits .u64) (IntKind.wrap .u64 x)).toNat:Nat):Int)
def qT (zs:Li) (s:Int×Int) (d:Int):Int×(Int×Int):=match fD zs s 8 with
 | (ys,s')=>(ys.foldl gQ d,s')
theorem tU (h:us[off]? =some x):bj us off [x]=us:=by obtain ⟨h1,h2⟩:=List.getElem?_eq_some_iff.1 h;unfold bj;rw [← h2,List.append_assoc,List.singleton_append];simp only [List.length_cons,List.length_nil];rw [List.getElem_cons_drop h1,List.take_append_drop]
theorem wX {f:Int->Int->Int} {ys:Li} (h:i<ys.length):(ys.take (i+1)).foldl f d=f ((ys.take i).foldl f d) (ys.getD i 0):=by rw [List.take_succ_eq_append_getElem h,List.foldl_append,List.getD_eq_getElem?_getD,List.getElem?_eq_getElem h];rfl
theorem VN {m:Int} (hB:Bs E b l c zs) (hl:l<=100000) (ha:0<=s0.1/\s0.1<=l) (hm:1<=m/\m<=1000) (ho:off<us.length)
  (h:∀ (ys:Li) (s':Int×Int) (b':Oa) (c':Nat) (E':Mem),Mem.le E E'->Hyp (fD zs s0 m=(ys,s'))->0<=s'.1/\s'.1<=l->Bs E' b' m.toNat c' ys->KK (.bB []) [cj b l c s',⟨e,.vals (bj us off [.slice b' m.toNat c']),t,true⟩] E') (hQ:∀ s bA E',bT 2 KK s bA E'->Q s bA E'):
  ej X5 6 Try.f123 [.loc 0 0,.loc 1 off,I m] [cj b l c s0,⟨e,.vals us,t,true⟩] E Q:=by
 refine dO (?_:((1:Int)<=m/\m<=(1000:Int))/\∃ (zs:Li),((81=81/\3=3/\Sx.Alike dw (IntKind.i64=IntKind.i64))/\Bs E b l c zs/\l<=100000/\0<=s0.1/\s0.1<=(↑l:Int))/\∀ (ys:Li) (s':Int×Int) (b':Oa) (c':Nat) (E':Mem),Mem.le E E'->Hyp (fD zs (s0.1,s0.2) m=(ys,s'))->0<=s'.1/\s'.1<=(↑l:Int)->Bs E' b' (Int.toNat m) c' ys->off+1<=List.length us/\Q (SV.bB []) [⟨81,Row.ae [L b l c,I s'.1,I s'.2],3,true⟩,⟨e,Row.vals (bj us off [Value.slice b' (Int.toNat m) c']),t,true⟩] E');exact ⟨hm,zs,⟨⟨rfl,rfl,alike rfl⟩,hB,hl,ha⟩,λys s' b' c' E' hE hq hs hb=>⟨by omega,hQ _ _ _ (aq [some 0,some 1] (h ys s' b' c' E' hE hq hs hb) (cl bn))⟩⟩
def GM (b:Oa) (l c:Nat) (s0:Int×Int) (us:Lv) (e t off:Nat) (b':Oa) (c' i:Nat) (E:Mem):St:=⟨[oc 0 0,oc 1 off]++nn 5++[oL b' 8 c',oI 8,oI (i:Nat)]++nn 13,[cj b l c s0,⟨e,.vals us,t,true⟩],E⟩
theorem Rq {b':Oa} {c':Nat} {ys:Li} (hB:Bs E b' 8 c' ys) (hi:i<=8) (hv:us[off]? =some (.int .u64 ((ys.take i).foldl gQ d)))
  (h:KK (.bB []) [cj b l c s0,⟨e,.vals (bj us off [.int .u64 (ys.foldl gQ d)]),t,true⟩] E) (hQ:∀ s bA E',bT 2 KK s bA E'->Q s bA E')
  (ih:i<8->Lp X5 6 Try.f124 [1,0] 2 Q (GM b l c s0 (bj us off [.int .u64 ((ys.take (i+1)).foldl gQ d)]) e t off b' c' (i+1) E)):
  jO X5 6 Try.f124 [1,0] 2 Q (GM b l c s0 us e t off b' c' i E):=by
 refine dO (?_:bif decide ((NI i)<8) then cU (0<=(NI i)/\(NI i)<8) (nE E b' 8 c'/\∃ (n:Int),bt X5.P E 5 (VS b' 8 c') (Int.toNat (NI i)*1) (SV.raw (U8 n))/\∃ (n_1:Int),gA X5.P 32 us off (SV.raw (vU n_1))/\off+1<=List.length us/\Lp X5 6 Try.f124 [1,0] 2 Q { fr:=some (SV.loc 0 0)::oc 1 off::none::none::none::none::none::oL b' 8 c'::oI 8::oI (WI ((NI i)+1))::cQ (cL (none::[])),bx:=[(⟨81,.ae [L b l c,I s0.1,I s0.2],3,true⟩:aR),⟨e,Row.vals (bj us off [vU (IntKind.wrap IntKind.u64 (NI (BitVec.toNat (BitVec.ofInt (IntKind.bits IntKind.u64) (IntKind.wrap IntKind.u64 (n_1*(2:Int) ^ min (Int.toNat 8) (IntKind.bits IntKind.u64)))|||BitVec.ofInt (IntKind.bits IntKind.u64) (IntKind.wrap IntKind.u64 n)))))]),t,true⟩],E:=E:St }) else Q (SV.bB []) [⟨81,.ae [L b l c,I s0.1,I s0.2],3,true⟩,⟨e,Row.vals us,t,true⟩] E);delta WI NI U8 vU VS cL cQ;have hl:=hB.2.1;have ho:off<us.length:=(List.getElem?_eq_some_iff.1 hv).1;refine ah (λg=>?_) (λg=>?_)
 ·have g:i<8:=by simp at g;omega
  have w:IntKind.wrap .i64 ((i:Int)+1)=((i+1:Nat):Int):=by rw [wrap_i64 (by omega)];omega
  rw [w];refine af (by omega) ⟨hB.ne g,ys.getD i 0,hB.load rfl g,_,ez rfl rfl hv,by omega,?_⟩;have:=ih g;rw [wX (by omega)] at this;exact bz [some 0,some 1] this (cl bn)
 ·have g:i=8:=by simp at g;omega
  subst g;rw [List.take_of_length_le (by omega)] at hv;rw [tU hv] at h;exact hQ _ _ _ (aq [some 0,some 1] h (cl bn))
theorem VO (hB:Bs E b l c zs) (hl:l<=100000) (ha:0<=s0.1/\s0.1<=l) (hv:us[off]? =some (.int .u64 d))
  (h:∀ (v:Int) (s':Int×Int) (E':Mem),Mem.le E E'->Hyp (qT zs s0 d=(v,s'))->0<=s'.1/\s'.1<=l->KK (.bB []) [cj b l c s',⟨e,.vals (bj us off [.int .u64 v]),t,true⟩] E') (hQ:∀ s bA E',bT 2 KK s bA E'->Q s bA E'):
  ej X5 6 Try.f124 [.loc 0 0,.loc 1 off] [cj b l c s0,⟨e,.vals us,t,true⟩] E Q:=by
 refine dO (?_:((1:Int)<=(8:Int)/\(8:Int)<=(1000:Int))/\∃ (zs:Li),((81=81/\3=3/\Sx.Alike dw (IntKind.i64=IntKind.i64))/\Bs E b l c zs/\l<=100000/\0<=s0.1/\s0.1<=(NI l))/\∀ (ys:Li) (s':Int×Int) (b':Oa) (c':Nat) (E':Mem),Mem.le E E'->Hyp (fD zs (s0.1,s0.2) (8:Int)=(ys,s'))->0<=s'.1/\s'.1<=(NI l)->Bs E' b' 8 c' ys->Lp X5 6 Try.f124 [1,0] 2 Q { fr:=some (SV.loc 0 0)::oc 1 off::none::none::none::none::oc 0 0::oL b' 8 c'::oI 8::oI 0::cQ (cL (none::[])),bx:=[(⟨81,.ae [L b l c,I s'.1,I s'.2],3,true⟩:aR),⟨e,Row.vals us,t,true⟩],E:=E':St });delta NI cL cQ;have ho:off<us.length:=(List.getElem?_eq_some_iff.1 hv).1;refine ⟨by decide,zs,⟨⟨rfl,rfl,alike rfl⟩,hB,hl,ha⟩,λys s' b' c' E' hE hq hs hb=>?_⟩;have hq:fD zs s0 8=(ys,s'):=hq;have hk:=h (ys.foldl gQ d) s' E' hE (by show qT zs s0 d=_;unfold qT;rw [hq]) hs;have key:=cu NZ (n:=6) (fn:=Try.f124) (p:=[1,0]) (n0:=2) (K:=Q) (λq:{i:Nat//i<=8}=>GM b l c s' (bj us off [.int .u64 ((ys.take q.1).foldl gQ d)]) e t off b' c' q.1 E') (λq=>8-q.1)
  (λq ih=>Rq hb q.2 (GI ho) (by rw [nX ho];exact hk) hQ λg=>by rw [nX ho];exact ih ⟨q.1+1,g⟩ (by show 8-(_+1)<8-_;omega)) ⟨0,by decide⟩
 have e0:bj us off [.int .u64 ((ys.take 0).foldl gQ d)]=us:=tU hv;rw [e0] at key;exact bz [some 0,some 1] key (cl bn)
theorem yI {s s':Int×Int} (h:qT zs s d=(v,s')):∃ ys,fD zs s 8=(ys,s')/\v=ys.foldl gQ d:=by unfold qT at h;split at h;rename_i ys s2 h2;simp only [Prod.mk.injEq] at h;obtain ⟨rfl,rfl⟩:=h;exact ⟨ys,h2,rfl⟩
noncomputable def yJ:cK:=λf args bx E K=>match f with
 | 125=>d4 args λx0 x1 x2 x3=>dI x2 λlo=>dI x3 λhi=>rS bx E x0 λr b l c s zs=>Rp .i64 bx x1 λp v0 put=>r≠p/\∀ (v:Int) (s':Int×Int) (E':Mem),Mem.le E E'->Hyp (bJ zs s lo hi=(v,s'))->0<=s'.1/\s'.1<=l->K (.bB []) ((bx.set r (cj b l c s')).set p (put [.int .i64 v])) E'
 | 126=>d2 args λx0 x1=>rS bx E x0 λr b l c s zs=>Rp .i64 bx x1 λp v0 put=>r≠p/\K (.bB []) (bx.set p (put [.int .i64 0])) E
 | 124=>d2 args λx0 x1=>rS bx E x0 λr b l c s zs=>Rp .u64 bx x1 λp d put=>r≠p/\∀ (ys:Li) (s':Int×Int) (E':Mem),Mem.le E E'->Hyp (fD zs s 8=(ys,s'))->0<=s'.1/\s'.1<=l->K (.bB []) ((bx.set r (cj b l c s')).set p (put [.int .u64 (ys.foldl gQ d)])) E'
 | 123=>d3 args λx0 x1 x2=>dI x2 λm=>(1<=m/\m<=1000)/\rS bx E x0 λr b l c s zs=>VM bx x1 λp put=>r≠p/\∀ (ys:Li) (s':Int×Int) (b':Oa) (c':Nat) (E':Mem),Mem.le E E'->Hyp (fD zs s m=(ys,s'))->0<=s'.1/\s'.1<=l->Bs E' b' m.toNat c' ys->K (.bB []) ((bx.set r (cj b l c s')).set p (put (L b' m.toNat c'))) E'
 | _=>False
theorem sV:∀ f args bx E K,yJ f args bx E K->aj Try.prog f args bx E K:=by
 intro f args bx E K h;unfold yJ at h;split at h
 ·obtain ⟨x0,x1,x2,x3,rfl,h1⟩:=ik h;obtain ⟨lo,rfl,h2⟩:=bQ h1;obtain ⟨hi,rfl,h3⟩:=bQ h2;obtain ⟨r,b,l,c,s,zs,rfl,hr,hB,hl,ha,h4⟩:=oK h3;obtain ⟨p,off,e,row,t,v,rfl,H,hne,hk⟩:=wW (by decide) h4;refine zJ (rest:=[I lo,I hi]) (gF:=[.int .i64 lo,.int .i64 hi]) hr H hne rfl λus iX=>?_;exact jE Ro Try.func125 (VI hB hl ha (List.getElem?_eq_some_iff.1 iX).1 (λv' s' E' hE hq hs=>⟨rfl,s',[.int .i64 v'],rfl,hk v' s' E' hE hq hs⟩) (λ_ _ _ q=>q))
 ·obtain ⟨x0,x1,rfl,h1⟩:=ck h;obtain ⟨r,b,l,c,s,zs,rfl,hr,hB,hl,ha,h4⟩:=oK h1;obtain ⟨p,off,e,row,t,v,rfl,H,hne,hk⟩:=wW (by decide) h4;refine zJ (rest:=[]) (gF:=[]) hr H hne rfl λus iX=>?_;exact jE Ro Try.func126 (VJ (List.getElem?_eq_some_iff.1 iX).1 ⟨rfl,s,[.int .i64 0],rfl,by rw [gK (p:=r) hr];exact hk⟩ (λ_ _ _ q=>q))
 ·obtain ⟨x0,x1,rfl,h1⟩:=ck h;obtain ⟨r,b,l,c,s,zs,rfl,hr,hB,hl,ha,h4⟩:=oK h1;obtain ⟨p,off,e,row,t,v,rfl,H,hne,hk⟩:=wW (by decide) h4;refine zJ (rest:=[]) (gF:=[]) hr H hne rfl λus iX=>?_;exact jE NZ Try.func124 (VO hB hl ha iX (λv' s' E' hE hq hs=>⟨rfl,s',[.int .u64 v'],rfl,by obtain ⟨ys,h1,h2⟩:=yI hq;rw [h2];exact hk ys s' E' hE h1 hs⟩) (λ_ _ _ q=>q))
 ·obtain ⟨x0,x1,x2,rfl,h1⟩:=qJ h;obtain ⟨m,rfl,hm,h2⟩:=bQ h1;obtain ⟨r,b,l,c,s,zs,rfl,hr,hB,hl,ha,h4⟩:=oK h2;obtain ⟨p,off,e,cells,t,b0,l0,c0,rfl,H,hne,hk⟩:=GL h4;refine zJ (rest:=[I m]) (gF:=[.int .i64 m]) hr H hne rfl λus iX=>?_;exact jE NZ Try.func123 (VN hB hl ha hm (List.getElem?_eq_some_iff.1 iX).1 (λys s' b' c' E' hE hq hs hb=>⟨rfl,s',[.slice b' m.toNat c'],rfl,hk ys s' b' c' E' hE hq hs hb⟩) (λ_ _ _ q=>q))
 ·exact h.elim
noncomputable def Y1:Cx:={ P:=Try.prog,inl:=λf=>List.contains [86,63] f,jN:=λ_ _ _ _=>False,kH:=λf=>f==118||f==119||f==120||f==121,eY:=yH,opt:={ cq:=3,carry:=[] },eo:=(λo=>match o with | .call _=>true|o=>dM o) }
theorem B5:bX Y1:=bX.four (λ_ _ _ _ h=>h.elim) (by kernel_rfl) (dN (by kernel_rfl)) sU
abbrev Item:=Nat×Option (Int×Int)
def jw (x:Li) (o:Li×Bool) (it:Item):Li×Bool:=match it.2 with
 | some r=>bM o (x.getD it.1 0) r.1 r.2
 | none=>qS o (x.getD it.1 0)
def gR (fB:List Item) (o:Li×Bool) (x:Li):Li×Bool:=fB.foldl (jw x) o
theorem Ey (x:Li) (o:Li×Bool) (it:Item):(jw x o it).1.length<=o.1.length+10:=by
 unfold jw;split
 ·exact wU _ _ _ _
 ·show o.1.length<=_;omega
theorem oM:∀ (fB:List Item) (o:Li×Bool) (x:Li),(gR fB o x).1.length<=o.1.length+10*fB.length
 | [],o,x=>by simp [gR]
 | it::fB,o,x=>by have h1:=Ey x o it;have h2:=oM fB (jw x o it) x;show (gR fB (jw x o it) x).1.length<=_;simp only [List.length_cons];omega
theorem eF {o o':Li×Bool} {n' cap' aa:Nat} (h:bM o v lo hi=o') (W:bG o.1 n cap tot) (W':bG o'.1 n' cap' aa):n'<=n+10:=by have:=wU o v lo hi;rw [h,W'.len,W.len] at this;exact this
def yK (o:Li×Bool) (x:Li):Li×Bool:=my o (x.getD 0 0)
def hY:List Item:=[(0,some (0,59)),(1,some (0,15)),(2,some (0,59)),(3,some (0,1000000000))]
theorem e85 {out:Li} {x:Li} (W:bG out n cap tot) (hs:n<=900000) (hx:∀ j,j<4->bt Try.prog E 3 y (off+j) (.raw (.int .i64 (x.getD j 0))))
  (h:∀ (o':Li×Bool) (n' cap' aa:Nat),Hyp (gR hY (out,bad) x=o')->bG o'.1 n' cap' aa->KK (.bB []) [⟨76,.ae [.bH 3 0 n' cap',B o'.2],2,true⟩,cI,⟨129,.ae [.cr 74 (.loc 0 0)],1,true⟩,⟨5,.vals (vB o'.1),aa,true⟩] E) (hQ:∀ s bA,bT 3 KK s bA E->Q s bA E):
  ej Y1 6 Try.f85 [.rp y off,.loc 2 0] [⟨76,.ae [.bH 1 0 n cap,B bad],2,true⟩,⟨5,.vals (vB out),tot,true⟩,⟨129,.ae [.cr 74 (.loc 0 0)],1,true⟩] E Q:=by
 refine dO (?_:((-10000000000000:Int)<=(0:Int)/\(59:Int)<=(10000000000000:Int))/\∃ (bI:Li),((76=76/\2=2/\5=5/\vB out=vB bI)/\bG bI n cap tot/\n<=1000000)/\∃ (v:Int),bt Try.prog E 3 y (off+0+0) (I v)/\∀ (o':Li×Bool) (n' cap' aa:Nat),Hyp (bM (bI,bad) v (0:Int) (59:Int)=o')->bG o'.1 n' cap' aa->((-10000000000000:Int)<=(0:Int)/\(15:Int)<=(10000000000000:Int))/\∃ (out:Li),((76=76/\2=2/\5=5/\vB o'.1=vB out)/\bG out n' cap' aa/\n'<=1000000)/\∃ (v:Int),bt Try.prog E 3 y (off+0+1) (I v)/\∀ (jF:Li×Bool) (n' cap' aa:Nat),Hyp (bM (out,o'.2) v (0:Int) (15:Int)=jF)->bG jF.1 n' cap' aa->((-10000000000000:Int)<=(0:Int)/\(59:Int)<=(10000000000000:Int))/\∃ (out:Li),((76=76/\2=2/\5=5/\vB jF.1=vB out)/\bG out n' cap' aa/\n'<=1000000)/\∃ (v:Int),bt Try.prog E 3 y (off+2) (I v)/\∀ (o':Li×Bool) (n' cap' aa:Nat),Hyp (bM (out,jF.2) v (0:Int) (59:Int)=o')->bG o'.1 n' cap' aa->((-10000000000000:Int)<=(0:Int)/\(1000000000:Int)<=(10000000000000:Int))/\∃ (out:Li),((76=76/\2=2/\5=5/\vB o'.1=vB out)/\bG out n' cap' aa/\n'<=1000000)/\∃ (v:Int),bt Try.prog E 3 y (off+3) (I v)/\∀ (oN:Li×Bool) (n' cap' aa:Nat),Hyp (bM (out,o'.2) v (0:Int) (1000000000:Int)=oN)->bG oN.1 n' cap' aa->Q (SV.bB []) [⟨76,Row.ae [SV.bH 6 0 n' cap',B oN.2],2,true⟩,⟨5,Row.ae [],0,false⟩,⟨129,Row.ae [SV.cr 74 (SV.loc 0 0)],1,true⟩,⟨5,Row.ae [],0,false⟩,⟨5,Row.ae [],0,false⟩,⟨5,Row.ae [],0,false⟩,⟨5,Row.vals (vB oN.1),aa,true⟩] E);refine ⟨by decide,_,⟨⟨rfl,rfl,rfl,rfl⟩,W,by omega⟩,_,hx 0 (by decide),λo1 n1 c1 t1 q1 W1=>?_⟩;have q1:bM (out,bad) (x.getD 0 0) (0) 59=o1:=q1;have l1:=eF q1 W W1;refine ⟨by decide,_,⟨⟨rfl,rfl,rfl,rfl⟩,W1,by omega⟩,_,hx 1 (by decide),λo2 n2 c2 t2 q2 W2=>?_⟩;have q2:bM o1 (x.getD 1 0) (0) 15=o2:=q2;have l2:=eF q2 W1 W2;refine ⟨by decide,_,⟨⟨rfl,rfl,rfl,rfl⟩,W2,by omega⟩,_,hx 2 (by decide),λo3 n3 c3 t3 q3 W3=>?_⟩;have q3:bM o2 (x.getD 2 0) (0) 59=o3:=q3;have l3:=eF q3 W2 W3;refine ⟨by decide,_,⟨⟨rfl,rfl,rfl,rfl⟩,W3,by omega⟩,_,hx 3 (by decide),λo4 n4 c4 t4 q4 W4=>?_⟩;have q4:bM o3 (x.getD 3 0) (0) 1000000000=o4:=q4;have l4:=eF q4 W3 W4;exact hQ _ _ (aq [some 0,some 1,some 2,some 6] (h o4 n4 c4 t4 (by show gR hY (out,bad) x=_;simp only [gR,hY,List.foldl,jw];rw [q1,q2,q3,q4]) W4) (cl bn))
def ia:List Item:=[(0,some (0,59)),(1,some (0,15)),(2,some (0,59)),(3,some (0,1000000000)),(4,some (0,1000000000))]
theorem e88 {out:Li} {x:Li} (W:bG out n cap tot) (hs:n<=900000) (hx:∀ j,j<5->bt Try.prog E 3 y (off+j) (.raw (.int .i64 (x.getD j 0))))
  (h:∀ (o':Li×Bool) (n' cap' aa:Nat),Hyp (gR ia (out,bad) x=o')->bG o'.1 n' cap' aa->KK (.bB []) [⟨76,.ae [.bH 3 0 n' cap',B o'.2],2,true⟩,cI,⟨129,.ae [.cr 74 (.loc 0 0)],1,true⟩,⟨5,.vals (vB o'.1),aa,true⟩] E) (hQ:∀ s bA,bT 3 KK s bA E->Q s bA E):
  ej Y1 6 Try.f88 [.rp y off,.loc 2 0] [⟨76,.ae [.bH 1 0 n cap,B bad],2,true⟩,⟨5,.vals (vB out),tot,true⟩,⟨129,.ae [.cr 74 (.loc 0 0)],1,true⟩] E Q:=by
 refine dO (?_:((-10000000000000:Int)<=(0:Int)/\(59:Int)<=(10000000000000:Int))/\∃ (bI:Li),((76=76/\2=2/\5=5/\vB out=vB bI)/\bG bI n cap tot/\n<=1000000)/\∃ (v:Int),bt Try.prog E 3 y (off+0+0) (I v)/\∀ (o':Li×Bool) (n' cap' aa:Nat),Hyp (bM (bI,bad) v (0:Int) (59:Int)=o')->bG o'.1 n' cap' aa->((-10000000000000:Int)<=(0:Int)/\(15:Int)<=(10000000000000:Int))/\∃ (out:Li),((76=76/\2=2/\5=5/\vB o'.1=vB out)/\bG out n' cap' aa/\n'<=1000000)/\∃ (v:Int),bt Try.prog E 3 y (off+0+1) (I v)/\∀ (jF:Li×Bool) (n' cap' aa:Nat),Hyp (bM (out,o'.2) v (0:Int) (15:Int)=jF)->bG jF.1 n' cap' aa->((-10000000000000:Int)<=(0:Int)/\(59:Int)<=(10000000000000:Int))/\∃ (out:Li),((76=76/\2=2/\5=5/\vB jF.1=vB out)/\bG out n' cap' aa/\n'<=1000000)/\∃ (v:Int),bt Try.prog E 3 y (off+2) (I v)/\∀ (o':Li×Bool) (n' cap' aa:Nat),Hyp (bM (out,jF.2) v (0:Int) (59:Int)=o')->bG o'.1 n' cap' aa->((-10000000000000:Int)<=(0:Int)/\(1000000000:Int)<=(10000000000000:Int))/\∃ (out:Li),((76=76/\2=2/\5=5/\vB o'.1=vB out)/\bG out n' cap' aa/\n'<=1000000)/\∃ (v:Int),bt Try.prog E 3 y (off+3) (I v)/\∀ (oN:Li×Bool) (n' cap' aa:Nat),Hyp (bM (out,o'.2) v (0:Int) (1000000000:Int)=oN)->bG oN.1 n' cap' aa->((-10000000000000:Int)<=(0:Int)/\(1000000000:Int)<=(10000000000000:Int))/\∃ (out:Li),((76=76/\2=2/\5=5/\vB oN.1=vB out)/\bG out n' cap' aa/\n'<=1000000)/\∃ (v:Int),bt Try.prog E 3 y (off+4) (I v)/\∀ (o':Li×Bool) (n' cap' aa:Nat),Hyp (bM (out,oN.2) v (0:Int) (1000000000:Int)=o')->bG o'.1 n' cap' aa->Q (SV.bB []) [⟨76,Row.ae [SV.bH 8 0 n' cap',B o'.2],2,true⟩,⟨5,Row.ae [],0,false⟩,⟨129,Row.ae [SV.cr 74 (SV.loc 0 0)],1,true⟩,⟨5,Row.ae [],0,false⟩,⟨5,Row.ae [],0,false⟩,⟨5,Row.ae [],0,false⟩,⟨131,Row.ae [SV.rp y (off+3),SV.rp y (off+4)],2,true⟩,⟨5,Row.ae [],0,false⟩,⟨5,Row.vals (vB o'.1),aa,true⟩] E);refine ⟨by decide,_,⟨⟨rfl,rfl,rfl,rfl⟩,W,by omega⟩,_,hx 0 (by decide),λo1 n1 c1 t1 q1 W1=>?_⟩;have q1:bM (out,bad) (x.getD 0 0) (0) 59=o1:=q1;have l1:=eF q1 W W1;refine ⟨by decide,_,⟨⟨rfl,rfl,rfl,rfl⟩,W1,by omega⟩,_,hx 1 (by decide),λo2 n2 c2 t2 q2 W2=>?_⟩;have q2:bM o1 (x.getD 1 0) (0) 15=o2:=q2;have l2:=eF q2 W1 W2;refine ⟨by decide,_,⟨⟨rfl,rfl,rfl,rfl⟩,W2,by omega⟩,_,hx 2 (by decide),λo3 n3 c3 t3 q3 W3=>?_⟩;have q3:bM o2 (x.getD 2 0) (0) 59=o3:=q3;have l3:=eF q3 W2 W3;refine ⟨by decide,_,⟨⟨rfl,rfl,rfl,rfl⟩,W3,by omega⟩,_,hx 3 (by decide),λo4 n4 c4 t4 q4 W4=>?_⟩;have q4:bM o3 (x.getD 3 0) (0) 1000000000=o4:=q4;have l4:=eF q4 W3 W4;refine ⟨by decide,_,⟨⟨rfl,rfl,rfl,rfl⟩,W4,by omega⟩,_,hx 4 (by decide),λo5 n5 c5 t5 q5 W5=>?_⟩;have q5:bM o4 (x.getD 4 0) (0) 1000000000=o5:=q5;have l5:=eF q5 W4 W5;exact hQ _ _ (aq [some 0,some 1,some 2,some 8] (h o5 n5 c5 t5 (by show gR ia (out,bad) x=_;simp only [gR,ia,List.foldl,jw];rw [q1,q2,q3,q4,q5]) W5) (cl bn))
def ic:List Item:=[(0,some (0,59)),(1,some (0,15)),(2,some (0,59))]
theorem e90 {out:Li} {x:Li} (W:bG out n cap tot) (hs:n<=900000) (hx:∀ j,j<3->bt Try.prog E 3 y (off+j) (.raw (.int .i64 (x.getD j 0))))
  (h:∀ (o':Li×Bool) (n' cap' aa:Nat),Hyp (gR ic (out,bad) x=o')->bG o'.1 n' cap' aa->KK (.bB []) [⟨76,.ae [.bH 3 0 n' cap',B o'.2],2,true⟩,cI,⟨129,.ae [.cr 74 (.loc 0 0)],1,true⟩,⟨5,.vals (vB o'.1),aa,true⟩] E) (hQ:∀ s bA,bT 3 KK s bA E->Q s bA E):
  ej Y1 6 Try.f90 [.rp y off,.loc 2 0] [⟨76,.ae [.bH 1 0 n cap,B bad],2,true⟩,⟨5,.vals (vB out),tot,true⟩,⟨129,.ae [.cr 74 (.loc 0 0)],1,true⟩] E Q:=by
 refine dO (?_:((-10000000000000:Int)<=(0:Int)/\(59:Int)<=(10000000000000:Int))/\∃ (bI:Li),((76=76/\2=2/\5=5/\vB out=vB bI)/\bG bI n cap tot/\n<=1000000)/\∃ (v:Int),bt Try.prog E 3 y (off+0+0) (I v)/\∀ (o':Li×Bool) (n' cap' aa:Nat),Hyp (bM (bI,bad) v (0:Int) (59:Int)=o')->bG o'.1 n' cap' aa->((-10000000000000:Int)<=(0:Int)/\(15:Int)<=(10000000000000:Int))/\∃ (out:Li),((76=76/\2=2/\5=5/\vB o'.1=vB out)/\bG out n' cap' aa/\n'<=1000000)/\∃ (v:Int),bt Try.prog E 3 y (off+0+1) (I v)/\∀ (jF:Li×Bool) (n' cap' aa:Nat),Hyp (bM (out,o'.2) v (0:Int) (15:Int)=jF)->bG jF.1 n' cap' aa->((-10000000000000:Int)<=(0:Int)/\(59:Int)<=(10000000000000:Int))/\∃ (out:Li),((76=76/\2=2/\5=5/\vB jF.1=vB out)/\bG out n' cap' aa/\n'<=1000000)/\∃ (v:Int),bt Try.prog E 3 y (off+2) (I v)/\∀ (o':Li×Bool) (n' cap' aa:Nat),Hyp (bM (out,jF.2) v (0:Int) (59:Int)=o')->bG o'.1 n' cap' aa->Q (SV.bB []) [⟨76,Row.ae [SV.bH 5 0 n' cap',B o'.2],2,true⟩,⟨5,Row.ae [],0,false⟩,⟨129,Row.ae [SV.cr 74 (SV.loc 0 0)],1,true⟩,⟨5,Row.ae [],0,false⟩,⟨5,Row.ae [],0,false⟩,⟨5,Row.vals (vB o'.1),aa,true⟩] E);refine ⟨by decide,_,⟨⟨rfl,rfl,rfl,rfl⟩,W,by omega⟩,_,hx 0 (by decide),λo1 n1 c1 t1 q1 W1=>?_⟩;have q1:bM (out,bad) (x.getD 0 0) (0) 59=o1:=q1;have l1:=eF q1 W W1;refine ⟨by decide,_,⟨⟨rfl,rfl,rfl,rfl⟩,W1,by omega⟩,_,hx 1 (by decide),λo2 n2 c2 t2 q2 W2=>?_⟩;have q2:bM o1 (x.getD 1 0) (0) 15=o2:=q2;have l2:=eF q2 W1 W2;refine ⟨by decide,_,⟨⟨rfl,rfl,rfl,rfl⟩,W2,by omega⟩,_,hx 2 (by decide),λo3 n3 c3 t3 q3 W3=>?_⟩;have q3:bM o2 (x.getD 2 0) (0) 59=o3:=q3;have l3:=eF q3 W2 W3;exact hQ _ _ (aq [some 0,some 1,some 2,some 5] (h o3 n3 c3 t3 (by show gR ic (out,bad) x=_;simp only [gR,ic,List.foldl,jw];rw [q1,q2,q3]) W3) (cl bn))
def ig:List Item:=[(0,some (0,59)),(2,some (0,1000000000)),(1,none),(3,none)]
theorem e92 {out:Li} {x:Li} (W:bG out n cap tot) (hs:n<=900000) (hx:∀ j,j<4->bt Try.prog E 3 y (off+j) (.raw (.int .i64 (x.getD j 0))))
  (h:∀ (o':Li×Bool) (n' cap' aa:Nat),Hyp (gR ig (out,bad) x=o')->bG o'.1 n' cap' aa->KK (.bB []) [⟨76,.ae [.bH 3 0 n' cap',B o'.2],2,true⟩,cI,⟨129,.ae [.cr 74 (.loc 0 0)],1,true⟩,⟨5,.vals (vB o'.1),aa,true⟩] E) (hQ:∀ s bA,bT 3 KK s bA E->Q s bA E):
  ej Y1 6 Try.f92 [.rp y off,.loc 2 0] [⟨76,.ae [.bH 1 0 n cap,B bad],2,true⟩,⟨5,.vals (vB out),tot,true⟩,⟨129,.ae [.cr 74 (.loc 0 0)],1,true⟩] E Q:=by
 refine dO (?_:((-10000000000000:Int)<=(0:Int)/\(59:Int)<=(10000000000000:Int))/\∃ (bI:Li),((76=76/\2=2/\5=5/\vB out=vB bI)/\bG bI n cap tot/\n<=1000000)/\∃ (v:Int),bt Try.prog E 3 y (off+0) (I v)/\∀ (o':Li×Bool) (n' cap' aa:Nat),Hyp (bM (bI,bad) v (0:Int) (59:Int)=o')->bG o'.1 n' cap' aa->((-10000000000000:Int)<=(0:Int)/\(1000000000:Int)<=(10000000000000:Int))/\∃ (out:Li),((76=76/\2=2/\5=5/\vB o'.1=vB out)/\bG out n' cap' aa/\n'<=1000000)/\∃ (v:Int),bt Try.prog E 3 y (off+2) (I v)/\∀ (jF:Li×Bool) (n' cap' aa:Nat),Hyp (bM (out,o'.2) v (0:Int) (1000000000:Int)=jF)->bG jF.1 n' cap' aa->∃ (out:Li),((76=76/\2=2/\5=5/\vB jF.1=vB out)/\bG out n' cap' aa/\n'<=1000000)/\∃ (v:Int),bt Try.prog E 3 y (off+1) (I v)/\∃ (out:Li),((76=76/\2=2/\5=5/\vB jF.1=vB out)/\bG out n' cap' aa/\n'<=1000000)/\∃ (v_1:Int),bt Try.prog E 3 y (off+3) (I v_1)/\Q (SV.bB []) [⟨76,Row.ae [SV.bH 4 0 n' cap',B (jF.2||v !=(0:Int)||v_1 !=(0:Int))],2,true⟩,⟨5,Row.ae [],0,false⟩,⟨129,Row.ae [SV.cr 74 (SV.loc 0 0)],1,true⟩,⟨5,Row.ae [],0,false⟩,⟨5,Row.vals (vB jF.1),aa,true⟩] E);refine ⟨by decide,_,⟨⟨rfl,rfl,rfl,rfl⟩,W,by omega⟩,_,hx 0 (by decide),λo1 n1 c1 t1 q1 W1=>?_⟩;have q1:bM (out,bad) (x.getD 0 0) (0) 59=o1:=q1;have l1:=eF q1 W W1;refine ⟨by decide,_,⟨⟨rfl,rfl,rfl,rfl⟩,W1,by omega⟩,_,hx 2 (by decide),λo2 n2 c2 t2 q2 W2=>?_⟩;have q2:bM o1 (x.getD 2 0) (0) 1000000000=o2:=q2;have l2:=eF q2 W1 W2;refine ⟨_,⟨⟨rfl,rfl,rfl,rfl⟩,W2,by omega⟩,_,hx 1 (by decide),?_⟩;refine ⟨_,⟨⟨rfl,rfl,rfl,rfl⟩,W2,by omega⟩,_,hx 3 (by decide),?_⟩;exact hQ _ _ (aq [some 0,some 1,some 2,some 4] (h (o2.1,o2.2||x.getD 1 0 !=0||x.getD 3 0 !=0) n2 c2 t2 (by show gR ig (out,bad) x=_;simp only [gR,ig,List.foldl,jw,qS];rw [q1,q2]) W2) (cl bn))
def gB:List Item:=[(0,some (1,4)),(1,some (0,59)),(2,some (-1,59)),(3,some (0,10000000000000)),(4,some (0,10000000000000)),(5,some (0,2000000)),(6,some (0,500002)),(7,some (0,500002))]
theorem e94 {out:Li} {x:Li} (W:bG out n cap tot) (hs:n<=900000) (hx:∀ j,j<8->bt Try.prog E 3 y (off+j) (.raw (.int .i64 (x.getD j 0))))
  (h:∀ (o':Li×Bool) (n' cap' aa:Nat),Hyp (gR gB (out,bad) x=o')->bG o'.1 n' cap' aa->KK (.bB []) [⟨76,.ae [.bH 3 0 n' cap',B o'.2],2,true⟩,cI,⟨129,.ae [.cr 74 (.loc 0 0)],1,true⟩,⟨5,.vals (vB o'.1),aa,true⟩] E) (hQ:∀ s bA,bT 3 KK s bA E->Q s bA E):
  ej Y1 6 Try.f94 [.rp y off,.loc 2 0] [⟨76,.ae [.bH 1 0 n cap,B bad],2,true⟩,⟨5,.vals (vB out),tot,true⟩,⟨129,.ae [.cr 74 (.loc 0 0)],1,true⟩] E Q:=by
 refine dO (?_:((-10000000000000:Int)<=(1:Int)/\(4:Int)<=(10000000000000:Int))/\∃ (bI:Li),((76=76/\2=2/\5=5/\vB out=vB bI)/\bG bI n cap tot/\n<=1000000)/\∃ (v:Int),bt Try.prog E 3 y (off+0) (I v)/\∀ (o':Li×Bool) (n' cap' aa:Nat),Hyp (bM (bI,bad) v (1:Int) (4:Int)=o')->bG o'.1 n' cap' aa->((-10000000000000:Int)<=(0:Int)/\(59:Int)<=(10000000000000:Int))/\∃ (out:Li),((76=76/\2=2/\5=5/\vB o'.1=vB out)/\bG out n' cap' aa/\n'<=1000000)/\∃ (v:Int),bt Try.prog E 3 y (off+1) (I v)/\∀ (jF:Li×Bool) (n' cap' aa:Nat),Hyp (bM (out,o'.2) v (0:Int) (59:Int)=jF)->bG jF.1 n' cap' aa->((-10000000000000:Int)<=(-1:Int)/\(59:Int)<=(10000000000000:Int))/\∃ (out:Li),((76=76/\2=2/\5=5/\vB jF.1=vB out)/\bG out n' cap' aa/\n'<=1000000)/\∃ (v:Int),bt Try.prog E 3 y (off+2) (I v)/\∀ (o':Li×Bool) (n' cap' aa:Nat),Hyp (bM (out,jF.2) v (-1:Int) (59:Int)=o')->bG o'.1 n' cap' aa->((-10000000000000:Int)<=(0:Int)/\(10000000000000:Int)<=(10000000000000:Int))/\∃ (out:Li),((76=76/\2=2/\5=5/\vB o'.1=vB out)/\bG out n' cap' aa/\n'<=1000000)/\∃ (v:Int),bt Try.prog E 3 y (off+3) (I v)/\∀ (oN:Li×Bool) (n' cap' aa:Nat),Hyp (bM (out,o'.2) v (0:Int) (10000000000000:Int)=oN)->bG oN.1 n' cap' aa->((-10000000000000:Int)<=(0:Int)/\(10000000000000:Int)<=(10000000000000:Int))/\∃ (out:Li),((76=76/\2=2/\5=5/\vB oN.1=vB out)/\bG out n' cap' aa/\n'<=1000000)/\∃ (v:Int),bt Try.prog E 3 y (off+4) (I v)/\∀ (o':Li×Bool) (n' cap' aa:Nat),Hyp (bM (out,oN.2) v (0:Int) (10000000000000:Int)=o')->bG o'.1 n' cap' aa->((-10000000000000:Int)<=(0:Int)/\(2000000:Int)<=(10000000000000:Int))/\∃ (out:Li),((76=76/\2=2/\5=5/\vB o'.1=vB out)/\bG out n' cap' aa/\n'<=1000000)/\∃ (v:Int),bt Try.prog E 3 y (off+5) (I v)/\∀ (zK:Li×Bool) (n' cap' aa:Nat),Hyp (bM (out,o'.2) v (0:Int) (2000000:Int)=zK)->bG zK.1 n' cap' aa->((-10000000000000:Int)<=(0:Int)/\(500002:Int)<=(10000000000000:Int))/\∃ (out:Li),((76=76/\2=(2:Nat)/\5=(5:Nat)/\vB zK.1=vB out)/\bG out n' cap' aa/\n'<=(1000000:Nat))/\∃ (v:Int),bt Try.prog E 3 y (off+(6:Nat)+0) (I v)/\∀ (o':Li×Bool) (n' cap' aa:Nat),Hyp (bM (out,zK.2) v (0:Int) (500002:Int)=o')->bG o'.1 n' cap' aa->((-10000000000000:Int)<=(0:Int)/\(500002:Int)<=(10000000000000:Int))/\∃ (out:Li),(((76:Nat)=(76:Nat)/\(2:Nat)=(2:Nat)/\(5:Nat)=(5:Nat)/\vB o'.1=vB out)/\bG out n' cap' aa/\n'<=(1000000:Nat))/\∃ (v:Int),bt Try.prog E (3:Nat) y (off+(6:Nat)+(1:Nat)) (I v)/\∀ (zL:Li×Bool) (n' cap' aa:Nat),Hyp (bM (out,o'.2) v (0:Int) (500002:Int)=zL)->bG zL.1 n' cap' aa->Q (SV.bB []) [⟨(76:Nat),Row.ae [SV.bH (12:Nat) (0:Nat) n' cap',B zL.2],(2:Nat),true⟩,⟨(5:Nat),Row.ae [],(0:Nat),false⟩,⟨(129:Nat),Row.ae [SV.cr (74:Nat) (SV.loc (0:Nat) (0:Nat))],(1:Nat),true⟩,⟨(5:Nat),Row.ae [],(0:Nat),false⟩,⟨(5:Nat),Row.ae [],(0:Nat),false⟩,⟨(5:Nat),Row.ae [],(0:Nat),false⟩,⟨(131:Nat),Row.ae [SV.rp y (off+(3:Nat)),SV.rp y (off+(4:Nat))],(2:Nat),true⟩,⟨(5:Nat),Row.ae [],(0:Nat),false⟩,⟨(5:Nat),Row.ae [],(0:Nat),false⟩,⟨(5:Nat),Row.ae [],(0:Nat),false⟩,⟨(131:Nat),Row.ae [SV.rp y (off+(6:Nat)+(0:Nat)),SV.rp y (off+(6:Nat)+(1:Nat))],(2:Nat),true⟩,⟨(5:Nat),Row.ae [],(0:Nat),false⟩,⟨(5:Nat),Row.vals (vB zL.1),aa,true⟩] E);refine ⟨by decide,_,⟨⟨rfl,rfl,rfl,rfl⟩,W,by omega⟩,_,hx 0 (by decide),λo1 n1 c1 t1 q1 W1=>?_⟩;have q1:bM (out,bad) (x.getD 0 0) (1) 4=o1:=q1;have l1:=eF q1 W W1;refine ⟨by decide,_,⟨⟨rfl,rfl,rfl,rfl⟩,W1,by omega⟩,_,hx 1 (by decide),λo2 n2 c2 t2 q2 W2=>?_⟩;have q2:bM o1 (x.getD 1 0) (0) 59=o2:=q2;have l2:=eF q2 W1 W2;refine ⟨by decide,_,⟨⟨rfl,rfl,rfl,rfl⟩,W2,by omega⟩,_,hx 2 (by decide),λo3 n3 c3 t3 q3 W3=>?_⟩;have q3:bM o2 (x.getD 2 0) (-1) 59=o3:=q3;have l3:=eF q3 W2 W3;refine ⟨by decide,_,⟨⟨rfl,rfl,rfl,rfl⟩,W3,by omega⟩,_,hx 3 (by decide),λo4 n4 c4 t4 q4 W4=>?_⟩;have q4:bM o3 (x.getD 3 0) (0) 10000000000000=o4:=q4;have l4:=eF q4 W3 W4;refine ⟨by decide,_,⟨⟨rfl,rfl,rfl,rfl⟩,W4,by omega⟩,_,hx 4 (by decide),λo5 n5 c5 t5 q5 W5=>?_⟩;have q5:bM o4 (x.getD 4 0) (0) 10000000000000=o5:=q5;have l5:=eF q5 W4 W5;refine ⟨by decide,_,⟨⟨rfl,rfl,rfl,rfl⟩,W5,by omega⟩,_,hx 5 (by decide),λo6 n6 c6 t6 q6 W6=>?_⟩;have q6:bM o5 (x.getD 5 0) (0) 2000000=o6:=q6;have l6:=eF q6 W5 W6;refine ⟨by decide,_,⟨⟨rfl,rfl,rfl,rfl⟩,W6,by omega⟩,_,hx 6 (by decide),λo7 n7 c7 t7 q7 W7=>?_⟩;have q7:bM o6 (x.getD 6 0) (0) 500002=o7:=q7;have l7:=eF q7 W6 W7;refine ⟨by decide,_,⟨⟨rfl,rfl,rfl,rfl⟩,W7,by omega⟩,_,hx 7 (by decide),λo8 n8 c8 t8 q8 W8=>?_⟩;have q8:bM o7 (x.getD 7 0) (0) 500002=o8:=q8;have l8:=eF q8 W7 W8;exact hQ _ _ (aq [some 0,some 1,some 2,some 12] (h o8 n8 c8 t8 (by show gR gB (out,bad) x=_;simp only [gR,gB,List.foldl,jw];rw [q1,q2,q3,q4,q5,q6,q7,q8]) W8) (cl bn))
def iD:List Item:=[(0,some (0,59))]
theorem e68 {out:Li} {x:Li} (W:bG out n cap tot) (hs:n<=900000) (hx:∀ j,j<1->bt Try.prog E 3 y (off+j) (.raw (.int .i64 (x.getD j 0))))
  (h:∀ (o':Li×Bool) (n' cap' aa:Nat),Hyp (gR iD (out,bad) x=o')->bG o'.1 n' cap' aa->KK (.bB []) [⟨76,.ae [.bH 3 0 n' cap',B o'.2],2,true⟩,cI,⟨129,.ae [.cr 74 (.loc 0 0)],1,true⟩,⟨5,.vals (vB o'.1),aa,true⟩] E) (hQ:∀ s bA,bT 3 KK s bA E->Q s bA E):
  ej Y1 6 Try.f68 [.rp y off,.loc 2 0] [⟨76,.ae [.bH 1 0 n cap,B bad],2,true⟩,⟨5,.vals (vB out),tot,true⟩,⟨129,.ae [.cr 74 (.loc 0 0)],1,true⟩] E Q:=by
 refine dO (?_:((-10000000000000:Int)<=(0:Int)/\(59:Int)<=(10000000000000:Int))/\∃ (bI:Li),((76=76/\2=2/\5=5/\vB out=vB bI)/\bG bI n cap tot/\n<=1000000)/\∃ (v:Int),bt Try.prog E 3 y off (I v)/\∀ (o':Li×Bool) (n' cap' aa:Nat),Hyp (bM (bI,bad) v (0:Int) (59:Int)=o')->bG o'.1 n' cap' aa->Q (SV.bB []) [⟨76,Row.ae [SV.bH 3 0 n' cap',B o'.2],2,true⟩,⟨5,Row.ae [],0,false⟩,⟨129,Row.ae [SV.cr 74 (SV.loc 0 0)],1,true⟩,⟨5,Row.vals (vB o'.1),aa,true⟩] E);refine ⟨by decide,_,⟨⟨rfl,rfl,rfl,rfl⟩,W,by omega⟩,_,hx 0 (by decide),λo1 n1 c1 t1 q1 W1=>?_⟩;have q1:bM (out,bad) (x.getD 0 0) (0) 59=o1:=q1;have l1:=eF q1 W W1;exact hQ _ _ (aq [some 0,some 1,some 2,some 3] (h o1 n1 c1 t1 (by show gR iD (out,bad) x=_;simp only [gR,iD,List.foldl,jw];rw [q1]) W1) (cl bn))
theorem e96 {out:Li} {x:Li} (W:bG out n cap tot) (hs:n<=900000) (hx:∀ j,j<1->bt Try.prog E 32 y (off+j) (.raw (.int .u64 (x.getD j 0))))
  (h:∀ (o':Li×Bool) (n' cap' aa:Nat),Hyp (yK (out,bad) x=o')->bG o'.1 n' cap' aa->KK (.bB []) [⟨76,.ae [.bH 3 0 n' cap',B o'.2],2,true⟩,cI,⟨129,.ae [.cr 74 (.loc 0 0)],1,true⟩,⟨5,.vals (vB o'.1),aa,true⟩] E) (hQ:∀ s bA,bT 3 KK s bA E->Q s bA E):
  ej Y1 6 Try.f96 [.rp y off,.loc 2 0] [⟨76,.ae [.bH 1 0 n cap,B bad],2,true⟩,⟨5,.vals (vB out),tot,true⟩,⟨129,.ae [.cr 74 (.loc 0 0)],1,true⟩] E Q:=by
 refine dO (?_:∃ (bI:Li),((76=76/\2=2/\5=5/\vB out=vB bI)/\bG bI n cap tot/\n<=1000000)/\∃ (v:Int),bt Try.prog E 32 y off (SV.raw (Value.int IntKind.u64 v))/\∀ (o':Li×Bool) (n' cap' aa:Nat),Hyp ((bI++fQ v,bad)=o')->bG o'.1 n' cap' aa->Q (SV.bB []) [⟨76,Row.ae [SV.bH 3 0 n' cap',B o'.2],2,true⟩,⟨5,Row.ae [],0,false⟩,⟨129,Row.ae [SV.cr 74 (SV.loc 0 0)],1,true⟩,⟨5,Row.vals (vB o'.1),aa,true⟩] E);refine ⟨_,⟨⟨rfl,rfl,rfl,rfl⟩,W,by omega⟩,_,hx 0 (by decide),λo1 n1 c1 t1 q1 W1=>?_⟩;have q1:my (out,bad) (x.getD 0 0)=o1:=q1;exact hQ _ _ (aq [some 0,some 1,some 2,some 3] (h o1 n1 c1 t1 q1 W1) (cl bn))
def cS (bx:List aR) (x:SV) (k:Nat->Nat->Nat->Li->Bool->Nat->Prop):Prop:=match x with
 | .loc c 0=>match bx[c]? with
  | some ⟨e,.ae [.cr t (.loc w 0)],tt,true⟩=>(e=129/\t=74/\tt=1)/\wS bx (.loc w 0) (λ_ _=>False) (λw o out bad n _=>k c w o out bad n)
  | _=>False
 | _=>False
theorem mZ {x:SV} {k:Nat->Nat->Nat->Li->Bool->Nat->Prop} (h:cS bx x k):
  ∃ c w o out bad n cap tot,x= .loc c 0/\bx[c]? =some ⟨129,.ae [.cr 74 (.loc w 0)],1,true⟩/\GC bx w o out bad n cap tot/\k c w o out bad n:=by
 unfold cS at h;split at h;case h_2=>exact h.elim
 rename_i c;split at h;case h_2=>exact h.elim
 rename_i e t w tt hc;obtain ⟨⟨rfl,rfl,rfl⟩,h⟩:=h;rcases qM h with ⟨w',o,out,bad,n,cap,tot,e,W,hk⟩|⟨w,bad,e,hw,hx⟩
 ·cases e;exact ⟨c,w,o,out,bad,n,cap,tot,rfl,hc,W,hk⟩
 ·exact hx.elim
theorem gY {a b:aR} (hi:bx[i]? =some a) (hj:bx[j]? =some b) (h:a.elem≠b.elem):i≠j:=by rintro rfl;rw [hi] at hj;cases hj;exact h rfl
theorem rJ {out:Li} {F:Li×Bool->Li×Bool} {K:KT} (hc:bx[c]? =some ⟨129,.ae [.cr 74 (.loc w 0)],1,true⟩) (W:GC bx w o out bad n cap tot)
  (he:∀ KK:KT,(∀ (o':Li×Bool) (n' cap' aa:Nat),Hyp (F (out,bad)=o')->bG o'.1 n' cap' aa->KK (.bB []) [⟨76,.ae [.bH 3 0 n' cap',B o'.2],2,true⟩,cI,⟨129,.ae [.cr 74 (.loc 0 0)],1,true⟩,⟨5,.vals (vB o'.1),aa,true⟩] E)->
   aj Try.prog f [.rp y off,.loc 2 0] [⟨76,.ae [.bH 1 0 n cap,B bad],2,true⟩,⟨5,.vals (vB out),tot,true⟩,⟨129,.ae [.cr 74 (.loc 0 0)],1,true⟩] E (bT 3 KK))
  (hk:∀ (o':Li×Bool) (n' cap' aa:Nat),Hyp (F (out,bad)=o')->bG o'.1 n' cap' aa->K (.bB []) (yf bx w o o' n' cap' aa) E):aj Try.prog f [.rp y off,.loc c 0] bx E K:=by
 have h1:=W.ne;have h2:w≠c:=gY W.hw hc (by show (76:Nat)≠129;decide);have h3:o≠c:=gY W.ho hc (by show (5:Nat)≠129;decide);refine aj.hand (σ:=[w,o,c]) (pH:=[⟨76,.ae [.bH 1 0 n cap,B bad],2,true⟩,⟨5,.vals (vB out),tot,true⟩,⟨129,.ae [.cr 74 (.loc 0 0)],1,true⟩]) ⟨by simp [h1,h2,h3],rfl,λi b hb=>?_⟩ (args':=[.rp y off,.loc 2 0]) ?_ (he _ λo' n' cap' aa hq hW=>?_)
 ·match i,hb with
  | 0,hb=>
   simp only [List.getElem?_cons_zero,Option.some.injEq] at hb;subst hb;exact ⟨rfl,w,rfl,by simpa [aR.cD,Row.cD,SV.dL,SV.cD,dW] using W.hw⟩
  | 1,hb=>
   simp only [List.getElem?_cons_succ,List.getElem?_cons_zero,Option.some.injEq] at hb;subst hb;exact ⟨rfl,o,rfl,by simpa [aR.cD,Row.cD,SV.dL,SV.cD,dW] using W.ho⟩
  | 2,hb=>
   simp only [List.getElem?_cons_succ,List.getElem?_cons_zero,Option.some.injEq] at hb;subst hb;exact ⟨rfl,c,rfl,by simpa [aR.cD,Row.cD,SV.dL,SV.cD,dW] using hc⟩
  | j+3,hb=>simp at hb
 ·simp only [SV.dL,SV.cD,dW,List.getElem?_cons_zero,List.getElem?_cons_succ]
 ·simp only [SV.cD,SV.dL,merge,fj,List.take,List.drop,List.map,List.length_cons,List.length_nil,aR.cD,Row.cD,dW,List.getElem?_cons_zero,List.getElem?_cons_succ];rw [gK (p:=c) (by rw [List.getElem?_set_ne h3,List.getElem?_set_ne h2];exact hc)];simpa using hk o' n' cap' aa hq hW
noncomputable def GN:cK:=λf args bx E K=>match f with
 | 85=>d2 args λx0 x1=>(match x0 with | .rp y off=>cS bx x1 λc w o out bad n=>∃ x:Li,(n<=900000/\∀ j,j<4->bt Try.prog E 3 y (off+j) (.raw (.int .i64 (x.getD j 0))))/\∀ (o':Li×Bool) (n' cap' aa:Nat),Hyp (gR hY (out,bad) x=o')->bG o'.1 n' cap' aa->K (.bB []) (yf bx w o o' n' cap' aa) E|_=>False)
 | 88=>d2 args λx0 x1=>(match x0 with | .rp y off=>cS bx x1 λc w o out bad n=>∃ x:Li,(n<=900000/\∀ j,j<5->bt Try.prog E 3 y (off+j) (.raw (.int .i64 (x.getD j 0))))/\∀ (o':Li×Bool) (n' cap' aa:Nat),Hyp (gR ia (out,bad) x=o')->bG o'.1 n' cap' aa->K (.bB []) (yf bx w o o' n' cap' aa) E|_=>False)
 | 90=>d2 args λx0 x1=>(match x0 with | .rp y off=>cS bx x1 λc w o out bad n=>∃ x:Li,(n<=900000/\∀ j,j<3->bt Try.prog E 3 y (off+j) (.raw (.int .i64 (x.getD j 0))))/\∀ (o':Li×Bool) (n' cap' aa:Nat),Hyp (gR ic (out,bad) x=o')->bG o'.1 n' cap' aa->K (.bB []) (yf bx w o o' n' cap' aa) E|_=>False)
 | 92=>d2 args λx0 x1=>(match x0 with | .rp y off=>cS bx x1 λc w o out bad n=>∃ x:Li,(n<=900000/\∀ j,j<4->bt Try.prog E 3 y (off+j) (.raw (.int .i64 (x.getD j 0))))/\∀ (o':Li×Bool) (n' cap' aa:Nat),Hyp (gR ig (out,bad) x=o')->bG o'.1 n' cap' aa->K (.bB []) (yf bx w o o' n' cap' aa) E|_=>False)
 | 94=>d2 args λx0 x1=>(match x0 with | .rp y off=>cS bx x1 λc w o out bad n=>∃ x:Li,(n<=900000/\∀ j,j<8->bt Try.prog E 3 y (off+j) (.raw (.int .i64 (x.getD j 0))))/\∀ (o':Li×Bool) (n' cap' aa:Nat),Hyp (gR gB (out,bad) x=o')->bG o'.1 n' cap' aa->K (.bB []) (yf bx w o o' n' cap' aa) E|_=>False)
 | 68=>d2 args λx0 x1=>(match x0 with | .rp y off=>cS bx x1 λc w o out bad n=>∃ x:Li,(n<=900000/\∀ j,j<1->bt Try.prog E 3 y (off+j) (.raw (.int .i64 (x.getD j 0))))/\∀ (o':Li×Bool) (n' cap' aa:Nat),Hyp (gR iD (out,bad) x=o')->bG o'.1 n' cap' aa->K (.bB []) (yf bx w o o' n' cap' aa) E|_=>False)
 | 96=>d2 args λx0 x1=>(match x0 with | .rp y off=>cS bx x1 λc w o out bad n=>∃ x:Li,(n<=900000/\∀ j,j<1->bt Try.prog E 32 y (off+j) (.raw (.int .u64 (x.getD j 0))))/\∀ (o':Li×Bool) (n' cap' aa:Nat),Hyp (yK (out,bad) x=o')->bG o'.1 n' cap' aa->K (.bB []) (yf bx w o o' n' cap' aa) E|_=>False)
 | _=>False
theorem GO:∀ f args bx E K,GN f args bx E K->aj Try.prog f args bx E K:=by
 intro f args bx E K h;unfold GN at h;split at h
 ·obtain ⟨x0,x1,rfl,h1⟩:=ck h;split at h1;case h_2=>exact h1.elim
  rename_i y off;obtain ⟨c,w,o,out,bad,n,cap,tot,rfl,hc,W,x,⟨hs,hx⟩,hk⟩:=mZ h1;exact rJ (F:=λo=>gR hY o x) hc W (λKK ke=>jE B5 Try.func85 (e85 W.ok hs hx ke (λ_ _ q=>q))) hk
 ·obtain ⟨x0,x1,rfl,h1⟩:=ck h;split at h1;case h_2=>exact h1.elim
  rename_i y off;obtain ⟨c,w,o,out,bad,n,cap,tot,rfl,hc,W,x,⟨hs,hx⟩,hk⟩:=mZ h1;exact rJ (F:=λo=>gR ia o x) hc W (λKK ke=>jE B5 Try.func88 (e88 W.ok hs hx ke (λ_ _ q=>q))) hk
 ·obtain ⟨x0,x1,rfl,h1⟩:=ck h;split at h1;case h_2=>exact h1.elim
  rename_i y off;obtain ⟨c,w,o,out,bad,n,cap,tot,rfl,hc,W,x,⟨hs,hx⟩,hk⟩:=mZ h1;exact rJ (F:=λo=>gR ic o x) hc W (λKK ke=>jE B5 Try.func90 (e90 W.ok hs hx ke (λ_ _ q=>q))) hk
 ·obtain ⟨x0,x1,rfl,h1⟩:=ck h;split at h1;case h_2=>exact h1.elim
  rename_i y off;obtain ⟨c,w,o,out,bad,n,cap,tot,rfl,hc,W,x,⟨hs,hx⟩,hk⟩:=mZ h1;exact rJ (F:=λo=>gR ig o x) hc W (λKK ke=>jE B5 Try.func92 (e92 W.ok hs hx ke (λ_ _ q=>q))) hk
 ·obtain ⟨x0,x1,rfl,h1⟩:=ck h;split at h1;case h_2=>exact h1.elim
  rename_i y off;obtain ⟨c,w,o,out,bad,n,cap,tot,rfl,hc,W,x,⟨hs,hx⟩,hk⟩:=mZ h1;exact rJ (F:=λo=>gR gB o x) hc W (λKK ke=>jE B5 Try.func94 (e94 W.ok hs hx ke (λ_ _ q=>q))) hk
 ·obtain ⟨x0,x1,rfl,h1⟩:=ck h;split at h1;case h_2=>exact h1.elim
  rename_i y off;obtain ⟨c,w,o,out,bad,n,cap,tot,rfl,hc,W,x,⟨hs,hx⟩,hk⟩:=mZ h1;exact rJ (F:=λo=>gR iD o x) hc W (λKK ke=>jE B5 Try.func68 (e68 W.ok hs hx ke (λ_ _ q=>q))) hk
 ·obtain ⟨x0,x1,rfl,h1⟩:=ck h;split at h1;case h_2=>exact h1.elim
  rename_i y off;obtain ⟨c,w,o,out,bad,n,cap,tot,rfl,hc,W,x,⟨hs,hx⟩,hk⟩:=mZ h1;exact rJ (F:=λo=>yK o x) hc W (λKK ke=>jE B5 Try.func96 (e96 W.ok hs hx ke (λ_ _ q=>q))) hk
 ·exact h.elim
noncomputable def GP:cK:=λf args bx E K=>if f=120 then yH f args bx E K else GN f args bx E K
theorem GQ:∀ f args bx E K,GP f args bx E K->aj Try.prog f args bx E K:=by
 intro f args bx E K h;unfold GP at h;split at h
 ·exact sU _ _ _ _ _ h
 ·exact GO _ _ _ _ _ h
noncomputable def Y2:Cx:={ P:=Try.prog,inl:=λf=>List.contains [] f,jN:=λ_ _ _ _=>False,kH:=λf=>f==120||f==85||f==88||f==90||f==92||f==94||f==68||f==96,eY:=GP,opt:={ cq:=0,carry:=[38] },eo:=(λo=>match o with | .call _=>true|o=>dM o) }
theorem AT:bX Y2:=bX.four (λ_ _ _ _ h=>h.elim) (by kernel_rfl) (dN (by kernel_rfl)) GQ
abbrev RK (q:IntKind) (k:Nat):yc Li:=λ_ x r=>r=x.map (.int q)/\x.length=k
theorem bC (q:IntKind) (hk:0<k):lH k (RK q k) where
 mono _ h:=h
 len h:=by rw [h.1,List.length_map];exact h.2
 one h v hv:=by rw [h.1] at hv;obtain ⟨z,_,rfl⟩:=List.mem_map.1 hv;rfl
 pos:=hk
theorem iq (hk:0<k) {T:TypeId} (hT:Try.prog.underlying T=some (.int q)) (h:SL (RK q k) E b n c xs) {x:Li} (hx:xs[i]? =some x):
  ∀ j,j<k->bt Try.prog E T (.slice b n c) (i*k+j) (.raw (.int q (x.getD j 0))):=λj hj=>by
 obtain ⟨r,v,⟨h1,h2⟩,h3,h4⟩:=SL.Gq (bC q hk) h hT rfl hx hj;rw [h1,List.getElem?_map] at h3;rw [List.getD_eq_getElem?_getD];rw [List.getElem?_eq_getElem (by omega)] at h3 ⊢;simp only [Option.map_some,Option.some.injEq] at h3;rw [← h3] at h4;exact h4
def cg (F:Li×Bool->Li->Li×Bool) (hi:Int) (o:Li×Bool) (xs:Ll):Li×Bool:=
 if (xs.length:Int)>hi then bM o xs.length 0 hi else xs.foldl F (bM o xs.length 0 hi)
theorem AU {α β:Type} {f:β->α->β} {d:β} {ys:List α} {x:α} (h:ys[i]? =some x):(ys.take (i+1)).foldl f d=f ((ys.take i).foldl f d) x:=by obtain ⟨h1,h2⟩:=List.getElem?_eq_some_iff.1 h;rw [List.take_succ_eq_append_getElem h1,List.foldl_append,h2];rfl
theorem J6 (o:Li×Bool) (x:Li):(yK o x).1.length<=o.1.length+80:=by unfold yK my;simp [fQ]
def VP (cf:Nat) (o:Li×Bool) (n cap tot i m:Nat) (us:Lv) (e t off:Nat) (hi:Int) (E:Mem):St:=⟨[some (.cr 74 (.loc 0 0)),oc 2 off,oI hi,some (.fM cf [] [.loc 3 0])]++nn 33++[oI (m:Nat),oI (i:Nat)]++nn 10,[⟨76,.ae [.bH 4 0 n cap,B o.2],2,true⟩,cI,⟨e,.vals us,t,true⟩,⟨129,.ae [.cr 74 (.loc 0 0)],1,true⟩,⟨5,.vals (vB o.1),tot,true⟩],E⟩
def RwP (fn:Func) (cf k TS T:Nat) (w:Int) (q:IntKind) (F:Li×Bool->Li->Li×Bool) (o:Li×Bool) (n cap tot i m:Nat) (us:Lv) (e t off:Nat) (hi:Int) (E:Mem) (Q:KT):Prop:=bif decide ((i:Int)<(m:Int)) then ∃ (base:Oa) (len:Nat) (cC:Nat),gA Y2.P TS us off (L base len cC)/\cU (0<=(i:Int)/\(i:Int)<(len:Int)) ((∃ (cs:Lv),E (.slice base len cC) cs/\(cs=[]->False))/\(129=129/\74=74/\1=1)/\∃ (out:Li),((76=76/\2=2/\5=5/\vB o.1=vB out)/\bG out n cap tot/\n<=1000000)/\∃ (x:Li),(n<=900000/\∀ (j:Nat),j<k->bt Try.prog E T (.slice base len cC) (Int.toNat (i:Int)*k+j) (.raw (.int q (x.getD j 0))))/\∀ (o':Li×Bool) (n' cap' aa:Nat),Hyp (F (out,o.2) x=o')->bG o'.1 n' cap' aa->Lp Y2 6 fn [1,1,1,1,1,0] 4 Q ⟨[some (.cr 74 (.loc 0 0)),oc 2 off,oI hi,some (.fM cf [] [.loc 3 0])]++List.replicate 33 none++[oI (m:Nat),oI (IntKind.wrap .i64 ((i:Int)+1))]++List.replicate 10 none,[⟨76,.ae [.bH 5 0 n' cap',B o'.2],2,true⟩,cI,⟨e,.vals us,t,true⟩,⟨129,.ae [.cr 74 (.loc 0 0)],1,true⟩,⟨5,.ae [],0,false⟩,⟨5,.vals (vB o'.1),aa,true⟩],E⟩)
 else Q (.bB []) [⟨76,.ae [.bH 4 0 n cap,B o.2],2,true⟩,cI,⟨e,.vals us,t,true⟩,⟨129,.ae [.cr 74 (.loc 0 0)],1,true⟩,⟨5,.vals (vB o.1),tot,true⟩] E
def NwP (fn:Func) (cf k TS T:Nat) (w:Int) (q:IntKind) (F:Li×Bool->Li->Li×Bool) (o:Li×Bool) (n cap tot i m:Nat) (us:Lv) (e t off:Nat) (hi:Int) (E:Mem) (Q:KT):Prop:=∃ (base:Oa) (len:Nat) (cC:Nat),gA Y2.P TS us off (L base len cC)/\((-10000000000000:Int)<=(0:Int)/\hi<=(10000000000000:Int))/\∃ (bI:Li),((76=76/\2=2/\5=5/\vB o.1=vB bI)/\bG bI n cap tot/\n<=1000000)/\IntKind.i64=IntKind.i64/\∀ (o':Li×Bool) (n' cap' aa:Nat),Hyp (bM (bI,o.2) (len:Int) 0 hi=o')->bG o'.1 n' cap' aa->bif bif false then true else decide ((len:Int)>hi) then Q (.bB []) [⟨76,.ae [.bH 5 0 n' cap',B o'.2],2,true⟩,cI,⟨e,.vals us,t,true⟩,⟨129,.ae [.cr 74 (.loc 0 0)],1,true⟩,⟨3,.ae [I (len:Nat)],1,true⟩,⟨5,.vals (vB o'.1),aa,true⟩] E else ∃ (cm:Oa) (cJ:Nat) (cap:Nat),gA Y2.P TS us off (L cm cJ cap)/\Sx.Alike dw (bif (cJ:Int) !=(len:Int) then cU (0<=(len:Int)/\(len:Int)<=(len:Int)) (cU ((len:Int)*w<=(140737488355328:Int)) False) else ∃ (cn:Oa) (df:Nat) (cM:Nat),gA Y2.P TS us off (L cn df cM)/\Lp Y2 6 fn [1,1,1,1,1,0] 4 Q ⟨[some (.cr 74 (.loc 0 0)),oc 2 off,oI hi,some (.fM cf [] [.loc 3 0]),none,none,none,none,oc 4 0,none,oc 2 off,oc 2 off,oL base len cC,oI (len:Int),some (.cr 74 (.loc 0 0)),oI hi,some (.bB []),oI (len:Int),oB false,oB false,oI (len:Int),oI hi,oB (decide ((len:Int)>hi)),oB (bif false then true else decide ((len:Int)>hi)),oc 2 off,oc 2 off,oL cm cJ cap,oI (cJ:Int),oI (len:Int),oB ((cJ:Int) !=(len:Int)),none,none,none,none,oc 2 off,oc 2 off,oL cn df cM,oI (df:Int),oI 0]++List.replicate 10 none,[⟨76,.ae [.bH 5 0 n' cap',B o'.2],2,true⟩,cI,⟨e,.vals us,t,true⟩,⟨129,.ae [.cr 74 (.loc 0 0)],1,true⟩,⟨3,.ae [I (len:Nat)],1,true⟩,⟨5,.vals (vB o'.1),aa,true⟩],E⟩)
theorem nG {cf TS T:Nat} {w:Int} {F:Li×Bool->Li->Li×Bool} (hk:0<k) (hT:Try.prog.underlying T=some (.int q)) (hF:∀ o x,(F o x).1.length<=o.1.length+80) {o:Li×Bool} (ld:gA Y2.P TS us off (L b m c))
  (hR:∀ {o n cap tot i},RwP fn cf k TS T w q F o n cap tot i m us e t off hi E Q->jO Y2 6 fn [1,1,1,1,1,0] 4 Q (VP cf o n cap tot i m us e t off hi E))
  (X:SL (RK q k) E b m c xs) (W:bG o.1 n cap tot) (hn:n<=800000) (hh:0<=hi/\hi<=60)
  (h:∀ (o':Li×Bool) (n' cap' aa:Nat),Hyp (cg F hi o xs=o')->bG o'.1 n' cap' aa->n'<=n+5000->KK (.bB []) [⟨76,.ae [.bH 4 0 n' cap',B o'.2],2,true⟩,cI,⟨e,.vals us,t,true⟩,⟨129,.ae [.cr 74 (.loc 0 0)],1,true⟩,⟨5,.vals (vB o'.1),aa,true⟩] E) (hQ:∀ s bA,bT 4 KK s bA E->Q s bA E):
  NwP fn cf k TS T w q F o n cap tot 0 m us e t off hi E Q:=by
 have hl:=X.len;refine ⟨b,m,c,ld,⟨by decide,by omega⟩,_,⟨⟨rfl,rfl,rfl,rfl⟩,W,by omega⟩,rfl,λo1 n1 c1 t1 q1 W1=>?_⟩;have q1:bM o (m:Int) 0 hi=o1:=q1;have l1:=eF q1 W W1;refine ah (λg=>?_) (λg=>⟨b,m,c,ld,alike (ah (λg2=>absurd g2 (by simp)) (λ_=>⟨b,m,c,ld,?_⟩))⟩)
 ·have g:(m:Int)>hi:=by simpa using g
  exact hQ _ _ (aq [some 0,some 1,some 2,some 3,some 5] (h o1 n1 c1 t1 (by show cg F hi o xs=_;unfold cg;rw [if_pos (by omega),hl];exact q1) W1 (by omega)) ⟨⟨Nat.le_of_ble_eq_true rfl,Nat.le_of_ble_eq_true rfl,λj h=>(by have e:j=0\/j=1\/j=2\/j=3:=(by omega);rcases e with rfl|rfl|rfl|rfl<;>rfl)⟩,rfl,(by repeat' first|exact True.intro|refine And.intro (Or.inl rfl) ?_|refine And.intro (Or.inr ⟨rfl,rfl⟩) ?_),(by repeat' first|exact True.intro|exact rfl|exact Or.inl rfl|exact Or.inr ⟨rfl,rfl⟩|exact (by decide:1<6)|refine And.intro ?_ ?_),(show List.Nodup [0,2,3,5] from by decide),bn⟩)
 ·have g:¬ (m:Int)>hi:=by simpa using g
  have fin:cg F hi o xs=xs.foldl F o1:=by unfold cg;rw [if_neg (by omega),hl,q1]
  have key:=cu AT (n:=6) (fn:=fn) (p:=[1,1,1,1,1,0]) (n0:=4) (K:=Q) (λz:{z:Nat×(Li×Bool)×Nat×Nat×Nat//z.1<=m/\(xs.take z.1).foldl F o1=z.2.1/\bG z.2.1.1 z.2.2.1 z.2.2.2.1 z.2.2.2.2/\z.2.2.1<=n1+80*z.1}=>VP cf z.1.2.1 z.1.2.2.1 z.1.2.2.2.1 z.1.2.2.2.2 z.1.1 m us e t off hi E) (λz=>m-z.1.1)
   (λz ih=>by
    obtain ⟨⟨i,o,n2,c2,t2⟩,z1,z2,z3,z4⟩:=z;have z1:i<=m:=z1;have z4:n2<=n1+80*i:=z4;have z2:(xs.take i).foldl F o1=o:=z2;show jO Y2 6 fn [1,1,1,1,1,0] 4 Q (VP cf o n2 c2 t2 i m us e t off hi E);refine hR (ah (λg=>?_) (λg=>?_))
    ·have g:i<m:=by simpa using g
     obtain ⟨x,hx⟩:∃ x,xs[i]? =some x:=⟨_,List.getElem?_eq_getElem (by omega)⟩;have w:IntKind.wrap .i64 ((i:Int)+1)=((i+1:Nat):Int):=by rw [wrap_i64 (by omega)];omega
     rw [w];refine ⟨b,m,c,ld,af (by omega) ⟨SL.ne (bC q hk) X g,⟨rfl,rfl,rfl⟩,_,⟨⟨rfl,rfl,rfl,rfl⟩,z3,by omega⟩,x,⟨by omega,iq hk hT X hx⟩,λo' n' cap' aa q1 W'=>?_⟩⟩;have q1:F o x=o':=q1;have hlen:=hF o x;rw [q1,W'.len,z3.len] at hlen;exact bz [some 0,some 1,some 2,some 3,some 5] (ih ⟨⟨i+1,o',n',cap',aa⟩,g,by rw [AU hx,z2];exact q1,W',by show n'<=n1+80*(i+1);omega⟩ (by show m-(i+1)<m-i;omega)) ⟨⟨Nat.le_of_ble_eq_true rfl,Nat.le_of_ble_eq_true rfl,λj h=>(by have e:j=0\/j=1\/j=2\/j=3:=(by omega);rcases e with rfl|rfl|rfl|rfl<;>rfl)⟩,rfl,(by repeat' first|exact True.intro|refine And.intro (Or.inl rfl) ?_|refine And.intro (Or.inr ⟨rfl,rfl⟩) ?_),(by repeat' first|exact True.intro|exact rfl|exact Or.inl rfl|exact Or.inr ⟨rfl,rfl⟩|exact (by decide:1<6)|refine And.intro ?_ ?_),(show List.Nodup [0,2,3,5] from by decide),bn⟩
    ·have g:i=m:=by simp at g;omega
     subst g;rw [List.take_of_length_le (by omega)] at z2;exact hQ _ _ (aq [some 0,some 1,some 2,some 3,some 4] (h o n2 c2 t2 (by show cg F hi _ xs=_;rw [fin,z2]) z3 (by omega)) ⟨⟨Nat.le_of_ble_eq_true rfl,Nat.le_of_ble_eq_true rfl,λj h=>(by have e:j=0\/j=1\/j=2\/j=3:=(by omega);rcases e with rfl|rfl|rfl|rfl<;>rfl)⟩,rfl,(by repeat' first|exact True.intro|refine And.intro (Or.inl rfl) ?_|refine And.intro (Or.inr ⟨rfl,rfl⟩) ?_),(by repeat' first|exact True.intro|exact rfl|exact Or.inl rfl|exact Or.inr ⟨rfl,rfl⟩|exact (by decide:1<5)|refine And.intro ?_ ?_),(show List.Nodup [0,2,3,4] from by decide),bn⟩))
  exact bz [some 0,some 1,some 2,some 3,some 5] (key ⟨⟨0,o1,n1,c1,t1⟩,Nat.zero_le _,rfl,W1,by simp⟩) ⟨⟨Nat.le_of_ble_eq_true rfl,Nat.le_of_ble_eq_true rfl,λj h=>(by have e:j=0\/j=1\/j=2\/j=3:=(by omega);rcases e with rfl|rfl|rfl|rfl<;>rfl)⟩,rfl,(by repeat' first|exact True.intro|refine And.intro (Or.inl rfl) ?_|refine And.intro (Or.inr ⟨rfl,rfl⟩) ?_),(by repeat' first|exact True.intro|exact rfl|exact Or.inl rfl|exact Or.inr ⟨rfl,rfl⟩|exact (by decide:1<6)|refine And.intro ?_ ?_),(show List.Nodup [0,2,3,5] from by decide),bn⟩
theorem Ez (o:Li×Bool) (x:Li):(gR hY o x).1.length<=o.1.length+80:=by
 have h:=oM hY o x;have e:hY.length=4:=by decide
 omega
theorem n84 {out:Li} (hv:us[off]? =some (.slice b m c)) (X:SL (RK .i64 4) E b m c xs) (W:bG out n cap tot) (hn:n<=800000) (hh:0<=hi/\hi<=60)
  (h:∀ (o':Li×Bool) (n' cap' aa:Nat),Hyp (cg (gR hY) hi (out,bad) xs=o')->bG o'.1 n' cap' aa->n'<=n+5000->KK (.bB []) [⟨76,.ae [.bH 4 0 n' cap',B o'.2],2,true⟩,cI,⟨e,.vals us,t,true⟩,⟨129,.ae [.cr 74 (.loc 0 0)],1,true⟩,⟨5,.vals (vB o'.1),aa,true⟩] E) (hQ:∀ s bA,bT 4 KK s bA E->Q s bA E):
  ej Y2 6 Try.f84 [.cr 74 (.loc 0 0),.loc 2 off,I hi,.fM 85 [] [.loc 3 0]] [⟨76,.ae [.bH 1 0 n cap,B bad],2,true⟩,⟨5,.vals (vB out),tot,true⟩,⟨e,.vals us,t,true⟩,⟨129,.ae [.cr 74 (.loc 0 0)],1,true⟩] E Q:=
 same (by kernel_rfl) (nG (fn:=Try.f84) (cf:=85) (k:=4) (TS:=26) (T:=3) (w:=32) (q:=.i64) (o:=(out,bad)) (by decide) rfl Ez (ez rfl rfl hv) (λh=>same (by kernel_rfl) h) X W hn hh h hQ)
theorem EA (o:Li×Bool) (x:Li):(gR ia o x).1.length<=o.1.length+80:=by
 have h:=oM ia o x;have e:ia.length=5:=by decide
 omega
theorem n87 {out:Li} (hv:us[off]? =some (.slice b m c)) (X:SL (RK .i64 5) E b m c xs) (W:bG out n cap tot) (hn:n<=800000) (hh:0<=hi/\hi<=60)
  (h:∀ (o':Li×Bool) (n' cap' aa:Nat),Hyp (cg (gR ia) hi (out,bad) xs=o')->bG o'.1 n' cap' aa->n'<=n+5000->KK (.bB []) [⟨76,.ae [.bH 4 0 n' cap',B o'.2],2,true⟩,cI,⟨e,.vals us,t,true⟩,⟨129,.ae [.cr 74 (.loc 0 0)],1,true⟩,⟨5,.vals (vB o'.1),aa,true⟩] E) (hQ:∀ s bA,bT 4 KK s bA E->Q s bA E):
  ej Y2 6 Try.f87 [.cr 74 (.loc 0 0),.loc 2 off,I hi,.fM 88 [] [.loc 3 0]] [⟨76,.ae [.bH 1 0 n cap,B bad],2,true⟩,⟨5,.vals (vB out),tot,true⟩,⟨e,.vals us,t,true⟩,⟨129,.ae [.cr 74 (.loc 0 0)],1,true⟩] E Q:=
 same (by kernel_rfl) (nG (fn:=Try.f87) (cf:=88) (k:=5) (TS:=27) (T:=3) (w:=40) (q:=.i64) (o:=(out,bad)) (by decide) rfl EA (ez rfl rfl hv) (λh=>same (by kernel_rfl) h) X W hn hh h hQ)
theorem EB (o:Li×Bool) (x:Li):(gR ic o x).1.length<=o.1.length+80:=by
 have h:=oM ic o x;have e:ic.length=3:=by decide
 omega
theorem n89 {out:Li} (hv:us[off]? =some (.slice b m c)) (X:SL (RK .i64 3) E b m c xs) (W:bG out n cap tot) (hn:n<=800000) (hh:0<=hi/\hi<=60)
  (h:∀ (o':Li×Bool) (n' cap' aa:Nat),Hyp (cg (gR ic) hi (out,bad) xs=o')->bG o'.1 n' cap' aa->n'<=n+5000->KK (.bB []) [⟨76,.ae [.bH 4 0 n' cap',B o'.2],2,true⟩,cI,⟨e,.vals us,t,true⟩,⟨129,.ae [.cr 74 (.loc 0 0)],1,true⟩,⟨5,.vals (vB o'.1),aa,true⟩] E) (hQ:∀ s bA,bT 4 KK s bA E->Q s bA E):
  ej Y2 6 Try.f89 [.cr 74 (.loc 0 0),.loc 2 off,I hi,.fM 90 [] [.loc 3 0]] [⟨76,.ae [.bH 1 0 n cap,B bad],2,true⟩,⟨5,.vals (vB out),tot,true⟩,⟨e,.vals us,t,true⟩,⟨129,.ae [.cr 74 (.loc 0 0)],1,true⟩] E Q:=
 same (by kernel_rfl) (nG (fn:=Try.f89) (cf:=90) (k:=3) (TS:=28) (T:=3) (w:=24) (q:=.i64) (o:=(out,bad)) (by decide) rfl EB (ez rfl rfl hv) (λh=>same (by kernel_rfl) h) X W hn hh h hQ)
theorem EC (o:Li×Bool) (x:Li):(gR ig o x).1.length<=o.1.length+80:=by
 have h:=oM ig o x;have e:ig.length=4:=by decide
 omega
theorem n91 {out:Li} (hv:us[off]? =some (.slice b m c)) (X:SL (RK .i64 4) E b m c xs) (W:bG out n cap tot) (hn:n<=800000) (hh:0<=hi/\hi<=60)
  (h:∀ (o':Li×Bool) (n' cap' aa:Nat),Hyp (cg (gR ig) hi (out,bad) xs=o')->bG o'.1 n' cap' aa->n'<=n+5000->KK (.bB []) [⟨76,.ae [.bH 4 0 n' cap',B o'.2],2,true⟩,cI,⟨e,.vals us,t,true⟩,⟨129,.ae [.cr 74 (.loc 0 0)],1,true⟩,⟨5,.vals (vB o'.1),aa,true⟩] E) (hQ:∀ s bA,bT 4 KK s bA E->Q s bA E):
  ej Y2 6 Try.f91 [.cr 74 (.loc 0 0),.loc 2 off,I hi,.fM 92 [] [.loc 3 0]] [⟨76,.ae [.bH 1 0 n cap,B bad],2,true⟩,⟨5,.vals (vB out),tot,true⟩,⟨e,.vals us,t,true⟩,⟨129,.ae [.cr 74 (.loc 0 0)],1,true⟩] E Q:=
 same (by kernel_rfl) (nG (fn:=Try.f91) (cf:=92) (k:=4) (TS:=29) (T:=3) (w:=32) (q:=.i64) (o:=(out,bad)) (by decide) rfl EC (ez rfl rfl hv) (λh=>same (by kernel_rfl) h) X W hn hh h hQ)
theorem ED (o:Li×Bool) (x:Li):(gR gB o x).1.length<=o.1.length+80:=by
 have h:=oM gB o x;have e:gB.length=8:=by decide
 omega
theorem n93 {out:Li} (hv:us[off]? =some (.slice b m c)) (X:SL (RK .i64 8) E b m c xs) (W:bG out n cap tot) (hn:n<=800000) (hh:0<=hi/\hi<=60)
  (h:∀ (o':Li×Bool) (n' cap' aa:Nat),Hyp (cg (gR gB) hi (out,bad) xs=o')->bG o'.1 n' cap' aa->n'<=n+5000->KK (.bB []) [⟨76,.ae [.bH 4 0 n' cap',B o'.2],2,true⟩,cI,⟨e,.vals us,t,true⟩,⟨129,.ae [.cr 74 (.loc 0 0)],1,true⟩,⟨5,.vals (vB o'.1),aa,true⟩] E) (hQ:∀ s bA,bT 4 KK s bA E->Q s bA E):
  ej Y2 6 Try.f93 [.cr 74 (.loc 0 0),.loc 2 off,I hi,.fM 94 [] [.loc 3 0]] [⟨76,.ae [.bH 1 0 n cap,B bad],2,true⟩,⟨5,.vals (vB out),tot,true⟩,⟨e,.vals us,t,true⟩,⟨129,.ae [.cr 74 (.loc 0 0)],1,true⟩] E Q:=
 same (by kernel_rfl) (nG (fn:=Try.f93) (cf:=94) (k:=8) (TS:=30) (T:=3) (w:=64) (q:=.i64) (o:=(out,bad)) (by decide) rfl ED (ez rfl rfl hv) (λh=>same (by kernel_rfl) h) X W hn hh h hQ)
theorem EE (o:Li×Bool) (x:Li):(gR iD o x).1.length<=o.1.length+80:=by
 have h:=oM iD o x;have e:iD.length=1:=by decide
 omega
theorem n67 {out:Li} (hv:us[off]? =some (.slice b m c)) (X:SL (RK .i64 1) E b m c xs) (W:bG out n cap tot) (hn:n<=800000) (hh:0<=hi/\hi<=60)
  (h:∀ (o':Li×Bool) (n' cap' aa:Nat),Hyp (cg (gR iD) hi (out,bad) xs=o')->bG o'.1 n' cap' aa->n'<=n+5000->KK (.bB []) [⟨76,.ae [.bH 4 0 n' cap',B o'.2],2,true⟩,cI,⟨e,.vals us,t,true⟩,⟨129,.ae [.cr 74 (.loc 0 0)],1,true⟩,⟨5,.vals (vB o'.1),aa,true⟩] E) (hQ:∀ s bA,bT 4 KK s bA E->Q s bA E):
  ej Y2 6 Try.f67 [.cr 74 (.loc 0 0),.loc 2 off,I hi,.fM 68 [] [.loc 3 0]] [⟨76,.ae [.bH 1 0 n cap,B bad],2,true⟩,⟨5,.vals (vB out),tot,true⟩,⟨e,.vals us,t,true⟩,⟨129,.ae [.cr 74 (.loc 0 0)],1,true⟩] E Q:=
 same (by kernel_rfl) (nG (fn:=Try.f67) (cf:=68) (k:=1) (TS:=31) (T:=3) (w:=8) (q:=.i64) (o:=(out,bad)) (by decide) rfl EE (ez rfl rfl hv) (λh=>same (by kernel_rfl) h) X W hn hh h hQ)
theorem n95 {out:Li} (hv:us[off]? =some (.slice b m c)) (X:SL (RK .u64 1) E b m c xs) (W:bG out n cap tot) (hn:n<=800000) (hh:0<=hi/\hi<=60)
  (h:∀ (o':Li×Bool) (n' cap' aa:Nat),Hyp (cg yK hi (out,bad) xs=o')->bG o'.1 n' cap' aa->n'<=n+5000->KK (.bB []) [⟨76,.ae [.bH 4 0 n' cap',B o'.2],2,true⟩,cI,⟨e,.vals us,t,true⟩,⟨129,.ae [.cr 74 (.loc 0 0)],1,true⟩,⟨5,.vals (vB o'.1),aa,true⟩] E) (hQ:∀ s bA,bT 4 KK s bA E->Q s bA E):
  ej Y2 6 Try.f95 [.cr 74 (.loc 0 0),.loc 2 off,I hi,.fM 96 [] [.loc 3 0]] [⟨76,.ae [.bH 1 0 n cap,B bad],2,true⟩,⟨5,.vals (vB out),tot,true⟩,⟨e,.vals us,t,true⟩,⟨129,.ae [.cr 74 (.loc 0 0)],1,true⟩] E Q:=
 same (by kernel_rfl) (nG (fn:=Try.f95) (cf:=96) (k:=1) (TS:=36) (T:=32) (w:=8) (q:=.u64) (o:=(out,bad)) (by decide) rfl J6 (ez rfl rfl hv) (λh=>same (by kernel_rfl) h) X W hn hh h hQ)
end Go.Proofs.Ytnjmojacdkjfoaa.BeaconOwn
